/-
  What the claim stands on, part 5: Sol2 Bmt Bsm Mtk Bst2 Kb Kw Sms Tot Gr.
-/
import Derived.Test.YtomebajfpcjoeaaGreatDoorWad
namespace Go.Proofs.YtomebajfpcjoeaaGreatDoor
set_option linter.all false
open Go.Proofs.Tryz
open Go.RowKit
section
theorem ru:prog.underlying 146=some (.array 2 40):=by kernel_rfl
theorem zI:bL 60:=bN func60 O
theorem ET:Ty prog 109 4 64 [.int .i64 0,.slice none 0 0,.slice none 0 0,.int .i64 0] true:=⟨Z,Z⟩
theorem ahD:sD prog 109 [(0,1),(1,2),(3,1)] [.int .i64 0,.slice none 0 0,.slice none 0 0,.int .i64 0]:=⟨Z,Z⟩
theorem EW:Ty prog 146 2 48 [.slice none 0 0,.slice none 0 0] true:=⟨Z,Z⟩
theorem Tz:bL 61:=bN func61 O
theorem uV:gL prog 43 0 0:=⟨Z⟩
theorem acH:gL prog 109 0 0:=⟨Z⟩
def slc (o:Option Nat) (M:Nat):ak:=match o with|some b=>.slice (some ⟨b,0,none⟩) M M|none=>.slice none 0 0
abbrev zB (b M:Nat):Nat × Obj:=bY b (List.replicate M (.int .u8 0))
abbrev zR (b W:Nat):Nat × Obj:=(b,.cells (List.replicate W (.int .i64 0)).toArray 3 (0,0))
def Hq (M W:Nat) (bs:List (Nat × Nat × Nat)):OL:=bs.flatMap fun x=>[zB x.1 M,zR x.2.1 W,zR x.2.2 W]
abbrev bA (b:Nat) (x y:ak):Nat × Obj:=(b,.cells #[x,y] 146 (0,0))
abbrev fc (b W:Nat):ak:=.slice (some ⟨b,0,none⟩) W W
def upd {α:Type} (f:Nat->α) (s:Nat) (v:α):Nat->α:=fun t=>if t=s then v else f t
def wk (C rN qN:Nat->Nat) (X:Nat->List ak) (R Q:Nat->List Int):OL:=[bY (C 0) (X 0),bF (rN 0) (R 0),bF (qN 0) (Q 0),bY (C 1) (X 1),bF (rN 1) (R 1),bF (qN 1) (Q 1)]
def nZ (C rN qN:Nat->Nat) (X:Nat->List ak) (R Q:Nat->List Int) (s:Nat):OL:=[bF (qN s) (Q s),bY (C (1 - s)) (X (1 - s)),bF (rN (1 - s)) (R (1 - s)),bF (qN (1 - s)) (Q (1 - s))]
section
variable {N:Nat} {D:List Deferred} {w0:World} {F:Nat->Prop} {G0 G:GH} {T:List (Nat × ak)} {a:Act} {w:World}
variable {C rN qN:Nat->Nat} {X:Nat->List ak} {R Q:Nat->List Int} {o p q r:Nat × Obj} {s:Nat}
theorem St.Ao (hs:s < 2) (H:St N D w0 F G0 G ([o,p,q,r]++wk C rN qN X R Q) T a w):St N D w0 F G0 G (([o,q,r]++nZ C rN qN X R Q s)++[p,bY (C s) (X s),bF (rN s) (R s)]) T a w:=by
 match s,hs with
 | 0,_=>exact H.dz (Pl:=[_,_,_,_,_,_,_,_,_,_]) (bZ:=[_,_,_,_,_,_,_,_,_,_]) (Lo:=[]) [0,2,3,6,7,8,9,1,4,5] Y rfl
 | 1,_=>exact H.dz (Pl:=[_,_,_,_,_,_,_,_,_,_]) (bZ:=[_,_,_,_,_,_,_,_,_,_]) (Lo:=[]) [0,2,3,9,4,5,6,1,7,8] Y O
theorem St.aiU {x:List ak} {y:List Int} (hs:s < 2) (H:St N D w0 F G0 G (([o,q,r]++nZ C rN qN X R Q s)++[p,bY (C s) x,bF (rN s) y]) T a w):St N D w0 F G0 G ([o,p,q,r]++wk C rN qN (upd X s x) (upd R s y) Q) T a w:=by
 match s,hs with
 | 0,_=>exact H.dz (Pl:=[_,_,_,_,_,_,_,_,_,_]) (bZ:=[_,_,_,_,_,_,_,_,_,_]) (Lo:=[]) [0,7,1,2,8,9,3,4,5,6] Y rfl
 | 1,_=>exact H.dz (Pl:=[_,_,_,_,_,_,_,_,_,_]) (bZ:=[_,_,_,_,_,_,_,_,_,_]) (Lo:=[]) [0,7,1,2,4,5,6,8,9,3] Y O
theorem St.aiV (H:St N D w0 F G0 G ([o,p,q,r]++wk C rN qN X R Q) T a w):St N D w0 F G0 G ([o,p,q,r]++wk C qN rN X Q R) T a w :=
 H.dz (Pl:=[_,_,_,_,_,_,_,_,_,_]) (bZ:=[_,_,_,_,_,_,_,_,_,_]) (Lo:=[]) [0,1,2,3,4,6,5,7,9,8] Y O
end
def FB (f:Nat->Int) (W k:Nat) (R:Nat->List Int):Prop:=∀ t,t < 2->(R t).length=W∧∀ k',k<=k'->k' < W->(R t)[k']?=some (f k')
def wY (f:Nat->Int) (W k s:Nat) (R:Nat->List Int):Prop:=FB f W (k+1) R∧∀ t,t < s->t < 2->(R t)[k]?=some (f k)
theorem wY.open {f:Nat->Int} {W k:Nat} {R:Nat->List Int} (h:FB f W (k+1) R):wY f W k 0 R:=⟨h,fun t ht=>absurd ht (Nat.not_lt_zero _)⟩
theorem wY.step {f:Nat->Int} {W k s:Nat} {R:Nat->List Int} {y:Int} (h:wY f W k s R) (hk:k < W) (hy:y=f k):wY f W k (s+1) (upd R s ((R s).set k y)):=by
 refine ⟨fun t ht=>⟨?_,fun k' h1 h2=>?_⟩,fun t ht ht2=>?_⟩
 ·by_cases e:t=s
  ·subst e;simp only [upd,aN];rw [List.length_set];exact (h.1 t ht).1
  simp only [upd,aL e];exact (h.1 t ht).1
 ·by_cases e:t=s
  ·subst e;simp only [upd,aN];rw [List.getElem?_set_ne V];exact (h.1 t ht).2 k' h1 h2
  simp only [upd,aL e];exact (h.1 t ht).2 k' h1 h2
 by_cases e:t=s
 ·subst e;simp only [upd,aN];rw [List.getElem?_set_self (by rw [(h.1 t ht2).1];exact hk),hy]
 simp only [upd,aL e];exact h.2 t V ht2
theorem wY.close {f:Nat->Int} {W k:Nat} {R:Nat->List Int} (h:wY f W k 2 R):FB f W k R:=fun t ht=>⟨(h.1 t ht).1,fun k' h1 h2=>by
 by_cases e:k'=k
 ·subst e;exact h.2 t ht ht
 exact (h.1 t ht).2 k' V h2⟩
theorem St.Ap {N:Nat} {D:List Deferred} {w0:World} {F:Nat->Prop} {G0 G:GH} {T:List (Nat × ak)} {a:Act} {w:World} {C rN qN:Nat->Nat} {X:Nat->List ak} {R Q:Nat->List Int} {o p q r:Nat × Obj} {s k W M:Nat} {f:Nat->Int} {x:List ak} {y:Int} (hs:s < 2) (hm:wY f W k s R) (hk:k < W) (hX:∀ t,t < 2->(X t).length=M) (hy:y=f k) (hx:x.length=M) (H:St N D w0 F G0 G (([o,q,r]++nZ C rN qN X R Q s)++[p,bY (C s) x,bF (rN s) ((R s).set k y)]) T a w) :
  ∃ X4 R4,(∀ t,t < 2->(X4 t).length=M)∧wY f W k (s+1) R4∧St N D w0 F G0 G ([o,p,q,r]++wk C rN qN X4 R4 Q) T a w:=by
 refine ⟨_,_,?_,hm.step hk hy,H.aiU hs⟩;intro t ht
 by_cases e:t=s
 ·subst e;simp only [upd,aN];exact hx
 simp only [upd,aL e];exact hX t ht
def pair (x y:Nat):Nat->Nat:=fun t=>if t=0 then x else y
theorem afl {c0 r0 q0 c1 r1 q1 M W:Nat}:Hq M W [(c0,r0,q0),(c1,r1,q1)]=wk (pair c0 c1) (pair r0 r1) (pair q0 q1) (fun _=>List.replicate M (.int .u8 0)) (fun _=>List.replicate W 0) (fun _=>List.replicate W 0):=by
 simp [Hq,wk,pair,List.map_replicate]
theorem Ak {x:Nat->ak} {s:Nat} (hs:s < 2):#[x 0,x 1][0+s*1]?=some (x s):=by
 match s,hs with
 | 0,_=>rfl
 | 1,_=>rfl
theorem zG {u:ak} {v:ak} {x:Nat->ak} {s:Nat} (hs:s < 2):[u,x 0,x 1,v][1+s*1]?=some (x s):=by
 match s,hs with
 | 0,_=>rfl
 | 1,_=>rfl
def tq (jl b7 b8 b9 M W:Nat) (x6:Nat × Obj) (bs:List (Nat × Nat × Nat)) (s4 s7 s9 s11:Bool) (E:Nat × Nat):OL :=
 [zB jl M,x6,bT b7 (vi 0) (slc ((bs++[(jl,0,0)])[0]?.map (·.1)) M) (slc ((bs++[(jl,0,0)])[1]?.map (·.1)) M) (vi W),bA b8 (slc ((if s9 then bs++[(jl,E.1,0)] else bs)[0]?.map (·.2.1)) W) (slc ((if s9 then bs++[(jl,E.1,0)] else bs)[1]?.map (·.2.1)) W),bA b9 (slc ((if s11 then bs++[(jl,0,E.2)] else bs)[0]?.map (·.2.2)) W) (slc ((if s11 then bs++[(jl,0,E.2)] else bs)[1]?.map (·.2.2)) W)]++((if s4 then [zR E.1 W] else [])++((if s7 then [zR E.2 W] else [])++Hq M W bs))
theorem afe {jl b7 b8 b9 M W x:Nat} {x6:Nat × Obj} {bs:List (Nat × Nat × Nat)} {s7:Bool} {E:Nat × Nat}:(zR x W :: tq jl b7 b8 b9 M W x6 bs false s7 false false E).Perm (tq jl b7 b8 b9 M W x6 bs true s7 false false (x,E.2)):=by
 exact (List.perm_middle (a:=zR x W) (l₁:=[_,_,_,_,_])).symm
theorem aff {jl b7 b8 b9 M W x:Nat} {x6:Nat × Obj} {bs:List (Nat × Nat × Nat)} {s4 s9:Bool} {E:Nat × Nat}:(zR x W :: tq jl b7 b8 b9 M W x6 bs s4 false s9 false E).Perm (tq jl b7 b8 b9 M W x6 bs s4 true s9 false (E.1,x)):=by
 cases s4
 ·exact (List.perm_middle (a:=zR x W) (l₁:=[_,_,_,_,_])).symm
 exact (List.perm_middle (a:=zR x W) (l₁:=[_,_,_,_,_,_])).symm
theorem ahr {bs:List (Nat × Nat × Nat)} {b M W:Nat} (h:bs.length < 2):[vi 0,slc (bs[0]?.map (·.1)) M,slc (bs[1]?.map (·.1)) M,vi W].set (1+bs.length) (fc b M)=[vi 0,slc ((bs++[(b,0,0)])[0]?.map (·.1)) M,slc ((bs++[(b,0,0)])[1]?.map (·.1)) M,vi W]:=by
 match bs,h with
 | [],_=>rfl
 | [_],_=>rfl
theorem ahs {bs:List (Nat × Nat × Nat)} {b x W:Nat} (h:bs.length < 2):[slc (bs[0]?.map (·.2.1)) W,slc (bs[1]?.map (·.2.1)) W].set bs.length (fc x W)=[slc ((bs++[(b,x,0)])[0]?.map (·.2.1)) W,slc ((bs++[(b,x,0)])[1]?.map (·.2.1)) W]:=by
 match bs,h with
 | [],_=>rfl
 | [_],_=>rfl
theorem aht {bs:List (Nat × Nat × Nat)} {b x W:Nat} (h:bs.length < 2):[slc (bs[0]?.map (·.2.2)) W,slc (bs[1]?.map (·.2.2)) W].set bs.length (fc x W)=[slc ((bs++[(b,0,x)])[0]?.map (·.2.2)) W,slc ((bs++[(b,0,x)])[1]?.map (·.2.2)) W]:=by
 match bs,h with
 | [],_=>rfl
 | [_],_=>rfl
theorem St.afg {N:Nat} {D:List Deferred} {w0:World} {F:Nat->Prop} {G0 G:GH} {T:List (Nat × ak)} {a:Act} {w:World} {jl b7 b8 b9 M W x y:Nat} {x6:Nat × Obj} {bs:List (Nat × Nat × Nat)} (h:bs.length < 2) (H:St N D w0 F G0 G (tq jl b7 b8 b9 M W x6 bs true true true true (x,y)) T a w) :
  St N D w0 F G0 G ([x6,bT b7 (vi 0) (slc ((bs++[(jl,x,y)])[0]?.map (·.1)) M) (slc ((bs++[(jl,x,y)])[1]?.map (·.1)) M) (vi W),bA b8 (slc ((bs++[(jl,x,y)])[0]?.map (·.2.1)) W) (slc ((bs++[(jl,x,y)])[1]?.map (·.2.1)) W),bA b9 (slc ((bs++[(jl,x,y)])[0]?.map (·.2.2)) W) (slc ((bs++[(jl,x,y)])[1]?.map (·.2.2)) W)]++Hq M W (bs++[(jl,x,y)])) T a w:=by
 match bs,h with
 | [],_=>exact H.dz (Pl:=[_,_,_,_,_,_,_]) (bZ:=[_,_,_,_,_,_,_]) (Lo:=[]) [1,2,3,4,0,5,6] Y rfl
 | [_],_=>exact H.dz (Pl:=[_,_,_,_,_,_,_,_,_,_]) (bZ:=[_,_,_,_,_,_,_,_,_,_]) (Lo:=[]) [1,2,3,4,7,8,9,0,5,6] Y O
set_option maxHeartbeats 4000000 in
theorem ahz (G:GH) (w0:World) (hG:Hold G w0) (la lb:List dM) (v u:ak) (hv:aF G (.sl 2 (la.map dM.dat)) v) (hu:aF G (.sl 2 (lb.map dM.dat)) u) (ha:la.length<=2048) (hb:lb.length<=2048) (Bj:∀ x∈la,1<=x.weight∧x.weight<=1000) (hwb:∀ x∈lb,1<=x.weight∧x.weight<=1000) :
  Calls prog 41 #[v,u,vi 0] w0 (bQ w0 G fun r G'=>∃ x y z,r=.agg #[vi (fF la lb 0 0),x,y,z]):=by
 obtain ⟨vA,vc,rfl,hc1,hc2,-⟩:=hv.slice;obtain ⟨uA,uc,rfl,hd1,hd2,-⟩:=hu.slice;have hml:maxLen=9223372036854775807:=rfl;(iterate 2 rw [bJ] at *);obtain ⟨W,hW⟩:∃ W,W=lb.length+1:=⟨_,O⟩;obtain ⟨M,hM⟩:∃ M,M=(la.length+1)*W:=⟨_,O⟩
 have hMb:M<=2049*2049:=by rw [hM];exact Nat.mul_le_mul V V
 refine eN [(0,_),(1,_),(2,_)] func41 O ntmps41 O O hG ?_;intro a H;refine gU (fun _ K1=>?_);refine gX ET H wn O ?_;clear H;intro b6 a w hb6 H;refine K1 _ _ ?_;clear K1;refine kP H (SR fun _ K2=>Rm O (Rl cu O (Rd O ?_)));clear H;intro a H;rw [show ((lb.length:Int)+1)=(W:Int) by omega] at H;refine ku ahD [_,_,_,_] H wn O O O O ?_;clear H;intro a H;refine gX ET H wn O ?_;clear H;intro b7 a w Ed H;refine bg ET 0 (vs:=[_,_,_,_]) H wn O ?_;clear H;intro w H;refine K2 _ _ ?_;clear K2;refine gU (fun _ K3=>?_);refine gX EW H wn O ?_;clear H;intro b8 a w Gm H;refine gX EW H wn O ?_;clear H;intro b9 a w NR H;refine K3 _ _ ?_;clear K3;refine kP H (SQ fun _ K4=>SR fun _ K5=>Rm O (Kz K5 (SB ?_)));clear H K5;intro a H;skip;refine dY (ι:=Nat × List (Nat × Nat × Nat)) (Tc:=[(0,_),(1,_),(2,_),(6,_),(7,_),(8,_),(9,_)]) (Lc:=[(_,_)]) (fun gh=>[(24,vi gh.1)]) (fun gh=>[bT b7 (vi 0) (slc (gh.2[0]?.map (·.1)) M) (slc (gh.2[1]?.map (·.1)) M) (vi W),bA b8 (slc (gh.2[0]?.map (·.2.1)) W) (slc (gh.2[1]?.map (·.2.1)) W),bA b9 (slc (gh.2[0]?.map (·.2.2)) W) (slc (gh.2[1]?.map (·.2.2)) W)]++Hq M W gh.2) (fun gh=>G) (fun gh=>gh.1<=2∧gh.2.length=gh.1) (fun gh=>2 - gh.1) ((0,[])) (by exact (H.dz (Pl:=[_,_,_,_]) (bZ:=[_,_,_,_]) (Lo:=[]) [3,2,1,0] Y O).sub ⟨O,O,O,O,O,O,O,O,aI⟩) ?_ ?_
 ·exact ⟨Y,O⟩
 clear H;rintro ⟨s,bs⟩ a w hI H;dsimp only at hI H;obtain ⟨hs,hbs⟩:=hI;dsimp only [lca,bW] at H;refine kP H (SR fun _ K6=>Rc O (Kz K6 (SQ fun _ K7=>Cd O ?_ ?_))) <;> clear H K6
 ·intro kN a H
  try have p25:=dT kN
  refine kP H (Kc K7 (SQ fun _ K8=>SB (SR fun _ K9=>Rm O (av K9 O (SR fun _ aP=>Rm O (Rm O (Rl cu O (Rd O (fG Jd aC 1 O O ?_)))))))));clear H K7 K9;intro a H;refine CX (M:Int) H wn O O (by rw [hM];push_cast;rfl) V V rfl ?_;clear H;intro a H;refine xV M Al Ic H wn O O O V V O ?_;clear H;intro jl a w ajG H;refine kH H (Rf TH O ?_);clear H;intro a H;refine oN XM zh s H wn O O O V O ?_;clear H;intro a H;refine ql zh 2 (c:=[vi 0,slc (bs[0]?.map (·.1)) M,slc (bs[1]?.map (·.1)) M,vi W]) (vs:=[_]) [vi 0,slc ((bs++[(jl,0,0)])[0]?.map (·.1)) M,slc ((bs++[(jl,0,0)])[1]?.map (·.1)) M,vi W] H wn rfl rfl rfl rfl rfl rfl (Eq.mpr Nat.ble_eq (by simp only [ko,List.length_nil];omega)) (by rw [eH,Nat.mul_one,<- hbs];exact ahr V) ?_;clear H;intro w H;dsimp only [List.set] at H;refine aP _ _ ?_;clear aP;obtain ⟨x6,hx6⟩:∃ x,x=bT b6 (vi 0) (.slice none 0 0) (.slice none 0 0) (vi 0):=⟨_,O⟩;have H:=H.cast (L':=tq jl b7 b8 b9 M W x6 bs false false false false (0,0)) (by rw [hx6];rfl);refine ZA (ε:=Nat × Nat) hmx [[],[],[],[2],[2,3],[],[5],[5,6],[0,2,3,4],[0,2,3,4,8],ra 0 10,ra 0 11] Z (fun E i v=>match i with|0=>v=vi s|1=>v=vi s|2=>v=(aJ b7 (0+3))|3=>v=vi W|4=>v=fc E.1 W|5=>v=(aJ b7 (0+3))|6=>v=vi W|7=>v=fc E.2 W|8=>v=(aJ b8 (0+s*1))|10=>v=(aJ b9 (0+s*1))|_=>True) (fun S E=>tq jl b7 b8 b9 M W x6 bs (S 4) (S 7) (S 9) (S 11) E) (0,0) H ?_ ?_
  ·clear H;refine aH ?_ ?_ ?_ ?_ (aH ?_ ?_ ?_ ?_ (aH ?_ ?_ ?_ ?_ fD))
   ·intro S E T1 a w hS hc hd H hV;have H:=H.rE (hV.1 10 _ O);have hV:=hV.add (hV.1 10 _ O);refine kH H (Rm O ?_);clear H;intro a H;exact aj ⟨O,E,_,H,hV.put Z O O (fun _ _ _ h=>h)⟩
   ·intro S E T1 a w hS hc hd H hV;have H:=H.rE (hV.1 10 _ O);have hV:=hV.add (hV.1 10 _ O);refine kH H (Rm O ?_);clear H;intro a H;exact aj ⟨O,E,_,H,hV.put Z O O (fun _ _ _ h=>h)⟩
   ·intro S E T1 a w hS hc hd H hV;have H:=H.rE (hV.1 7 _ O);have hV:=hV.add (hV.1 7 _ O);refine kH H (Rf Jd O ?_);clear H;intro a H;exact aj ⟨O,E,_,H,hV.put Z O O (fun _ _ _ h=>h)⟩
   ·intro S E T1 a w hS hc hd H hV;obtain ⟨u39,U3,rfl⟩:=hV.2 2 39 (hc 2 Y) O;have H:=H.rE U3;have hV:=hV.add U3;refine kH H (Ro aC 2 O ?_);clear H;intro a H;exact aj ⟨O,E,_,H,hV.put Z O O (fun _ _ _ h=>h)⟩
   ·intro S E T1 a w hS hc hd H hV;obtain ⟨u40,U4,rfl⟩:=hV.2 3 40 (hc 3 Y) O;have H:=H.rE U4;have hV:=hV.add U4;have h4:S 4=false:=hS;have h9:S 9=false:=hd 9 Y Y;have h11:S 11=false:=hd 11 Y Y;refine xV W cB aC H wn O O O V V O ?_;clear H;intro Iz a w ajH H;rw [h4,h9,h11] at H;have H:=H.perm afe;have e:tq jl b7 b8 b9 M W x6 bs true (S 7) false false (Iz,E.2)=(fun (S:Nat->Bool) (E:Nat × Nat)=>tq jl b7 b8 b9 M W x6 bs (S 4) (S 7) (S 9) (S 11) E) (fq S 4) (Iz,E.2):=(by show _=tq jl b7 b8 b9 M W x6 bs true (S 7) (S 9) (S 11) (Iz,E.2);rw [h9,h11]);have H:=H.cast e
    exact aj ⟨O,(Iz,E.2),_,H,hV.put Z O O (fun j u hne h=>by
       match j,hne,h with
       | 0,_,h|1,_,h|2,_,h|3,_,h|5,_,h|6,_,h|8,_,h|10,_,h=>exact h
       | 4,hne,h=>first|exact h|exact absurd O hne
       | 7,hne,h=>first|exact h|exact absurd O hne
       | 9,_,h|11,_,h=>exact h
       | _+12,_,h=>exact h)⟩
   ·intro S E T1 a w hS hc hd H hV;have H:=H.rE (hV.1 7 _ O);have hV:=hV.add (hV.1 7 _ O);refine kH H (Rf Jd O ?_);clear H;intro a H;exact aj ⟨O,E,_,H,hV.put Z O O (fun _ _ _ h=>h)⟩
   ·intro S E T1 a w hS hc hd H hV;obtain ⟨u42,U6,rfl⟩:=hV.2 5 42 (hc 5 Y) O;have H:=H.rE U6;have hV:=hV.add U6;refine kH H (Ro aC 2 O ?_);clear H;intro a H;exact aj ⟨O,E,_,H,hV.put Z O O (fun _ _ _ h=>h)⟩
   ·intro S E T1 a w hS hc hd H hV;obtain ⟨u43,U7,rfl⟩:=hV.2 6 43 (hc 6 Y) O;have H:=H.rE U7;have hV:=hV.add U7;have h7:S 7=false:=hS;have h11:S 11=false:=hd 11 Y Y;refine xV W cB aC H wn O O O V V O ?_;clear H;intro IB a w ajI H;rw [h7,h11] at H;have H:=H.perm aff;have e:tq jl b7 b8 b9 M W x6 bs (S 4) true (S 9) false (E.1,IB)=(fun (S:Nat->Bool) (E:Nat × Nat)=>tq jl b7 b8 b9 M W x6 bs (S 4) (S 7) (S 9) (S 11) E) (fq S 7) (E.1,IB):=(by show _=tq jl b7 b8 b9 M W x6 bs (S 4) true (S 9) (S 11) (E.1,IB);rw [h11]);have H:=H.cast e
    exact aj ⟨O,(E.1,IB),_,H,hV.put Z O O (fun j u hne h=>by
       match j,hne,h with
       | 0,_,h|1,_,h|2,_,h|3,_,h|5,_,h|6,_,h|8,_,h|10,_,h=>exact h
       | 4,hne,h=>first|exact h|exact absurd O hne
       | 7,hne,h=>first|exact h|exact absurd O hne
       | 9,_,h|11,_,h=>exact h
       | _+12,_,h=>exact h)⟩
   ·intro S E T1 a w hS hc hd H hV;have H:=H.rE (hV.1 8 _ O);have hV:=hV.add (hV.1 8 _ O);obtain ⟨u37,U1,rfl⟩:=hV.2 0 37 (hc 0 Y) O;have H:=H.rE U1;have hV:=hV.add U1;refine oN ru bP s H wn O O O V O ?_;clear H;intro a H;exact aj ⟨O,E,_,H,hV.put Z O O (fun _ _ _ h=>h)⟩
   ·intro S E T1 a w hS hc hd H hV;obtain ⟨u45,Va,rfl⟩:=hV.2 8 45 (hc 8 Y) O;have H:=H.rE Va;have hV:=hV.add Va;obtain ⟨u41,U5,rfl⟩:=hV.2 4 41 (hc 4 Y) O;have H:=H.rE U5;have hV:=hV.add U5;have h9:S 9=false:=hS;rw [h9] at H;refine ql bP 3 (c:=[slc (bs[0]?.map (·.2.1)) W,slc (bs[1]?.map (·.2.1)) W]) (vs:=[_]) [slc ((bs++[(jl,E.1,0)])[0]?.map (·.2.1)) W,slc ((bs++[(jl,E.1,0)])[1]?.map (·.2.1)) W] H wn rfl rfl rfl rfl rfl rfl (Eq.mpr Nat.ble_eq (by simp only [ko,List.length_nil];omega)) (by rw [eH,Nat.mul_one,<- hbs];exact ahs V) ?_;clear H;intro w H;exact aj ⟨O,E,_,H,hV.unit O⟩
   ·intro S E T1 a w hS hc hd H hV;have H:=H.rE (hV.1 9 _ O);have hV:=hV.add (hV.1 9 _ O);obtain ⟨u38,U2,rfl⟩:=hV.2 1 38 (hc 1 Y) O;have H:=H.rE U2;have hV:=hV.add U2;refine oN ru bP s H wn O O O V O ?_;clear H;intro a H;exact aj ⟨O,E,_,H,hV.put Z O O (fun _ _ _ h=>h)⟩
   intro S E T1 a w hS hc hd H hV;obtain ⟨u46,Vb,rfl⟩:=hV.2 10 46 (hc 10 Y) O;have H:=H.rE Vb;have hV:=hV.add Vb;obtain ⟨u44,U9,rfl⟩:=hV.2 7 44 (hc 7 Y) O;have H:=H.rE U9;have hV:=hV.add U9;have h11:S 11=false:=hS;rw [h11] at H;refine ql bP 4 (c:=[slc (bs[0]?.map (·.2.2)) W,slc (bs[1]?.map (·.2.2)) W]) (vs:=[_]) [slc ((bs++[(jl,0,E.2)])[0]?.map (·.2.2)) W,slc ((bs++[(jl,0,E.2)])[1]?.map (·.2.2)) W] H wn rfl rfl rfl rfl rfl rfl (Eq.mpr Nat.ble_eq (by simp only [ko,List.length_nil];omega)) (by rw [eH,Nat.mul_one,<- hbs];exact aht V) ?_;clear H;intro w H;exact aj ⟨O,E,_,H,hV.unit O⟩
  clear H;intro S E T1 a w hall H hV;have H:=H.weak (T:=_) hV.1;obtain ⟨br,bq⟩:=E
  have e:tq jl b7 b8 b9 M W x6 bs (S 4) (S 7) (S 9) (S 11) (br,bq)=tq jl b7 b8 b9 M W x6 bs true true true true (br,bq):=by
   rw [hall 4 Y,hall 7 Y,hall 9 Y,hall 11 Y]
  have H:=H.cast e;have H:=H.afg V;subst hx6;refine K8 _ _ ?_;clear K8;refine kP H (SC (Rd O (Rm O ?_)));clear H;intro a H;refine aj ?_;refine bE ((s+1,bs++[(jl,br,bq)])) (by exact H.sub ⟨O,O,O,O,O,O,O,O,aI⟩) ?_
  (try dsimp only);exact ⟨V,by simp [hbs]⟩
 intro kN a H
 try have p25:=dF kN
 refine dJ ?_;refine K4 _ _ ?_;clear K4;refine gy (fun _ aT=>?_);refine gy (fun _ bH=>?_)
 obtain rfl:s=2:=by omega
 obtain ⟨⟨c0,r0,q0⟩,⟨c1,r1,q1⟩,rfl⟩:∃ x y,bs=[x,y]:=by
  match bs,hbs with
  | [x,y],_=>exact ⟨x,y,O⟩
 rw [afl] at H;have H:St _ _ _ _ _ _ ([_,bT b7 (vi 0) (fc (pair c0 c1 0) M) (fc (pair c0 c1 1) M) (vi W),bA b8 (fc (pair r0 r1 0) W) (fc (pair r0 r1 1) W),bA b9 (fc (pair q0 q1 0) W) (fc (pair q0 q1 1) W)]++wk (pair c0 c1) (pair r0 r1) (pair q0 q1) _ _ _) _ _ _:=H
 generalize pair c0 c1=C at H
 generalize pair r0 r1=rN0 at H
 generalize pair q0 q1=qN0 at H
 have hsb:=fun i k=>EI Bj hwb ((la.length - i)+(lb.length - k)) i k (bS _);refine kP H (SC (Rm O (Rl cu O (bO bH O (SB ?_)))));clear H bH;intro a H;skip;refine dY (ι:=Nat × (Nat->Nat) × (Nat->Nat) × (Nat->List ak) × (Nat->List Int) × (Nat->List Int) × GH) (Tc:=[(0,_),(1,_),(2,_),(6,_),(7,_),(8,_),(9,_)]) (Lc:=[(_,_),(_,_)]) (fun gh=>[(11,vi ((gh.1:Int) - 1))]) (fun gh=>[bA b8 (fc (gh.2.1 0) W) (fc (gh.2.1 1) W),bA b9 (fc (gh.2.2.1 0) W) (fc (gh.2.2.1 1) W)]++wk C gh.2.1 gh.2.2.1 gh.2.2.2.1 gh.2.2.2.2.1 gh.2.2.2.2.2.1) (fun gh=>gh.2.2.2.2.2.2) (fun gh=>gh.1<=la.length+1∧(∀ t,t < 2->(gh.2.2.2.1 t).length=M)∧(∀ t,t < 2->(gh.2.2.2.2.1 t).length=W)∧(∀ t,t < 2->(gh.2.2.2.2.2.1 t).length=W)∧(gh.1<=la.length->FB (fF la lb gh.1) W 0 gh.2.2.2.2.2.1)∧(∀ b o,G b=some o->gh.2.2.2.2.2.2 b=some o)) (fun gh=>gh.1) ((la.length+1,rN0,qN0,fun _=>List.replicate M (.int .u8 0),fun _=>List.replicate W 0,fun _=>List.replicate W 0,G)) (by exact (show St _ _ _ _ _ _ _ ((11,vi (((la.length+1:Nat):Int) - 1)) :: _) _ _ from by rw [show (((la.length+1:Nat):Int) - 1)=(la.length:Int) by omega];exact H).sub ⟨O,O,O,O,O,O,O,O,aI⟩) ?_ ?_
 ·exact ⟨bS _,fun t _=>List.length_replicate ..,fun t _=>List.length_replicate ..,fun t _=>List.length_replicate ..,fun h=>absurd h V,fun _ _ h=>h⟩
 clear H;rintro ⟨j,rN,qN,X,R,Q,g⟩ a w hI H;dsimp only at hI H;obtain ⟨hj,hX,hR,hQ,Ul,hgm⟩:=hI;dsimp only [lca,bW] at H;refine kP H (SQ fun _ bG=>SR fun _ bX=>Rm O (Rc O (Kz bX (Cd O ?_ ?_)))) <;> clear H bX
 ·intro kI a H
  try have p51:=dT kI
  obtain ⟨i,rfl⟩:∃ i,j=i+1:=⟨j - 1,V⟩;rw [show (((i+1:Nat):Int) - 1)=(i:Int) by omega] at H;refine kP H (Kc bG (SQ fun _ dG=>SB (SQ fun _ dR=>SR fun _ fu=>Rm O (Rl cu O (Ra O ?_)))));clear H bG;intro a H;rw [show (lb.length:Int)=((W:Int) - 1) by omega] at H;refine fu _ _ ?_;clear fu;refine xk ?_;skip;refine dY (ι:=Nat × (Nat->List ak) × (Nat->List Int) × GH) (Tc:=[(0,_),(1,_),(2,_),(6,_),(7,_),(8,_),(9,_),(11,_)]) (Lc:=[(_,_),(_,_),(_,_),(_,_)]) (fun gh=>[(12,vi ((gh.1:Int) - 1))]) (fun gh=>[]++wk C rN qN gh.2.1 gh.2.2.1 Q) (fun gh=>gh.2.2.2) (fun gh=>gh.1<=W∧(∀ t,t < 2->(gh.2.1 t).length=M)∧FB (fF la lb i) W gh.1 gh.2.2.1∧(∀ b o,G b=some o->gh.2.2.2 b=some o)) (fun gh=>gh.1) ((W,X,R,g)) (by exact H.sub ⟨O,O,O,O,O,O,O,O,O,aI⟩) ?_ ?_
  ·exact ⟨bS _,hX,fun t ht=>⟨hR t ht,fun k' h1 h2=>absurd h2 V⟩,hgm⟩
  clear H;rintro ⟨q,X2,R2,g2⟩ a w hI H;dsimp only at hI H;obtain ⟨hq,hX2,hR2,gH⟩:=hI;dsimp only [lca,bW] at H;refine kP H (SQ fun _ gF=>SR fun _ fU=>Rm O (Rc O (Kz fU (Cd O ?_ ?_)))) <;> clear H fU
  ·intro h57 a H
   try have p57:=dT h57
   obtain ⟨k,rfl⟩:∃ k,q=k+1:=⟨q - 1,V⟩;rw [show (((k+1:Nat):Int) - 1)=(k:Int) by omega] at H
   have hkW:k < W:=by omega
   refine kP H (Kc gF (SQ fun _ jd=>SB (SR fun _ jf=>Rm O (Kz jf (SB ?_)))));clear H gF jf;intro a H;skip;refine dY (ι:=Nat × (Nat->List ak) × (Nat->List Int) × GH) (Tc:=[(0,_),(1,_),(2,_),(6,_),(7,_),(8,_),(9,_),(11,_),(12,_)]) (Lc:=[(_,_),(_,_),(_,_),(_,_)]) (fun gh=>[(60,vi gh.1)]) (fun gh=>[]++wk C rN qN gh.2.1 gh.2.2.1 Q) (fun gh=>gh.2.2.2) (fun gh=>gh.1<=2∧(∀ t,t < 2->(gh.2.1 t).length=M)∧wY (fF la lb i) W k gh.1 gh.2.2.1∧(∀ b o,G b=some o->gh.2.2.2 b=some o)) (fun gh=>2 - gh.1) ((0,X2,R2,g2)) (by exact H.sub ⟨O,O,O,O,O,O,O,O,O,O,aI⟩) ?_ ?_
   ·exact ⟨fC _,hX2,wY.open hR2,gH⟩
   clear H;rintro ⟨s,X3,R3,g3⟩ a w hI H;dsimp only at hI H;obtain ⟨hs,kR,hmid,nO⟩:=hI;dsimp only [lca,bW] at H;refine kP H (SR fun _ iF=>Rc O (Kz iF (SQ fun _ jM=>Cd O ?_ ?_))) <;> clear H iF
   ·intro jP a H
    try have p61:=dT jP
    have hs2:s < 2:=by omega
    have zU:i*W+k < M:=by
     have:=Nat.mul_le_mul_right W (show i<=la.length by omega);rw [hM,Nat.succ_mul];omega
    have akd:=hsb i (k+1);have ake:=hsb (i+1) k;have akf:=hsb (i+1) (k+1);refine kP H (Kc jM (SQ fun _ iI=>SB (SR fun _ lJ=>Rm O (av lJ O (SR fun _ lK=>Rm O (Rm O (Rs O ?_)))))));clear H jM lJ;intro a H;refine CX 0 H wn O O (Int.zero_mul _) Y Y O ?_;clear H;intro a H;refine kH H (av lK O (SQ fun _ oh=>SR fun _ jE=>Rm O (Rm O (Rl cu O (Rc O (Kz jE (Cd O ?_ ?_))))))) <;> clear H lK jE
    ·intro dN a H
     try have p70:=dT dN
     refine kP H (SR fun _ mM=>av mM O (SQ fun _ nI=>SR fun _ lM=>Rm O (Rm O (Rl cu O (Rc O (Kz lM (Cd O ?_ ?_))))))) <;> clear H mM lM
     ·intro Nw a H
      try have p74:=dT Nw
      refine rP ?_;refine oN ru bP 1 H wn O O O Y O ?_;clear H;intro a H;refine kH H (Ro bP 2 O (Rm O (Rd O ?_)));clear H;intro a H;refine bD cB aC (k+1) H wn O O V V O ?_;clear H;intro a H;refine iU aC H wn O (H.hp.gK 8 O (by rw [eH,Nat.mul_one];exact uZ ((hmid.1 1 Y).2 (k+1) (bS _) V))) O ?_;clear H;intro a H;refine kH H (Rm O (Rs O ?_));clear H;intro a H;rw [Int.sub_zero] at H;refine kH H (bO nI O (SR fun _ qy=>Rm O ?_));clear H nI;intro a H;refine oN ru bP s H wn O O O hs2 O ?_;clear H;intro a H;refine iU bP H wn O (H.hp.gK 2 O (Ak (x:=fun t=>fc (rN t) W) hs2)) O ?_;clear H;intro a H;refine kH H (Rm O (Rm O (Rm O (Rm O ?_))));clear H;intro a H;have H:=H.Ao hs2;refine jT zI (Li:=[_,_,_]++nZ C rN qN X3 R3 Q s) (L:=[_,_,_]) H wn O (Ai 3 _ (Hp.owns (Li:=[_,_,_]++nZ C rN qN X3 R3 Q s) H.hp) hs2 (zG (x:=fun t=>fc (C t) M) hs2) hkW (hmid.1 s hs2).1 (kR s hs2) zU V V V) O ?_;clear H;rintro v90 G4 YS a w rfl N9 H;have qK:∀ b o,G b=some o->G4 b=some o:=fun b o h=>N9 b o (nO b o h)
      obtain ⟨X4,R4,qJ,qI,H⟩:=St.Ap hs2 hmid hkW kR (by first
       | exact (rW V).symm
       | (rw [rW (k:=k) V];exact rW V)) (by rw [List.length_set];exact kR s hs2) H
      refine qy _ _ ?_;clear qy;refine dJ ?_;refine iI _ _ ?_;clear iI;refine kP H (SC (Rd O (Rm O ?_)));clear H;intro a H;refine aj ?_;refine bE ((s+1,X4,R4,G4)) (by exact H.sub ⟨O,O,O,O,O,O,O,O,O,O,aI⟩) ?_
      (try dsimp only);exact ⟨V,qJ,qI,qK⟩
     intro Nw a H
     try have p74:=dF Nw
     refine kP H (Kc nI (SR fun _ qz=>Rm O ?_));clear H nI;intro a H;refine oN ru bP s H wn O O O hs2 O ?_;clear H;intro a H;refine iU bP H wn O (H.hp.gK 2 O (Ak (x:=fun t=>fc (rN t) W) hs2)) O ?_;clear H;intro a H;refine kH H (Rm O (Rm O (Rm O (Rm O ?_))));clear H;intro a H;have H:=H.Ao hs2;refine jT zI (Li:=[_,_,_]++nZ C rN qN X3 R3 Q s) (L:=[_,_,_]) H wn O (Ai 3 _ (Hp.owns (Li:=[_,_,_]++nZ C rN qN X3 R3 Q s) H.hp) hs2 (zG (x:=fun t=>fc (C t) M) hs2) hkW (hmid.1 s hs2).1 (kR s hs2) zU V V V) O ?_;clear H;rintro v90 G4 YS a w rfl N9 H;have qK:∀ b o,G b=some o->G4 b=some o:=fun b o h=>N9 b o (nO b o h)
     obtain ⟨X4,R4,qJ,qI,H⟩:=St.Ap hs2 hmid hkW kR (by first
      | exact (rW V).symm
      | (rw [rW (k:=k) V];exact rW V)) (by rw [List.length_set];exact kR s hs2) H
     refine qz _ _ ?_;clear qz;refine dJ ?_;refine iI _ _ ?_;clear iI;refine kP H (SC (Rd O (Rm O ?_)));clear H;intro a H;refine aj ?_;refine bE ((s+1,X4,R4,G4)) (by exact H.sub ⟨O,O,O,O,O,O,O,O,O,O,aI⟩) ?_
     (try dsimp only);exact ⟨V,qJ,qI,qK⟩
    intro dN a H
    try have p70:=dF dN
    have hi2:i < la.length:=by omega
    have Gj:=Ul V;refine lV ?_;refine oh _ _ ?_;clear oh;refine gU (fun _ nJ=>?_);refine oN ru bP 1 H wn O O O Y O ?_;clear H;intro a H;refine kH H (Ro bP 3 O (Rm O ?_));clear H;intro a H;refine bD cB aC k H wn O O O V O ?_;clear H;intro a H;refine iU aC H wn O (H.hp.gK 9 O (by rw [eH,Nat.mul_one];exact uZ ((Gj 1 Y).2 k (fC _) hkW))) O ?_;clear H;intro a H;refine kH H (Rm O (Rs O ?_));clear H;intro a H;rw [Int.sub_zero] at H;refine kH H (Ra O (av nJ O (SQ fun _ lN=>SR fun _ rz=>Rm O (Rm O (Rl cu O (Rc O (Kz rz (Cd O ?_ ?_)))))))) <;> clear H nJ rz
    ·intro Nq a H
     try have afR:=dT Nq
     have hk3:k < lb.length:=by omega
     obtain ⟨mx,akb⟩:∃ mx,mx=max (fF la lb (i+1) k) (fF la lb i (k+1)):=⟨_,O⟩;obtain ⟨ab,ao,rfl,hra⟩:=C9 hv hi2;obtain ⟨bb,bo,rfl,hrb⟩:=C9 hu hk3
     have hwt:1<=jG la[i] lb[k]∧jG la[i] lb[k]<=1000:=by
      have h4:=Bj _ (dV hi2);have h5:=hwb _ (dV hk3)
      unfold jG;omega
     have hra:=fun j v hj=>aK nO (hra j v hj);have hrb:=fun j v hj=>aK nO (hrb j v hj);refine gy (fun _ rC=>?_);refine gU (fun _ tJ=>?_);refine oN ru bP 1 H wn O O O Y O ?_;clear H;intro a H;refine kH H (Ro bP 2 O (Rm O (Rd O ?_)));clear H;intro a H;refine bD cB aC (k+1) H wn O O V V O ?_;clear H;intro a H;refine iU aC H wn O (H.hp.gK 8 O (by rw [eH,Nat.mul_one];exact uZ ((hmid.1 1 Y).2 (k+1) (bS _) V))) O ?_;clear H;intro a H;refine kH H (Rm O (Rs O ?_));clear H;intro a H;rw [Int.sub_zero] at H;refine kH H (av tJ O (SR fun _ nK=>Rm O (Rm O (Rc O (Kz nK (Cd O ?_ ?_)))))) <;> clear H tJ nK
     ·intro h112 a H
      try have afT:=dT h112
      rw [show fF la lb i (k+1)=mx by omega] at H;refine kP H (SC (Rm O (Ra O (bO rC O (SQ fun _ nL=>?_)))));clear H rC;intro a H;refine dI hmx [[],[0],[],[2],ra 0 4,ra 0 5,[],[],[6,7],[6,7,8],[],[],[10,11],[10,11,12],ra 6 8,ra 0 15,ra 0 16] [] Z [(aJ b9 (0+0*1)),fc (qN 0) W,vi k,vi ((k:Int)+1),(aJ (qN 0) (0+(k+1)*1)),vi (fF la lb (i+1) (k+1)),.slice (some ⟨ab,ao,none⟩) la.length vc,vi i,(aJ ab (ao+i*2)),.agg #[vi la[i].key,vi la[i].weight],.slice (some ⟨bb,bo,none⟩) lb.length uc,vi k,(aJ bb (bo+k*2)),.agg #[vi lb[k].key,vi lb[k].weight],vi (jG la[i] lb[k]),vi (fF la lb (i+1) (k+1)+jG la[i] lb[k]),vi (fF la lb (i+1) (k+1)+jG la[i] lb[k])] H (aH ?_ ?_ ?_ ?_ (aH ?_ ?_ ?_ ?_ (aH ?_ ?_ ?_ ?_ (aH ?_ ?_ ?_ ?_ (eB ?_ fD))))) ?_
      ·intro ay a w G1 _ ah hc hG HT hv;have H:=HT;clear ah;have Hb:=H.full;have H:=Hb;clear hc;refine oN ru bP 0 H wn O O O Y O ?_;clear H;intro a H;refine aj ⟨O,?_⟩;exact aB HT Hb hG hv (fun _ _ _ _ _ h=>h) H O
      ·intro ay a w G1 _ ah hc hG HT hv;have H:=HT;clear ah;have H:=H.au (hv 0 114 (hc 0 Y) O) O;have Hb:=H.full;have H:=Hb;clear hc;refine kH H (Ro bP 3 O ?_);clear H;intro a H;refine aj ⟨O,?_⟩;exact aB HT Hb hG hv (fun _ _ _ _ _ h=>h) H O
      ·intro ay a w G1 _ ah hc hG HT hv;have H:=HT;clear ah;have Hb:=H.full;have H:=Hb;clear hc;refine kH H (Rm O ?_);clear H;intro a H;refine aj ⟨O,?_⟩;exact aB HT Hb hG hv (fun _ _ _ _ _ h=>h) H O
      ·intro ay a w G1 _ ah hc hG HT hv;have H:=HT;clear ah;have H:=H.au (hv 2 116 (hc 2 Y) O) O;have Hb:=H.full;have H:=Hb;clear hc;refine kH H (Rd O ?_);clear H;intro a H;refine aj ⟨O,?_⟩;exact aB HT Hb hG hv (fun _ _ _ _ _ h=>h) H O
      ·intro ay a w G1 _ ah hc hG HT hv;have H:=HT;clear ah;have H:=H.au (hv 1 115 (hc 1 Y) O) O;have H:=H.au (hv 3 117 (hc 3 Y) O) O;have Hb:=H.full;have H:=Hb;clear hc;refine bD cB aC (k+1) H wn O O V V O ?_;clear H;intro a H;refine aj ⟨O,?_⟩;exact aB HT Hb hG hv (fun _ _ _ _ _ h=>h) H O
      ·intro ay a w G1 _ ah hc hG HT hv;have H:=HT;clear ah;have H:=H.au (hv 4 118 (hc 4 Y) O) O;have Hb:=H.full;have H:=Hb;clear hc;refine iU aC H wn O (H.hp.gK 6 O (by rw [eH,Nat.mul_one];exact uZ ((Gj 0 Y).2 (k+1) (fC _) V))) O ?_;clear H;intro a H;refine aj ⟨O,?_⟩;exact aB HT Hb hG hv (fun _ _ _ _ _ h=>h) H O
      ·intro ay a w G1 _ ah hc hG HT hv;have H:=HT;clear ah;have Hb:=H.full;have H:=Hb;clear hc;refine kH H (Rm O ?_);clear H;intro a H;refine aj ⟨O,?_⟩;exact aB HT Hb hG hv (fun _ _ _ _ _ h=>h) H O
      ·intro ay a w G1 _ ah hc hG HT hv;have H:=HT;clear ah;have Hb:=H.full;have H:=Hb;clear hc;refine kH H (Rm O ?_);clear H;intro a H;refine aj ⟨O,?_⟩;exact aB HT Hb hG hv (fun _ _ _ _ _ h=>h) H O
      ·intro ay a w G1 _ ah hc hG HT hv;have H:=HT;clear ah;have H:=H.au (hv 6 120 (hc 6 Y) O) O;have H:=H.au (hv 7 121 (hc 7 Y) O) O;have Hb:=H.full;have H:=Hb;clear hc;refine kH H (Ri cu dw O O ?_);clear H;intro a H;refine aj ⟨O,?_⟩;exact aB HT Hb hG hv (fun _ _ _ _ _ h=>h) H O
      ·intro ay a w G1 _ ah hc hG HT hv;have H:=HT;clear ah;have H:=H.au (hv 8 122 (hc 8 Y) O) O;have Hb:=H.full;have H:=Hb;clear hc;refine bV dw (cs:=[_,_]) H wn O O (fun j v hj=>H.hp.aS (aK hG (hra j v hj))) O ?_;clear H;intro a H;refine aj ⟨O,?_⟩;exact aB HT Hb hG hv (fun _ _ _ _ _ h=>h) H O
      ·intro ay a w G1 _ ah hc hG HT hv;have H:=HT;clear ah;have Hb:=H.full;have H:=Hb;clear hc;refine kH H (Rm O ?_);clear H;intro a H;refine aj ⟨O,?_⟩;exact aB HT Hb hG hv (fun _ _ _ _ _ h=>h) H O
      ·intro ay a w G1 _ ah hc hG HT hv;have H:=HT;clear ah;have Hb:=H.full;have H:=Hb;clear hc;refine kH H (Rm O ?_);clear H;intro a H;refine aj ⟨O,?_⟩;exact aB HT Hb hG hv (fun _ _ _ _ _ h=>h) H O
      ·intro ay a w G1 _ ah hc hG HT hv;have H:=HT;clear ah;have H:=H.au (hv 10 124 (hc 10 Y) O) O;have H:=H.au (hv 11 125 (hc 11 Y) O) O;have Hb:=H.full;have H:=Hb;clear hc;refine kH H (Ri cu dw O O ?_);clear H;intro a H;refine aj ⟨O,?_⟩;exact aB HT Hb hG hv (fun _ _ _ _ _ h=>h) H O
      ·intro ay a w G1 _ ah hc hG HT hv;have H:=HT;clear ah;have H:=H.au (hv 12 126 (hc 12 Y) O) O;have Hb:=H.full;have H:=Hb;clear hc;refine bV dw (cs:=[_,_]) H wn O O (fun j v hj=>H.hp.aS (aK hG (hrb j v hj))) O ?_;clear H;intro a H;refine aj ⟨O,?_⟩;exact aB HT Hb hG hv (fun _ _ _ _ _ h=>h) H O
      ·intro ay a w G1 _ ah hc hG HT hv;have H:=HT;clear ah;have H:=H.au (hv 9 123 (hc 9 Y) O) O;have H:=H.au (hv 13 127 (hc 13 Y) O) O;have Hb:=H.full;have H:=Hb;clear hc;refine s_call Tz H wn O (X9 _ _ H.ro la[i] lb[k]) O ?_;clear H;rintro aiD Yv a w ⟨rfl,rfl⟩ ND H;refine aj ⟨O,?_⟩;exact oD Z (fun _ _ _ _ _ h=>h) O O HT Hb hG hv ND (rfl) H
      ·intro ay a w G1 _ ah hc hG HT hv;have H:=HT;clear ah;have H:=H.au (hv 5 119 (hc 5 Y) O) O;have H:=H.au (hv 14 128 (hc 14 Y) O) O;have Hb:=H.full;have H:=Hb;clear hc;refine kH H (Rd O ?_);clear H;intro a H;refine aj ⟨O,?_⟩;exact aB HT Hb hG hv (fun _ _ _ _ _ h=>h) H O
      ·intro ay a w G1 _ ah hc hG HT hv;have H:=HT;clear ah;have H:=H.au (hv 15 129 (hc 15 Y) O) O;have Hb:=H.full;have H:=Hb;clear hc;refine kH H (Ra O ?_);clear H;intro a H;refine aj ⟨O,?_⟩;exact aB HT Hb hG hv (fun _ _ _ _ _ h=>h) H O
      clear H;intro a w G Cn H hv;have H:=H.au (hv 16 19 O O) O;clear hv;refine aj ⟨O,?_⟩;refine nL _ _ ?_;clear nL;refine gy (fun _ sj=>?_);have vC:=fun j v hj=>aK Cn (hra j v hj);have CG:=fun j v hj=>aK Cn (hrb j v hj);have Bf:=fun b o h=>Cn b o (nO b o h)
      by_cases c0:la[i].key=lb[k].key
      ·skip
       by_cases c1:mx<=fF la lb (i+1) (k+1)+jG la[i] lb[k]
       ·skip;refine dI hmx [[],[],[0,1],[0,1,2],ra 0 4,[],[],[5,6],[5,6,7],ra 5 4,ra 0 10,ra 0 11,ra 0 12,ra 0 12,ra 0 14,ra 0 15] [] Z [.slice (some ⟨ab,ao,none⟩) la.length vc,vi i,(aJ ab (ao+i*2)),(aJ ab (ao+i*2+0)),vi la[i].key,.slice (some ⟨bb,bo,none⟩) lb.length uc,vi k,(aJ bb (bo+k*2)),(aJ bb (bo+k*2+0)),vi lb[k].key,.bool (decide (la[i].key=lb[k].key)),.bool (decide (la[i].key=lb[k].key)),vi (fF la lb (i+1) (k+1)+jG la[i] lb[k]),vi mx,.bool (decide (fF la lb (i+1) (k+1)+jG la[i] lb[k] ≥ mx)),.bool (decide (fF la lb (i+1) (k+1)+jG la[i] lb[k] ≥ mx))] H (aH ?_ ?_ ?_ ?_ (aH ?_ ?_ ?_ ?_ (aH ?_ ?_ ?_ ?_ (aH ?_ ?_ ?_ ?_ fD)))) ?_
        ·intro ay a w G1 _ ah hc hG HT hv;have H:=HT;clear ah;have Hb:=H.full;have H:=Hb;clear hc;refine kH H (Rm O ?_);clear H;intro a H;refine aj ⟨O,?_⟩;exact aB HT Hb hG hv (fun _ _ _ _ _ h=>h) H O
        ·intro ay a w G1 _ ah hc hG HT hv;have H:=HT;clear ah;have Hb:=H.full;have H:=Hb;clear hc;refine kH H (Rm O ?_);clear H;intro a H;refine aj ⟨O,?_⟩;exact aB HT Hb hG hv (fun _ _ _ _ _ h=>h) H O
        ·intro ay a w G1 _ ah hc hG HT hv;have H:=HT;clear ah;have H:=H.au (hv 0 130 (hc 0 Y) O) O;have H:=H.au (hv 1 131 (hc 1 Y) O) O;have Hb:=H.full;have H:=Hb;clear hc;refine kH H (Ri cu dw O O ?_);clear H;intro a H;refine aj ⟨O,?_⟩;exact aB HT Hb hG hv (fun _ _ _ _ _ h=>h) H O
        ·intro ay a w G1 _ ah hc hG HT hv;have H:=HT;clear ah;have H:=H.au (hv 2 132 (hc 2 Y) O) O;have Hb:=H.full;have H:=Hb;clear hc;refine kH H (Rf uV O ?_);clear H;intro a H;refine aj ⟨O,?_⟩;exact aB HT Hb hG hv (fun _ _ _ _ _ h=>h) H O
        ·intro ay a w G1 _ ah hc hG HT hv;have H:=HT;clear ah;have H:=H.au (hv 3 133 (hc 3 Y) O) O;have Hb:=H.full;have H:=Hb;clear hc;refine kH H (Rg aC O (aK hG (vC 0 _ O)) ?_);clear H;intro a H;refine aj ⟨O,?_⟩;exact aB HT Hb hG hv (fun _ _ _ _ _ h=>h) H O
        ·intro ay a w G1 _ ah hc hG HT hv;have H:=HT;clear ah;have Hb:=H.full;have H:=Hb;clear hc;refine kH H (Rm O ?_);clear H;intro a H;refine aj ⟨O,?_⟩;exact aB HT Hb hG hv (fun _ _ _ _ _ h=>h) H O
        ·intro ay a w G1 _ ah hc hG HT hv;have H:=HT;clear ah;have Hb:=H.full;have H:=Hb;clear hc;refine kH H (Rm O ?_);clear H;intro a H;refine aj ⟨O,?_⟩;exact aB HT Hb hG hv (fun _ _ _ _ _ h=>h) H O
        ·intro ay a w G1 _ ah hc hG HT hv;have H:=HT;clear ah;have H:=H.au (hv 5 135 (hc 5 Y) O) O;have H:=H.au (hv 6 136 (hc 6 Y) O) O;have Hb:=H.full;have H:=Hb;clear hc;refine kH H (Ri cu dw O O ?_);clear H;intro a H;refine aj ⟨O,?_⟩;exact aB HT Hb hG hv (fun _ _ _ _ _ h=>h) H O
        ·intro ay a w G1 _ ah hc hG HT hv;have H:=HT;clear ah;have H:=H.au (hv 7 137 (hc 7 Y) O) O;have Hb:=H.full;have H:=Hb;clear hc;refine kH H (Rf uV O ?_);clear H;intro a H;refine aj ⟨O,?_⟩;exact aB HT Hb hG hv (fun _ _ _ _ _ h=>h) H O
        ·intro ay a w G1 _ ah hc hG HT hv;have H:=HT;clear ah;have H:=H.au (hv 8 138 (hc 8 Y) O) O;have Hb:=H.full;have H:=Hb;clear hc;refine kH H (Rg aC O (aK hG (CG 0 _ O)) ?_);clear H;intro a H;refine aj ⟨O,?_⟩;exact aB HT Hb hG hv (fun _ _ _ _ _ h=>h) H O
        ·intro ay a w G1 _ ah hc hG HT hv;have H:=HT;clear ah;have H:=H.au (hv 4 134 (hc 4 Y) O) O;have H:=H.au (hv 9 139 (hc 9 Y) O) O;have Hb:=H.full;have H:=Hb;clear hc;refine kH H (Rc O ?_);clear H;intro a H;refine aj ⟨O,?_⟩;exact aB HT Hb hG hv (fun _ _ _ _ _ h=>h) H O
        ·intro ay a w G1 _ ah hc hG HT hv;have H:=HT;clear ah;have H:=H.au (hv 10 140 (hc 10 Y) O) O;have Hb:=H.full;have H:=Hb;clear hc;refine kH H (Rm O ?_);clear H;intro a H;refine aj ⟨O,?_⟩;exact aB HT Hb hG hv (fun _ _ _ _ _ h=>h) H O
        ·intro ay a w G1 _ ah hc hG HT hv;have H:=HT;clear ah;have H:=H.au (hv 11 141 (hc 11 Y) O) O;have Hb:=H.full;have H:=Hb;clear hc;refine kH H (YM (aX c0) O ?_);clear H;intro a H;refine aj ⟨O,?_⟩;exact aB HT Hb hG hv (fun _ _ _ _ _ h=>h) H O
        ·intro ay a w G1 _ ah hc hG HT hv;have H:=HT;clear ah;have H:=H.au (hv 11 141 (hc 11 Y) O) O;have Hb:=H.full;have H:=Hb;clear hc;refine kH H (YM (aX c0) O ?_);clear H;intro a H;refine aj ⟨O,?_⟩;exact aB HT Hb hG hv (fun _ _ _ _ _ h=>h) H O
        ·intro ay a w G1 _ ah hc hG HT hv;have H:=HT;clear ah;have H:=H.au (hv 12 142 (hc 12 Y) O) O;have H:=H.au (hv 13 143 (hc 13 Y) O) O;have H:=H.au (hv 11 141 (hc 11 Y) O) O;have Hb:=H.full;have H:=Hb;clear hc;refine kH H (YC (aX c0) O ?_);clear H;intro a H;refine aj ⟨O,?_⟩;exact aB HT Hb hG hv (fun _ _ _ _ _ h=>h) H O
        ·intro ay a w G1 _ ah hc hG HT hv;have H:=HT;clear ah;have H:=H.au (hv 11 141 (hc 11 Y) O) O;have H:=H.au (hv 14 144 (hc 14 Y) O) O;have Hb:=H.full;have H:=Hb;clear hc;refine kH H (Pt (aX c0) O ?_);clear H;intro a H;refine aj ⟨O,?_⟩;exact aB HT Hb hG hv (fun _ _ _ _ _ h=>h) H O
        clear H;intro a w G wm H hv;have H:=H.au (hv 15 145 O O) O;clear hv;refine aj ⟨O,?_⟩;refine sj _ _ ?_;clear sj;refine FJ H O (aX c1) ?_;refine kP H (SC (Rm O (Ra O (bO lN O ?_))));clear H lN;intro a H
        first|(have oH:=fun b o h=>wm b o (Bf b o h))|(have oH:=nO)
        refine kP H (SC (Rm O ?_));clear H;intro a H;refine oN ru bP s H wn O O O hs2 O ?_;clear H;intro a H;refine iU bP H wn O (H.hp.gK 2 O (Ak (x:=fun t=>fc (rN t) W) hs2)) O ?_;clear H;intro a H;refine kH H (Rm O (Rm O (Rm O (Rm O (Rm O ?_)))));clear H;intro a H;have H:=H.Ao hs2;refine jT zI (Li:=[_,_,_]++nZ C rN qN X3 R3 Q s) (L:=[_,_,_]) H wn O (Ai _ _ (Hp.owns (Li:=[_,_,_]++nZ C rN qN X3 R3 Q s) H.hp) hs2 (zG (x:=fun t=>fc (C t) M) hs2) hkW (hmid.1 s hs2).1 (kR s hs2) zU V V V) O ?_;clear H;rintro EY G4 Dt a w rfl vB H;have qK:=fun b o h=>vB b o (oH b o h)
        obtain ⟨X4,R4,qJ,qI,H⟩:=St.Ap hs2 hmid hkW kR (by first|omega|(rw [xW hi2 hk3];split <;> omega)) (by rw [List.length_set];exact kR s hs2) H
        refine kH H (Kn iI (SC (Rd O (Rm O ?_))));clear H iI;intro a H;refine aj ?_;refine bE ((s+1,X4,R4,G4)) (by exact H.sub ⟨O,O,O,O,O,O,O,O,O,O,aI⟩) ?_
        (try dsimp only);exact ⟨V,qJ,qI,qK⟩
       skip;refine dI hmx [[],[],[0,1],[0,1,2],ra 0 4,[],[],[5,6],[5,6,7],ra 5 4,ra 0 10,ra 0 11,ra 0 12,ra 0 12,ra 0 14,ra 0 15] [] Z [.slice (some ⟨ab,ao,none⟩) la.length vc,vi i,(aJ ab (ao+i*2)),(aJ ab (ao+i*2+0)),vi la[i].key,.slice (some ⟨bb,bo,none⟩) lb.length uc,vi k,(aJ bb (bo+k*2)),(aJ bb (bo+k*2+0)),vi lb[k].key,.bool (decide (la[i].key=lb[k].key)),.bool (decide (la[i].key=lb[k].key)),vi (fF la lb (i+1) (k+1)+jG la[i] lb[k]),vi mx,.bool (decide (fF la lb (i+1) (k+1)+jG la[i] lb[k] ≥ mx)),.bool (decide (fF la lb (i+1) (k+1)+jG la[i] lb[k] ≥ mx))] H (aH ?_ ?_ ?_ ?_ (aH ?_ ?_ ?_ ?_ (aH ?_ ?_ ?_ ?_ (aH ?_ ?_ ?_ ?_ fD)))) ?_
       ·intro ay a w G1 _ ah hc hG HT hv;have H:=HT;clear ah;have Hb:=H.full;have H:=Hb;clear hc;refine kH H (Rm O ?_);clear H;intro a H;refine aj ⟨O,?_⟩;exact aB HT Hb hG hv (fun _ _ _ _ _ h=>h) H O
       ·intro ay a w G1 _ ah hc hG HT hv;have H:=HT;clear ah;have Hb:=H.full;have H:=Hb;clear hc;refine kH H (Rm O ?_);clear H;intro a H;refine aj ⟨O,?_⟩;exact aB HT Hb hG hv (fun _ _ _ _ _ h=>h) H O
       ·intro ay a w G1 _ ah hc hG HT hv;have H:=HT;clear ah;have H:=H.au (hv 0 130 (hc 0 Y) O) O;have H:=H.au (hv 1 131 (hc 1 Y) O) O;have Hb:=H.full;have H:=Hb;clear hc;refine kH H (Ri cu dw O O ?_);clear H;intro a H;refine aj ⟨O,?_⟩;exact aB HT Hb hG hv (fun _ _ _ _ _ h=>h) H O
       ·intro ay a w G1 _ ah hc hG HT hv;have H:=HT;clear ah;have H:=H.au (hv 2 132 (hc 2 Y) O) O;have Hb:=H.full;have H:=Hb;clear hc;refine kH H (Rf uV O ?_);clear H;intro a H;refine aj ⟨O,?_⟩;exact aB HT Hb hG hv (fun _ _ _ _ _ h=>h) H O
       ·intro ay a w G1 _ ah hc hG HT hv;have H:=HT;clear ah;have H:=H.au (hv 3 133 (hc 3 Y) O) O;have Hb:=H.full;have H:=Hb;clear hc;refine kH H (Rg aC O (aK hG (vC 0 _ O)) ?_);clear H;intro a H;refine aj ⟨O,?_⟩;exact aB HT Hb hG hv (fun _ _ _ _ _ h=>h) H O
       ·intro ay a w G1 _ ah hc hG HT hv;have H:=HT;clear ah;have Hb:=H.full;have H:=Hb;clear hc;refine kH H (Rm O ?_);clear H;intro a H;refine aj ⟨O,?_⟩;exact aB HT Hb hG hv (fun _ _ _ _ _ h=>h) H O
       ·intro ay a w G1 _ ah hc hG HT hv;have H:=HT;clear ah;have Hb:=H.full;have H:=Hb;clear hc;refine kH H (Rm O ?_);clear H;intro a H;refine aj ⟨O,?_⟩;exact aB HT Hb hG hv (fun _ _ _ _ _ h=>h) H O
       ·intro ay a w G1 _ ah hc hG HT hv;have H:=HT;clear ah;have H:=H.au (hv 5 135 (hc 5 Y) O) O;have H:=H.au (hv 6 136 (hc 6 Y) O) O;have Hb:=H.full;have H:=Hb;clear hc;refine kH H (Ri cu dw O O ?_);clear H;intro a H;refine aj ⟨O,?_⟩;exact aB HT Hb hG hv (fun _ _ _ _ _ h=>h) H O
       ·intro ay a w G1 _ ah hc hG HT hv;have H:=HT;clear ah;have H:=H.au (hv 7 137 (hc 7 Y) O) O;have Hb:=H.full;have H:=Hb;clear hc;refine kH H (Rf uV O ?_);clear H;intro a H;refine aj ⟨O,?_⟩;exact aB HT Hb hG hv (fun _ _ _ _ _ h=>h) H O
       ·intro ay a w G1 _ ah hc hG HT hv;have H:=HT;clear ah;have H:=H.au (hv 8 138 (hc 8 Y) O) O;have Hb:=H.full;have H:=Hb;clear hc;refine kH H (Rg aC O (aK hG (CG 0 _ O)) ?_);clear H;intro a H;refine aj ⟨O,?_⟩;exact aB HT Hb hG hv (fun _ _ _ _ _ h=>h) H O
       ·intro ay a w G1 _ ah hc hG HT hv;have H:=HT;clear ah;have H:=H.au (hv 4 134 (hc 4 Y) O) O;have H:=H.au (hv 9 139 (hc 9 Y) O) O;have Hb:=H.full;have H:=Hb;clear hc;refine kH H (Rc O ?_);clear H;intro a H;refine aj ⟨O,?_⟩;exact aB HT Hb hG hv (fun _ _ _ _ _ h=>h) H O
       ·intro ay a w G1 _ ah hc hG HT hv;have H:=HT;clear ah;have H:=H.au (hv 10 140 (hc 10 Y) O) O;have Hb:=H.full;have H:=Hb;clear hc;refine kH H (Rm O ?_);clear H;intro a H;refine aj ⟨O,?_⟩;exact aB HT Hb hG hv (fun _ _ _ _ _ h=>h) H O
       ·intro ay a w G1 _ ah hc hG HT hv;have H:=HT;clear ah;have H:=H.au (hv 11 141 (hc 11 Y) O) O;have Hb:=H.full;have H:=Hb;clear hc;refine kH H (YM (aX c0) O ?_);clear H;intro a H;refine aj ⟨O,?_⟩;exact aB HT Hb hG hv (fun _ _ _ _ _ h=>h) H O
       ·intro ay a w G1 _ ah hc hG HT hv;have H:=HT;clear ah;have H:=H.au (hv 11 141 (hc 11 Y) O) O;have Hb:=H.full;have H:=Hb;clear hc;refine kH H (YM (aX c0) O ?_);clear H;intro a H;refine aj ⟨O,?_⟩;exact aB HT Hb hG hv (fun _ _ _ _ _ h=>h) H O
       ·intro ay a w G1 _ ah hc hG HT hv;have H:=HT;clear ah;have H:=H.au (hv 12 142 (hc 12 Y) O) O;have H:=H.au (hv 13 143 (hc 13 Y) O) O;have H:=H.au (hv 11 141 (hc 11 Y) O) O;have Hb:=H.full;have H:=Hb;clear hc;refine kH H (YC (aX c0) O ?_);clear H;intro a H;refine aj ⟨O,?_⟩;exact aB HT Hb hG hv (fun _ _ _ _ _ h=>h) H O
       ·intro ay a w G1 _ ah hc hG HT hv;have H:=HT;clear ah;have H:=H.au (hv 11 141 (hc 11 Y) O) O;have H:=H.au (hv 14 144 (hc 14 Y) O) O;have Hb:=H.full;have H:=Hb;clear hc;refine kH H (Pt (aX c0) O ?_);clear H;intro a H;refine aj ⟨O,?_⟩;exact aB HT Hb hG hv (fun _ _ _ _ _ h=>h) H O
       clear H;intro a w G wm H hv;have H:=H.au (hv 15 145 O O) O;clear hv;refine aj ⟨O,?_⟩;refine sj _ _ ?_;clear sj;refine vV H O (dW c1) ?_;refine lV ?_;refine lN _ _ ?_;clear lN
       first|(have oH:=fun b o h=>wm b o (Bf b o h))|(have oH:=nO)
       refine kP H (SC (Rm O ?_));clear H;intro a H;refine oN ru bP s H wn O O O hs2 O ?_;clear H;intro a H;refine iU bP H wn O (H.hp.gK 2 O (Ak (x:=fun t=>fc (rN t) W) hs2)) O ?_;clear H;intro a H;refine kH H (Rm O (Rm O (Rm O (Rm O (Rm O ?_)))));clear H;intro a H;have H:=H.Ao hs2;refine jT zI (Li:=[_,_,_]++nZ C rN qN X3 R3 Q s) (L:=[_,_,_]) H wn O (Ai _ _ (Hp.owns (Li:=[_,_,_]++nZ C rN qN X3 R3 Q s) H.hp) hs2 (zG (x:=fun t=>fc (C t) M) hs2) hkW (hmid.1 s hs2).1 (kR s hs2) zU V V V) O ?_;clear H;rintro EY G4 Dt a w rfl vB H;have qK:=fun b o h=>vB b o (oH b o h)
       obtain ⟨X4,R4,qJ,qI,H⟩:=St.Ap hs2 hmid hkW kR (by first|omega|(rw [xW hi2 hk3];split <;> omega)) (by rw [List.length_set];exact kR s hs2) H
       refine kH H (Kn iI (SC (Rd O (Rm O ?_))));clear H iI;intro a H;refine aj ?_;refine bE ((s+1,X4,R4,G4)) (by exact H.sub ⟨O,O,O,O,O,O,O,O,O,O,aI⟩) ?_
       (try dsimp only);exact ⟨V,qJ,qI,qK⟩
      skip;refine dI hmx [[],[],[0,1],[0,1,2],ra 0 4,[],[],[5,6],[5,6,7],ra 5 4,ra 0 10,ra 0 11,ra 0 12,ra 0 12,ra 0 14,ra 0 15] [] Z [.slice (some ⟨ab,ao,none⟩) la.length vc,vi i,(aJ ab (ao+i*2)),(aJ ab (ao+i*2+0)),vi la[i].key,.slice (some ⟨bb,bo,none⟩) lb.length uc,vi k,(aJ bb (bo+k*2)),(aJ bb (bo+k*2+0)),vi lb[k].key,.bool (decide (la[i].key=lb[k].key)),.bool (decide (la[i].key=lb[k].key)),undef,undef,undef,.bool false] H (aH ?_ ?_ ?_ ?_ (aH ?_ ?_ ?_ ?_ (aH ?_ ?_ ?_ ?_ (aH (dK 11 (dW c0) O O) (dK 11 (dW c0) O O) (dK 11 (dW c0) O O) ?_ fD)))) ?_
      ·intro ay a w G1 _ ah hc hG HT hv;have H:=HT;clear ah;have Hb:=H.full;have H:=Hb;clear hc;refine kH H (Rm O ?_);clear H;intro a H;refine aj ⟨O,?_⟩;exact aB HT Hb hG hv (fun _ _ _ _ _ h=>h) H O
      ·intro ay a w G1 _ ah hc hG HT hv;have H:=HT;clear ah;have Hb:=H.full;have H:=Hb;clear hc;refine kH H (Rm O ?_);clear H;intro a H;refine aj ⟨O,?_⟩;exact aB HT Hb hG hv (fun _ _ _ _ _ h=>h) H O
      ·intro ay a w G1 _ ah hc hG HT hv;have H:=HT;clear ah;have H:=H.au (hv 0 130 (hc 0 Y) O) O;have H:=H.au (hv 1 131 (hc 1 Y) O) O;have Hb:=H.full;have H:=Hb;clear hc;refine kH H (Ri cu dw O O ?_);clear H;intro a H;refine aj ⟨O,?_⟩;exact aB HT Hb hG hv (fun _ _ _ _ _ h=>h) H O
      ·intro ay a w G1 _ ah hc hG HT hv;have H:=HT;clear ah;have H:=H.au (hv 2 132 (hc 2 Y) O) O;have Hb:=H.full;have H:=Hb;clear hc;refine kH H (Rf uV O ?_);clear H;intro a H;refine aj ⟨O,?_⟩;exact aB HT Hb hG hv (fun _ _ _ _ _ h=>h) H O
      ·intro ay a w G1 _ ah hc hG HT hv;have H:=HT;clear ah;have H:=H.au (hv 3 133 (hc 3 Y) O) O;have Hb:=H.full;have H:=Hb;clear hc;refine kH H (Rg aC O (aK hG (vC 0 _ O)) ?_);clear H;intro a H;refine aj ⟨O,?_⟩;exact aB HT Hb hG hv (fun _ _ _ _ _ h=>h) H O
      ·intro ay a w G1 _ ah hc hG HT hv;have H:=HT;clear ah;have Hb:=H.full;have H:=Hb;clear hc;refine kH H (Rm O ?_);clear H;intro a H;refine aj ⟨O,?_⟩;exact aB HT Hb hG hv (fun _ _ _ _ _ h=>h) H O
      ·intro ay a w G1 _ ah hc hG HT hv;have H:=HT;clear ah;have Hb:=H.full;have H:=Hb;clear hc;refine kH H (Rm O ?_);clear H;intro a H;refine aj ⟨O,?_⟩;exact aB HT Hb hG hv (fun _ _ _ _ _ h=>h) H O
      ·intro ay a w G1 _ ah hc hG HT hv;have H:=HT;clear ah;have H:=H.au (hv 5 135 (hc 5 Y) O) O;have H:=H.au (hv 6 136 (hc 6 Y) O) O;have Hb:=H.full;have H:=Hb;clear hc;refine kH H (Ri cu dw O O ?_);clear H;intro a H;refine aj ⟨O,?_⟩;exact aB HT Hb hG hv (fun _ _ _ _ _ h=>h) H O
      ·intro ay a w G1 _ ah hc hG HT hv;have H:=HT;clear ah;have H:=H.au (hv 7 137 (hc 7 Y) O) O;have Hb:=H.full;have H:=Hb;clear hc;refine kH H (Rf uV O ?_);clear H;intro a H;refine aj ⟨O,?_⟩;exact aB HT Hb hG hv (fun _ _ _ _ _ h=>h) H O
      ·intro ay a w G1 _ ah hc hG HT hv;have H:=HT;clear ah;have H:=H.au (hv 8 138 (hc 8 Y) O) O;have Hb:=H.full;have H:=Hb;clear hc;refine kH H (Rg aC O (aK hG (CG 0 _ O)) ?_);clear H;intro a H;refine aj ⟨O,?_⟩;exact aB HT Hb hG hv (fun _ _ _ _ _ h=>h) H O
      ·intro ay a w G1 _ ah hc hG HT hv;have H:=HT;clear ah;have H:=H.au (hv 4 134 (hc 4 Y) O) O;have H:=H.au (hv 9 139 (hc 9 Y) O) O;have Hb:=H.full;have H:=Hb;clear hc;refine kH H (Rc O ?_);clear H;intro a H;refine aj ⟨O,?_⟩;exact aB HT Hb hG hv (fun _ _ _ _ _ h=>h) H O
      ·intro ay a w G1 _ ah hc hG HT hv;have H:=HT;clear ah;have H:=H.au (hv 10 140 (hc 10 Y) O) O;have Hb:=H.full;have H:=Hb;clear hc;refine kH H (Rm O ?_);clear H;intro a H;refine aj ⟨O,?_⟩;exact aB HT Hb hG hv (fun _ _ _ _ _ h=>h) H O
      ·intro ay a w G1 _ ah hc hG HT hv;have H:=HT;clear ah;have H:=H.au (hv 11 141 (hc 11 Y) O) O;have H:=H.au (hv 14 144 (hc 14 Y) O) O;have Hb:=H.full;have H:=Hb;clear hc;refine kH H (Pf (dW c0) O ?_);clear H;intro a H;refine aj ⟨O,?_⟩;exact aB HT Hb hG hv (fun _ _ _ _ _ h=>h) H O
      clear H;intro a w G wm H hv;have H:=H.au (hv 15 145 O O) O;clear hv;refine aj ⟨O,?_⟩;refine sj _ _ ?_;clear sj;refine vV H O O ?_;refine lV ?_;refine lN _ _ ?_;clear lN
      first|(have oH:=fun b o h=>wm b o (Bf b o h))|(have oH:=nO)
      refine kP H (SC (Rm O ?_));clear H;intro a H;refine oN ru bP s H wn O O O hs2 O ?_;clear H;intro a H;refine iU bP H wn O (H.hp.gK 2 O (Ak (x:=fun t=>fc (rN t) W) hs2)) O ?_;clear H;intro a H;refine kH H (Rm O (Rm O (Rm O (Rm O (Rm O ?_)))));clear H;intro a H;have H:=H.Ao hs2;refine jT zI (Li:=[_,_,_]++nZ C rN qN X3 R3 Q s) (L:=[_,_,_]) H wn O (Ai _ _ (Hp.owns (Li:=[_,_,_]++nZ C rN qN X3 R3 Q s) H.hp) hs2 (zG (x:=fun t=>fc (C t) M) hs2) hkW (hmid.1 s hs2).1 (kR s hs2) zU V V V) O ?_;clear H;rintro EY G4 Dt a w rfl vB H;have qK:=fun b o h=>vB b o (oH b o h)
      obtain ⟨X4,R4,qJ,qI,H⟩:=St.Ap hs2 hmid hkW kR (by first|omega|(rw [xW hi2 hk3];split <;> omega)) (by rw [List.length_set];exact kR s hs2) H
      refine kH H (Kn iI (SC (Rd O (Rm O ?_))));clear H iI;intro a H;refine aj ?_;refine bE ((s+1,X4,R4,G4)) (by exact H.sub ⟨O,O,O,O,O,O,O,O,O,O,aI⟩) ?_
      (try dsimp only);exact ⟨V,qJ,qI,qK⟩
     intro h112 a H
     try have afT:=dF h112
     rw [show fF la lb (i+1) k=mx by omega] at H;refine lV ?_;refine rC _ _ ?_;clear rC;refine gy (fun _ wR=>?_);refine dI hmx [[],[0],[],[2],ra 0 4,ra 0 5,[],[],[6,7],[6,7,8],[],[],[10,11],[10,11,12],ra 6 8,ra 0 15,ra 0 16] [] Z [(aJ b9 (0+0*1)),fc (qN 0) W,vi k,vi ((k:Int)+1),(aJ (qN 0) (0+(k+1)*1)),vi (fF la lb (i+1) (k+1)),.slice (some ⟨ab,ao,none⟩) la.length vc,vi i,(aJ ab (ao+i*2)),.agg #[vi la[i].key,vi la[i].weight],.slice (some ⟨bb,bo,none⟩) lb.length uc,vi k,(aJ bb (bo+k*2)),.agg #[vi lb[k].key,vi lb[k].weight],vi (jG la[i] lb[k]),vi (fF la lb (i+1) (k+1)+jG la[i] lb[k]),vi (fF la lb (i+1) (k+1)+jG la[i] lb[k])] H (aH ?_ ?_ ?_ ?_ (aH ?_ ?_ ?_ ?_ (aH ?_ ?_ ?_ ?_ (aH ?_ ?_ ?_ ?_ (eB ?_ fD))))) ?_
     ·intro ay a w G1 _ ah hc hG HT hv;have H:=HT;clear ah;have Hb:=H.full;have H:=Hb;clear hc;refine oN ru bP 0 H wn O O O Y O ?_;clear H;intro a H;refine aj ⟨O,?_⟩;exact aB HT Hb hG hv (fun _ _ _ _ _ h=>h) H O
     ·intro ay a w G1 _ ah hc hG HT hv;have H:=HT;clear ah;have H:=H.au (hv 0 114 (hc 0 Y) O) O;have Hb:=H.full;have H:=Hb;clear hc;refine kH H (Ro bP 3 O ?_);clear H;intro a H;refine aj ⟨O,?_⟩;exact aB HT Hb hG hv (fun _ _ _ _ _ h=>h) H O
     ·intro ay a w G1 _ ah hc hG HT hv;have H:=HT;clear ah;have Hb:=H.full;have H:=Hb;clear hc;refine kH H (Rm O ?_);clear H;intro a H;refine aj ⟨O,?_⟩;exact aB HT Hb hG hv (fun _ _ _ _ _ h=>h) H O
     ·intro ay a w G1 _ ah hc hG HT hv;have H:=HT;clear ah;have H:=H.au (hv 2 116 (hc 2 Y) O) O;have Hb:=H.full;have H:=Hb;clear hc;refine kH H (Rd O ?_);clear H;intro a H;refine aj ⟨O,?_⟩;exact aB HT Hb hG hv (fun _ _ _ _ _ h=>h) H O
     ·intro ay a w G1 _ ah hc hG HT hv;have H:=HT;clear ah;have H:=H.au (hv 1 115 (hc 1 Y) O) O;have H:=H.au (hv 3 117 (hc 3 Y) O) O;have Hb:=H.full;have H:=Hb;clear hc;refine bD cB aC (k+1) H wn O O V V O ?_;clear H;intro a H;refine aj ⟨O,?_⟩;exact aB HT Hb hG hv (fun _ _ _ _ _ h=>h) H O
     ·intro ay a w G1 _ ah hc hG HT hv;have H:=HT;clear ah;have H:=H.au (hv 4 118 (hc 4 Y) O) O;have Hb:=H.full;have H:=Hb;clear hc;refine iU aC H wn O (H.hp.gK 6 O (by rw [eH,Nat.mul_one];exact uZ ((Gj 0 Y).2 (k+1) (fC _) V))) O ?_;clear H;intro a H;refine aj ⟨O,?_⟩;exact aB HT Hb hG hv (fun _ _ _ _ _ h=>h) H O
     ·intro ay a w G1 _ ah hc hG HT hv;have H:=HT;clear ah;have Hb:=H.full;have H:=Hb;clear hc;refine kH H (Rm O ?_);clear H;intro a H;refine aj ⟨O,?_⟩;exact aB HT Hb hG hv (fun _ _ _ _ _ h=>h) H O
     ·intro ay a w G1 _ ah hc hG HT hv;have H:=HT;clear ah;have Hb:=H.full;have H:=Hb;clear hc;refine kH H (Rm O ?_);clear H;intro a H;refine aj ⟨O,?_⟩;exact aB HT Hb hG hv (fun _ _ _ _ _ h=>h) H O
     ·intro ay a w G1 _ ah hc hG HT hv;have H:=HT;clear ah;have H:=H.au (hv 6 120 (hc 6 Y) O) O;have H:=H.au (hv 7 121 (hc 7 Y) O) O;have Hb:=H.full;have H:=Hb;clear hc;refine kH H (Ri cu dw O O ?_);clear H;intro a H;refine aj ⟨O,?_⟩;exact aB HT Hb hG hv (fun _ _ _ _ _ h=>h) H O
     ·intro ay a w G1 _ ah hc hG HT hv;have H:=HT;clear ah;have H:=H.au (hv 8 122 (hc 8 Y) O) O;have Hb:=H.full;have H:=Hb;clear hc;refine bV dw (cs:=[_,_]) H wn O O (fun j v hj=>H.hp.aS (aK hG (hra j v hj))) O ?_;clear H;intro a H;refine aj ⟨O,?_⟩;exact aB HT Hb hG hv (fun _ _ _ _ _ h=>h) H O
     ·intro ay a w G1 _ ah hc hG HT hv;have H:=HT;clear ah;have Hb:=H.full;have H:=Hb;clear hc;refine kH H (Rm O ?_);clear H;intro a H;refine aj ⟨O,?_⟩;exact aB HT Hb hG hv (fun _ _ _ _ _ h=>h) H O
     ·intro ay a w G1 _ ah hc hG HT hv;have H:=HT;clear ah;have Hb:=H.full;have H:=Hb;clear hc;refine kH H (Rm O ?_);clear H;intro a H;refine aj ⟨O,?_⟩;exact aB HT Hb hG hv (fun _ _ _ _ _ h=>h) H O
     ·intro ay a w G1 _ ah hc hG HT hv;have H:=HT;clear ah;have H:=H.au (hv 10 124 (hc 10 Y) O) O;have H:=H.au (hv 11 125 (hc 11 Y) O) O;have Hb:=H.full;have H:=Hb;clear hc;refine kH H (Ri cu dw O O ?_);clear H;intro a H;refine aj ⟨O,?_⟩;exact aB HT Hb hG hv (fun _ _ _ _ _ h=>h) H O
     ·intro ay a w G1 _ ah hc hG HT hv;have H:=HT;clear ah;have H:=H.au (hv 12 126 (hc 12 Y) O) O;have Hb:=H.full;have H:=Hb;clear hc;refine bV dw (cs:=[_,_]) H wn O O (fun j v hj=>H.hp.aS (aK hG (hrb j v hj))) O ?_;clear H;intro a H;refine aj ⟨O,?_⟩;exact aB HT Hb hG hv (fun _ _ _ _ _ h=>h) H O
     ·intro ay a w G1 _ ah hc hG HT hv;have H:=HT;clear ah;have H:=H.au (hv 9 123 (hc 9 Y) O) O;have H:=H.au (hv 13 127 (hc 13 Y) O) O;have Hb:=H.full;have H:=Hb;clear hc;refine s_call Tz H wn O (X9 _ _ H.ro la[i] lb[k]) O ?_;clear H;rintro aiD Yv a w ⟨rfl,rfl⟩ ND H;refine aj ⟨O,?_⟩;exact oD Z (fun _ _ _ _ _ h=>h) O O HT Hb hG hv ND (rfl) H
     ·intro ay a w G1 _ ah hc hG HT hv;have H:=HT;clear ah;have H:=H.au (hv 5 119 (hc 5 Y) O) O;have H:=H.au (hv 14 128 (hc 14 Y) O) O;have Hb:=H.full;have H:=Hb;clear hc;refine kH H (Rd O ?_);clear H;intro a H;refine aj ⟨O,?_⟩;exact aB HT Hb hG hv (fun _ _ _ _ _ h=>h) H O
     ·intro ay a w G1 _ ah hc hG HT hv;have H:=HT;clear ah;have H:=H.au (hv 15 129 (hc 15 Y) O) O;have Hb:=H.full;have H:=Hb;clear hc;refine kH H (Ra O ?_);clear H;intro a H;refine aj ⟨O,?_⟩;exact aB HT Hb hG hv (fun _ _ _ _ _ h=>h) H O
     clear H;intro a w G Cn H hv;have H:=H.au (hv 16 19 O O) O;clear hv;refine aj ⟨O,?_⟩;refine wR _ _ ?_;clear wR;refine gy (fun _ sw=>?_);have vC:=fun j v hj=>aK Cn (hra j v hj);have CG:=fun j v hj=>aK Cn (hrb j v hj);have Bf:=fun b o h=>Cn b o (nO b o h)
     by_cases c0:la[i].key=lb[k].key
     ·skip
      by_cases c1:mx<=fF la lb (i+1) (k+1)+jG la[i] lb[k]
      ·skip;refine dI hmx [[],[],[0,1],[0,1,2],ra 0 4,[],[],[5,6],[5,6,7],ra 5 4,ra 0 10,ra 0 11,ra 0 12,ra 0 12,ra 0 14,ra 0 15] [] Z [.slice (some ⟨ab,ao,none⟩) la.length vc,vi i,(aJ ab (ao+i*2)),(aJ ab (ao+i*2+0)),vi la[i].key,.slice (some ⟨bb,bo,none⟩) lb.length uc,vi k,(aJ bb (bo+k*2)),(aJ bb (bo+k*2+0)),vi lb[k].key,.bool (decide (la[i].key=lb[k].key)),.bool (decide (la[i].key=lb[k].key)),vi (fF la lb (i+1) (k+1)+jG la[i] lb[k]),vi mx,.bool (decide (fF la lb (i+1) (k+1)+jG la[i] lb[k] ≥ mx)),.bool (decide (fF la lb (i+1) (k+1)+jG la[i] lb[k] ≥ mx))] H (aH ?_ ?_ ?_ ?_ (aH ?_ ?_ ?_ ?_ (aH ?_ ?_ ?_ ?_ (aH ?_ ?_ ?_ ?_ fD)))) ?_
       ·intro ay a w G1 _ ah hc hG HT hv;have H:=HT;clear ah;have Hb:=H.full;have H:=Hb;clear hc;refine kH H (Rm O ?_);clear H;intro a H;refine aj ⟨O,?_⟩;exact aB HT Hb hG hv (fun _ _ _ _ _ h=>h) H O
       ·intro ay a w G1 _ ah hc hG HT hv;have H:=HT;clear ah;have Hb:=H.full;have H:=Hb;clear hc;refine kH H (Rm O ?_);clear H;intro a H;refine aj ⟨O,?_⟩;exact aB HT Hb hG hv (fun _ _ _ _ _ h=>h) H O
       ·intro ay a w G1 _ ah hc hG HT hv;have H:=HT;clear ah;have H:=H.au (hv 0 130 (hc 0 Y) O) O;have H:=H.au (hv 1 131 (hc 1 Y) O) O;have Hb:=H.full;have H:=Hb;clear hc;refine kH H (Ri cu dw O O ?_);clear H;intro a H;refine aj ⟨O,?_⟩;exact aB HT Hb hG hv (fun _ _ _ _ _ h=>h) H O
       ·intro ay a w G1 _ ah hc hG HT hv;have H:=HT;clear ah;have H:=H.au (hv 2 132 (hc 2 Y) O) O;have Hb:=H.full;have H:=Hb;clear hc;refine kH H (Rf uV O ?_);clear H;intro a H;refine aj ⟨O,?_⟩;exact aB HT Hb hG hv (fun _ _ _ _ _ h=>h) H O
       ·intro ay a w G1 _ ah hc hG HT hv;have H:=HT;clear ah;have H:=H.au (hv 3 133 (hc 3 Y) O) O;have Hb:=H.full;have H:=Hb;clear hc;refine kH H (Rg aC O (aK hG (vC 0 _ O)) ?_);clear H;intro a H;refine aj ⟨O,?_⟩;exact aB HT Hb hG hv (fun _ _ _ _ _ h=>h) H O
       ·intro ay a w G1 _ ah hc hG HT hv;have H:=HT;clear ah;have Hb:=H.full;have H:=Hb;clear hc;refine kH H (Rm O ?_);clear H;intro a H;refine aj ⟨O,?_⟩;exact aB HT Hb hG hv (fun _ _ _ _ _ h=>h) H O
       ·intro ay a w G1 _ ah hc hG HT hv;have H:=HT;clear ah;have Hb:=H.full;have H:=Hb;clear hc;refine kH H (Rm O ?_);clear H;intro a H;refine aj ⟨O,?_⟩;exact aB HT Hb hG hv (fun _ _ _ _ _ h=>h) H O
       ·intro ay a w G1 _ ah hc hG HT hv;have H:=HT;clear ah;have H:=H.au (hv 5 135 (hc 5 Y) O) O;have H:=H.au (hv 6 136 (hc 6 Y) O) O;have Hb:=H.full;have H:=Hb;clear hc;refine kH H (Ri cu dw O O ?_);clear H;intro a H;refine aj ⟨O,?_⟩;exact aB HT Hb hG hv (fun _ _ _ _ _ h=>h) H O
       ·intro ay a w G1 _ ah hc hG HT hv;have H:=HT;clear ah;have H:=H.au (hv 7 137 (hc 7 Y) O) O;have Hb:=H.full;have H:=Hb;clear hc;refine kH H (Rf uV O ?_);clear H;intro a H;refine aj ⟨O,?_⟩;exact aB HT Hb hG hv (fun _ _ _ _ _ h=>h) H O
       ·intro ay a w G1 _ ah hc hG HT hv;have H:=HT;clear ah;have H:=H.au (hv 8 138 (hc 8 Y) O) O;have Hb:=H.full;have H:=Hb;clear hc;refine kH H (Rg aC O (aK hG (CG 0 _ O)) ?_);clear H;intro a H;refine aj ⟨O,?_⟩;exact aB HT Hb hG hv (fun _ _ _ _ _ h=>h) H O
       ·intro ay a w G1 _ ah hc hG HT hv;have H:=HT;clear ah;have H:=H.au (hv 4 134 (hc 4 Y) O) O;have H:=H.au (hv 9 139 (hc 9 Y) O) O;have Hb:=H.full;have H:=Hb;clear hc;refine kH H (Rc O ?_);clear H;intro a H;refine aj ⟨O,?_⟩;exact aB HT Hb hG hv (fun _ _ _ _ _ h=>h) H O
       ·intro ay a w G1 _ ah hc hG HT hv;have H:=HT;clear ah;have H:=H.au (hv 10 140 (hc 10 Y) O) O;have Hb:=H.full;have H:=Hb;clear hc;refine kH H (Rm O ?_);clear H;intro a H;refine aj ⟨O,?_⟩;exact aB HT Hb hG hv (fun _ _ _ _ _ h=>h) H O
       ·intro ay a w G1 _ ah hc hG HT hv;have H:=HT;clear ah;have H:=H.au (hv 11 141 (hc 11 Y) O) O;have Hb:=H.full;have H:=Hb;clear hc;refine kH H (YM (aX c0) O ?_);clear H;intro a H;refine aj ⟨O,?_⟩;exact aB HT Hb hG hv (fun _ _ _ _ _ h=>h) H O
       ·intro ay a w G1 _ ah hc hG HT hv;have H:=HT;clear ah;have H:=H.au (hv 11 141 (hc 11 Y) O) O;have Hb:=H.full;have H:=Hb;clear hc;refine kH H (YM (aX c0) O ?_);clear H;intro a H;refine aj ⟨O,?_⟩;exact aB HT Hb hG hv (fun _ _ _ _ _ h=>h) H O
       ·intro ay a w G1 _ ah hc hG HT hv;have H:=HT;clear ah;have H:=H.au (hv 12 142 (hc 12 Y) O) O;have H:=H.au (hv 13 143 (hc 13 Y) O) O;have H:=H.au (hv 11 141 (hc 11 Y) O) O;have Hb:=H.full;have H:=Hb;clear hc;refine kH H (YC (aX c0) O ?_);clear H;intro a H;refine aj ⟨O,?_⟩;exact aB HT Hb hG hv (fun _ _ _ _ _ h=>h) H O
       ·intro ay a w G1 _ ah hc hG HT hv;have H:=HT;clear ah;have H:=H.au (hv 11 141 (hc 11 Y) O) O;have H:=H.au (hv 14 144 (hc 14 Y) O) O;have Hb:=H.full;have H:=Hb;clear hc;refine kH H (Pt (aX c0) O ?_);clear H;intro a H;refine aj ⟨O,?_⟩;exact aB HT Hb hG hv (fun _ _ _ _ _ h=>h) H O
       clear H;intro a w G wm H hv;have H:=H.au (hv 15 145 O O) O;clear hv;refine aj ⟨O,?_⟩;refine sw _ _ ?_;clear sw;refine FJ H O (aX c1) ?_;refine kP H (SC (Rm O (Ra O (bO lN O ?_))));clear H lN;intro a H
       first|(have oH:=fun b o h=>wm b o (Bf b o h))|(have oH:=nO)
       refine kP H (SC (Rm O ?_));clear H;intro a H;refine oN ru bP s H wn O O O hs2 O ?_;clear H;intro a H;refine iU bP H wn O (H.hp.gK 2 O (Ak (x:=fun t=>fc (rN t) W) hs2)) O ?_;clear H;intro a H;refine kH H (Rm O (Rm O (Rm O (Rm O (Rm O ?_)))));clear H;intro a H;have H:=H.Ao hs2;refine jT zI (Li:=[_,_,_]++nZ C rN qN X3 R3 Q s) (L:=[_,_,_]) H wn O (Ai _ _ (Hp.owns (Li:=[_,_,_]++nZ C rN qN X3 R3 Q s) H.hp) hs2 (zG (x:=fun t=>fc (C t) M) hs2) hkW (hmid.1 s hs2).1 (kR s hs2) zU V V V) O ?_;clear H;rintro EY G4 Dt a w rfl vB H;have qK:=fun b o h=>vB b o (oH b o h)
       obtain ⟨X4,R4,qJ,qI,H⟩:=St.Ap hs2 hmid hkW kR (by first|omega|(rw [xW hi2 hk3];split <;> omega)) (by rw [List.length_set];exact kR s hs2) H
       refine kH H (Kn iI (SC (Rd O (Rm O ?_))));clear H iI;intro a H;refine aj ?_;refine bE ((s+1,X4,R4,G4)) (by exact H.sub ⟨O,O,O,O,O,O,O,O,O,O,aI⟩) ?_
       (try dsimp only);exact ⟨V,qJ,qI,qK⟩
      skip;refine dI hmx [[],[],[0,1],[0,1,2],ra 0 4,[],[],[5,6],[5,6,7],ra 5 4,ra 0 10,ra 0 11,ra 0 12,ra 0 12,ra 0 14,ra 0 15] [] Z [.slice (some ⟨ab,ao,none⟩) la.length vc,vi i,(aJ ab (ao+i*2)),(aJ ab (ao+i*2+0)),vi la[i].key,.slice (some ⟨bb,bo,none⟩) lb.length uc,vi k,(aJ bb (bo+k*2)),(aJ bb (bo+k*2+0)),vi lb[k].key,.bool (decide (la[i].key=lb[k].key)),.bool (decide (la[i].key=lb[k].key)),vi (fF la lb (i+1) (k+1)+jG la[i] lb[k]),vi mx,.bool (decide (fF la lb (i+1) (k+1)+jG la[i] lb[k] ≥ mx)),.bool (decide (fF la lb (i+1) (k+1)+jG la[i] lb[k] ≥ mx))] H (aH ?_ ?_ ?_ ?_ (aH ?_ ?_ ?_ ?_ (aH ?_ ?_ ?_ ?_ (aH ?_ ?_ ?_ ?_ fD)))) ?_
      ·intro ay a w G1 _ ah hc hG HT hv;have H:=HT;clear ah;have Hb:=H.full;have H:=Hb;clear hc;refine kH H (Rm O ?_);clear H;intro a H;refine aj ⟨O,?_⟩;exact aB HT Hb hG hv (fun _ _ _ _ _ h=>h) H O
      ·intro ay a w G1 _ ah hc hG HT hv;have H:=HT;clear ah;have Hb:=H.full;have H:=Hb;clear hc;refine kH H (Rm O ?_);clear H;intro a H;refine aj ⟨O,?_⟩;exact aB HT Hb hG hv (fun _ _ _ _ _ h=>h) H O
      ·intro ay a w G1 _ ah hc hG HT hv;have H:=HT;clear ah;have H:=H.au (hv 0 130 (hc 0 Y) O) O;have H:=H.au (hv 1 131 (hc 1 Y) O) O;have Hb:=H.full;have H:=Hb;clear hc;refine kH H (Ri cu dw O O ?_);clear H;intro a H;refine aj ⟨O,?_⟩;exact aB HT Hb hG hv (fun _ _ _ _ _ h=>h) H O
      ·intro ay a w G1 _ ah hc hG HT hv;have H:=HT;clear ah;have H:=H.au (hv 2 132 (hc 2 Y) O) O;have Hb:=H.full;have H:=Hb;clear hc;refine kH H (Rf uV O ?_);clear H;intro a H;refine aj ⟨O,?_⟩;exact aB HT Hb hG hv (fun _ _ _ _ _ h=>h) H O
      ·intro ay a w G1 _ ah hc hG HT hv;have H:=HT;clear ah;have H:=H.au (hv 3 133 (hc 3 Y) O) O;have Hb:=H.full;have H:=Hb;clear hc;refine kH H (Rg aC O (aK hG (vC 0 _ O)) ?_);clear H;intro a H;refine aj ⟨O,?_⟩;exact aB HT Hb hG hv (fun _ _ _ _ _ h=>h) H O
      ·intro ay a w G1 _ ah hc hG HT hv;have H:=HT;clear ah;have Hb:=H.full;have H:=Hb;clear hc;refine kH H (Rm O ?_);clear H;intro a H;refine aj ⟨O,?_⟩;exact aB HT Hb hG hv (fun _ _ _ _ _ h=>h) H O
      ·intro ay a w G1 _ ah hc hG HT hv;have H:=HT;clear ah;have Hb:=H.full;have H:=Hb;clear hc;refine kH H (Rm O ?_);clear H;intro a H;refine aj ⟨O,?_⟩;exact aB HT Hb hG hv (fun _ _ _ _ _ h=>h) H O
      ·intro ay a w G1 _ ah hc hG HT hv;have H:=HT;clear ah;have H:=H.au (hv 5 135 (hc 5 Y) O) O;have H:=H.au (hv 6 136 (hc 6 Y) O) O;have Hb:=H.full;have H:=Hb;clear hc;refine kH H (Ri cu dw O O ?_);clear H;intro a H;refine aj ⟨O,?_⟩;exact aB HT Hb hG hv (fun _ _ _ _ _ h=>h) H O
      ·intro ay a w G1 _ ah hc hG HT hv;have H:=HT;clear ah;have H:=H.au (hv 7 137 (hc 7 Y) O) O;have Hb:=H.full;have H:=Hb;clear hc;refine kH H (Rf uV O ?_);clear H;intro a H;refine aj ⟨O,?_⟩;exact aB HT Hb hG hv (fun _ _ _ _ _ h=>h) H O
      ·intro ay a w G1 _ ah hc hG HT hv;have H:=HT;clear ah;have H:=H.au (hv 8 138 (hc 8 Y) O) O;have Hb:=H.full;have H:=Hb;clear hc;refine kH H (Rg aC O (aK hG (CG 0 _ O)) ?_);clear H;intro a H;refine aj ⟨O,?_⟩;exact aB HT Hb hG hv (fun _ _ _ _ _ h=>h) H O
      ·intro ay a w G1 _ ah hc hG HT hv;have H:=HT;clear ah;have H:=H.au (hv 4 134 (hc 4 Y) O) O;have H:=H.au (hv 9 139 (hc 9 Y) O) O;have Hb:=H.full;have H:=Hb;clear hc;refine kH H (Rc O ?_);clear H;intro a H;refine aj ⟨O,?_⟩;exact aB HT Hb hG hv (fun _ _ _ _ _ h=>h) H O
      ·intro ay a w G1 _ ah hc hG HT hv;have H:=HT;clear ah;have H:=H.au (hv 10 140 (hc 10 Y) O) O;have Hb:=H.full;have H:=Hb;clear hc;refine kH H (Rm O ?_);clear H;intro a H;refine aj ⟨O,?_⟩;exact aB HT Hb hG hv (fun _ _ _ _ _ h=>h) H O
      ·intro ay a w G1 _ ah hc hG HT hv;have H:=HT;clear ah;have H:=H.au (hv 11 141 (hc 11 Y) O) O;have Hb:=H.full;have H:=Hb;clear hc;refine kH H (YM (aX c0) O ?_);clear H;intro a H;refine aj ⟨O,?_⟩;exact aB HT Hb hG hv (fun _ _ _ _ _ h=>h) H O
      ·intro ay a w G1 _ ah hc hG HT hv;have H:=HT;clear ah;have H:=H.au (hv 11 141 (hc 11 Y) O) O;have Hb:=H.full;have H:=Hb;clear hc;refine kH H (YM (aX c0) O ?_);clear H;intro a H;refine aj ⟨O,?_⟩;exact aB HT Hb hG hv (fun _ _ _ _ _ h=>h) H O
      ·intro ay a w G1 _ ah hc hG HT hv;have H:=HT;clear ah;have H:=H.au (hv 12 142 (hc 12 Y) O) O;have H:=H.au (hv 13 143 (hc 13 Y) O) O;have H:=H.au (hv 11 141 (hc 11 Y) O) O;have Hb:=H.full;have H:=Hb;clear hc;refine kH H (YC (aX c0) O ?_);clear H;intro a H;refine aj ⟨O,?_⟩;exact aB HT Hb hG hv (fun _ _ _ _ _ h=>h) H O
      ·intro ay a w G1 _ ah hc hG HT hv;have H:=HT;clear ah;have H:=H.au (hv 11 141 (hc 11 Y) O) O;have H:=H.au (hv 14 144 (hc 14 Y) O) O;have Hb:=H.full;have H:=Hb;clear hc;refine kH H (Pt (aX c0) O ?_);clear H;intro a H;refine aj ⟨O,?_⟩;exact aB HT Hb hG hv (fun _ _ _ _ _ h=>h) H O
      clear H;intro a w G wm H hv;have H:=H.au (hv 15 145 O O) O;clear hv;refine aj ⟨O,?_⟩;refine sw _ _ ?_;clear sw;refine vV H O (dW c1) ?_;refine lV ?_;refine lN _ _ ?_;clear lN
      first|(have oH:=fun b o h=>wm b o (Bf b o h))|(have oH:=nO)
      refine kP H (SC (Rm O ?_));clear H;intro a H;refine oN ru bP s H wn O O O hs2 O ?_;clear H;intro a H;refine iU bP H wn O (H.hp.gK 2 O (Ak (x:=fun t=>fc (rN t) W) hs2)) O ?_;clear H;intro a H;refine kH H (Rm O (Rm O (Rm O (Rm O (Rm O ?_)))));clear H;intro a H;have H:=H.Ao hs2;refine jT zI (Li:=[_,_,_]++nZ C rN qN X3 R3 Q s) (L:=[_,_,_]) H wn O (Ai _ _ (Hp.owns (Li:=[_,_,_]++nZ C rN qN X3 R3 Q s) H.hp) hs2 (zG (x:=fun t=>fc (C t) M) hs2) hkW (hmid.1 s hs2).1 (kR s hs2) zU V V V) O ?_;clear H;rintro EY G4 Dt a w rfl vB H;have qK:=fun b o h=>vB b o (oH b o h)
      obtain ⟨X4,R4,qJ,qI,H⟩:=St.Ap hs2 hmid hkW kR (by first|omega|(rw [xW hi2 hk3];split <;> omega)) (by rw [List.length_set];exact kR s hs2) H
      refine kH H (Kn iI (SC (Rd O (Rm O ?_))));clear H iI;intro a H;refine aj ?_;refine bE ((s+1,X4,R4,G4)) (by exact H.sub ⟨O,O,O,O,O,O,O,O,O,O,aI⟩) ?_
      (try dsimp only);exact ⟨V,qJ,qI,qK⟩
     skip;refine dI hmx [[],[],[0,1],[0,1,2],ra 0 4,[],[],[5,6],[5,6,7],ra 5 4,ra 0 10,ra 0 11,ra 0 12,ra 0 12,ra 0 14,ra 0 15] [] Z [.slice (some ⟨ab,ao,none⟩) la.length vc,vi i,(aJ ab (ao+i*2)),(aJ ab (ao+i*2+0)),vi la[i].key,.slice (some ⟨bb,bo,none⟩) lb.length uc,vi k,(aJ bb (bo+k*2)),(aJ bb (bo+k*2+0)),vi lb[k].key,.bool (decide (la[i].key=lb[k].key)),.bool (decide (la[i].key=lb[k].key)),undef,undef,undef,.bool false] H (aH ?_ ?_ ?_ ?_ (aH ?_ ?_ ?_ ?_ (aH ?_ ?_ ?_ ?_ (aH (dK 11 (dW c0) O O) (dK 11 (dW c0) O O) (dK 11 (dW c0) O O) ?_ fD)))) ?_
     ·intro ay a w G1 _ ah hc hG HT hv;have H:=HT;clear ah;have Hb:=H.full;have H:=Hb;clear hc;refine kH H (Rm O ?_);clear H;intro a H;refine aj ⟨O,?_⟩;exact aB HT Hb hG hv (fun _ _ _ _ _ h=>h) H O
     ·intro ay a w G1 _ ah hc hG HT hv;have H:=HT;clear ah;have Hb:=H.full;have H:=Hb;clear hc;refine kH H (Rm O ?_);clear H;intro a H;refine aj ⟨O,?_⟩;exact aB HT Hb hG hv (fun _ _ _ _ _ h=>h) H O
     ·intro ay a w G1 _ ah hc hG HT hv;have H:=HT;clear ah;have H:=H.au (hv 0 130 (hc 0 Y) O) O;have H:=H.au (hv 1 131 (hc 1 Y) O) O;have Hb:=H.full;have H:=Hb;clear hc;refine kH H (Ri cu dw O O ?_);clear H;intro a H;refine aj ⟨O,?_⟩;exact aB HT Hb hG hv (fun _ _ _ _ _ h=>h) H O
     ·intro ay a w G1 _ ah hc hG HT hv;have H:=HT;clear ah;have H:=H.au (hv 2 132 (hc 2 Y) O) O;have Hb:=H.full;have H:=Hb;clear hc;refine kH H (Rf uV O ?_);clear H;intro a H;refine aj ⟨O,?_⟩;exact aB HT Hb hG hv (fun _ _ _ _ _ h=>h) H O
     ·intro ay a w G1 _ ah hc hG HT hv;have H:=HT;clear ah;have H:=H.au (hv 3 133 (hc 3 Y) O) O;have Hb:=H.full;have H:=Hb;clear hc;refine kH H (Rg aC O (aK hG (vC 0 _ O)) ?_);clear H;intro a H;refine aj ⟨O,?_⟩;exact aB HT Hb hG hv (fun _ _ _ _ _ h=>h) H O
     ·intro ay a w G1 _ ah hc hG HT hv;have H:=HT;clear ah;have Hb:=H.full;have H:=Hb;clear hc;refine kH H (Rm O ?_);clear H;intro a H;refine aj ⟨O,?_⟩;exact aB HT Hb hG hv (fun _ _ _ _ _ h=>h) H O
     ·intro ay a w G1 _ ah hc hG HT hv;have H:=HT;clear ah;have Hb:=H.full;have H:=Hb;clear hc;refine kH H (Rm O ?_);clear H;intro a H;refine aj ⟨O,?_⟩;exact aB HT Hb hG hv (fun _ _ _ _ _ h=>h) H O
     ·intro ay a w G1 _ ah hc hG HT hv;have H:=HT;clear ah;have H:=H.au (hv 5 135 (hc 5 Y) O) O;have H:=H.au (hv 6 136 (hc 6 Y) O) O;have Hb:=H.full;have H:=Hb;clear hc;refine kH H (Ri cu dw O O ?_);clear H;intro a H;refine aj ⟨O,?_⟩;exact aB HT Hb hG hv (fun _ _ _ _ _ h=>h) H O
     ·intro ay a w G1 _ ah hc hG HT hv;have H:=HT;clear ah;have H:=H.au (hv 7 137 (hc 7 Y) O) O;have Hb:=H.full;have H:=Hb;clear hc;refine kH H (Rf uV O ?_);clear H;intro a H;refine aj ⟨O,?_⟩;exact aB HT Hb hG hv (fun _ _ _ _ _ h=>h) H O
     ·intro ay a w G1 _ ah hc hG HT hv;have H:=HT;clear ah;have H:=H.au (hv 8 138 (hc 8 Y) O) O;have Hb:=H.full;have H:=Hb;clear hc;refine kH H (Rg aC O (aK hG (CG 0 _ O)) ?_);clear H;intro a H;refine aj ⟨O,?_⟩;exact aB HT Hb hG hv (fun _ _ _ _ _ h=>h) H O
     ·intro ay a w G1 _ ah hc hG HT hv;have H:=HT;clear ah;have H:=H.au (hv 4 134 (hc 4 Y) O) O;have H:=H.au (hv 9 139 (hc 9 Y) O) O;have Hb:=H.full;have H:=Hb;clear hc;refine kH H (Rc O ?_);clear H;intro a H;refine aj ⟨O,?_⟩;exact aB HT Hb hG hv (fun _ _ _ _ _ h=>h) H O
     ·intro ay a w G1 _ ah hc hG HT hv;have H:=HT;clear ah;have H:=H.au (hv 10 140 (hc 10 Y) O) O;have Hb:=H.full;have H:=Hb;clear hc;refine kH H (Rm O ?_);clear H;intro a H;refine aj ⟨O,?_⟩;exact aB HT Hb hG hv (fun _ _ _ _ _ h=>h) H O
     ·intro ay a w G1 _ ah hc hG HT hv;have H:=HT;clear ah;have H:=H.au (hv 11 141 (hc 11 Y) O) O;have H:=H.au (hv 14 144 (hc 14 Y) O) O;have Hb:=H.full;have H:=Hb;clear hc;refine kH H (Pf (dW c0) O ?_);clear H;intro a H;refine aj ⟨O,?_⟩;exact aB HT Hb hG hv (fun _ _ _ _ _ h=>h) H O
     clear H;intro a w G wm H hv;have H:=H.au (hv 15 145 O O) O;clear hv;refine aj ⟨O,?_⟩;refine sw _ _ ?_;clear sw;refine vV H O O ?_;refine lV ?_;refine lN _ _ ?_;clear lN
     first|(have oH:=fun b o h=>wm b o (Bf b o h))|(have oH:=nO)
     refine kP H (SC (Rm O ?_));clear H;intro a H;refine oN ru bP s H wn O O O hs2 O ?_;clear H;intro a H;refine iU bP H wn O (H.hp.gK 2 O (Ak (x:=fun t=>fc (rN t) W) hs2)) O ?_;clear H;intro a H;refine kH H (Rm O (Rm O (Rm O (Rm O (Rm O ?_)))));clear H;intro a H;have H:=H.Ao hs2;refine jT zI (Li:=[_,_,_]++nZ C rN qN X3 R3 Q s) (L:=[_,_,_]) H wn O (Ai _ _ (Hp.owns (Li:=[_,_,_]++nZ C rN qN X3 R3 Q s) H.hp) hs2 (zG (x:=fun t=>fc (C t) M) hs2) hkW (hmid.1 s hs2).1 (kR s hs2) zU V V V) O ?_;clear H;rintro EY G4 Dt a w rfl vB H;have qK:=fun b o h=>vB b o (oH b o h)
     obtain ⟨X4,R4,qJ,qI,H⟩:=St.Ap hs2 hmid hkW kR (by first|omega|(rw [xW hi2 hk3];split <;> omega)) (by rw [List.length_set];exact kR s hs2) H
     refine kH H (Kn iI (SC (Rd O (Rm O ?_))));clear H iI;intro a H;refine aj ?_;refine bE ((s+1,X4,R4,G4)) (by exact H.sub ⟨O,O,O,O,O,O,O,O,O,O,aI⟩) ?_
     (try dsimp only);exact ⟨V,qJ,qI,qK⟩
    intro Nq a H
    try have afR:=dF Nq
    have hse:=PS (a:=la) (b:=lb) (k:=k) hi2 V;refine lV ?_;refine lN _ _ ?_;clear lN
    first|(have oH:=fun b o h=>wm b o (Bf b o h))|(have oH:=nO)
    refine kP H (SC (Rm O ?_));clear H;intro a H;refine oN ru bP s H wn O O O hs2 O ?_;clear H;intro a H;refine iU bP H wn O (H.hp.gK 2 O (Ak (x:=fun t=>fc (rN t) W) hs2)) O ?_;clear H;intro a H;refine kH H (Rm O (Rm O (Rm O (Rm O (Rm O ?_)))));clear H;intro a H;have H:=H.Ao hs2;refine jT zI (Li:=[_,_,_]++nZ C rN qN X3 R3 Q s) (L:=[_,_,_]) H wn O (Ai _ _ (Hp.owns (Li:=[_,_,_]++nZ C rN qN X3 R3 Q s) H.hp) hs2 (zG (x:=fun t=>fc (C t) M) hs2) hkW (hmid.1 s hs2).1 (kR s hs2) zU V V V) O ?_;clear H;rintro EY G4 Dt a w rfl vB H;have qK:=fun b o h=>vB b o (oH b o h)
    obtain ⟨X4,R4,qJ,qI,H⟩:=St.Ap hs2 hmid hkW kR (by first|omega|(rw [xW hi2 hk3];split <;> omega)) (by rw [List.length_set];exact kR s hs2) H
    refine kH H (Kn iI (SC (Rd O (Rm O ?_))));clear H iI;intro a H;refine aj ?_;refine bE ((s+1,X4,R4,G4)) (by exact H.sub ⟨O,O,O,O,O,O,O,O,O,O,aI⟩) ?_
    (try dsimp only);exact ⟨V,qJ,qI,qK⟩
   intro jP a H
   try have p61:=dF jP
   refine dJ ?_;refine jd _ _ ?_;clear jd;refine kP H (SC (Rm O (Rs O (Ra O ?_))));clear H;intro a H;refine aj ?_;refine bE ((k,X3,R3,g3)) (by exact H.sub ⟨O,O,O,O,O,O,O,O,O,aI⟩) ?_
   try dsimp only
   exact ⟨V,kR,by
    obtain rfl:s=2:=by omega
    exact hmid.close,nO⟩
  intro h57 a H
  try have p57:=dF h57
  refine dJ ?_;refine dR _ _ ?_;clear dR;refine rP ?_;refine bV EW (cs:=[_,_]) H wn O O (H.hp.bR 3 O O) O ?_;clear H;intro a H;refine bV EW (cs:=[_,_]) H wn O O (H.hp.bR 2 O O) O ?_;clear H;intro a H;refine bg EW 2 (vs:=[_,_]) H wn O ?_;clear H;intro w H;refine bg EW 3 (vs:=[_,_]) H wn O ?_;clear H;intro w H;refine kH H (Kn dG (SC (Rm O (Rs O (Ra O ?_)))));clear H dG;intro a H;refine aj ?_;refine bE ((i,qN,rN,X2,Q,R2,g2)) (by exact H.aiV.sub ⟨O,O,O,O,O,O,O,O,aI⟩) ?_
  try dsimp only
  exact ⟨V,hX2,fun t ht=>hQ t ht,fun t ht=>(hR2 t ht).1,fun _=>by
   obtain rfl:q=0:=by omega
   exact hR2,gH⟩
 intro kI a H
 try have p51:=dF kI
 refine dJ ?_;refine aT _ _ ?_;clear aT;refine gy (fun _ wS=>?_)
 obtain rfl:j=0:=by omega
 have Gj:=Ul (fC _);refine rP ?_;refine oN ru bP 0 H wn O O O Y O ?_;clear H;intro a H;refine kH H (Ro bP 3 O ?_);clear H;intro a H;refine bD cB aC 0 H wn O O O V O ?_;clear H;intro a H;refine iU aC H wn O (H.hp.gK 6 O (by rw [eH,Nat.zero_mul];exact uZ ((Gj 0 Y).2 0 (bS _) V))) O ?_;clear H;intro a H;refine kH H (Rf acH O ?_);clear H;intro a H;refine bg aC 1 (vs:=[_]) H wn O ?_;clear H;intro w H;refine aj ?_;refine wS _ _ ?_;clear wS;refine gU (fun _ wT=>?_);refine bV ET (cs:=[_,_,_,_]) H wn O O (H.hp.bR 1 O O) O ?_;clear H;intro a H;refine bg ET 0 (vs:=[_,_,_,_]) H wn O ?_;clear H;intro w H;refine wT _ _ ?_;clear wT;refine aU ?_;refine (leave1 H results41 (.cons (Kw ET (cs:=[_,_,_,_]) H O O (H.hp.bR 0 O O)) .nil) ?_).1;exact H.rt ⟨_,_,_,O⟩
end
theorem abp:bL 38:=bN func38 O
theorem Qx:prog.underlying 75=some (.map 9 3):=by kernel_rfl
theorem Jc:gL prog 102 0 0:=⟨Z⟩
theorem wG:sD prog 43 [(0,1),(1,1)] [.int .i64 0,.int .i64 0]:=⟨Z,Z⟩
def vE:Nat->List ByteArray->List MapEntry
 | _,[]=>[]
 | i,k :: r=>⟨.string k,vi ((i+1:Nat):Int),i⟩ :: vE (i+1) r
theorem Vy:∀ (i:Nat) (l:List ByteArray),(vE i l).length=l.length
 | _,[]=>rfl
 | i,_ :: r=>by simp [vE,Vy (i+1) r]
theorem Vz (x:ByteArray):∀ (i:Nat) (l:List ByteArray),vE i (l++[x])=vE i l++[⟨.string x,vi ((i+l.length+1:Nat):Int),i+l.length⟩]
 | _,[]=>rfl
 | i,k :: r=>by
  rw [nU,vE,Vz x (i+1) r,vE,nU,ko,show i+1+r.length=i+(r.length+1) by omega]
def pE (s:ByteArray):Nat->List ByteArray->Option Nat
 | _,[]=>none
 | i,k :: r=>if k=s then some (i+1) else pE s (i+1) r
theorem TQ (s:ByteArray):∀ (i j:Nat) (l:List ByteArray),Instr.findNow .string (.string s) (vE i l) j=some ((pE s i l).map fun n=>(j+(n - 1 - i),vi (n:Int)))
 | _,_,[]=>rfl
 | i,j,k :: r=>by
  have ih:=TQ s (i+1) (j+1) r
  have hk:∀ (l:List ByteArray) (i n:Nat),pE s i l=some n->i < n:=by
   intro l
   induction l with
   | nil=>intro i n h;cases h
   | cons a t ih =>
    intro i n h;rw [pE] at h
    split at h
    ·cases h;omega
    have:=ih _ _ h;omega
  by_cases e:k=s
  ·subst e;have hb:(k == k)=true:=(MapKept.bytes_beq k k).2 O
   simp only [vE,Instr.findNow,Instr.sameNow,hb,pE,aN]
   simp
  have hb:(s == k)=false:=by
   cases h:(s == k) with
   | false=>rfl
   | true=>exact absurd ((MapKept.bytes_beq s k).1 h).symm e
  simp only [vE,Instr.findNow,Instr.sameNow,hb,pE,aL e,ih]
  cases h:pE s (i+1) r with
  | none=>rfl
  | some n =>
   have:=hk _ _ _ h
   simp only [rJ,kZ,gY,and_true]
   omega
def CQ (l:List ByteArray) (s:ByteArray):Nat:=(pE s 0 l).getD (l.length+1)
def xR (l:List ByteArray) (s:ByteArray):List ByteArray:=if (pE s 0 l).isSome then l else l++[s]
def kD (t:gM):Int:=if t.kind=3 then 1 else min (t.dx - t.from_) 1000
def qY (q:List dM × List ByteArray) (x:gM × ByteArray):List dM × List ByteArray:=(q.1++[⟨(CQ q.2 x.2:Nat),kD x.1⟩],xR q.2 x.2)
def eG (l:List (gM × ByteArray)) (ks:List ByteArray):List dM × List ByteArray:=l.foldl qY ([],ks)
theorem H9 {l:List (gM × ByteArray)} {k:Nat} (h:k < l.length) (ks:List ByteArray):eG (l.take (k+1)) ks=qY (eG (l.take k) ks) l[k]:=by
 rw [eG,jq h,List.foldl_append];rfl
theorem aeZ (l:List ByteArray) (s:ByteArray):(xR l s).length<=l.length+1:=by
 unfold xR;split
 ·omega
 simp
theorem ze (l:List (gM × ByteArray)) (ks:List ByteArray):∀ k,k<=l.length->(eG (l.take k) ks).1.length=k∧(eG (l.take k) ks).2.length<=ks.length+k
 | 0,_=>by simp [eG]
 | k+1,h=>by
  have ih:=ze l ks k V;have h2:=aeZ (eG (l.take k) ks).2 l[k].2;rw [H9 V]
  simp only [qY,fQ,List.length_singleton]
  omega
def dD (s:ByteArray):List (gM × ByteArray):=(jR (fH s)).map fun t=>(t,wI s t)
def jk (l:List dM):List ak:=(l.map fun x=>[vi x.key,vi x.weight]).flatten
theorem XA (G:GH):∀ (B A:List dM),cO G 2 (A.map dM.dat) (jk A)->cO G 2 ((A++B).map dM.dat) (jk (A++B))
 | [],A,h=>by rw [lU];exact h
 | x :: B,A,h=>by
  have h2:=h.snoc (aik G x) O;have h3:=XA G B (A++[x]) (by simpa [jk] using h2)
  simpa using h3
theorem Qg (G:GH) (A:List dM):cO G 2 (A.map dM.dat) (jk A):=XA G A [] cO.nil
abbrev DI (b:Nat) (l:List ByteArray):Nat × Obj:=(b,.map (vE 0 l).toArray l.length)
theorem map_push (l:List ByteArray) (x:ByteArray):(vE 0 l).toArray.push ⟨.string x,vi ((l.length+1:Nat):Int),l.length⟩=(vE 0 (l++[x])).toArray:=by
 rw [Vz,List.push_toArray,eH]
def qX (l:List (gM × ByteArray)) (ks:List ByteArray) (k:Nat):List dM:=(eG (l.take k) ks).1.take 2048
theorem aii (l:List (gM × ByteArray)) (ks:List ByteArray) {k:Nat} (h:k<=l.length):(qX l ks k).length=min k 2048:=by
 rw [qX,List.length_take,(ze l ks k h).1];omega
theorem Xz {l:List (gM × ByteArray)} {ks:List ByteArray} {k:Nat} (h:k < l.length) (hk:k < 2048) {x:dM} (hx:(eG (l.take (k+1)) ks).1=(eG (l.take k) ks).1++[x]):qX l ks (k+1)=qX l ks k++[x]:=by
 have hl:=(ze l ks k V).1;have e1:((eG (l.take k) ks).1++[x]).take 2048=(eG (l.take k) ks).1++[x]:=gG (by rw [fQ,List.length_singleton];omega);have e2:((eG (l.take k) ks).1).take 2048=(eG (l.take k) ks).1:=gG V;rw [qX,qX,hx,e1,e2]
theorem Xy {l:List (gM × ByteArray)} {ks:List ByteArray} {k:Nat} (h:k < l.length) (hk:2048<=k) {x:dM} (hx:(eG (l.take (k+1)) ks).1=(eG (l.take k) ks).1++[x]):qX l ks (k+1)=qX l ks k:=by
 have hl:=(ze l ks k V).1;rw [qX,qX,hx,List.take_append_of_le_length V]
theorem Ez {e t:Nat} {v:ak} {n n':Nat} {A A':List ak} {Lo:OL} (h:aW e t v n A Lo) (hn:n=n') (hA:A=A'):aW e t v n' A' Lo:=by subst hn;subst hA;exact h
set_option maxHeartbeats 1000000 in
theorem RX {G0 G:GH} {w0:World} {bm:Nat} (ks:List ByteArray) (hO:jN G [DI bm ks] w0) (h0:∀ b o,G0 b=some o->G b=some o) (s:ByteArray) (hs:mO G0 s) (hz:s.size<=1073741824) (hks:ks.length<=1099511627776) :
  Calls prog 24 #[.string s,.map (some bm)] w0 (jO w0 G [DI bm ks] fun u G' L'=>L'=[DI bm (eG (dD s) ks).2]∧aF G' (.sl 2 (((eG (dD s) ks).1.take 2048).map dM.dat)) u):=by
 have hml:maxLen=9223372036854775807:=rfl;have hcl:=DL s
 have hlc:(fH s).length=(ow s).length:=by simp [fH,iL]
 have htl:=H6 (fH s).length (fH s);rw [show qW (fH s).length (fH s)=jR (fH s) from rfl] at htl
 have hll:(dD s).length=(jR (fH s)).length:=by simp [dD]
 have hrl:(iD s).length<=s.size:=Ew s s.size 0;refine mP (N:=72) (T:=[(0,_),(1,_)]) func24 O ntmps24 O O hO ?_;intro a H;refine kP H (SR fun _ K1=>av K1 O (SR fun _ K2=>Rm O ?_));clear H K1;intro a H;refine s_call MX H wn O (PX _ _ H.ro h0 s hs) O ?_;clear H;rintro v17 vM a w ⟨x17,rfl,htk⟩ mE H;obtain ⟨tA,tc,rfl,-,-,-⟩:=htk.slice;rw [bJ] at *;refine kH H (Rm O ?_);clear H;intro a H;(iterate 2 refine eZ H wn O O O ?_;clear H;intro a H);refine kH H (Ra O (av K2 O (SR fun _ K3=>Rm O ?_)));clear H K2;intro a H;refine s_call abp H wn O (ahK _ _ H.ro (fun b o h=>mE b o (h0 b o h)) s hs) O ?_;clear H;rintro v22 Dq a w ⟨x22,rfl,htx⟩ wu H;obtain ⟨xA,xc,rfl,-,-,-⟩:=htx.slice;rw [bJ] at *
 have hlx:(rX s).length=(jR (fH s)).length:=by simp [rX]
 refine kH H (Rm O ?_);clear H;intro a H;(iterate 2 refine eZ H wn O O O ?_;clear H;intro a H);refine kH H (Ra O (av K3 O (SR fun _ K4=>av K4 O (SQ fun _ K5=>SR fun _ K6=>Rm O (Rl tF O (Rm O (Kz K6 (SB ?_))))))));clear H K3 K4 K6;intro a H;skip;refine dY (ι:=Nat × ak × OL × GH) (Tc:=[(1,_),(7,_),(25,_),(26,_)]) (Lc:=[]) (fun gh=>[(9,gh.2.1),(27,vi gh.1)]) (fun gh=>[DI bm (eG ((dD s).take gh.1) ks).2]++gh.2.2.1) (fun gh=>gh.2.2.2) (fun gh=>gh.1<=(dD s).length∧aW 43 2 gh.2.1 (min gh.1 2048) (jk (qX (dD s) ks gh.1)) gh.2.2.1∧(∀ b o,Dq b=some o->gh.2.2.2 b=some o)) (fun gh=>(dD s).length - gh.1) ((0,.slice none 0 0,[],Dq)) (by exact H.sub ⟨O,O,O,O,O,O,aI⟩) ?_ ?_
 ·exact ⟨fC _,aW.nil,fun _ _ h=>h⟩
 clear H;rintro ⟨k,v,Lo,g⟩ a w hI H;dsimp only at hI H;obtain ⟨hk,hrw,hgm⟩:=hI;dsimp only [lca,bW] at H;refine kP H (SR fun _ K7=>Rc O (Kz K7 (SQ fun _ K8=>Cd O ?_ ?_))) <;> clear H K7
 ·intro fI a H
  try have p28:=dT fI
  have hk1:k < (dD s).length:=by omega
  obtain ⟨b,o,rfl,hrow⟩:=Qf ((htk.mono wu).mono hgm) (show k < (jR (fH s)).length by omega);obtain ⟨t,ht⟩:∃ t,t=(jR (fH s))[k]'V:=⟨_,O⟩;have htb:=KR s t (by rw [ht];exact dV _);rw [<- ht] at hrow;obtain ⟨tb,pG,rfl,hrx⟩:=HY (htx.mono hgm) (show k < (rX s).length by omega)
  have hxt:(rX s)[k]'V=wI s t:=by simp [rX,ht]
  rw [hxt] at hrx
  have hlk:(dD s)[k]=(t,wI s t):=by simp [dD,ht]
  obtain ⟨x,hx⟩:∃ x,x=wI s t:=⟨_,O⟩;rw [<- hx] at hrx hlk;have hst:=H9 hk1 ks;rw [hlk] at hst;have hpl:=ze (dD s) ks k V;obtain ⟨kk,hkk⟩:∃ kk,kk=(eG ((dD s).take k) ks).2:=⟨_,O⟩;rw [<- hkk] at H hpl;obtain ⟨an,han⟩:∃ an,an=pE x 0 kk:=⟨_,O⟩;have hfn:=TQ x 0 0 kk;rw [<- han] at hfn;obtain ⟨vA,vc,rfl,GY,GZ⟩:=hrw.shape;refine kP H (Kc K8 (SQ fun _ K9=>SB (SR fun _ aP=>Rm O (Ri tF nR O O ?_))));clear H K8;intro a H;refine bV nR (cs:=[_,_,_]) H wn O O (fun j v hj=>H.hp.aS (hrow j v hj)) O ?_;clear H;intro a H;refine gX nR H wn O ?_;clear H;intro b11 a w Un H;refine kH H (Ra O ?_);clear H;intro a H;refine bg nR 0 (vs:=[_,_,_]) H wn O ?_;clear H;intro w H;refine aP _ _ ?_;clear aP;refine kP H (SR fun _ aT=>Rm O (Rm O (Rm O (Ri kX iW O O (Rg iW O (by assumption) ?_)))));clear H;intro a H;refine agK (i:=1) (zv:=vi 0) _ Qx kL Z H wn O O O (by trivial) (by simpa using hfn) O ?_;clear H;intro a H;refine kH H (Rm O ?_);clear H;intro a H;(iterate 2 refine eZ H wn O O O ?_;clear H;intro a H);refine kH H (Ra O (av aT O (SQ fun _ bH=>SR fun _ bG=>Rm O (Rn O (Kz bG (Cd O ?_ ?_)))))) <;> clear H aT bG
  ·intro iQ a H
   try have p42:=dT iQ
   obtain rfl:an=none:=by
    cases an with
    | none=>rfl
    | some n=>simp [Ab] at iQ
   have GV:kk++[x]=(eG ((dD s).take (k+1)) ks).2:=by rw [hst];simp [qY,xR,<- hkk,<- han]
   have GU:(eG ((dD s).take (k+1)) ks).1=(eG ((dD s).take k) ks).1++[⟨((eG ((dD s).take (k+1)) ks).2.length:Int),kD t⟩]:=by rw [<- GV,hst];simp [qY,CQ,<- hkk,<- han]
   refine kP H (SR fun _ bX=>Rm O ?_);clear H;intro a H;refine agI (i:=1) Qx H wn O O O ?_;clear H;intro a H;rw [List.size_toArray,Vy] at H;refine kH H (Rd O (av bX O (SC (Rm O (Rm O (Rm O (Ri kX iW O O (Rg iW O (by assumption) ?_))))))));clear H bX;intro a H;refine kH H (Rm O ?_);clear H;intro a H;rw [show ((kk.length:Int)+1)=((kk.length+1:Nat):Int) from rfl] at H;refine agM (i:=1) Qx kL H wn O O O O (by trivial) (by simpa using hfn) ?_;clear H;intro w H;rw [map_push,show kk.length+1=(kk++[x]).length by simp,GV] at H;refine kH H (Kn bH (SQ fun _ dG=>SR fun _ dR=>Rm O (Rl cu O (Rc O (Kz dR (Cd O ?_ ?_)))))) <;> clear H bH dR
   ·intro oF a H
    try have p54:=dT oF
    refine dJ ?_;refine K9 _ _ ?_;clear K9;refine kP H (SC (Rd O (Rm O ?_)));clear H;intro a H;refine aj ?_;refine bE ((k+1,.slice vA (min k 2048) vc,Lo,g)) (by exact (H.dz (Pl:=[_,_]) (bZ:=[_]) [1] Y O).sub ⟨O,O,O,O,O,O,aI⟩) ?_
    (try dsimp only);exact ⟨V,Ez hrw V (by rw [Xy hk1 V GU]),hgm⟩
   intro oF a H
   try have p54:=dF oF
   have Gs:k < 2048:=by omega
   have hon:=Xz hk1 Gs GU;refine kP H (Kc dG (SR fun _ fu=>fG DZ aC 0 O O (fG DY aC 0 O O (Rs O ?_))));clear H dG;intro a H;refine Hz H wn O O O ?_;clear H;intro a H;refine kH H (av fu O (SQ fun _ gF=>SR fun _ fU=>fG Jc aC 0 O O (Rc O (Kz fU (Cd O ?_ ?_))))) <;> clear H fu fU
   ·intro h63 a H
    try have p63:=dT h63
    have hwt:kD t=1:=aN (by simpa using h63);refine kP H (SC (bO gF O (SC (Rm O (Rm O (Rm O ?_))))));clear H gF;intro a H;refine ku wG [_,_] H wn O O O O ?_;clear H;intro a H;refine eU cu dw [_,_] [_,_] H wn O O O O O (by intro i q h;match i,h with|0,h=>exact h|n+1,h=>simp at h) O O ?_;clear H;intro ng a w Jz H
    first
     | refine dX (Li:=[_,_,_]) (Lo:=Lo) (news:=[vi (kx:Int),vi 1]) cu dw O O H wn O O hrw O (H.hp.bR 0 O O) O V V O ?_
     | refine dX (Li:=[_,_,_]) (Lo:=Lo) (news:=[vi (kx:Int),vi (min (t.dx - t.from_) 1000)]) cu dw O O H wn O O hrw O (H.hp.bR 0 O O) O V V O ?_
     | refine dX (Li:=[_,_,_]) (Lo:=Lo) (news:=[vi ((eG ((dD s).take (k+1)) ks).2.length:Int),vi 1]) cu dw O O H wn O O hrw O (H.hp.bR 0 O O) O V V O ?_
     | refine dX (Li:=[_,_,_]) (Lo:=Lo) (news:=[vi ((eG ((dD s).take (k+1)) ks).2.length:Int),vi (min (t.dx - t.from_) 1000)]) cu dw O O H wn O O hrw O (H.hp.bR 0 O O) O V V O ?_
    clear H;intro v69 wV a w CK H
    have CO:aW 43 2 v69 (min (k+1) 2048) (jk (qX (dD s) ks (k+1))) wV:=by
     refine Ez CK V ?_;rw [hon,hwt]
     simp [jk]
    refine kH H (bO K9 O (SC (Rd O (Rm O ?_))));clear H K9;intro a H;refine aj ?_;refine bE ((k+1,v69,wV,g)) (by exact (H.dz (Pl:=[_,_,_]) (bZ:=[_]) [2] Y O).sub ⟨O,O,O,O,O,O,aI⟩) ?_
    (try dsimp only);exact ⟨V,CO,hgm⟩
   intro h63 a H
   try have p63:=dF h63
   have hwt:kD t=min (t.dx - t.from_) 1000:=aL (by simpa using h63);refine kP H (Kc gF (SC (Rm O (Rm O (Rm O ?_)))));clear H gF;intro a H;refine ku wG [_,_] H wn O O O O ?_;clear H;intro a H;refine eU cu dw [_,_] [_,_] H wn O O O O O (by intro i q h;match i,h with|0,h=>exact h|n+1,h=>simp at h) O O ?_;clear H;intro ng a w Jz H
   first
    | refine dX (Li:=[_,_,_]) (Lo:=Lo) (news:=[vi (kx:Int),vi 1]) cu dw O O H wn O O hrw O (H.hp.bR 0 O O) O V V O ?_
    | refine dX (Li:=[_,_,_]) (Lo:=Lo) (news:=[vi (kx:Int),vi (min (t.dx - t.from_) 1000)]) cu dw O O H wn O O hrw O (H.hp.bR 0 O O) O V V O ?_
    | refine dX (Li:=[_,_,_]) (Lo:=Lo) (news:=[vi ((eG ((dD s).take (k+1)) ks).2.length:Int),vi 1]) cu dw O O H wn O O hrw O (H.hp.bR 0 O O) O V V O ?_
    | refine dX (Li:=[_,_,_]) (Lo:=Lo) (news:=[vi ((eG ((dD s).take (k+1)) ks).2.length:Int),vi (min (t.dx - t.from_) 1000)]) cu dw O O H wn O O hrw O (H.hp.bR 0 O O) O V V O ?_
   clear H;intro v69 wV a w CK H
   have CO:aW 43 2 v69 (min (k+1) 2048) (jk (qX (dD s) ks (k+1))) wV:=by
    refine Ez CK V ?_;rw [hon,hwt]
    simp [jk]
   refine kH H (bO K9 O (SC (Rd O (Rm O ?_))));clear H K9;intro a H;refine aj ?_;refine bE ((k+1,v69,wV,g)) (by exact (H.dz (Pl:=[_,_,_]) (bZ:=[_]) [2] Y O).sub ⟨O,O,O,O,O,O,aI⟩) ?_
   (try dsimp only);exact ⟨V,CO,hgm⟩
  intro iQ a H
  try have p42:=dF iQ
  obtain ⟨kx,rfl⟩:∃ n,an=some n:=by
   cases an with
   | none=>simp [Ab] at iQ
   | some n=>exact ⟨n,O⟩
  have GV:kk=(eG ((dD s).take (k+1)) ks).2:=by rw [hst];simp [qY,xR,<- hkk,<- han]
  have GU:(eG ((dD s).take (k+1)) ks).1=(eG ((dD s).take k) ks).1++[⟨(kx:Int),kD t⟩]:=by rw [hst];simp [qY,CQ,<- hkk,<- han]
  dsimp only [Ab,Option.map_some] at H;rw [GV] at H;refine kP H (Kc bH (SQ fun _ jd=>SR fun _ jf=>Rm O (Rl cu O (Rc O (Kz jf (Cd O ?_ ?_)))))) <;> clear H bH jf
  ·intro oF a H
   try have p54:=dT oF
   refine dJ ?_;refine K9 _ _ ?_;clear K9;refine kP H (SC (Rd O (Rm O ?_)));clear H;intro a H;refine aj ?_;refine bE ((k+1,.slice vA (min k 2048) vc,Lo,g)) (by exact (H.dz (Pl:=[_,_]) (bZ:=[_]) [1] Y O).sub ⟨O,O,O,O,O,O,aI⟩) ?_
   (try dsimp only);exact ⟨V,Ez hrw V (by rw [Xy hk1 V GU]),hgm⟩
  intro oF a H
  try have p54:=dF oF
  have Gs:k < 2048:=by omega
  have hon:=Xz hk1 Gs GU;refine kP H (Kc jd (SR fun _ iF=>fG DZ aC 0 O O (fG DY aC 0 O O (Rs O ?_))));clear H jd;intro a H;refine Hz H wn O O O ?_;clear H;intro a H;refine kH H (av iF O (SQ fun _ jM=>SR fun _ iI=>fG Jc aC 0 O O (Rc O (Kz iI (Cd O ?_ ?_))))) <;> clear H iF iI
  ·intro h63 a H
   try have p63:=dT h63
   have hwt:kD t=1:=aN (by simpa using h63);refine kP H (SC (bO jM O (SC (Rm O (Rm O (Rm O ?_))))));clear H jM;intro a H;refine ku wG [_,_] H wn O O O O ?_;clear H;intro a H;refine eU cu dw [_,_] [_,_] H wn O O O O O (by intro i q h;match i,h with|0,h=>exact h|n+1,h=>simp at h) O O ?_;clear H;intro ng a w Jz H
   first
    | refine dX (Li:=[_,_,_]) (Lo:=Lo) (news:=[vi (kx:Int),vi 1]) cu dw O O H wn O O hrw O (H.hp.bR 0 O O) O V V O ?_
    | refine dX (Li:=[_,_,_]) (Lo:=Lo) (news:=[vi (kx:Int),vi (min (t.dx - t.from_) 1000)]) cu dw O O H wn O O hrw O (H.hp.bR 0 O O) O V V O ?_
    | refine dX (Li:=[_,_,_]) (Lo:=Lo) (news:=[vi ((eG ((dD s).take (k+1)) ks).2.length:Int),vi 1]) cu dw O O H wn O O hrw O (H.hp.bR 0 O O) O V V O ?_
    | refine dX (Li:=[_,_,_]) (Lo:=Lo) (news:=[vi ((eG ((dD s).take (k+1)) ks).2.length:Int),vi (min (t.dx - t.from_) 1000)]) cu dw O O H wn O O hrw O (H.hp.bR 0 O O) O V V O ?_
   clear H;intro v69 wV a w CK H
   have CO:aW 43 2 v69 (min (k+1) 2048) (jk (qX (dD s) ks (k+1))) wV:=by
    refine Ez CK V ?_;rw [hon,hwt]
    simp [jk]
   refine kH H (bO K9 O (SC (Rd O (Rm O ?_))));clear H K9;intro a H;refine aj ?_;refine bE ((k+1,v69,wV,g)) (by exact (H.dz (Pl:=[_,_,_]) (bZ:=[_]) [2] Y O).sub ⟨O,O,O,O,O,O,aI⟩) ?_
   (try dsimp only);exact ⟨V,CO,hgm⟩
  intro h63 a H
  try have p63:=dF h63
  have hwt:kD t=min (t.dx - t.from_) 1000:=aL (by simpa using h63);refine kP H (Kc jM (SC (Rm O (Rm O (Rm O ?_)))));clear H jM;intro a H;refine ku wG [_,_] H wn O O O O ?_;clear H;intro a H;refine eU cu dw [_,_] [_,_] H wn O O O O O (by intro i q h;match i,h with|0,h=>exact h|n+1,h=>simp at h) O O ?_;clear H;intro ng a w Jz H
  first
   | refine dX (Li:=[_,_,_]) (Lo:=Lo) (news:=[vi (kx:Int),vi 1]) cu dw O O H wn O O hrw O (H.hp.bR 0 O O) O V V O ?_
   | refine dX (Li:=[_,_,_]) (Lo:=Lo) (news:=[vi (kx:Int),vi (min (t.dx - t.from_) 1000)]) cu dw O O H wn O O hrw O (H.hp.bR 0 O O) O V V O ?_
   | refine dX (Li:=[_,_,_]) (Lo:=Lo) (news:=[vi ((eG ((dD s).take (k+1)) ks).2.length:Int),vi 1]) cu dw O O H wn O O hrw O (H.hp.bR 0 O O) O V V O ?_
   | refine dX (Li:=[_,_,_]) (Lo:=Lo) (news:=[vi ((eG ((dD s).take (k+1)) ks).2.length:Int),vi (min (t.dx - t.from_) 1000)]) cu dw O O H wn O O hrw O (H.hp.bR 0 O O) O V V O ?_
  clear H;intro v69 wV a w CK H
  have CO:aW 43 2 v69 (min (k+1) 2048) (jk (qX (dD s) ks (k+1))) wV:=by
   refine Ez CK V ?_;rw [hon,hwt]
   simp [jk]
  refine kH H (bO K9 O (SC (Rd O (Rm O ?_))));clear H K9;intro a H;refine aj ?_;refine bE ((k+1,v69,wV,g)) (by exact (H.dz (Pl:=[_,_,_]) (bZ:=[_]) [2] Y O).sub ⟨O,O,O,O,O,O,aI⟩) ?_
  (try dsimp only);exact ⟨V,CO,hgm⟩
 intro fI a H
 try have p28:=dF fI
 refine dJ ?_;refine K5 _ _ ?_;clear K5;refine kP H (SR fun _ lJ=>Rm O (av lJ O ?_));clear H lJ;intro a H;refine aU ?_
 have hke:k=(dD s).length:=by omega
 subst hke;have hlq:=aii (dD s) ks (bS _);obtain ⟨Gr,hmr,hrep,H⟩:=St.kF (Li:=[_]) (Lo:=Lo) H hrw (rows:=(qX (dD s) ks (dD s).length).map dM.dat) (by rw [bJ];omega) (Qg _ _);rw [qX,qE] at hrep;rw [qE] at H;refine lv H results24 O ?_;exact H.hp.dP ⟨O,hrep⟩
theorem Tj:bL 24:=bN func24 O
theorem abr:bL 40:=bN func40 O
theorem abt:bL 41:=bN func41 O
theorem abq:bL 39:=bN func39 O
theorem ajb {N:Int} {t:gM} (h:0<=t.from_∧t.from_ < t.dx∧t.dx<=N):1<=kD t∧kD t<=1000:=by
 unfold kD;split
 ·decide
 omega
theorem KS {l:List (gM × ByteArray)} (ks:List ByteArray) (h:∀ x∈l,1<=kD x.1∧kD x.1<=1000):∀ k,k<=l.length->∀ x∈(eG (l.take k) ks).1,1<=x.weight∧x.weight<=1000
 | 0,_=>by simp [eG]
 | k+1,hk=>by
  have ih:=KS ks h k V;rw [H9 V];intro x hx
  rcases tV.1 hx with hx|hx
  ·exact ih x hx
  rw [uP] at hx;subst hx;exact h _ (dV _)
theorem Qe (s:ByteArray):∀ x∈dD s,1<=kD x.1∧kD x.1<=1000:=by
 intro x hx;obtain ⟨t,ht,rfl⟩:=List.mem_map.1 hx;exact ajb (KR s t ht)
def nH (a:ByteArray):List dM:=(eG (dD a) []).1.take 2048
def qZ (a b:ByteArray):List dM:=(eG (dD b) (eG (dD a) []).2).1.take 2048
theorem XF (a:ByteArray):(nH a).length<=2048:=by rw [nH,List.length_take];omega
theorem aiq (a b:ByteArray):(qZ a b).length<=2048:=by rw [qZ,List.length_take];omega
theorem KQ (s:ByteArray):(dD s).length<=s.size+1:=by
 have hcl:=DL s
 have hlc:(fH s).length=(ow s).length:=by simp [fH,iL]
 have htl:=H6 (fH s).length (fH s);rw [show qW (fH s).length (fH s)=jR (fH s) from rfl] at htl
 simp only [dD,bJ];omega
theorem H7 (l:List (gM × ByteArray)) (ks:List ByteArray):(eG l ks).1.length=l.length∧(eG l ks).2.length<=ks.length+l.length:=by
 have h:=ze l ks l.length (bS _)
 rwa [qE] at h
theorem KT (a:ByteArray):∀ x∈nH a,1<=x.weight∧x.weight<=1000:=by
 have h:=KS [] (Qe a) _ (bS _);rw [qE] at h;exact fun x hx=>h x (List.mem_of_mem_take hx)
theorem Qj (a b:ByteArray):∀ x∈qZ a b,1<=x.weight∧x.weight<=1000:=by
 have h:=KS (eG (dD a) []).2 (Qe b) _ (bS _);rw [qE] at h;exact fun x hx=>h x (List.mem_of_mem_take hx)
theorem RY {G0:GH} (G:GH) (w0:World) (hG:Hold G w0) (h0:∀ b o,G0 b=some o->G b=some o) (s t:ByteArray) (hs:mO G0 s) (ht:mO G0 t) (hz1:s.size<=1073741824) (hz2:t.size<=1073741824) :
  Calls prog 10 #[.string s,.string t] w0 (bQ w0 G fun u G'=>∃ x y,u=.tuple #[x,y,vi 0]∧aF G' (.sl 2 ((nH s).map dM.dat)) x∧aF G' (.sl 2 ((qZ s t).map dM.dat)) y):=by
 have hl1:=KQ s;have hl2:=(H7 (dD s) []).2;rw [List.length_nil] at hl2;refine eN [(0,_),(1,_)] func10 O ntmps10 O O hG ?_;intro a H;refine kP H (SR fun _ K1=>Ra O (Ra O (av K1 O (SQ fun _ K2=>SR fun _ K3=>Rm O ?_))));clear H K1;intro a H;refine s_call FX H wn O (Ih _ _ H.ro s V) O ?_;clear H;rintro v9 _ a w ⟨rfl,rfl⟩ - H;rw [hs.ok] at H;refine kH H (Rn O (Rm O (Sp 11 O ?_ ?_))) <;> clear H
 ·intro h11 a H
  exact absurd h11 Y
 intro h11 a H
 try have oI:=dF h11
 refine kH H (YM h11 O ?_);clear H;intro a H;refine s_call FX H (wg H O O h11) O (Ih _ _ H.ro t V) O ?_;clear H;rintro v13 _ a w ⟨rfl,rfl⟩ - H;rw [ht.ok] at H;refine kH H (YN h11 O (Pf h11 O (Kz K3 (Cd O ?_ ?_)))) <;> clear H K3
 ·intro lC a H
  exact absurd lC Y
 intro lC a H
 try have oK:=dF lC
 refine lV ?_;refine K2 _ _ ?_;clear K2;refine gU (fun _ K4=>?_);refine agL H wn O ?_;clear H;intro bm a w Uo H;refine kH H (av K4 O (SR fun _ K5=>Rm O (Rm O ?_)));clear H K4;intro a H;refine jT Tj (Li:=[]) (L:=[DI bm []]) H wn O (RX [] (Hp.owns (Li:=[]) H.hp) h0 s hs hz1 Y) O ?_;clear H;rintro v19 oP YK a w ⟨rfl,GL⟩ iT H;refine kH H (Rm O (Rm O ?_));clear H;intro a H;refine jT Tj (Li:=[]) (L:=[DI bm _]) H wn O (RX _ (Hp.owns (Li:=[]) H.hp) (fun b o h=>iT b o (h0 b o h)) t ht hz2 V) O ?_;clear H;rintro v22 Dq YP a w ⟨rfl,aev⟩ wu H;refine kH H (Ra O (Ra O (av K5 O ?_)));clear H K5;intro a H;refine aU ?_;refine (bK H results10 (.cons (aG H O) (.cons (aG H O) (.cons (aG H O) .nil))) ?_).1;exact H.rt ⟨_,_,O,GL.mono wu,aev⟩
def jL:List dM->Int
 | []=>0
 | x :: l=>x.weight+jL l
theorem ahS (l:List dM) (x:dM):jL (l++[x])=jL l+x.weight:=by
 induction l with
 | nil=>simp [jL]
 | cons y l ih=>simp only [nU,jL,ih];omega
theorem KM:∀ (l:List dM),(∀ x∈l,1<=x.weight∧x.weight<=1000)->(l.length:Int)<=jL l∧jL l<=1000*l.length
 | [],_=>by simp [jL]
 | x :: l,h=>by
  have h1:=h x (nN ..);have h2:=KM l fun y hy=>h y (tZ _ hy)
  simp only [jL,ko];omega
def yE (a b:List dM):Int:=if jL (a++b)=0 then 1000 else (2000*fF a b 0 0).tdiv (jL (a++b))
theorem Sj {l:List dM} (h:∀ x∈l,1<=x.weight∧x.weight<=1000) (hl:l.length<=2048):uR l=0:=by
 rw [uR,aZ,aN];rw [gW];intro x hx;have:=h x hx
 simp [yR,this]
theorem XB {G:GH} {l:List dM} {v:ak} (h:aF G (.sl 2 (l.map dM.dat)) v):aY G (EO l) [v]:=by
 simp only [EO,aY]
 exact ⟨_,_,O,h,O⟩
set_option maxHeartbeats 1000000 in
theorem Rx (G:GH) (w0:World) (hG:Hold G w0) (la lb:List dM) (v u:ak) (hv:aF G (.sl 2 (la.map dM.dat)) v) (hu:aF G (.sl 2 (lb.map dM.dat)) u) (ha:la.length<=2048) (hb:lb.length<=2048) (Bj:∀ x∈la,1<=x.weight∧x.weight<=1000) (hwb:∀ x∈lb,1<=x.weight∧x.weight<=1000) :
  Calls prog 25 #[v,u] w0 (bQ w0 G fun r G'=>r=.tuple #[vi (yE la lb),vi 0]):=by
 obtain ⟨vA,vc,rfl,hc1,hc2,-⟩:=hv.slice;obtain ⟨uA,uc,rfl,hd1,hd2,-⟩:=hu.slice;have hml:maxLen=9223372036854775807:=rfl;have hsb:=EI Bj hwb _ 0 0 (bS _)
 have hok:FI la lb=0:=by rw [FI,aN (Sj Bj ha),Sj hwb hb]
 have hll:(la++lb).length=la.length+lb.length:=fQ;have hsw:=KM (la++lb) (fun x hx=>(tV.1 hx).elim (Bj x) (hwb x));(iterate 2 rw [bJ] at *);refine eN [(0,_),(1,_)] func25 O ntmps25 O O hG ?_;intro a H;refine kP H (SR fun _ K1=>Ra O (av K1 O (SQ fun _ K2=>SR fun _ K3=>Rm O (Rm O ?_))));clear H K1;intro a H;refine s_call abq H wn O (Zu _ _ H.ro la lb _ _ hv hu) O ?_;clear H;rintro v12 _ a w ⟨rfl,rfl⟩ - H;rw [hok] at H;refine kH H (av K3 O (SR fun _ K4=>Rm O (Rc O (Kz K4 (Cd O ?_ ?_))))) <;> clear H K3 K4
 ·intro eD a H
  exact absurd eD Y
 intro eD a H
 try have jC:=dF eD
 refine kP H (Kc K2 (SR fun _ K5=>av K5 O (SQ fun _ K6=>SR fun _ K7=>Rm O (Rm O ?_))));clear H K2 K5;intro a H;refine eU Ig Ib [_,_] [_,_] H wn O O O O O (by intro i q h;match i,h with|0,h=>exact h|1,h=>exact h|n+2,h=>simp at h) O O ?_;clear H;intro b18 a w Jy H;obtain ⟨QI,hm18,aea,H⟩:=H.kE;refine s_call abr H wn O (aak _ _ H.ro [la,lb] _ (aF.rV (xs:=[.slice vA la.length vc,.slice uA lb.length uc]) aea O (bS _) Y O (by simpa using ((cO.nil (sz:=1)).snoc (XB (hv.mono hm18)) O).snoc (XB (hu.mono hm18)) O)) (by simp;omega)) rfl ?_;clear H;rintro v19 oP a w GL iT H;rw [show [la,lb].flatten=la++lb by simp] at GL;obtain ⟨cA,cc,rfl,he1,he2,-⟩:=GL.slice;rw [bJ] at *;refine kH H (Rl cu O (Rm O (Kz K7 (SB ?_))));clear H K7;intro a H;skip;refine dY (ι:=Nat) (Tc:=[(0,_),(1,_),(19,_),(20,_)]) (Lc:=[]) (fun gh=>[(7,vi (jL ((la++lb).take gh))),(21,vi gh)]) (fun gh=>[]) (fun gh=>oP) (fun gh=>gh<=(la++lb).length) (fun gh=>(la++lb).length - gh) (0) (by exact H.sub ⟨O,O,O,O,O,O,aI⟩) ?_ ?_
 ·exact fC _
 clear H;intro k a w hI H;have hk:=hI;dsimp only [lca,bW] at H;refine kP H (SR fun _ K8=>Rc O (Kz K8 (SQ fun _ K9=>Cd O ?_ ?_))) <;> clear H K8
 ·intro h22 a H
  try have mX:=dT h22
  have hk1:k < (la++lb).length:=by omega
  obtain ⟨b,o,rfl,hrow⟩:=C9 GL hk1
  have hsu:jL ((la++lb).take (k+1))=jL ((la++lb).take k)+(la++lb)[k].weight:=by rw [jq hk1,ahS]
  have hin:=KM ((la++lb).take (k+1)) (fun x hx=>(tV.1 (List.mem_of_mem_take hx)).elim (Bj x) (hwb x))
  have htk:((la++lb).take (k+1)).length<=(la++lb).length:=by rw [List.length_take];omega
  refine kP H (Kc K9 (SQ fun _ aP=>SB (SR fun _ aT=>Ri cu dw O O ?_)));clear H K9;intro a H;refine bV dw (cs:=[_,_]) H wn O O (fun j v hj=>H.hp.aS (hrow j v hj)) O ?_;clear H;intro a H;refine gX dw H wn O ?_;clear H;intro b9 a w NR H;refine bg dw 0 (vs:=[_,_]) H wn O ?_;clear H;intro w H;refine aT _ _ ?_;clear aT;refine kP H (SC (Rm O (fG F3 aC 0 O O (Rd O ?_))));clear H;intro a H;rw [<- hsu] at H;refine kH H (bO aP O (SC (Rd O (Rm O ?_))));clear H aP;intro a H;refine aj ?_;refine bE ((k+1)) (by exact (H.dz (Pl:=[_]) (bZ:=[]) [] Y O).sub ⟨O,O,O,O,O,O,aI⟩) ?_
  omega
 intro h22 a H
 try have mX:=dF h22
 refine dJ ?_;refine K6 _ _ ?_;clear K6;refine kP H (SQ fun _ bH=>SR fun _ bG=>Rm O (Rc O (Kz bG (Cd O ?_ ?_)))) <;> clear H bG
 ·intro h31 a H
  try have p31:=dT h31
  refine kP H (SR fun _ bX=>Ra O (av bX O ?_));clear H bX;intro a H;refine aU ?_;refine (bK H results25 (.cons (aG H O) (.cons (aG H O) .nil)) ?_).1;exact H.rt (by rw [yE,aN (by rw [gG V] at p31;exact p31)])
 intro h31 a H
 try have p31:=dF h31
 refine lV ?_;refine bH _ _ ?_;clear bH;refine gy (fun _ dG=>?_);rw [show (la++lb).take k=la++lb from gG V] at H p31;refine kP H (SC (Rm O (Rm O ?_)));clear H;intro a H;refine s_call abt H wn O (ahz _ _ H.ro la lb _ _ ((hv.mono hm18).mono iT) ((hu.mono hm18).mono iT) ha hb Bj hwb) O ?_;clear H;rintro v34 Yz a w ⟨q1,q2,q3,rfl⟩ uz H;refine aha (off:=0) ⟨Z⟩ H wn O O O ?_;clear H;intro a H;refine CX _ H wn O O O V V O ?_;clear H;intro a H;refine kH H (Rm O ?_);clear H;intro a H;have hq1:0<=(2000*fF la lb 0 0).tdiv (jL (la++lb)):=Int.tdiv_nonneg V V
 have hq2:(2000*fF la lb 0 0).tdiv (jL (la++lb))<=2000*fF la lb 0 0:=by
  rw [Int.tdiv_eq_ediv_of_nonneg V];exact Int.ediv_le_self _ V
 refine WS _ H wn O O V O V V O ?_;clear H;intro a H;refine kH H (Ra O (bO dG O ?_));clear H dG;intro a H;refine aU ?_;refine (bK H results25 (.cons (aG H O) (.cons (aG H O) .nil)) ?_).1;exact H.rt (by rw [yE,aZ])
theorem abO:bL 73:=bN func73 O
theorem PY (p q:ByteArray):(p.toList == q.toList)=decide (p=q):=by
 rw [ByteArray.toList_eq,ByteArray.toList_eq]
 by_cases h:p=q
 ·subst h;simp
 simp only [h,decide_false,beq_eq_false_iff_ne,ne_eq]
 exact fun e=>h (Go.WideShapes.bytes_inj e)
theorem Vm (x:ByteArray):∀ (l:List ByteArray) (i k:Nat),k<=l.length->(∀ q (h:q < l.length),q < k->¬ l[q]=x)->(∀ h:k < l.length,l[k]=x)->pE x i l=if k < l.length then some (i+k+1) else none
 | [],i,k,hk,_,_=>by rw [pE,aL (by simp)]
 | y :: l,i,0,_,_,h1=>by rw [pE,aN (show y=x from h1 (by simp)),aN (by simp)]
 | y :: l,i,k+1,hk,h0,h1=>by
  have hy:¬ y=x:=h0 0 (by simp) V;rw [pE,aL hy,Vm x l (i+1) k (by simpa using hk) (fun q h hq=>h0 (q+1) (by simpa using h) V) (fun h=>h1 (by simpa using h))]
  simp only [ko,Nat.add_lt_add_iff_right]
  split
  ·congr 1;omega
  rfl
theorem Vp {x:ByteArray} {l:List ByteArray} {k:Nat} (hk:k<=l.length) (h0:∀ q (h:q < l.length),q < k->¬ l[q]=x) (h1:∀ h:k < l.length,l[k]=x):CQ l x=k+1∧xR l x=if k=l.length then l++[x] else l:=by
 have h:=Vm x l 0 k hk h0 h1;rw [CQ,xR,h]
 by_cases e:k < l.length
 ·rw [aN e,aL (show ¬ k=l.length by omega)];exact ⟨by simp,O⟩
 rw [aL e,aN (show k=l.length by omega)];exact ⟨by first|(simp;done)|(simp;omega),rfl⟩
theorem agj {e:Nat} {v:ak} {K K':List ByteArray} {Lo:OL} (h:aW e 1 v K.length (K.map Value.string) Lo) (hK:K=K'):aW e 1 v K'.length (K'.map Value.string) Lo:=by subst hK;exact h
theorem VY (B L4 L5 L6:OL):(B++(L4++(L5++L6))).Perm ((B++(L4++L5))++L6):=by
 rw [oU B,oU L4]
theorem ji (B L4 L5 L6:OL):(B++(L4++(L5++L6))).Perm ((B++(L5++L6))++L4):=by
 rw [oU B];exact List.perm_append_comm.append_left B
theorem jm (B L4 L5 L6:OL):(B++(L4++(L5++L6))).Perm ((B++(L4++L6))++L5):=by
 rw [oU B,oU L4];exact (List.perm_append_comm.append_left L4).append_left B
def iO (a b:ByteArray) (d:Nat):ByteArray:=if d=0 then a else b
def EG (a:ByteArray) (d:Nat):List ByteArray:=if d=0 then [] else (eG ((dD a).take 2048) []).2
def Bn (a:ByteArray):List dM:=(eG ((dD a).take 2048) []).1
def uF (a b:ByteArray):List dM:=(eG ((dD b).take 2048) (eG ((dD a).take 2048) []).2).1
theorem Xr {α:Type} (l:List α) (n:Nat):l.take (min l.length n)=l.take n:=by
 by_cases h:l.length<=n
 ·rw [gG V,gG h]
 rw [Nat.min_eq_right V]
def cur (a b:ByteArray) (d i:Nat):List dM × List ByteArray:=eG ((dD (iO a b d)).take i) (EG a d)
def iY (a b:ByteArray) (d i:Nat):List dM:=if d=0 then (cur a b 0 i).1 else Bn a
def iZ (a b:ByteArray) (d i:Nat):List dM:=if d=0 then [] else if d=1 then (cur a b 1 i).1 else uF a b
def nX (a b:ByteArray) (d i:Nat):List ByteArray:=if d < 2 then (cur a b d i).2 else (cur a b 1 (min (dD b).length 2048)).2
theorem VU {a b:ByteArray} {d:Nat} (hd:d < 2):iY a b d (min (dD (iO a b d)).length 2048)=iY a b (d+1) 0∧iZ a b d (min (dD (iO a b d)).length 2048)=iZ a b (d+1) 0∧nX a b d (min (dD (iO a b d)).length 2048)=nX a b (d+1) 0:=by
 rcases (show d=0∨d=1 by omega) with rfl|rfl
 ·simp [iY,iZ,nX,cur,iO,EG,Bn,eG,Xr]
 simp [iY,iZ,nX,cur,iO,EG,uF,Xr]
theorem afQ {a b:ByteArray} {d i:Nat} (hd:d<=2) (hi:d < 2->i<=(dD (iO a b d)).length):(iY a b d i).length<=a.size+1∧(iZ a b d i).length<=b.size+1∧(nX a b d i).length<=a.size+b.size+2:=by
 have ha:=KQ a;have hb:=KQ b;have h1:=H7 ((dD a).take 2048) [];have h2:=H7 ((dD b).take 2048) (eG ((dD a).take 2048) []).2;rw [List.length_nil,List.length_take] at h1;rw [List.length_take] at h2
 have hX:(Bn a).length<=a.size+1:=by rw [Bn];omega
 have hY:(uF a b).length<=b.size+1:=by rw [uF];omega
 rcases (show d=0∨d=1∨d=2 by omega) with rfl|rfl|rfl
 ·have hi0:i<=(dD a).length:=by simpa [iO] using hi Y
  have h3:=ze (dD a) [] i hi0;rw [List.length_nil] at h3
  simp only [iY,iZ,nX,cur,iO,EG,if_true,aN (show (0:Nat) < 2 by decide),List.length_nil]
  omega
 ·have hi0:i<=(dD b).length:=by simpa [iO] using hi Y
  have h3:=ze (dD b) (eG ((dD a).take 2048) []).2 i hi0
  simp only [iY,iZ,nX,cur,iO,EG,aL (show ¬ (1:Nat)=0 by decide),if_true,aN (show (1:Nat) < 2 by decide)]
  omega
 have h3:=ze (dD b) (eG ((dD a).take 2048) []).2 (min (dD b).length 2048) V
 simp only [iY,iZ,nX,cur,iO,EG,aL (show ¬ (2:Nat)=0 by decide),aL (show ¬ (2:Nat)=1 by decide),aL (show ¬ (1:Nat)=0 by decide),aL (show ¬ (2:Nat) < 2 by decide)]
 omega
theorem aas {a b:ByteArray} {d i:Nat} (h:i < (dD (iO a b d)).length):cur a b d (i+1)=qY (cur a b d i) (dD (iO a b d))[i]:=H9 h _
set_option maxHeartbeats 2000000 in
theorem afy {G0:GH} (G:GH) (w0:World) (hG:Hold G w0) (h0:∀ b o,G0 b=some o->G b=some o) (s t:ByteArray) (hs:mO G0 s) (ht:mO G0 t) :
    Calls prog 52 #[.string s,.string t] w0 (bQ w0 G fun u G'=>∃ x y,u=.tuple #[x,y]∧aF G' (.sl 2 ((Bn s).map dM.dat)) x∧aF G' (.sl 2 ((uF s t).map dM.dat)) y):=by
  have hml:maxLen=9223372036854775807:=rfl;have hz1:=hs.size;have hz2:=ht.size;refine eN [(0,_),(1,_)] func52 O ntmps52 O O hG ?_;intro a H;refine kP H (SR fun _ K1=>Ra O (av K1 O (SR fun _ K2=>av K2 O (SQ fun _ K3=>SR fun _ K4=>av K4 O (SB ?_)))));clear H K1 K2 K4;intro a H;skip;refine dY (ι:=Nat × ak × ak × ak × OL × OL × OL × GH) (Tc:=[(0,_),(1,_)]) (Lc:=[]) (fun gh=>[(4,gh.2.1),(5,gh.2.2.1),(6,gh.2.2.2.1),(7,vi gh.1)]) (fun gh=>[]++(gh.2.2.2.2.1++(gh.2.2.2.2.2.1++gh.2.2.2.2.2.2.1))) (fun gh=>gh.2.2.2.2.2.2.2) (fun gh=>gh.1<=2∧aW 43 2 gh.2.1 (iY s t gh.1 0).length (jk (iY s t gh.1 0)) gh.2.2.2.2.1∧aW 43 2 gh.2.2.1 (iZ s t gh.1 0).length (jk (iZ s t gh.1 0)) gh.2.2.2.2.2.1∧aW 9 1 gh.2.2.2.1 (nX s t gh.1 0).length ((nX s t gh.1 0).map Value.string) gh.2.2.2.2.2.2.1∧(∀ b o,G b=some o->gh.2.2.2.2.2.2.2 b=some o)) (fun gh=>2 - gh.1) ((0,.slice none 0 0,.slice none 0 0,.slice none 0 0,[],[],[],G)) (by exact H.sub ⟨O,O,O,O,O,O,aI⟩) ?_ ?_
  · exact ⟨fC _,aW.nil,aW.nil,aW.nil,fun _ _ h=>h⟩
  clear H;rintro ⟨d,v4,v5,v6,L4,L5,L6,g⟩ a w hI H;dsimp only at hI H;obtain ⟨hd,hr4,UO,hr6,hgm⟩:=hI;dsimp only [lca,bW] at H;refine kP H (SQ fun _ K5=>SR fun _ K6=>Rm O (Rc O (Kz K6 (Cd O ?_ ?_)))) <;> clear H K6
  · intro eO a H
    try have mW:=dT eO
    have hd1:d < 2:=by omega
    have hsd:mO G0 (iO s t d):=by unfold iO;split <;> assumption
    have hsz:(iO s t d).size<=1073741824:=by unfold iO;split <;> assumption
    refine kP H (Kc K5 (SQ fun _ K7=>SB (SR fun _ K8=>Rm O (Rm O ?_))));clear H K5;intro a H;refine eU kX iW [_,_] [_,_] H wn O O O O O (by intro i q h;match i,h with|0,h=>exact h|1,h=>exact h|n+2,h=>simp at h) O O ?_;clear H;intro rM a w NM H;refine kH H (Rm O ?_);clear H;intro a H;refine bD kX iW d H wn O O O V O ?_;clear H;intro a H
    refine iU iW H wn O (H.hp.gK 0 O (show _=some (Value.string (iO s t d)) by rcases (show d=0∨d=1 by omega) with rfl|rfl <;> rfl)) rfl ?_;clear H;intro a H
    refine kH H (av K8 O (SR fun _ K9=>Rm O ?_));clear H K8;intro a H;refine s_call MX H wn O (PX _ _ H.ro (fun b o h=>hgm b o (h0 b o h)) _ hsd) O ?_;clear H;rintro v28 Aw a w ⟨x28,rfl,htk⟩ Cy H;obtain ⟨tA,tc,rfl,-,-,-⟩:=htk.slice;rw [bJ] at *
    have hll:(dD (iO s t d)).length=(jR (fH (iO s t d))).length:=by simp [dD]
    have htl:=KQ (iO s t d);refine kH H (Rm O ?_);clear H;intro a H;(iterate 2 refine eZ H wn O O O ?_;clear H;intro a H);refine kH H (Ra O (av K9 O (SR fun _ aP=>av aP O (SB ?_))));clear H K9 aP;intro a H;skip;refine dY (ι:=Nat × ak × ak × ak × OL × OL × OL × GH) (Tc:=[(0,_),(1,_),(7,_),(8,_),(9,_)]) (Lc:=[(_,_)]) (fun gh=>[(4,gh.2.1),(5,gh.2.2.1),(6,gh.2.2.2.1),(11,vi gh.1)]) (fun gh=>[]++(gh.2.2.2.2.1++(gh.2.2.2.2.2.1++gh.2.2.2.2.2.2.1))) (fun gh=>gh.2.2.2.2.2.2.2) (fun gh=>gh.1<=min (dD (iO s t d)).length 2048∧aW 43 2 gh.2.1 (iY s t d gh.1).length (jk (iY s t d gh.1)) gh.2.2.2.2.1∧aW 43 2 gh.2.2.1 (iZ s t d gh.1).length (jk (iZ s t d gh.1)) gh.2.2.2.2.2.1∧aW 9 1 gh.2.2.2.1 (nX s t d gh.1).length ((nX s t d gh.1).map Value.string) gh.2.2.2.2.2.2.1∧(∀ b o,G b=some o->gh.2.2.2.2.2.2.2 b=some o)∧(∀ b o,Aw b=some o->gh.2.2.2.2.2.2.2 b=some o)) (fun gh=>(dD (iO s t d)).length - gh.1) ((0,v4,v5,v6,L4,L5,L6,Aw)) (by exact H.sub ⟨O,O,O,O,O,O,O,O,O,aI⟩) ?_ ?_
    · exact ⟨fC _,hr4,UO,hr6,fun b o h=>Cy b o (hgm b o h),fun _ _ h=>h⟩
    clear H;rintro ⟨i,w4,w5,w6,M4,M5,M6,g2⟩ a w hI H;dsimp only at hI H;obtain ⟨hi,hq4,mV,zX,gH,hgt⟩:=hI;have hol:=afQ (a:=s) (b:=t) (d:=d) (i:=i) V (fun _=>by omega);dsimp only [lca,bW] at H;refine kP H (SQ fun _ aT=>SR fun _ bH=>Rm O (Rm O (Rl tF O (Rc O (Rm O (Sp 35 O ?_ ?_)))))) <;> clear H
    · intro uq a H
      try have p35:=dT uq
      refine kH H (YM uq O (YC uq O (Pt uq O (Kz bH (Cd O ?_ ?_))))) <;> clear H bH
      · intro Ck a H
        try have p38:=dT Ck
        have hi1:i < (dD (iO s t d)).length:=by omega
        obtain ⟨tb,pG,rfl,hrow⟩:=Qf (htk.mono hgt) (show i < (jR (fH (iO s t d))).length by omega);obtain ⟨tok,Oy⟩:∃ x,x=(jR (fH (iO s t d)))[i]'V:=⟨_,O⟩;have hrl:(iD (iO s t d)).length<=(iO s t d).size:=Ew _ _ 0;have htb:=KR (iO s t d) tok (by rw [Oy];exact dV _);rw [<- Oy] at hrow
        have hlk:(dD (iO s t d))[i]=(tok,wI (iO s t d) tok):=by simp [dD,Oy]
        obtain ⟨x,hx⟩:∃ x,x=wI (iO s t d) tok:=⟨_,O⟩
        have hf0:tok.from_=(tok.from_.toNat:Int):=by omega
        have ht0:tok.dx=(tok.dx.toNat:Int):=by omega
        have hxe:(iO s t d).extract (iK (iO s t d) 0 tok.from_.toNat) (iK (iO s t d) 0 tok.dx.toNat)=x:=by rw [hx,wI,aix hsd.ok V]
        have hst:=aas (a:=s) (b:=t) (d:=d) hi1;rw [hlk,<- hx] at hst;refine kP H (Kc aT (SQ fun _ bG=>SB (SQ fun _ bX=>?_)));clear H aT;intro a H;refine dI hmx [[],[],[],[1,2],[1,2,3],ra 1 4,[],[],[6,7],[6,7,8],ra 6 4,ra 0 11,ra 0 12,ra 0 13,ra 0 13,ra 0 14,ra 0 16] [] Z [.string (iO s t d),.slice (some ⟨tb,pG,none⟩) (jR (fH (iO s t d))).length tc,vi i,(aJ tb (pG+i*3)),(aJ tb (pG+i*3+1)),vi tok.from_,.slice (some ⟨tb,pG,none⟩) (jR (fH (iO s t d))).length tc,vi i,(aJ tb (pG+i*3)),(aJ tb (pG+i*3+2)),vi tok.dx,.tuple #[.string x,vi 0],.tuple #[.string x,vi 0],.string x,vi 0,.string x,vi 0] H (aH ?_ ?_ ?_ ?_ (aH ?_ ?_ ?_ ?_ (aH ?_ ?_ ?_ ?_ (aH ?_ ?_ ?_ ?_ (eB ?_ fD))))) ?_
        · intro ay a w G1 _ ah hc hG HT hv;have H:=HT;clear ah;have Hb:=H.full;have H:=Hb;clear hc;refine kH H (Rm O ?_);clear H;intro a H;refine aj ⟨O,?_⟩;exact aB HT Hb hG hv (fun _ _ _ _ _ h=>h) H O
        · intro ay a w G1 _ ah hc hG HT hv;have H:=HT;clear ah;have Hb:=H.full;have H:=Hb;clear hc;refine kH H (Rm O ?_);clear H;intro a H;refine aj ⟨O,?_⟩;exact aB HT Hb hG hv (fun _ _ _ _ _ h=>h) H O
        · intro ay a w G1 _ ah hc hG HT hv;have H:=HT;clear ah;have Hb:=H.full;have H:=Hb;clear hc;refine kH H (Rm O ?_);clear H;intro a H;refine aj ⟨O,?_⟩;exact aB HT Hb hG hv (fun _ _ _ _ _ h=>h) H O
        · intro ay a w G1 _ ah hc hG HT hv;have H:=HT;clear ah;have H:=H.au (hv 1 43 (hc 1 Y) O) O;have H:=H.au (hv 2 44 (hc 2 Y) O) O;have Hb:=H.full;have H:=Hb;clear hc;refine bD tF nR i H wn O O O V O ?_;clear H;intro a H;refine aj ⟨O,?_⟩;exact aB HT Hb hG hv (fun _ _ _ _ _ h=>h) H O
        · intro ay a w G1 _ ah hc hG HT hv;have H:=HT;clear ah;have H:=H.au (hv 3 45 (hc 3 Y) O) O;have Hb:=H.full;have H:=Hb;clear hc;refine kH H (Rf DY O ?_);clear H;intro a H;refine aj ⟨O,?_⟩;exact aB HT Hb hG hv (fun _ _ _ _ _ h=>h) H O
        · intro ay a w G1 _ ah hc hG HT hv;have H:=HT;clear ah;have H:=H.au (hv 4 46 (hc 4 Y) O) O;have Hb:=H.full;have H:=Hb;clear hc;refine kH H (Rg aC O (aK hG (hrow 1 _ O)) ?_);clear H;intro a H;refine aj ⟨O,?_⟩;exact aB HT Hb hG hv (fun _ _ _ _ _ h=>h) H O
        · intro ay a w G1 _ ah hc hG HT hv;have H:=HT;clear ah;have Hb:=H.full;have H:=Hb;clear hc;refine kH H (Rm O ?_);clear H;intro a H;refine aj ⟨O,?_⟩;exact aB HT Hb hG hv (fun _ _ _ _ _ h=>h) H O
        · intro ay a w G1 _ ah hc hG HT hv;have H:=HT;clear ah;have Hb:=H.full;have H:=Hb;clear hc;refine kH H (Rm O ?_);clear H;intro a H;refine aj ⟨O,?_⟩;exact aB HT Hb hG hv (fun _ _ _ _ _ h=>h) H O
        · intro ay a w G1 _ ah hc hG HT hv;have H:=HT;clear ah;have H:=H.au (hv 6 48 (hc 6 Y) O) O;have H:=H.au (hv 7 49 (hc 7 Y) O) O;have Hb:=H.full;have H:=Hb;clear hc;refine bD tF nR i H wn O O O V O ?_;clear H;intro a H;refine aj ⟨O,?_⟩;exact aB HT Hb hG hv (fun _ _ _ _ _ h=>h) H O
        · intro ay a w G1 _ ah hc hG HT hv;have H:=HT;clear ah;have H:=H.au (hv 8 50 (hc 8 Y) O) O;have Hb:=H.full;have H:=Hb;clear hc;refine kH H (Rf DZ O ?_);clear H;intro a H;refine aj ⟨O,?_⟩;exact aB HT Hb hG hv (fun _ _ _ _ _ h=>h) H O
        · intro ay a w G1 _ ah hc hG HT hv;have H:=HT;clear ah;have H:=H.au (hv 9 51 (hc 9 Y) O) O;have Hb:=H.full;have H:=Hb;clear hc;refine kH H (Rg aC O (aK hG (hrow 2 _ O)) ?_);clear H;intro a H;refine aj ⟨O,?_⟩;exact aB HT Hb hG hv (fun _ _ _ _ _ h=>h) H O
        · intro ay a w G1 _ ah hc hG HT hv;have H:=HT;clear ah;have H:=H.au (hv 0 42 (hc 0 Y) O) O;have H:=H.au (hv 5 47 (hc 5 Y) O) O;have H:=H.au (hv 10 52 (hc 10 Y) O) O;have Hb:=H.full;have H:=Hb;clear hc;rw [hf0,ht0] at H;refine s_call abO H wn O (ahu _ _ H.ro (iO s t d) V hsd.ok tok.from_.toNat tok.dx.toNat V V) O ?_;clear H;rintro v53 YG a w rfl adv H;rw [hxe] at H;rw [<- hf0,<- ht0] at H;refine aj ⟨O,?_⟩;exact oD Z (fun _ _ _ _ _ h=>h) O O HT Hb hG hv adv (rfl) H
        · intro ay a w G1 _ ah hc hG HT hv;have H:=HT;clear ah;have H:=H.au (hv 11 53 (hc 11 Y) O) O;have Hb:=H.full;have H:=Hb;clear hc;refine kH H (Rm O ?_);clear H;intro a H;refine aj ⟨O,?_⟩;exact aB HT Hb hG hv (fun _ _ _ _ _ h=>h) H O
        · intro ay a w G1 _ ah hc hG HT hv;have H:=HT;clear ah;have H:=H.au (hv 12 41 (hc 12 Y) O) O;have Hb:=H.full;have H:=Hb;clear hc;refine eZ H wn O O O ?_;clear H;intro a H;refine aj ⟨O,?_⟩;exact aB HT Hb hG hv (fun _ _ _ _ _ h=>h) H O
        · intro ay a w G1 _ ah hc hG HT hv;have H:=HT;clear ah;have H:=H.au (hv 12 41 (hc 12 Y) O) O;have Hb:=H.full;have H:=Hb;clear hc;refine eZ H wn O O O ?_;clear H;intro a H;refine aj ⟨O,?_⟩;exact aB HT Hb hG hv (fun _ _ _ _ _ h=>h) H O
        · intro ay a w G1 _ ah hc hG HT hv;have H:=HT;clear ah;have H:=H.au (hv 13 54 (hc 13 Y) O) O;have Hb:=H.full;have H:=Hb;clear hc;refine kH H (Ra O ?_);clear H;intro a H;refine aj ⟨O,?_⟩;exact aB HT Hb hG hv (fun _ _ _ _ _ h=>h) H O
        · intro ay a w G1 _ ah hc hG HT hv;have H:=HT;clear ah;have H:=H.au (hv 14 55 (hc 14 Y) O) O;have Hb:=H.full;have H:=Hb;clear hc;refine kH H (Ra O ?_);clear H;intro a H;refine aj ⟨O,?_⟩;exact aB HT Hb hG hv (fun _ _ _ _ _ h=>h) H O
        clear H;intro a w G yM H hv;have H:=H.au (hv 15 12 O O) O;clear hv;refine aj ⟨O,?_⟩;refine bX _ _ ?_;clear bX;refine gy (fun _ dG=>?_);obtain ⟨K,hK⟩:∃ K,K=(cur s t d i).2:=⟨_,O⟩
        have hoK:nX s t d i=K:=by rw [nX,aN hd1,hK]
        rw [hoK] at zX hol;obtain ⟨nA,nc,rfl,hn1,hn2⟩:=zX.shape;have kQ:=yM;refine kP H (SC (bO dG O (SQ fun _ dR=>SB ?_)));clear H dG;intro a H;skip;refine dY (ι:=Nat) (Tc:=[(0,_),(1,_),(4,_),(5,_),(6,_),(7,_),(8,_),(9,_),(11,_),(12,_)]) (Lc:=[(_,_)]) (fun gh=>[(14,vi gh)]) (fun gh=>[]++(M4++(M5++M6))) (fun gh=>G) (fun gh=>gh<=K.length∧∀ q (h:q < K.length),q < gh->¬ K[q]=x) (fun gh=>K.length - gh) (0) (by exact H.sub ⟨O,O,O,O,O,O,O,O,O,O,O,aI⟩) ?_ ?_
        · exact ⟨fC _,fun q _ h=>absurd h (Nat.not_lt_zero _)⟩
        clear H;intro k a w hI H;obtain ⟨hk,hne⟩:=hI;dsimp only [lca,bW] at H;refine kP H (SQ fun _ fu=>SR fun _ gF=>Rm O (Rm O (Rl kX O (Rc O (Rm O (Sp 60 O ?_ ?_)))))) <;> clear H
        · intro iH a H
          try have p60:=dT iH
          have hk1:k < K.length:=by omega
          obtain ⟨nb,akk,OT,en,hM6,hc1,hc2,hc3,hc4⟩:∃ b cap cur,Value.slice nA K.length nc=.slice (some ⟨b,0,none⟩) K.length cap∧M6=[(b,.cells cur 9 (0,0))]∧K.length<=cap∧cap<=maxLen∧cur.size=cap*1∧cur.toList.take (K.length*1)=K.map Value.string:=by
            rcases zX.2 with ⟨_,h,_⟩|h
            · omega
            exact h
          obtain ⟨en1,-,en2⟩:=Value.slice.inj en;subst en1;subst en2
          have hcell:OT[k]?=some (.string K[k]):=by
            have h1:(OT.toList.take (K.length*1))[k]?=some (.string K[k]):=by rw [hc4,nM,iR hk1];rfl
            rw [tX,dS] at h1
            simpa using h1
          refine kH H (YM iH O (YM iH O ?_));clear H;intro a H;refine bD kX iW k H (wg H O O iH) O O O hk1 O ?_;clear H;intro a H;refine iU iW H (wg H O O iH) O (H.hp.J8 (show (nb,Obj.cells OT 9 (0,0))∈_ by rw [hM6];simp) (by rw [eH,Nat.mul_one];exact hcell)) O ?_;clear H;intro a H;refine kH H (YM iH O ?_);clear H;intro a H;refine WR H (wg H O O iH) O O O ?_;clear H;intro a H;refine kH H (Pt iH O (Kz gF (Cd O ?_ ?_))) <;> clear H gF
          · intro Cm a H
            try have p67:=dT Cm
            refine kP H (Kc fu (SB (SC (Rm O (Rd O (Ra O ?_))))));clear H fu;intro a H;refine aj ?_;refine bE ((k+1)) (by exact H.sub ⟨O,O,O,O,O,O,O,O,O,O,O,aI⟩) ?_
            exact ⟨V,fun q h hq=>by
                by_cases e:q=k
                · subst e;intro e2;rw [e2] at Cm;simp [PY] at Cm
                exact hne q h V⟩
          intro Cm a H
          try have p67:=dF Cm
          refine dJ ?_;refine dR _ _ ?_;clear dR;refine gy (fun _ fU=>?_);refine gy (fun _ jd=>?_)
          have hkey:=Vp (x:=x) (l:=K) hk hne (fun h=>by
            first
              | exact absurd p60 V
              | (have h2:(!(K[k].toList == x.toList))=false:=by simpa using Cm
                 simpa [PY] using h2))
          have NV:(cur s t d (i+1)).2=(if k=K.length then K++[x] else K):=by rw [hst,<- hkey.2];simp [qY,<- hK]
          have zS:(cur s t d (i+1)).1=(cur s t d i).1++[⟨((k+1:Nat):Int),kD tok⟩]:=by rw [hst,<- hkey.1];simp [qY,<- hK]
          have Oc:nX s t d (i+1)=(if k=K.length then K++[x] else K):=by rw [nX,aN hd1,NV]
          refine kP H (SC (Rm O (Rm O (Rl kX O (Rc O (Kn jd (Cd O ?_ ?_))))))) <;> clear H jd
          · intro xD a H
            try have p73:=dT xD
            exact absurd p73 V
          intro xD a H
          try have p73:=dF xD
          have hkl:¬ k=K.length:=by omega
          have zY:=agj zX (show K=nX s t d (i+1) by rw [Oc,aL hkl]);refine lV ?_;refine fU _ _ ?_;clear fU;refine gy (fun _ jf=>?_);refine dI hmx [[],[],[0,1],[0,1,2],ra 0 4,[],[],[5,6],[5,6,7],ra 5 4,ra 0 10,ra 0 11,ra 0 12] [12] Z [.slice (some ⟨tb,pG,none⟩) (jR (fH (iO s t d))).length tc,vi i,(aJ tb (pG+i*3)),(aJ tb (pG+i*3+2)),vi tok.dx,.slice (some ⟨tb,pG,none⟩) (jR (fH (iO s t d))).length tc,vi i,(aJ tb (pG+i*3)),(aJ tb (pG+i*3+1)),vi tok.from_,vi (tok.dx - tok.from_),vi (min (tok.dx - tok.from_) 1000)] H (aH ?_ ?_ ?_ ?_ (aH ?_ ?_ ?_ ?_ (aH ?_ ?_ ?_ ?_ (eB (fT O) fD)))) ?_
          · intro ay a w G1 _ ah hc hG HT hv;have H:=HT;clear ah;have Hb:=H.full;have H:=Hb;clear hc;refine kH H (Rm O ?_);clear H;intro a H;refine aj ⟨O,?_⟩;exact aB HT Hb hG hv (fun _ _ _ _ _ h=>h) H O
          · intro ay a w G1 _ ah hc hG HT hv;have H:=HT;clear ah;have Hb:=H.full;have H:=Hb;clear hc;refine kH H (Rm O ?_);clear H;intro a H;refine aj ⟨O,?_⟩;exact aB HT Hb hG hv (fun _ _ _ _ _ h=>h) H O
          · intro ay a w G1 _ ah hc hG HT hv;have H:=HT;clear ah;have H:=H.au (hv 0 78 (hc 0 Y) O) O;have H:=H.au (hv 1 79 (hc 1 Y) O) O;have Hb:=H.full;have H:=Hb;clear hc;refine bD tF nR i H wn O O O V O ?_;clear H;intro a H;refine aj ⟨O,?_⟩;exact aB HT Hb hG hv (fun _ _ _ _ _ h=>h) H O
          · intro ay a w G1 _ ah hc hG HT hv;have H:=HT;clear ah;have H:=H.au (hv 2 80 (hc 2 Y) O) O;have Hb:=H.full;have H:=Hb;clear hc;refine kH H (Rf DZ O ?_);clear H;intro a H;refine aj ⟨O,?_⟩;exact aB HT Hb hG hv (fun _ _ _ _ _ h=>h) H O
          · intro ay a w G1 _ ah hc hG HT hv;have H:=HT;clear ah;have H:=H.au (hv 3 81 (hc 3 Y) O) O;have Hb:=H.full;have H:=Hb;clear hc;refine kH H (Rg aC O (aK hG (aK kQ (hrow 2 _ O))) ?_);clear H;intro a H;refine aj ⟨O,?_⟩;exact aB HT Hb hG hv (fun _ _ _ _ _ h=>h) H O
          · intro ay a w G1 _ ah hc hG HT hv;have H:=HT;clear ah;have Hb:=H.full;have H:=Hb;clear hc;refine kH H (Rm O ?_);clear H;intro a H;refine aj ⟨O,?_⟩;exact aB HT Hb hG hv (fun _ _ _ _ _ h=>h) H O
          · intro ay a w G1 _ ah hc hG HT hv;have H:=HT;clear ah;have Hb:=H.full;have H:=Hb;clear hc;refine kH H (Rm O ?_);clear H;intro a H;refine aj ⟨O,?_⟩;exact aB HT Hb hG hv (fun _ _ _ _ _ h=>h) H O
          · intro ay a w G1 _ ah hc hG HT hv;have H:=HT;clear ah;have H:=H.au (hv 5 83 (hc 5 Y) O) O;have H:=H.au (hv 6 84 (hc 6 Y) O) O;have Hb:=H.full;have H:=Hb;clear hc;refine bD tF nR i H wn O O O V O ?_;clear H;intro a H;refine aj ⟨O,?_⟩;exact aB HT Hb hG hv (fun _ _ _ _ _ h=>h) H O
          · intro ay a w G1 _ ah hc hG HT hv;have H:=HT;clear ah;have H:=H.au (hv 7 85 (hc 7 Y) O) O;have Hb:=H.full;have H:=Hb;clear hc;refine kH H (Rf DY O ?_);clear H;intro a H;refine aj ⟨O,?_⟩;exact aB HT Hb hG hv (fun _ _ _ _ _ h=>h) H O
          · intro ay a w G1 _ ah hc hG HT hv;have H:=HT;clear ah;have H:=H.au (hv 8 86 (hc 8 Y) O) O;have Hb:=H.full;have H:=Hb;clear hc;refine kH H (Rg aC O (aK hG (aK kQ (hrow 1 _ O))) ?_);clear H;intro a H;refine aj ⟨O,?_⟩;exact aB HT Hb hG hv (fun _ _ _ _ _ h=>h) H O
          · intro ay a w G1 _ ah hc hG HT hv;have H:=HT;clear ah;have H:=H.au (hv 4 82 (hc 4 Y) O) O;have H:=H.au (hv 9 87 (hc 9 Y) O) O;have Hb:=H.full;have H:=Hb;clear hc;refine kH H (Rs O ?_);clear H;intro a H;refine aj ⟨O,?_⟩;exact aB HT Hb hG hv (fun _ _ _ _ _ h=>h) H O
          · intro ay a w G1 _ ah hc hG HT hv;have H:=HT;clear ah;have H:=H.au (hv 10 88 (hc 10 Y) O) O;have Hb:=H.full;have H:=Hb;clear hc;refine Hz H wn O O O ?_;clear H;intro a H;refine aj ⟨O,?_⟩;exact aB HT Hb hG hv (fun _ _ _ _ _ h=>h) H O
          clear H;intro a w G pz H hv;have H:=H.au (hv 11 89 O O) O;clear hv;refine kH H (Ra O ?_);clear H;intro a H;refine aj ⟨O,?_⟩;refine jf _ _ ?_;clear jf;refine kP H (SQ fun _ iF=>SR fun _ jM=>Rm O (Rm O ?_));clear H;intro a H;refine bD tF nR i H wn O O O V O ?_;clear H;intro a H;refine kH H (Rf Jc O (Rg aC O (aK pz (aK kQ (hrow 0 _ O))) (Rc O (Kz jM (Cd O ?_ ?_))))) <;> clear H jM
          · intro xE a H
            try have O8:=dT xE
            have hwt:kD tok=1:=aN (by simpa using xE);refine kP H (SC (bO iF O (SR fun _ iI=>Rm O (Rc O (Kz iI (Cd O ?_ ?_)))))) <;> clear H iF iI
            · intro h97 a H
              try have CU:=dT h97
              have hd0:d=0:=by omega
              subst hd0
              have eX:iY s t 0 (i+1)=iY s t 0 i++[⟨((k+1:Nat):Int),kD tok⟩]:=by simp only [iY,if_true];exact zS
              have sW:aW 43 2 w5 (iZ s t 0 (i+1)).length (jk (iZ s t 0 (i+1))) M5:=mV;refine kP H (SC (Rm O (Rm O (Rd O (Rm O ?_)))));clear H;intro a H;refine ku wG [_,_] H wn O O O O ?_;clear H;intro a H;refine eU cu dw [_,_] [_,_] H wn O O O O O (by intro i q h;match i,h with|0,h=>exact h|n+1,h=>simp at h) O O ?_;clear H;intro Mj a w NJ H
              first
                | refine dX (Li:=[_,_,_]++(M5++M7)) (Lo:=M4) (news:=[vi ((k:Int)+1),vi 1]) cu dw O O (H.perm (ji [_,_,_] M4 M5 M7)) wn O O hq4 O ((H.perm (ji [_,_,_] M4 M5 M7)).hp.bR 0 O O) O V V O ?_
                | refine dX (Li:=[_,_,_]++(M5++M7)) (Lo:=M4) (news:=[vi ((k:Int)+1),vi (min (tok.dx - tok.from_) 1000)]) cu dw O O (H.perm (ji [_,_,_] M4 M5 M7)) wn O O hq4 O ((H.perm (ji [_,_,_] M4 M5 M7)).hp.bR 0 O O) O V V O ?_
                | refine dX (Li:=[_,_]++(M5++M6)) (Lo:=M4) (news:=[vi ((k:Int)+1),vi 1]) cu dw O O (H.perm (ji [_,_] M4 M5 M6)) wn O O hq4 O ((H.perm (ji [_,_] M4 M5 M6)).hp.bR 0 O O) O V V O ?_
                | refine dX (Li:=[_,_]++(M5++M6)) (Lo:=M4) (news:=[vi ((k:Int)+1),vi (min (tok.dx - tok.from_) 1000)]) cu dw O O (H.perm (ji [_,_] M4 M5 M6)) wn O O hq4 O ((H.perm (ji [_,_] M4 M5 M6)).hp.bR 0 O O) O V V O ?_
              clear H;intro xY M8 a w sZ H;replace H:=H.perm (by first|exact (ji [_,_,_] M8 M5 M7).symm|exact (ji [_,_] M8 M5 M6).symm);dsimp only [lca,bW] at H
              have sV:aW 43 2 xY (iY s t 0 (i+1)).length (jk (iY s t 0 (i+1))) M8:=by
                rw [eX,hwt,fQ,jk,jw,List.flatten_append];exact sZ
              refine kH H (bO bG O (SC (Rm O (Rd O (Ra O ?_)))));clear H bG;intro a H;refine aj ?_;refine bE ((i+1,xY,w5,.slice (some ⟨nb,0,none⟩) K.length nc,M8,M5,M6,G)) (by exact (H.dz (Pl:=[_,_]) (bZ:=[_]) [1] Y O).sub ⟨O,O,O,O,O,O,O,O,O,aI⟩) ?_
              (try dsimp only);exact ⟨V,sV,sW,zY,fun b o h=>pz b o (kQ b o (gH b o h)),fun b o h=>pz b o (kQ b o (hgt b o h))⟩
            intro h97 a H
            try have CU:=dF h97
            have hd0:d=1:=by omega
            subst hd0
            have eY:iZ s t 1 (i+1)=iZ s t 1 i++[⟨((k+1:Nat):Int),kD tok⟩]:=by simp only [iZ,if_true];exact zS
            have sV:aW 43 2 w4 (iY s t 1 (i+1)).length (jk (iY s t 1 (i+1))) M4:=hq4;refine kP H (SC (Rm O (Rm O (Rd O (Rm O ?_)))));clear H;intro a H;refine ku wG [_,_] H wn O O O O ?_;clear H;intro a H;refine eU cu dw [_,_] [_,_] H wn O O O O O (by intro i q h;match i,h with|0,h=>exact h|n+1,h=>simp at h) O O ?_;clear H;intro b110 a w NK H
            first
              | refine dX (Li:=[_,_,_]++(M4++M7)) (Lo:=M5) (news:=[vi ((k:Int)+1),vi 1]) cu dw O O (H.perm (jm [_,_,_] M4 M5 M7)) wn O O mV O ((H.perm (jm [_,_,_] M4 M5 M7)).hp.bR 0 O O) O V V O ?_
              | refine dX (Li:=[_,_,_]++(M4++M7)) (Lo:=M5) (news:=[vi ((k:Int)+1),vi (min (tok.dx - tok.from_) 1000)]) cu dw O O (H.perm (jm [_,_,_] M4 M5 M7)) wn O O mV O ((H.perm (jm [_,_,_] M4 M5 M7)).hp.bR 0 O O) O V V O ?_
              | refine dX (Li:=[_,_]++(M4++M6)) (Lo:=M5) (news:=[vi ((k:Int)+1),vi 1]) cu dw O O (H.perm (jm [_,_] M4 M5 M6)) wn O O mV O ((H.perm (jm [_,_] M4 M5 M6)).hp.bR 0 O O) O V V O ?_
              | refine dX (Li:=[_,_]++(M4++M6)) (Lo:=M5) (news:=[vi ((k:Int)+1),vi (min (tok.dx - tok.from_) 1000)]) cu dw O O (H.perm (jm [_,_] M4 M5 M6)) wn O O mV O ((H.perm (jm [_,_] M4 M5 M6)).hp.bR 0 O O) O V V O ?_
            clear H;intro xZ M9 a w sZ H;replace H:=H.perm (by first|exact (jm [_,_,_] M4 M9 M7).symm|exact (jm [_,_] M4 M9 M6).symm);dsimp only [lca,bW] at H
            have sW:aW 43 2 xZ (iZ s t 1 (i+1)).length (jk (iZ s t 1 (i+1))) M9:=by
              rw [eY,hwt,fQ,jk,jw,List.flatten_append];exact sZ
            refine kH H (bO bG O (SC (Rm O (Rd O (Ra O ?_)))));clear H bG;intro a H;refine aj ?_;refine bE ((i+1,w4,xZ,.slice (some ⟨nb,0,none⟩) K.length nc,M4,M9,M6,G)) (by exact (H.dz (Pl:=[_,_]) (bZ:=[_]) [1] Y O).sub ⟨O,O,O,O,O,O,O,O,O,aI⟩) ?_
            (try dsimp only);exact ⟨V,sV,sW,zY,fun b o h=>pz b o (kQ b o (gH b o h)),fun b o h=>pz b o (kQ b o (hgt b o h))⟩
          intro xE a H
          try have O8:=dF xE
          have hwt:kD tok=min (tok.dx - tok.from_) 1000:=aL (by simpa using xE);refine kP H (Kc iF (SR fun _ lJ=>Rm O (Rc O (Kz lJ (Cd O ?_ ?_))))) <;> clear H iF lJ
          · intro h97 a H
            try have CU:=dT h97
            have hd0:d=0:=by omega
            subst hd0
            have eX:iY s t 0 (i+1)=iY s t 0 i++[⟨((k+1:Nat):Int),kD tok⟩]:=by simp only [iY,if_true];exact zS
            have sW:aW 43 2 w5 (iZ s t 0 (i+1)).length (jk (iZ s t 0 (i+1))) M5:=mV;refine kP H (SC (Rm O (Rm O (Rd O (Rm O ?_)))));clear H;intro a H;refine ku wG [_,_] H wn O O O O ?_;clear H;intro a H;refine eU cu dw [_,_] [_,_] H wn O O O O O (by intro i q h;match i,h with|0,h=>exact h|n+1,h=>simp at h) O O ?_;clear H;intro Mj a w NJ H
            first
              | refine dX (Li:=[_,_,_]++(M5++M7)) (Lo:=M4) (news:=[vi ((k:Int)+1),vi 1]) cu dw O O (H.perm (ji [_,_,_] M4 M5 M7)) wn O O hq4 O ((H.perm (ji [_,_,_] M4 M5 M7)).hp.bR 0 O O) O V V O ?_
              | refine dX (Li:=[_,_,_]++(M5++M7)) (Lo:=M4) (news:=[vi ((k:Int)+1),vi (min (tok.dx - tok.from_) 1000)]) cu dw O O (H.perm (ji [_,_,_] M4 M5 M7)) wn O O hq4 O ((H.perm (ji [_,_,_] M4 M5 M7)).hp.bR 0 O O) O V V O ?_
              | refine dX (Li:=[_,_]++(M5++M6)) (Lo:=M4) (news:=[vi ((k:Int)+1),vi 1]) cu dw O O (H.perm (ji [_,_] M4 M5 M6)) wn O O hq4 O ((H.perm (ji [_,_] M4 M5 M6)).hp.bR 0 O O) O V V O ?_
              | refine dX (Li:=[_,_]++(M5++M6)) (Lo:=M4) (news:=[vi ((k:Int)+1),vi (min (tok.dx - tok.from_) 1000)]) cu dw O O (H.perm (ji [_,_] M4 M5 M6)) wn O O hq4 O ((H.perm (ji [_,_] M4 M5 M6)).hp.bR 0 O O) O V V O ?_
            clear H;intro xY M8 a w sZ H;replace H:=H.perm (by first|exact (ji [_,_,_] M8 M5 M7).symm|exact (ji [_,_] M8 M5 M6).symm);dsimp only [lca,bW] at H
            have sV:aW 43 2 xY (iY s t 0 (i+1)).length (jk (iY s t 0 (i+1))) M8:=by
              rw [eX,hwt,fQ,jk,jw,List.flatten_append];exact sZ
            refine kH H (bO bG O (SC (Rm O (Rd O (Ra O ?_)))));clear H bG;intro a H;refine aj ?_;refine bE ((i+1,xY,w5,.slice (some ⟨nb,0,none⟩) K.length nc,M8,M5,M6,G)) (by exact (H.dz (Pl:=[_,_]) (bZ:=[_]) [1] Y O).sub ⟨O,O,O,O,O,O,O,O,O,aI⟩) ?_
            (try dsimp only);exact ⟨V,sV,sW,zY,fun b o h=>pz b o (kQ b o (gH b o h)),fun b o h=>pz b o (kQ b o (hgt b o h))⟩
          intro h97 a H
          try have CU:=dF h97
          have hd0:d=1:=by omega
          subst hd0
          have eY:iZ s t 1 (i+1)=iZ s t 1 i++[⟨((k+1:Nat):Int),kD tok⟩]:=by simp only [iZ,if_true];exact zS
          have sV:aW 43 2 w4 (iY s t 1 (i+1)).length (jk (iY s t 1 (i+1))) M4:=hq4;refine kP H (SC (Rm O (Rm O (Rd O (Rm O ?_)))));clear H;intro a H;refine ku wG [_,_] H wn O O O O ?_;clear H;intro a H;refine eU cu dw [_,_] [_,_] H wn O O O O O (by intro i q h;match i,h with|0,h=>exact h|n+1,h=>simp at h) O O ?_;clear H;intro b110 a w NK H
          first
            | refine dX (Li:=[_,_,_]++(M4++M7)) (Lo:=M5) (news:=[vi ((k:Int)+1),vi 1]) cu dw O O (H.perm (jm [_,_,_] M4 M5 M7)) wn O O mV O ((H.perm (jm [_,_,_] M4 M5 M7)).hp.bR 0 O O) O V V O ?_
            | refine dX (Li:=[_,_,_]++(M4++M7)) (Lo:=M5) (news:=[vi ((k:Int)+1),vi (min (tok.dx - tok.from_) 1000)]) cu dw O O (H.perm (jm [_,_,_] M4 M5 M7)) wn O O mV O ((H.perm (jm [_,_,_] M4 M5 M7)).hp.bR 0 O O) O V V O ?_
            | refine dX (Li:=[_,_]++(M4++M6)) (Lo:=M5) (news:=[vi ((k:Int)+1),vi 1]) cu dw O O (H.perm (jm [_,_] M4 M5 M6)) wn O O mV O ((H.perm (jm [_,_] M4 M5 M6)).hp.bR 0 O O) O V V O ?_
            | refine dX (Li:=[_,_]++(M4++M6)) (Lo:=M5) (news:=[vi ((k:Int)+1),vi (min (tok.dx - tok.from_) 1000)]) cu dw O O (H.perm (jm [_,_] M4 M5 M6)) wn O O mV O ((H.perm (jm [_,_] M4 M5 M6)).hp.bR 0 O O) O V V O ?_
          clear H;intro xZ M9 a w sZ H;replace H:=H.perm (by first|exact (jm [_,_,_] M4 M9 M7).symm|exact (jm [_,_] M4 M9 M6).symm);dsimp only [lca,bW] at H
          have sW:aW 43 2 xZ (iZ s t 1 (i+1)).length (jk (iZ s t 1 (i+1))) M9:=by
            rw [eY,hwt,fQ,jk,jw,List.flatten_append];exact sZ
          refine kH H (bO bG O (SC (Rm O (Rd O (Ra O ?_)))));clear H bG;intro a H;refine aj ?_;refine bE ((i+1,w4,xZ,.slice (some ⟨nb,0,none⟩) K.length nc,M4,M9,M6,G)) (by exact (H.dz (Pl:=[_,_]) (bZ:=[_]) [1] Y O).sub ⟨O,O,O,O,O,O,O,O,O,aI⟩) ?_
          (try dsimp only);exact ⟨V,sV,sW,zY,fun b o h=>pz b o (kQ b o (gH b o h)),fun b o h=>pz b o (kQ b o (hgt b o h))⟩
        intro iH a H
        try have p60:=dF iH
        refine kH H (aV iH O (aV iH O (Pf iH O (Kz gF (Cf O O ?_)))));clear H gF;intro a H;refine dJ ?_;refine dR _ _ ?_;clear dR;refine gy (fun _ lK=>?_);refine gy (fun _ oh=>?_)
        have hkey:=Vp (x:=x) (l:=K) hk hne (fun h=>by
          first
            | exact absurd p60 V
            | (have h2:(!(K[k].toList == x.toList))=false:=by simpa using Cm
               simpa [PY] using h2))
        have NV:(cur s t d (i+1)).2=(if k=K.length then K++[x] else K):=by rw [hst,<- hkey.2];simp [qY,<- hK]
        have zS:(cur s t d (i+1)).1=(cur s t d i).1++[⟨((k+1:Nat):Int),kD tok⟩]:=by rw [hst,<- hkey.1];simp [qY,<- hK]
        have Oc:nX s t d (i+1)=(if k=K.length then K++[x] else K):=by rw [nX,aN hd1,NV]
        refine kP H (SC (Rm O (Rm O (Rl kX O (Rc O (Kn oh (Cd O ?_ ?_))))))) <;> clear H oh
        · intro xD a H
          try have p73:=dT xD
          have hkl:k=K.length:=by omega
          refine kP H (SC (Rm O (Rm O ?_)));clear H;intro a H;refine eU kX iW [_] [_] H wn O O O O O (by intro i q h;match i,h with|0,h=>exact h|n+1,h=>simp at h) O O ?_;clear H;intro b76 a w ajM H;have H:=H.perm (VY [_,_] M4 M5 M6);refine dX (Li:=[_,_]++(M4++M5)) (Lo:=M6) (news:=[.string x]) kX iW O O H wn O O zX O (H.hp.bR 0 O O) O V V O ?_;clear H;intro v77 M7 a w aeu H;have H:=H.perm (VY [_,_] M4 M5 M7).symm;dsimp only [lca,bW] at H
          have zY:aW 9 1 v77 (nX s t d (i+1)).length ((nX s t d (i+1)).map Value.string) M7:=by
            rw [Oc,aN hkl,fQ,jw];exact aeu
          refine kH H (bO lK O (SQ fun _ jE=>?_));clear H lK;intro a H;refine dI hmx [[],[],[0,1],[0,1,2],ra 0 4,[],[],[5,6],[5,6,7],ra 5 4,ra 0 10,ra 0 11,ra 0 12] [12] Z [.slice (some ⟨tb,pG,none⟩) (jR (fH (iO s t d))).length tc,vi i,(aJ tb (pG+i*3)),(aJ tb (pG+i*3+2)),vi tok.dx,.slice (some ⟨tb,pG,none⟩) (jR (fH (iO s t d))).length tc,vi i,(aJ tb (pG+i*3)),(aJ tb (pG+i*3+1)),vi tok.from_,vi (tok.dx - tok.from_),vi (min (tok.dx - tok.from_) 1000)] H (aH ?_ ?_ ?_ ?_ (aH ?_ ?_ ?_ ?_ (aH ?_ ?_ ?_ ?_ (eB (fT O) fD)))) ?_
          · intro ay a w G1 _ ah hc hG HT hv;have H:=HT;clear ah;have Hb:=H.full;have H:=Hb;clear hc;refine kH H (Rm O ?_);clear H;intro a H;refine aj ⟨O,?_⟩;exact aB HT Hb hG hv (fun _ _ _ _ _ h=>h) H O
          · intro ay a w G1 _ ah hc hG HT hv;have H:=HT;clear ah;have Hb:=H.full;have H:=Hb;clear hc;refine kH H (Rm O ?_);clear H;intro a H;refine aj ⟨O,?_⟩;exact aB HT Hb hG hv (fun _ _ _ _ _ h=>h) H O
          · intro ay a w G1 _ ah hc hG HT hv;have H:=HT;clear ah;have H:=H.au (hv 0 78 (hc 0 Y) O) O;have H:=H.au (hv 1 79 (hc 1 Y) O) O;have Hb:=H.full;have H:=Hb;clear hc;refine bD tF nR i H wn O O O V O ?_;clear H;intro a H;refine aj ⟨O,?_⟩;exact aB HT Hb hG hv (fun _ _ _ _ _ h=>h) H O
          · intro ay a w G1 _ ah hc hG HT hv;have H:=HT;clear ah;have H:=H.au (hv 2 80 (hc 2 Y) O) O;have Hb:=H.full;have H:=Hb;clear hc;refine kH H (Rf DZ O ?_);clear H;intro a H;refine aj ⟨O,?_⟩;exact aB HT Hb hG hv (fun _ _ _ _ _ h=>h) H O
          · intro ay a w G1 _ ah hc hG HT hv;have H:=HT;clear ah;have H:=H.au (hv 3 81 (hc 3 Y) O) O;have Hb:=H.full;have H:=Hb;clear hc;refine kH H (Rg aC O (aK hG (aK kQ (hrow 2 _ O))) ?_);clear H;intro a H;refine aj ⟨O,?_⟩;exact aB HT Hb hG hv (fun _ _ _ _ _ h=>h) H O
          · intro ay a w G1 _ ah hc hG HT hv;have H:=HT;clear ah;have Hb:=H.full;have H:=Hb;clear hc;refine kH H (Rm O ?_);clear H;intro a H;refine aj ⟨O,?_⟩;exact aB HT Hb hG hv (fun _ _ _ _ _ h=>h) H O
          · intro ay a w G1 _ ah hc hG HT hv;have H:=HT;clear ah;have Hb:=H.full;have H:=Hb;clear hc;refine kH H (Rm O ?_);clear H;intro a H;refine aj ⟨O,?_⟩;exact aB HT Hb hG hv (fun _ _ _ _ _ h=>h) H O
          · intro ay a w G1 _ ah hc hG HT hv;have H:=HT;clear ah;have H:=H.au (hv 5 83 (hc 5 Y) O) O;have H:=H.au (hv 6 84 (hc 6 Y) O) O;have Hb:=H.full;have H:=Hb;clear hc;refine bD tF nR i H wn O O O V O ?_;clear H;intro a H;refine aj ⟨O,?_⟩;exact aB HT Hb hG hv (fun _ _ _ _ _ h=>h) H O
          · intro ay a w G1 _ ah hc hG HT hv;have H:=HT;clear ah;have H:=H.au (hv 7 85 (hc 7 Y) O) O;have Hb:=H.full;have H:=Hb;clear hc;refine kH H (Rf DY O ?_);clear H;intro a H;refine aj ⟨O,?_⟩;exact aB HT Hb hG hv (fun _ _ _ _ _ h=>h) H O
          · intro ay a w G1 _ ah hc hG HT hv;have H:=HT;clear ah;have H:=H.au (hv 8 86 (hc 8 Y) O) O;have Hb:=H.full;have H:=Hb;clear hc;refine kH H (Rg aC O (aK hG (aK kQ (hrow 1 _ O))) ?_);clear H;intro a H;refine aj ⟨O,?_⟩;exact aB HT Hb hG hv (fun _ _ _ _ _ h=>h) H O
          · intro ay a w G1 _ ah hc hG HT hv;have H:=HT;clear ah;have H:=H.au (hv 4 82 (hc 4 Y) O) O;have H:=H.au (hv 9 87 (hc 9 Y) O) O;have Hb:=H.full;have H:=Hb;clear hc;refine kH H (Rs O ?_);clear H;intro a H;refine aj ⟨O,?_⟩;exact aB HT Hb hG hv (fun _ _ _ _ _ h=>h) H O
          · intro ay a w G1 _ ah hc hG HT hv;have H:=HT;clear ah;have H:=H.au (hv 10 88 (hc 10 Y) O) O;have Hb:=H.full;have H:=Hb;clear hc;refine Hz H wn O O O ?_;clear H;intro a H;refine aj ⟨O,?_⟩;exact aB HT Hb hG hv (fun _ _ _ _ _ h=>h) H O
          clear H;intro a w G pz H hv;have H:=H.au (hv 11 89 O O) O;clear hv;refine kH H (Ra O ?_);clear H;intro a H;refine aj ⟨O,?_⟩;refine jE _ _ ?_;clear jE;refine kP H (SQ fun _ mM=>SR fun _ nI=>Rm O (Rm O ?_));clear H;intro a H;refine bD tF nR i H wn O O O V O ?_;clear H;intro a H;refine kH H (Rf Jc O (Rg aC O (aK pz (aK kQ (hrow 0 _ O))) (Rc O (Kz nI (Cd O ?_ ?_))))) <;> clear H nI
          · intro xE a H
            try have O8:=dT xE
            have hwt:kD tok=1:=aN (by simpa using xE);refine kP H (SC (bO mM O (SR fun _ lM=>Rm O (Rc O (Kz lM (Cd O ?_ ?_)))))) <;> clear H mM lM
            · intro h97 a H
              try have CU:=dT h97
              have hd0:d=0:=by omega
              subst hd0
              have eX:iY s t 0 (i+1)=iY s t 0 i++[⟨((k+1:Nat):Int),kD tok⟩]:=by simp only [iY,if_true];exact zS
              have sW:aW 43 2 w5 (iZ s t 0 (i+1)).length (jk (iZ s t 0 (i+1))) M5:=mV;refine kP H (SC (Rm O (Rm O (Rd O (Rm O ?_)))));clear H;intro a H;refine ku wG [_,_] H wn O O O O ?_;clear H;intro a H;refine eU cu dw [_,_] [_,_] H wn O O O O O (by intro i q h;match i,h with|0,h=>exact h|n+1,h=>simp at h) O O ?_;clear H;intro Mj a w NJ H
              first
                | refine dX (Li:=[_,_,_]++(M5++M7)) (Lo:=M4) (news:=[vi ((k:Int)+1),vi 1]) cu dw O O (H.perm (ji [_,_,_] M4 M5 M7)) wn O O hq4 O ((H.perm (ji [_,_,_] M4 M5 M7)).hp.bR 0 O O) O V V O ?_
                | refine dX (Li:=[_,_,_]++(M5++M7)) (Lo:=M4) (news:=[vi ((k:Int)+1),vi (min (tok.dx - tok.from_) 1000)]) cu dw O O (H.perm (ji [_,_,_] M4 M5 M7)) wn O O hq4 O ((H.perm (ji [_,_,_] M4 M5 M7)).hp.bR 0 O O) O V V O ?_
                | refine dX (Li:=[_,_]++(M5++M6)) (Lo:=M4) (news:=[vi ((k:Int)+1),vi 1]) cu dw O O (H.perm (ji [_,_] M4 M5 M6)) wn O O hq4 O ((H.perm (ji [_,_] M4 M5 M6)).hp.bR 0 O O) O V V O ?_
                | refine dX (Li:=[_,_]++(M5++M6)) (Lo:=M4) (news:=[vi ((k:Int)+1),vi (min (tok.dx - tok.from_) 1000)]) cu dw O O (H.perm (ji [_,_] M4 M5 M6)) wn O O hq4 O ((H.perm (ji [_,_] M4 M5 M6)).hp.bR 0 O O) O V V O ?_
              clear H;intro xY M8 a w sZ H;replace H:=H.perm (by first|exact (ji [_,_,_] M8 M5 M7).symm|exact (ji [_,_] M8 M5 M6).symm);dsimp only [lca,bW] at H
              have sV:aW 43 2 xY (iY s t 0 (i+1)).length (jk (iY s t 0 (i+1))) M8:=by
                rw [eX,hwt,fQ,jk,jw,List.flatten_append];exact sZ
              refine kH H (bO bG O (SC (Rm O (Rd O (Ra O ?_)))));clear H bG;intro a H;refine aj ?_;refine bE ((i+1,xY,w5,v77,M8,M5,M7,G)) (by exact (H.dz (Pl:=[_,_,_]) (bZ:=[_]) [2] Y O).sub ⟨O,O,O,O,O,O,O,O,O,aI⟩) ?_
              (try dsimp only);exact ⟨V,sV,sW,zY,fun b o h=>pz b o (kQ b o (gH b o h)),fun b o h=>pz b o (kQ b o (hgt b o h))⟩
            intro h97 a H
            try have CU:=dF h97
            have hd0:d=1:=by omega
            subst hd0
            have eY:iZ s t 1 (i+1)=iZ s t 1 i++[⟨((k+1:Nat):Int),kD tok⟩]:=by simp only [iZ,if_true];exact zS
            have sV:aW 43 2 w4 (iY s t 1 (i+1)).length (jk (iY s t 1 (i+1))) M4:=hq4;refine kP H (SC (Rm O (Rm O (Rd O (Rm O ?_)))));clear H;intro a H;refine ku wG [_,_] H wn O O O O ?_;clear H;intro a H;refine eU cu dw [_,_] [_,_] H wn O O O O O (by intro i q h;match i,h with|0,h=>exact h|n+1,h=>simp at h) O O ?_;clear H;intro b110 a w NK H
            first
              | refine dX (Li:=[_,_,_]++(M4++M7)) (Lo:=M5) (news:=[vi ((k:Int)+1),vi 1]) cu dw O O (H.perm (jm [_,_,_] M4 M5 M7)) wn O O mV O ((H.perm (jm [_,_,_] M4 M5 M7)).hp.bR 0 O O) O V V O ?_
              | refine dX (Li:=[_,_,_]++(M4++M7)) (Lo:=M5) (news:=[vi ((k:Int)+1),vi (min (tok.dx - tok.from_) 1000)]) cu dw O O (H.perm (jm [_,_,_] M4 M5 M7)) wn O O mV O ((H.perm (jm [_,_,_] M4 M5 M7)).hp.bR 0 O O) O V V O ?_
              | refine dX (Li:=[_,_]++(M4++M6)) (Lo:=M5) (news:=[vi ((k:Int)+1),vi 1]) cu dw O O (H.perm (jm [_,_] M4 M5 M6)) wn O O mV O ((H.perm (jm [_,_] M4 M5 M6)).hp.bR 0 O O) O V V O ?_
              | refine dX (Li:=[_,_]++(M4++M6)) (Lo:=M5) (news:=[vi ((k:Int)+1),vi (min (tok.dx - tok.from_) 1000)]) cu dw O O (H.perm (jm [_,_] M4 M5 M6)) wn O O mV O ((H.perm (jm [_,_] M4 M5 M6)).hp.bR 0 O O) O V V O ?_
            clear H;intro xZ M9 a w sZ H;replace H:=H.perm (by first|exact (jm [_,_,_] M4 M9 M7).symm|exact (jm [_,_] M4 M9 M6).symm);dsimp only [lca,bW] at H
            have sW:aW 43 2 xZ (iZ s t 1 (i+1)).length (jk (iZ s t 1 (i+1))) M9:=by
              rw [eY,hwt,fQ,jk,jw,List.flatten_append];exact sZ
            refine kH H (bO bG O (SC (Rm O (Rd O (Ra O ?_)))));clear H bG;intro a H;refine aj ?_;refine bE ((i+1,w4,xZ,v77,M4,M9,M7,G)) (by exact (H.dz (Pl:=[_,_,_]) (bZ:=[_]) [2] Y O).sub ⟨O,O,O,O,O,O,O,O,O,aI⟩) ?_
            (try dsimp only);exact ⟨V,sV,sW,zY,fun b o h=>pz b o (kQ b o (gH b o h)),fun b o h=>pz b o (kQ b o (hgt b o h))⟩
          intro xE a H
          try have O8:=dF xE
          have hwt:kD tok=min (tok.dx - tok.from_) 1000:=aL (by simpa using xE);refine kP H (Kc mM (SR fun _ qy=>Rm O (Rc O (Kz qy (Cd O ?_ ?_))))) <;> clear H mM qy
          · intro h97 a H
            try have CU:=dT h97
            have hd0:d=0:=by omega
            subst hd0
            have eX:iY s t 0 (i+1)=iY s t 0 i++[⟨((k+1:Nat):Int),kD tok⟩]:=by simp only [iY,if_true];exact zS
            have sW:aW 43 2 w5 (iZ s t 0 (i+1)).length (jk (iZ s t 0 (i+1))) M5:=mV;refine kP H (SC (Rm O (Rm O (Rd O (Rm O ?_)))));clear H;intro a H;refine ku wG [_,_] H wn O O O O ?_;clear H;intro a H;refine eU cu dw [_,_] [_,_] H wn O O O O O (by intro i q h;match i,h with|0,h=>exact h|n+1,h=>simp at h) O O ?_;clear H;intro Mj a w NJ H
            first
              | refine dX (Li:=[_,_,_]++(M5++M7)) (Lo:=M4) (news:=[vi ((k:Int)+1),vi 1]) cu dw O O (H.perm (ji [_,_,_] M4 M5 M7)) wn O O hq4 O ((H.perm (ji [_,_,_] M4 M5 M7)).hp.bR 0 O O) O V V O ?_
              | refine dX (Li:=[_,_,_]++(M5++M7)) (Lo:=M4) (news:=[vi ((k:Int)+1),vi (min (tok.dx - tok.from_) 1000)]) cu dw O O (H.perm (ji [_,_,_] M4 M5 M7)) wn O O hq4 O ((H.perm (ji [_,_,_] M4 M5 M7)).hp.bR 0 O O) O V V O ?_
              | refine dX (Li:=[_,_]++(M5++M6)) (Lo:=M4) (news:=[vi ((k:Int)+1),vi 1]) cu dw O O (H.perm (ji [_,_] M4 M5 M6)) wn O O hq4 O ((H.perm (ji [_,_] M4 M5 M6)).hp.bR 0 O O) O V V O ?_
              | refine dX (Li:=[_,_]++(M5++M6)) (Lo:=M4) (news:=[vi ((k:Int)+1),vi (min (tok.dx - tok.from_) 1000)]) cu dw O O (H.perm (ji [_,_] M4 M5 M6)) wn O O hq4 O ((H.perm (ji [_,_] M4 M5 M6)).hp.bR 0 O O) O V V O ?_
            clear H;intro xY M8 a w sZ H;replace H:=H.perm (by first|exact (ji [_,_,_] M8 M5 M7).symm|exact (ji [_,_] M8 M5 M6).symm);dsimp only [lca,bW] at H
            have sV:aW 43 2 xY (iY s t 0 (i+1)).length (jk (iY s t 0 (i+1))) M8:=by
              rw [eX,hwt,fQ,jk,jw,List.flatten_append];exact sZ
            refine kH H (bO bG O (SC (Rm O (Rd O (Ra O ?_)))));clear H bG;intro a H;refine aj ?_;refine bE ((i+1,xY,w5,v77,M8,M5,M7,G)) (by exact (H.dz (Pl:=[_,_,_]) (bZ:=[_]) [2] Y O).sub ⟨O,O,O,O,O,O,O,O,O,aI⟩) ?_
            (try dsimp only);exact ⟨V,sV,sW,zY,fun b o h=>pz b o (kQ b o (gH b o h)),fun b o h=>pz b o (kQ b o (hgt b o h))⟩
          intro h97 a H
          try have CU:=dF h97
          have hd0:d=1:=by omega
          subst hd0
          have eY:iZ s t 1 (i+1)=iZ s t 1 i++[⟨((k+1:Nat):Int),kD tok⟩]:=by simp only [iZ,if_true];exact zS
          have sV:aW 43 2 w4 (iY s t 1 (i+1)).length (jk (iY s t 1 (i+1))) M4:=hq4;refine kP H (SC (Rm O (Rm O (Rd O (Rm O ?_)))));clear H;intro a H;refine ku wG [_,_] H wn O O O O ?_;clear H;intro a H;refine eU cu dw [_,_] [_,_] H wn O O O O O (by intro i q h;match i,h with|0,h=>exact h|n+1,h=>simp at h) O O ?_;clear H;intro b110 a w NK H
          first
            | refine dX (Li:=[_,_,_]++(M4++M7)) (Lo:=M5) (news:=[vi ((k:Int)+1),vi 1]) cu dw O O (H.perm (jm [_,_,_] M4 M5 M7)) wn O O mV O ((H.perm (jm [_,_,_] M4 M5 M7)).hp.bR 0 O O) O V V O ?_
            | refine dX (Li:=[_,_,_]++(M4++M7)) (Lo:=M5) (news:=[vi ((k:Int)+1),vi (min (tok.dx - tok.from_) 1000)]) cu dw O O (H.perm (jm [_,_,_] M4 M5 M7)) wn O O mV O ((H.perm (jm [_,_,_] M4 M5 M7)).hp.bR 0 O O) O V V O ?_
            | refine dX (Li:=[_,_]++(M4++M6)) (Lo:=M5) (news:=[vi ((k:Int)+1),vi 1]) cu dw O O (H.perm (jm [_,_] M4 M5 M6)) wn O O mV O ((H.perm (jm [_,_] M4 M5 M6)).hp.bR 0 O O) O V V O ?_
            | refine dX (Li:=[_,_]++(M4++M6)) (Lo:=M5) (news:=[vi ((k:Int)+1),vi (min (tok.dx - tok.from_) 1000)]) cu dw O O (H.perm (jm [_,_] M4 M5 M6)) wn O O mV O ((H.perm (jm [_,_] M4 M5 M6)).hp.bR 0 O O) O V V O ?_
          clear H;intro xZ M9 a w sZ H;replace H:=H.perm (by first|exact (jm [_,_,_] M4 M9 M7).symm|exact (jm [_,_] M4 M9 M6).symm);dsimp only [lca,bW] at H
          have sW:aW 43 2 xZ (iZ s t 1 (i+1)).length (jk (iZ s t 1 (i+1))) M9:=by
            rw [eY,hwt,fQ,jk,jw,List.flatten_append];exact sZ
          refine kH H (bO bG O (SC (Rm O (Rd O (Ra O ?_)))));clear H bG;intro a H;refine aj ?_;refine bE ((i+1,w4,xZ,v77,M4,M9,M7,G)) (by exact (H.dz (Pl:=[_,_,_]) (bZ:=[_]) [2] Y O).sub ⟨O,O,O,O,O,O,O,O,O,aI⟩) ?_
          (try dsimp only);exact ⟨V,sV,sW,zY,fun b o h=>pz b o (kQ b o (gH b o h)),fun b o h=>pz b o (kQ b o (hgt b o h))⟩
        intro xD a H
        try have p73:=dF xD
        exact absurd p73 V
      intro Ck a H
      try have p38:=dF Ck
      refine dJ ?_;refine K7 _ _ ?_;clear K7;refine kP H (SC (Rm O (Rd O (Ra O ?_))));clear H;intro a H;refine aj ?_;refine bE ((d+1,w4,w5,w6,M4,M5,M6,g2)) (by exact (H.dz (Pl:=[_]) (bZ:=[]) [] Y O).sub ⟨O,O,O,O,O,O,aI⟩) ?_
      try dsimp only
      have hie:i=min (dD (iO s t d)).length 2048:=by omega
      subst hie;obtain ⟨o1,o2,o3⟩:=VU (a:=s) (b:=t) hd1;rw [o1] at hq4;rw [o2] at mV;rw [o3] at zX;exact ⟨V,hq4,mV,zX,gH⟩
    intro uq a H
    try have p35:=dF uq
    refine kH H (aO uq O (Pf uq O (Kz bH (Cf O O ?_))));clear H bH;intro a H;refine dJ ?_;refine K7 _ _ ?_;clear K7;refine kP H (SC (Rm O (Rd O (Ra O ?_))));clear H;intro a H;refine aj ?_;refine bE ((d+1,w4,w5,w6,M4,M5,M6,g2)) (by exact (H.dz (Pl:=[_]) (bZ:=[]) [] Y O).sub ⟨O,O,O,O,O,O,aI⟩) ?_
    try dsimp only
    have hie:i=min (dD (iO s t d)).length 2048:=by omega
    subst hie;obtain ⟨o1,o2,o3⟩:=VU (a:=s) (b:=t) hd1;rw [o1] at hq4;rw [o2] at mV;rw [o3] at zX;exact ⟨V,hq4,mV,zX,gH⟩
  intro eO a H
  try have mW:=dF eO
  refine dJ ?_;refine K3 _ _ ?_;clear K3;refine kP H (SR fun _ qz=>Rm O (Rm O (Ra O (av qz O ?_))));clear H qz;intro a H;refine aU ?_
  have hde:d=2:=by omega
  subst hde;have H:=H.perm (ji [] L4 L5 L6);obtain ⟨Ga,hma,hra,H⟩:=St.kF (Li:=[]++(L5++L6)) (Lo:=L4) H hr4 (rows:=(Bn s).map dM.dat) (by simp [iY]) (by have:=Qg g (Bn s);simpa [iY] using this);have H:=H.perm (List.perm_append_comm (l₁:=L5) (l₂:=L6));obtain ⟨Gb,hmb,hrb,H⟩:=St.kF (Li:=L6) (Lo:=L5) H UO (rows:=(uF s t).map dM.dat) (by simp [iZ]) (by have:=Qg Ga (uF s t);simpa [iZ] using this);refine (bK H results52 (.cons (aG H O) (.cons (aG H O) .nil)) ?_).1;exact H.rt ⟨_,_,O,hra.mono hmb,hrb⟩
theorem vJ:prog.underlying 26=some (.slice 45):=by kernel_rfl
theorem zi:Ty prog 45 3 24 [.int .i64 0,.int .i64 0,.int .i64 0] true:=⟨Z,Z⟩
theorem PV:sD prog 45 [(0,1),(1,1),(2,1)] [.int .i64 0,.int .i64 0,.int .i64 0]:=⟨Z,Z⟩
def vF (x:Int):Bool:=decide (0<=x) && decide (x<=1000)
def nP (m:Nat) (r:List Int):Int:=if 1024 < r.length then 9 else if ¬ r.length=m then 15 else if r.all vF then 0 else 2
def zM:List Int->Int
 | []=>0
 | e :: l=>if e=0 then zM l else e
def pV (S:List (List Int)):Int:=if 1024 < S.length then 9 else zM (S.map (nP (S.headD []).length))
theorem TW {f:List Int->Int}:∀ {S:List (List Int)} {i:Nat} (hi:i < S.length),(∀ j (hj:j < i),f (S[j]'V)=0)->¬ f S[i]=0->zM (S.map f)=f S[i]
 | [],i,hi,_,_=>by simp at hi
 | r :: S,0,hi,_,h=>by rw [gV,zM];exact aL h
 | r :: S,i+1,hi,h0,h=>by
  have h1:f r=0:=h0 0 V;rw [gV,zM,aN h1];exact TW (S:=S) (i:=i) (by simpa using hi) (fun j hj=>h0 (j+1) V) h
theorem Nl {f:List Int->Int}:∀ {S:List (List Int)},(∀ j (hj:j < S.length),f S[j]=0)->zM (S.map f)=0
 | [],_=>rfl
 | r :: S,h=>by
  have h1:f r=0:=h 0 (by simp);rw [gV,zM,aN h1];exact Nl fun j hj=>h (j+1) (by simpa using hj)
def pR (S:List (List Int)):List jJ:=if pV S=0 then lg (bI S) S.length (S.headD []).length 0 0 else []
theorem yH:pV []=0∧pR []=[]:=by
 have h:pV []=0:=by decide
 refine ⟨h,?_⟩;rw [pR,aN h,lg,dif_neg (by simp)]
def tu (bf n W j:Nat):List ak:=(List.range (n+1)).map fun i=>if i < j then .slice (some ⟨bf,i*W,none⟩) W ((n+1)*W - i*W) else .slice none 0 0
theorem agn (bf n W:Nat):tu bf n W 0=List.replicate (n+1) (.slice none 0 0):=by
 apply List.ext_getElem
 ·simp [tu]
 intro i h1 h2;simp [tu]
theorem agm {bf n W j:Nat} (hj:j < n+1):(tu bf n W j).set j (.slice (some ⟨bf,j*W,none⟩) W ((n+1)*W - j*W))=tu bf n W (j+1):=by
 apply List.ext_getElem
 ·simp [tu]
 intro i h1 h2;rw [List.getElem_set]
 by_cases e:j=i
 ·subst e;simp [tu]
 have:(i < j+1)=(i < j):=by apply propext;omega
 simp [tu,e,this]
theorem agk {bf n W i:Nat} (hi:i<=n):(tu bf n W (n+1))[i]?=some (.slice (some ⟨bf,i*W,none⟩) W ((n+1)*W - i*W)):=by
 simp [tu,List.getElem?_range,show i < n+1 by omega]
theorem agl (bf n W j:Nat):(tu bf n W j).length=n+1:=by simp [tu]
def Aq (s:Nat->Nat->Int) (n m:Nat) (fl:List Int) (P:Nat->Nat->Prop):Prop:=fl.length=(n+1)*(m+1)∧∀ i k,i<=n->k<=m->P i k->fl[i*(m+1)+k]?=some (tot s n m i k)
theorem acZ {s:Nat->Nat->Int} {n m:Nat}:Aq s n m (List.replicate ((n+1)*(m+1)) 0) (fun i k=>n<=i∨k=m):=by
 refine ⟨by simp,fun i k hi hk hp=>?_⟩;rw [ER V]
 have:i*(m+1)+k < (n+1)*(m+1):=by
  have:=Nat.mul_le_mul_right (m+1) hi;rw [Nat.succ_mul];omega
 simp [List.getElem?_replicate,this]
theorem acY {s:Nat->Nat->Int} {n m i k:Nat} {fl:List Int} {P P':Nat->Nat->Prop} (h:Aq s n m fl P) (hi:i < n) (hk:k < m) (hP:∀ i' k',P' i' k'->P i' k'∨(i'=i∧k'=k)):Aq s n m (fl.set (i*(m+1)+k) (tot s n m i k)) P':=by
 have hlt:i*(m+1)+k < (n+1)*(m+1):=by
  have:=Nat.mul_le_mul_right (m+1) (show i<=n by omega);rw [Nat.succ_mul];omega
 refine ⟨by simp [h.1],fun i' k' hi' hk' hp=>?_⟩;rw [List.getElem?_set]
 by_cases e:i*(m+1)+k=i'*(m+1)+k'
 ·obtain ⟨rfl,rfl⟩:=aeU V V e;rw [aN O,aN (by rw [h.1];exact hlt)]
 rw [aL e]
 rcases hP i' k' hp with h2|⟨rfl,rfl⟩
 ·exact h.2 i' k' hi' hk' h2
 exact absurd O e
theorem Aq.weak {s:Nat->Nat->Int} {n m:Nat} {fl:List Int} {P P':Nat->Nat->Prop} (h:Aq s n m fl P) (hp:∀ i k,i<=n->k<=m->P' i k->P i k):Aq s n m fl P':=⟨h.1,fun i k hi hk h'=>h.2 i k hi hk (hp i k hi hk h')⟩
set_option maxHeartbeats 4000000 in
theorem RG (G:GH) (w0:World) (hG:Hold G w0) (S:List (List Int)) (v:ak) (hv:aF G (.sl 1 (S.map nD)) v) :
    Calls prog 12 #[v] w0 (bQ w0 G fun u G'=>∃ x,u=.tuple #[x,vi (pV S)]∧aF G' (.sl 3 ((pR S).map jJ.dat)) x):=by
  obtain ⟨A,c,rfl,hc1,hc2,-⟩:=hv.slice;have hml:maxLen=9223372036854775807:=rfl;rw [bJ] at *;obtain ⟨m,hm⟩:∃ m,m=(S.headD []).length:=⟨_,O⟩;refine eN [(0,_)] func12 O ntmps12 O O hG ?_;intro a H;refine gU (fun _ K1=>?_);refine jQ (cs:=[_]) H wn O O O ?_;clear H;intro b1 a w hb1 H;refine kH H (Ra O (av K1 O (SQ fun _ K2=>SR fun _ K3=>Ro pI 0 O (Rl iE O (Rc O (Kz K3 (Cd O ?_ ?_))))))) <;> clear H K1 K3
  · intro h21 a H
    try have mH:=dT h21
    have vg:pV S=9:=by rw [pV,dS]
    have hbl:pR S=[]:=by rw [pR,aL (by rw [vg];decide)]
    refine kP H (SR fun _ K4=>Ra O (av K4 O ?_));clear H K4;intro a H;refine aU ?_;refine (bK H results12 (.cons (aG H O) (.cons (aG H O) .nil)) ?_).1;exact H.rt ⟨_,by rw [vg],by rw [hbl];exact aF.lD O Y⟩
  intro h21 a H
  try have mH:=dF h21
  refine kP H (Kc K2 (SQ fun _ K5=>SR fun _ K6=>Ro pI 0 O (Rl iE O (Rm O (Kz K6 (SB ?_))))));clear H K2 K6;intro a H;skip;refine dY (ι:=Nat) (Tc:=[(1,_),(22,_),(23,_)]) (Lc:=[(_,_)]) (fun gh=>[(24,vi gh)]) (fun gh=>[]) (fun gh=>G) (fun gh=>gh<=S.length∧∀ j (hj:j < gh) (hj2:j < S.length),nP m S[j]=0) (fun gh=>S.length - gh) (0) (by exact H.sub ⟨O,O,O,O,aI⟩) ?_ ?_
  · exact ⟨V,fun j hj=>absurd hj (Nat.not_lt_zero _)⟩
  clear H;intro i a w hI H;obtain ⟨hi,hno⟩:=hI;dsimp only [lca,bW] at H;refine kP H (SR fun _ K7=>Rc O (Kz K7 (SQ fun _ K8=>Cd O ?_ ?_))) <;> clear H K7
  · intro kN a H
    try have p25:=dT kN
    have hi2:i < S.length:=by omega
    obtain ⟨b,o,rA,rc,hA,g1,g2⟩:=Ac hv hi2;subst hA;obtain ⟨b',o',Wd,Wh,Js,g3,g4⟩:=Ac hv (show 0 < S.length by omega)
    obtain ⟨rfl,rfl⟩:b=b'∧o=o':=by simpa using Js
    have hm0:S[0].length=m:=by rw [hm];cases S with|nil=>simp at hi2|cons r S=>rfl
    have uy:∀ e,¬ e=0->nP m S[i]=e->pV S=e:=fun e he h=>by
      rw [pV,aZ,<- hm,TW hi2 (fun j hj=>hno j hj V) (by rw [h];exact he),h]
    have hbl:∀ e,¬ e=0->pV S=e->pR S=[]:=fun e he h=>by rw [pR,aL (by rw [h];exact he)]
    refine kP H (Kc K8 (SQ fun _ K9=>SB (SR fun _ aP=>Ri iE bP O O (Rg bP O (by assumption) ?_))));clear H K8;intro a H;refine kH H (av aP O (SQ fun _ aT=>SB (SR fun _ bH=>Rm O (Rl cB O (Rc O (av bH O (Cd O ?_ ?_))))))) <;> clear H aP bH
    · intro fI a H
      try have p28:=dT fI
      refine kP H (SR fun _ bG=>Ra O (av bG O ?_));clear H bG;intro a H;refine aU ?_;refine (bK H results12 (.cons (aG H O) (.cons (aG H O) .nil)) ?_).1
      have hr:nP m S[i]=9:=by rw [nP,dS]
      exact H.rt ⟨_,by rw [uy 9 Y hr],by rw [hbl 9 Y (uy 9 Y hr)];exact aF.lD O Y⟩
    intro fI a H
    try have p28:=dF fI
    refine kP H (SR fun _ bX=>Rm O (Rl cB O (Ro pI 0 O ?_)));clear H;intro a H;refine bD iE bP 0 H wn O O O V O ?_;clear H;intro a H;refine kH H (Rg bP O (by assumption) ?_);clear H;intro a H;refine kH H (Rl cB O (Rc O (av bX O (Cd O ?_ ?_)))) <;> clear H bX
    · intro h32 a H
      try have p32:=dT h32
      refine kP H (SR fun _ dG=>Ra O (av dG O ?_));clear H dG;intro a H;refine aU ?_;refine (bK H results12 (.cons (aG H O) (.cons (aG H O) .nil)) ?_).1
      have hr:nP m S[i]=15:=by rw [nP,aZ,dS]
      exact H.rt ⟨_,by rw [uy 15 Y hr],by rw [hbl 15 Y (uy 15 Y hr)];exact aF.lD O Y⟩
    intro h32 a H
    try have p32:=dF h32
    refine kP H (Kc aT (SR fun _ dR=>Rm O (Rl cB O (Rm O (Kz dR (SB ?_))))));clear H aT dR;intro a H;skip;refine dY (ι:=Nat) (Tc:=[(1,_),(22,_),(23,_),(24,_),(40,_),(41,_)]) (Lc:=[(_,_)]) (fun gh=>[(42,vi gh)]) (fun gh=>[]) (fun gh=>G) (fun gh=>gh<=S[i].length∧∀ q (hq:q < gh) (hq2:q < S[i].length),vF S[i][q]=true) (fun gh=>S[i].length - gh) (0) (by exact H.sub ⟨O,O,O,O,O,O,O,aI⟩) ?_ ?_
    · exact ⟨V,fun q hq=>absurd hq (Nat.not_lt_zero _)⟩
    clear H;intro k a w hI H;obtain ⟨hk,Cz⟩:=hI;dsimp only [lca,bW] at H;refine kP H (SR fun _ fu=>Rc O (Kz fu (SQ fun _ gF=>Cd O ?_ ?_))) <;> clear H fu
    · intro h43 a H
      try have p43:=dT h43
      have hk2:k < S[i].length:=by omega
      obtain ⟨b2,o2,hA2,g5⟩:=rU g2 hk2;subst hA2;refine kP H (Kc gF (SQ fun _ fU=>SB (SR fun _ jd=>Ri cB aC O O (Rg aC O (by assumption) ?_))));clear H gF;intro a H;refine kH H (av jd O (SR fun _ jf=>Rm O (Rc O (Rm O (Sp 48 O ?_ ?_))))) <;> clear H jd
      · intro h48 a H
        try have p48:=dT h48
        refine kH H (aO h48 O (Pt h48 O (Kz jf (Ct O O (SR fun _ iF=>Ra O (av iF O ?_))))));clear H jf iF;intro a H;refine aU ?_;refine (bK H results12 (.cons (aG H O) (.cons (aG H O) .nil)) ?_).1
        first
          | (have hr:nP m S[i]=2:=by
              rw [nP,aZ,aZ,aL (fun h=>by
                have:=gW.1 h _ (dV hk2)
                simp only [vF,iG,dU] at this
                omega)]
             exact H.rt ⟨_,by rw [uy 2 Y hr],by rw [hbl 2 Y (uy 2 Y hr)];exact aF.lD O Y⟩)
          | (have hS:S=[]:=List.eq_nil_of_length_eq_zero V
             subst hS
             exact H.rt ⟨_,by rw [yH.1],by rw [yH.2];exact aF.lD O Y⟩)
          | exact H.rt ⟨_,by rw [vg],by rw [pR,aN vg,<- hm];exact hrep⟩
      intro h48 a H
      try have p48:=dF h48
      refine kH H (YM h48 O (YC h48 O (Pf h48 O (Kz jf (Cd O ?_ ?_))))) <;> clear H jf
      · intro kI a H
        try have p51:=dT kI
        refine kP H (SR fun _ jM=>Ra O (av jM O ?_));clear H jM;intro a H;refine aU ?_;refine (bK H results12 (.cons (aG H O) (.cons (aG H O) .nil)) ?_).1
        first
          | (have hr:nP m S[i]=2:=by
              rw [nP,aZ,aZ,aL (fun h=>by
                have:=gW.1 h _ (dV hk2)
                simp only [vF,iG,dU] at this
                omega)]
             exact H.rt ⟨_,by rw [uy 2 Y hr],by rw [hbl 2 Y (uy 2 Y hr)];exact aF.lD O Y⟩)
          | (have hS:S=[]:=List.eq_nil_of_length_eq_zero V
             subst hS
             exact H.rt ⟨_,by rw [yH.1],by rw [yH.2];exact aF.lD O Y⟩)
          | exact H.rt ⟨_,by rw [vg],by rw [pR,aN vg,<- hm];exact hrep⟩
      intro kI a H
      try have p51:=dF kI
      refine kP H (Kc fU (SC (Rd O (Rm O ?_))));clear H fU;intro a H;refine aj ?_;refine bE ((k+1)) (by exact H.sub ⟨O,O,O,O,O,O,O,aI⟩) ?_
      exact ⟨V,fun q hq hq2=>by
          by_cases e:q=k
          · subst e;simp only [vF,iG,dU];omega
          exact Cz q V hq2⟩
    intro h43 a H
    try have p43:=dF h43
    refine dJ ?_;refine K9 _ _ ?_;clear K9;refine kP H (SC (Rd O (Rm O ?_)));clear H;intro a H;refine aj ?_;refine bE ((i+1)) (by exact H.sub ⟨O,O,O,O,aI⟩) ?_
    exact ⟨V,fun j hj hj2=>by
        by_cases e:j=i
        · subst e
          rw [nP,aZ,aZ,aN (gW.2 fun x hx=>by
            obtain ⟨q,hq,rfl⟩:=List.getElem_of_mem hx
            exact Cz q V hq)]
        exact hno j V hj2⟩
  intro kN a H
  try have p25:=dF kN
  refine dJ ?_;refine K5 _ _ ?_;clear K5;refine kP H (SQ fun _ iI=>SR fun _ lJ=>Ro pI 0 O (Rl iE O (Rc O (Kz lJ (Cd O ?_ ?_))))) <;> clear H lJ
  · intro cZ a H
    try have p56:=dT cZ
    refine kP H (SR fun _ lK=>Ra O (av lK O ?_));clear H lK;intro a H;refine aU ?_;refine (bK H results12 (.cons (aG H O) (.cons (aG H O) .nil)) ?_).1
    first
      | (have hr:nP m S[i]=2:=by
          rw [nP,aZ,aZ,aL (fun h=>by
            have:=gW.1 h _ (dV hk2)
            simp only [vF,iG,dU] at this
            omega)]
         exact H.rt ⟨_,by rw [uy 2 Y hr],by rw [hbl 2 Y (uy 2 Y hr)];exact aF.lD O Y⟩)
      | (have hS:S=[]:=List.eq_nil_of_length_eq_zero V
         subst hS
         exact H.rt ⟨_,by rw [yH.1],by rw [yH.2];exact aF.lD O Y⟩)
      | exact H.rt ⟨_,by rw [vg],by rw [pR,aN vg,<- hm];exact hrep⟩
  intro cZ a H
  try have p56:=dF cZ
  have hn0:0 < S.length:=by omega
  have hno':∀ j (hj:j < S.length),nP m S[j]=0:=fun j hj=>hno j V hj
  have vg:pV S=0:=by rw [pV,aZ,<- hm];exact Nl hno'
  have JW:∀ r∈S,r.length=m∧r.length<=1024∧r.all vF=true:=fun r hr=>by
    obtain ⟨j,hj,rfl⟩:=List.getElem_of_mem hr;have:=hno' j hj;rw [nP] at this
    split at this
    · cases this
    split at this
    · cases this
    split at this
    · rename_i h1 h2 h3;exact ⟨V,V,h3⟩
    cases this
  obtain ⟨b,o,rA,rc,hA,g1,g2⟩:=Ac hv hn0;subst hA;have hm0:S[0].length=m:=(JW _ (dV hn0)).1
  have hm1:m<=1024:=by have:=(JW _ (dV hn0)).2.1;omega
  rw [hm0] at g1 g2;have hN:(S.length+1)*(m+1)<=1025*1025:=Nat.mul_le_mul V V
  have hok:∀ i k,i < S.length->k < m->0<=bI S i k∧bI S i k<=1000:=fun i k hi hk=>by
    have h1:=JW _ (dV hi);rw [EC hi V];have h2:=gW.1 h1.2.2 _ (dV (show k < S[i].length by omega))
    simpa [vF] using h2
  have htb:=fun i k=>EP (n:=S.length) (m:=m) (fun i k hi hk=>(hok i k hi hk).2) ((S.length - i)+(m - k)) i k (bS _);refine lV ?_;refine iI _ _ ?_;clear iI;refine gy (fun _ oh=>?_);refine dI hmx [[],[0],[],[2],[2,3],[2,3,4],[0,1],ra 0 7] [] Z [.slice (some ⟨b,o,none⟩) S.length c,vi S.length,.slice (some ⟨b,o,none⟩) S.length c,(aJ b (o+0*1)),.slice rA m rc,vi m,vi S.length,vi m] H (aH ?_ ?_ ?_ ?_ (aH ?_ ?_ ?_ ?_ fD)) ?_
  · intro ay a w G1 _ ah hc hG HT hv;have H:=HT;clear ah;have Hb:=H.full;have H:=Hb;clear hc;refine kH H (Ro pI 0 O ?_);clear H;intro a H;refine aj ⟨O,?_⟩;exact aB HT Hb hG hv (fun _ _ _ _ _ h=>h) H O
  · intro ay a w G1 _ ah hc hG HT hv;have H:=HT;clear ah;have H:=H.au (hv 0 57 (hc 0 Y) O) O;have Hb:=H.full;have H:=Hb;clear hc;refine kH H (Rl iE O ?_);clear H;intro a H;refine aj ⟨O,?_⟩;exact aB HT Hb hG hv (fun _ _ _ _ _ h=>h) H O
  · intro ay a w G1 _ ah hc hG HT hv;have H:=HT;clear ah;have Hb:=H.full;have H:=Hb;clear hc;refine kH H (Ro pI 0 O ?_);clear H;intro a H;refine aj ⟨O,?_⟩;exact aB HT Hb hG hv (fun _ _ _ _ _ h=>h) H O
  · intro ay a w G1 _ ah hc hG HT hv;have H:=HT;clear ah;have H:=H.au (hv 2 59 (hc 2 Y) O) O;have Hb:=H.full;have H:=Hb;clear hc;refine bD iE bP 0 H wn O O O V O ?_;clear H;intro a H;refine aj ⟨O,?_⟩;exact aB HT Hb hG hv (fun _ _ _ _ _ h=>h) H O
  · intro ay a w G1 _ ah hc hG HT hv;have H:=HT;clear ah;have H:=H.au (hv 3 60 (hc 3 Y) O) O;have Hb:=H.full;have H:=Hb;clear hc;refine kH H (Rg bP O (aK hG g1) ?_);clear H;intro a H;refine aj ⟨O,?_⟩;exact aB HT Hb hG hv (fun _ _ _ _ _ h=>h) H O
  · intro ay a w G1 _ ah hc hG HT hv;have H:=HT;clear ah;have H:=H.au (hv 4 61 (hc 4 Y) O) O;have Hb:=H.full;have H:=Hb;clear hc;refine kH H (Rl cB O ?_);clear H;intro a H;refine aj ⟨O,?_⟩;exact aB HT Hb hG hv (fun _ _ _ _ _ h=>h) H O
  · intro ay a w G1 _ ah hc hG HT hv;have H:=HT;clear ah;have H:=H.au (hv 1 58 (hc 1 Y) O) O;have Hb:=H.full;have H:=Hb;clear hc;refine kH H (Ra O ?_);clear H;intro a H;refine aj ⟨O,?_⟩;exact aB HT Hb hG hv (fun _ _ _ _ _ h=>h) H O
  · intro ay a w G1 _ ah hc hG HT hv;have H:=HT;clear ah;have H:=H.au (hv 5 62 (hc 5 Y) O) O;have Hb:=H.full;have H:=Hb;clear hc;refine kH H (Ra O ?_);clear H;intro a H;refine aj ⟨O,?_⟩;exact aB HT Hb hG hv (fun _ _ _ _ _ h=>h) H O
  clear H;intro a w G ado H hv;have H:=H.au (hv 6 8 O O) O;have H:=H.au (hv 7 9 O O) O;clear hv;refine aj ⟨O,?_⟩;refine oh _ _ ?_;clear oh;refine gy (fun _ jE=>?_);replace hv:=hv.mono ado;refine kP H (SC (Rm O (Rd O (Rm O (Rd O ?_)))));clear H;intro a H;refine CX (((S.length+1)*(m+1):Nat):Int) H wn O O (by push_cast;rfl) V V rfl ?_;clear H;intro a H;refine xV ((S.length+1)*(m+1)) cB aC H wn O O O V V O ?_;clear H;intro ng a w Jz H;refine kH H (bO jE O (SR fun _ mM=>Rm O (Rd O ?_)));clear H jE;intro a H;refine xV (S.length+1) iE bP H wn O O V V V O ?_;clear H;intro vT a w ajL H;rw [<- agn ng S.length (m+1)] at H;refine gX pI H wn O ?_;clear H;intro b11 a w Un H;refine bg pI 0 (vs:=[_]) H wn O ?_;clear H;intro w H;refine mM _ _ ?_;clear mM;refine kP H (SQ fun _ nI=>SR fun _ lM=>Ro pI 0 O (Rl iE O (Rm O (Kz lM (SB ?_)))));clear H lM;intro a H;skip;refine dY (ι:=Nat × GH) (Tc:=[(1,_),(8,_),(9,_),(10,_),(11,_),(73,_)]) (Lc:=[(_,_),(_,_),(_,_)]) (fun gh=>[(74,vi gh.1)]) (fun gh=>[(vT,.cells (tu ng S.length (m+1) gh.1).toArray 40 (0,0))]) (fun gh=>gh.2) (fun gh=>gh.1<=S.length+1∧(∀ b o,G b=some o->gh.2 b=some o)) (fun gh=>S.length+1 - gh.1) ((0,G)) (by exact (H.dz (Pl:=[_,_,_,_]) (bZ:=[_,_,_,_]) [0,2,3,1] Y O).sub ⟨O,O,O,O,O,O,O,aI⟩) ?_ ?_
  · exact ⟨fC _,fun _ _ h=>h⟩
  clear H;rintro ⟨j,g⟩ a w hI H;dsimp only at hI H;obtain ⟨hj,hgm⟩:=hI;dsimp only [lca,bW] at H;refine kP H (SR fun _ qy=>Rc O (Kz qy (SQ fun _ qz=>Cd O ?_ ?_))) <;> clear H qy
  · intro Ny a H
    try have p75:=dT Ny
    have hj2:j < S.length+1:=by omega
    have hmu:(j+1)*(m+1)<=(S.length+1)*(m+1):=Nat.mul_le_mul_right _ V;have ajZ:(j+1)*(m+1)=j*(m+1)+(m+1):=Nat.succ_mul _ _
    have hsub:(j+1)*(m+1) - j*(m+1)=m+1:=by omega
    have hne:¬ (S.length+1)*(m+1)=j*(m+1):=by omega
    refine kP H (Kc qz (SQ fun _ nJ=>SB (SR fun _ lN=>Rm O (av lN O ?_))));clear H qz lN;intro a H;refine dI hmx [[],[],[],[],[],[4],[3,4,5],[],[7],[],[9],ra 7 4,ra 2 10,ra 0 13,ra 0 14] [14] Z [.slice (some ⟨vT,0,none⟩) (S.length+1) (S.length+1),vi j,.slice (some ⟨ng,0,none⟩) ((S.length+1)*(m+1)) ((S.length+1)*(m+1)),vi j,vi m,vi ((m:Int)+1),vi ((j*(m+1):Nat):Int),vi j,vi ((j:Int)+1),vi m,vi ((m:Int)+1),vi (((j+1)*(m+1):Nat):Int),.slice (some ⟨ng,j*(m+1),none⟩) (m+1) ((S.length+1)*(m+1) - j*(m+1)),(aJ vT (0+j*1))] H (aH ?_ ?_ ?_ ?_ (aH ?_ ?_ ?_ ?_ (aH ?_ ?_ ?_ ?_ (eB ?_ (eB ?_ (eB (fT O) fD)))))) ?_
    · intro ay a w G1 _ ah hc hG HT hv;have H:=HT;clear ah;have Hb:=H.full;have H:=Hb;clear hc;refine kH H (Ro pI 0 O ?_);clear H;intro a H;refine aj ⟨O,?_⟩;exact aB HT Hb hG hv (fun _ _ _ _ _ h=>h) H O
    · intro ay a w G1 _ ah hc hG HT hv;have H:=HT;clear ah;have Hb:=H.full;have H:=Hb;clear hc;refine kH H (Rm O ?_);clear H;intro a H;refine aj ⟨O,?_⟩;exact aB HT Hb hG hv (fun _ _ _ _ _ h=>h) H O
    · intro ay a w G1 _ ah hc hG HT hv;have H:=HT;clear ah;have Hb:=H.full;have H:=Hb;clear hc;refine kH H (Rm O ?_);clear H;intro a H;refine aj ⟨O,?_⟩;exact aB HT Hb hG hv (fun _ _ _ _ _ h=>h) H O
    · intro ay a w G1 _ ah hc hG HT hv;have H:=HT;clear ah;have Hb:=H.full;have H:=Hb;clear hc;refine kH H (Rm O ?_);clear H;intro a H;refine aj ⟨O,?_⟩;exact aB HT Hb hG hv (fun _ _ _ _ _ h=>h) H O
    · intro ay a w G1 _ ah hc hG HT hv;have H:=HT;clear ah;have Hb:=H.full;have H:=Hb;clear hc;refine kH H (Rm O ?_);clear H;intro a H;refine aj ⟨O,?_⟩;exact aB HT Hb hG hv (fun _ _ _ _ _ h=>h) H O
    · intro ay a w G1 _ ah hc hG HT hv;have H:=HT;clear ah;have H:=H.au (hv 4 81 (hc 4 Y) O) O;have Hb:=H.full;have H:=Hb;clear hc;refine kH H (Rd O ?_);clear H;intro a H;refine aj ⟨O,?_⟩;exact aB HT Hb hG hv (fun _ _ _ _ _ h=>h) H O
    · intro ay a w G1 _ ah hc hG HT hv;have H:=HT;clear ah;have H:=H.au (hv 3 80 (hc 3 Y) O) O;have H:=H.au (hv 5 82 (hc 5 Y) O) O;have Hb:=H.full;have H:=Hb;clear hc;refine CX ((j*(m+1):Nat):Int) H wn O O (by push_cast;rfl) V V rfl ?_;clear H;intro a H;refine aj ⟨O,?_⟩;exact aB HT Hb hG hv (fun _ _ _ _ _ h=>h) H O
    · intro ay a w G1 _ ah hc hG HT hv;have H:=HT;clear ah;have Hb:=H.full;have H:=Hb;clear hc;refine kH H (Rm O ?_);clear H;intro a H;refine aj ⟨O,?_⟩;exact aB HT Hb hG hv (fun _ _ _ _ _ h=>h) H O
    · intro ay a w G1 _ ah hc hG HT hv;have H:=HT;clear ah;have H:=H.au (hv 7 84 (hc 7 Y) O) O;have Hb:=H.full;have H:=Hb;clear hc;refine kH H (Rd O ?_);clear H;intro a H;refine aj ⟨O,?_⟩;exact aB HT Hb hG hv (fun _ _ _ _ _ h=>h) H O
    · intro ay a w G1 _ ah hc hG HT hv;have H:=HT;clear ah;have Hb:=H.full;have H:=Hb;clear hc;refine kH H (Rm O ?_);clear H;intro a H;refine aj ⟨O,?_⟩;exact aB HT Hb hG hv (fun _ _ _ _ _ h=>h) H O
    · intro ay a w G1 _ ah hc hG HT hv;have H:=HT;clear ah;have H:=H.au (hv 9 86 (hc 9 Y) O) O;have Hb:=H.full;have H:=Hb;clear hc;refine kH H (Rd O ?_);clear H;intro a H;refine aj ⟨O,?_⟩;exact aB HT Hb hG hv (fun _ _ _ _ _ h=>h) H O
    · intro ay a w G1 _ ah hc hG HT hv;have H:=HT;clear ah;have H:=H.au (hv 8 85 (hc 8 Y) O) O;have H:=H.au (hv 10 87 (hc 10 Y) O) O;have Hb:=H.full;have H:=Hb;clear hc;refine CX (((j+1)*(m+1):Nat):Int) H wn O O (by push_cast;rfl) V V rfl ?_;clear H;intro a H;refine aj ⟨O,?_⟩;exact aB HT Hb hG hv (fun _ _ _ _ _ h=>h) H O
    · intro ay a w G1 _ ah hc hG HT hv;have H:=HT;clear ah;have H:=H.au (hv 2 79 (hc 2 Y) O) O;have H:=H.au (hv 6 83 (hc 6 Y) O) O;have H:=H.au (hv 11 88 (hc 11 Y) O) O;have Hb:=H.full;have H:=Hb;clear hc;refine WU cB aC (j*(m+1)) ((j+1)*(m+1)) H wn O O O O O V hmu O ?_;clear H;intro a H;rw [aL hne,rJ,add_lit,eH,Nat.mul_one,hsub] at H;refine aj ⟨O,?_⟩;exact aB HT Hb hG hv (fun _ _ _ _ _ h=>h) H O
    · intro ay a w G1 _ ah hc hG HT hv;have H:=HT;clear ah;have H:=H.au (hv 0 77 (hc 0 Y) O) O;have H:=H.au (hv 1 78 (hc 1 Y) O) O;have Hb:=H.full;have H:=Hb;clear hc;refine bD iE bP j H wn O O O V O ?_;clear H;intro a H;refine aj ⟨O,?_⟩;exact aB HT Hb hG hv (fun _ _ _ _ _ h=>h) H O
    clear H;intro a w G adp H hv;have H:=H.au (hv 12 89 O O) O;have H:=H.au (hv 13 90 O O) O;clear hv;refine ql bP 3 (c:=tu ng S.length (m+1) j) (vs:=[_]) (tu ng S.length (m+1) (j+1)) H wn O O O O O O (Eq.mpr Nat.ble_eq (by rw [agl];simp only [List.length_singleton];omega)) (by rw [eH,Nat.mul_one];exact agm hj2) ?_;clear H;intro w H;dsimp only [List.set] at H;refine aj ⟨O,?_⟩;refine nJ _ _ ?_;clear nJ;refine kP H (SC (Rd O (Rm O ?_)));clear H;intro a H;refine aj ?_;refine bE ((j+1,G)) (by exact H.sub ⟨O,O,O,O,O,O,O,aI⟩) ?_
    (try dsimp only);exact ⟨V,fun b o h=>adp b o (hgm b o h)⟩
  intro Ny a H
  try have p75:=dF Ny
  refine dJ ?_;refine nI _ _ ?_;clear nI;refine gy (fun _ rz=>?_)
  have N7:j=S.length+1:=by omega
  rw [N7] at H;have H:=H.dz (Pl:=[_,_,_,_]) (bZ:=[_,_,_,_]) [0,2,3,1] Y O;obtain ⟨Ga,hma,adC,H⟩:=H.kE;obtain ⟨Gb,hmb,hb1',H⟩:=H.kE;obtain ⟨Gc,hmc,adM,H⟩:=H.kE;have hT:FC Gc b1 b11 vT ng S m:=⟨⟨_,c,(by unfold aS;rw [hmc _ _ hb1'];rfl),hv.mono fun b o h=>hmc b o (hmb b o (hma b o (hgm b o h)))⟩,fun r hr=>(JW r hr).1,(by unfold aS;rw [hmc _ _ (hmb _ _ adC)];rfl),(fun i hi=>by unfold aS;rw [adM];simpa using agk hi),⟨V,hm1⟩,hok⟩;rw [show List.replicate ((S.length+1)*(m+1)) (Value.int .i64 0)=(List.replicate ((S.length+1)*(m+1)) (0:Int)).map vi from List.map_replicate.symm] at H;refine rP ?_;refine Bw H wn O O ?_;clear H;intro a H;refine kH H (bO rz O (SQ fun _ rC=>SR fun _ tJ=>Rm O (Rs O (av tJ O (SB ?_)))));clear H rz tJ;intro a H;skip;refine dY (ι:=Nat × List Int × GH) (Tc:=[(1,_),(8,_),(9,_),(11,_),(13,_)]) (Lc:=[]) (fun gh=>[(14,vi ((gh.1:Int) - 1))]) (fun gh=>[bF ng gh.2.1]) (fun gh=>gh.2.2) (fun gh=>gh.1<=S.length∧Aq (bI S) S.length m gh.2.1 (fun i' k'=>gh.1<=i'∨k'=m)∧(∀ b o,Gc b=some o->gh.2.2 b=some o)) (fun gh=>gh.1) ((S.length,List.replicate ((S.length+1)*(m+1)) 0,Gc)) (by exact H.sub ⟨O,O,O,O,O,O,aI⟩) ?_ ?_
  · exact ⟨bS _,acZ,fun _ _ h=>h⟩
  clear H;rintro ⟨j,fl,g⟩ a w hI H;dsimp only at hI H;obtain ⟨hj,hfl,hgm⟩:=hI;dsimp only [lca,bW] at H;refine kP H (SQ fun _ nK=>SR fun _ nL=>Rm O (Rc O (Kz nL (Cd O ?_ ?_)))) <;> clear H nL
  · intro NA a H
    try have p96:=dT NA
    obtain ⟨i,rfl⟩:∃ i,j=i+1:=⟨j - 1,V⟩;rw [show (((i+1:Nat):Int) - 1)=(i:Int) by omega] at H
    have hi2:i < S.length:=by omega
    refine kP H (Kc nK (SQ fun _ sj=>SB (SR fun _ wR=>Rm O (Rs O (av wR O (SB ?_))))));clear H nK wR;intro a H;skip;refine dY (ι:=Nat × List Int × GH) (Tc:=[(1,_),(8,_),(9,_),(11,_),(13,_),(14,_)]) (Lc:=[]) (fun gh=>[(15,vi ((gh.1:Int) - 1))]) (fun gh=>[bF ng gh.2.1]) (fun gh=>gh.2.2) (fun gh=>gh.1<=m∧Aq (bI S) S.length m gh.2.1 (fun i' k'=>i+1<=i'∨k'=m∨(i'=i∧gh.1<=k'))∧(∀ b o,Gc b=some o->gh.2.2 b=some o)) (fun gh=>gh.1) ((m,fl,g)) (by exact H.sub ⟨O,O,O,O,O,O,O,aI⟩) ?_ ?_
    · exact ⟨bS _,hfl.weak (fun i' k' h1 h2 h=>by omega),hgm⟩
    clear H;rintro ⟨q,F6,g2⟩ a w hI H;dsimp only at hI H;obtain ⟨hq,Ef,gH⟩:=hI;dsimp only [lca,bW] at H;refine kP H (SQ fun _ sw=>SR fun _ wS=>Rm O (Rc O (Kz wS (Cd O ?_ ?_)))) <;> clear H wS
    · intro Nr a H
      try have afS:=dT Nr
      obtain ⟨k,rfl⟩:∃ k,q=k+1:=⟨q - 1,V⟩;rw [show (((k+1:Nat):Int) - 1)=(k:Int) by omega] at H
      have hk2:k < m:=by omega
      have e1:=Ef.2 (i+1) k V V (.inl (bS _));have e2:=Ef.2 i (k+1) V V V;have e3:=Ef.2 (i+1) (k+1) V V (.inl (bS _));have Jv:=hT.mono gH;have t0:=Jv.tb;have t1:=Jv.rows i V;have t2:=Jv.rows (i+1) V;have hb3:=htb (i+1) (k+1)
      have hlt:i*(m+1)+k < (S.length+1)*(m+1):=by
        have:=Nat.mul_le_mul_right (m+1) (show i<=S.length by omega);rw [Nat.succ_mul];omega
      refine kP H (Kc sw (SQ fun _ wT=>SB ?_));clear H sw;intro a H;refine dI hmx [[],[],[0,1],[0,1,2],[],[],[],[6],[5,6,7],ra 5 4,[],ra 5 6,ra 5 7,[],[],[13,14],[13,14,15],[],[17],ra 13 6,ra 13 7,[],[],[],[21,22,23],ra 5 20,ra 0 26,ra 0 27] [27] Z [.slice (some ⟨vT,0,none⟩) (S.length+1) (S.length+1),vi i,(aJ vT (0+i*1)),.slice (some ⟨ng,i*(m+1),none⟩) (m+1) ((S.length+1)*(m+1) - i*(m+1)),vi k,.slice (some ⟨vT,0,none⟩) (S.length+1) (S.length+1),vi i,vi ((i:Int)+1),(aJ vT (0+(i+1)*1)),.slice (some ⟨ng,(i+1)*(m+1),none⟩) (m+1) ((S.length+1)*(m+1) - (i+1)*(m+1)),vi k,(aJ ng ((i+1)*(m+1)+k*1)),vi (tot (bI S) S.length m (i+1) k),.slice (some ⟨vT,0,none⟩) (S.length+1) (S.length+1),vi i,(aJ vT (0+i*1)),.slice (some ⟨ng,i*(m+1),none⟩) (m+1) ((S.length+1)*(m+1) - i*(m+1)),vi k,vi ((k:Int)+1),(aJ ng (i*(m+1)+(k+1)*1)),vi (tot (bI S) S.length m i (k+1)),.func (.func 26) #[] #[(aJ b1 0),(aJ b11 0)],vi i,vi k,vi (yg (bI S) S.length m i k),vi (tot (bI S) S.length m i k),(aJ ng (i*(m+1)+k*1))] H (aH ?_ ?_ ?_ ?_ (aH ?_ ?_ ?_ ?_ (aH ?_ ?_ ?_ ?_ (aH ?_ ?_ ?_ ?_ (aH ?_ ?_ ?_ ?_ (aH ?_ ?_ ?_ ?_ (aH ?_ ?_ ?_ (fT O) fD))))))) ?_
      · intro ay a w G1 _ ah hc hG HT hv;have H:=HT;clear ah;have Hb:=H.full;have H:=Hb;clear hc;refine kH H (Rg pI O (aK hG t0) ?_);clear H;intro a H;refine aj ⟨O,?_⟩;exact aB HT Hb hG hv (fun _ _ _ _ _ h=>h) H O
      · intro ay a w G1 _ ah hc hG HT hv;have H:=HT;clear ah;have Hb:=H.full;have H:=Hb;clear hc;refine kH H (Rm O ?_);clear H;intro a H;refine aj ⟨O,?_⟩;exact aB HT Hb hG hv (fun _ _ _ _ _ h=>h) H O
      · intro ay a w G1 _ ah hc hG HT hv;have H:=HT;clear ah;have H:=H.au (hv 0 105 (hc 0 Y) O) O;have H:=H.au (hv 1 106 (hc 1 Y) O) O;have Hb:=H.full;have H:=Hb;clear hc;refine bD iE bP i H wn O O O V O ?_;clear H;intro a H;refine aj ⟨O,?_⟩;exact aB HT Hb hG hv (fun _ _ _ _ _ h=>h) H O
      · intro ay a w G1 _ ah hc hG HT hv;have H:=HT;clear ah;have H:=H.au (hv 2 107 (hc 2 Y) O) O;have Hb:=H.full;have H:=Hb;clear hc;refine kH H (Rg bP O (aK hG (by rw [eH,Nat.mul_one];exact t1)) ?_);clear H;intro a H;refine aj ⟨O,?_⟩;exact aB HT Hb hG hv (fun _ _ _ _ _ h=>h) H O
      · intro ay a w G1 _ ah hc hG HT hv;have H:=HT;clear ah;have Hb:=H.full;have H:=Hb;clear hc;refine kH H (Rm O ?_);clear H;intro a H;refine aj ⟨O,?_⟩;exact aB HT Hb hG hv (fun _ _ _ _ _ h=>h) H O
      · intro ay a w G1 _ ah hc hG HT hv;have H:=HT;clear ah;have Hb:=H.full;have H:=Hb;clear hc;refine kH H (Rg pI O (aK hG t0) ?_);clear H;intro a H;refine aj ⟨O,?_⟩;exact aB HT Hb hG hv (fun _ _ _ _ _ h=>h) H O
      · intro ay a w G1 _ ah hc hG HT hv;have H:=HT;clear ah;have Hb:=H.full;have H:=Hb;clear hc;refine kH H (Rm O ?_);clear H;intro a H;refine aj ⟨O,?_⟩;exact aB HT Hb hG hv (fun _ _ _ _ _ h=>h) H O
      · intro ay a w G1 _ ah hc hG HT hv;have H:=HT;clear ah;have H:=H.au (hv 6 111 (hc 6 Y) O) O;have Hb:=H.full;have H:=Hb;clear hc;refine kH H (Rd O ?_);clear H;intro a H;refine aj ⟨O,?_⟩;exact aB HT Hb hG hv (fun _ _ _ _ _ h=>h) H O
      · intro ay a w G1 _ ah hc hG HT hv;have H:=HT;clear ah;have H:=H.au (hv 5 110 (hc 5 Y) O) O;have H:=H.au (hv 7 112 (hc 7 Y) O) O;have Hb:=H.full;have H:=Hb;clear hc;refine bD iE bP (i+1) H wn O O V V O ?_;clear H;intro a H;refine aj ⟨O,?_⟩;exact aB HT Hb hG hv (fun _ _ _ _ _ h=>h) H O
      · intro ay a w G1 _ ah hc hG HT hv;have H:=HT;clear ah;have H:=H.au (hv 8 113 (hc 8 Y) O) O;have Hb:=H.full;have H:=Hb;clear hc;refine kH H (Rg bP O (aK hG (by rw [eH,Nat.mul_one];exact t2)) ?_);clear H;intro a H;refine aj ⟨O,?_⟩;exact aB HT Hb hG hv (fun _ _ _ _ _ h=>h) H O
      · intro ay a w G1 _ ah hc hG HT hv;have H:=HT;clear ah;have Hb:=H.full;have H:=Hb;clear hc;refine kH H (Rm O ?_);clear H;intro a H;refine aj ⟨O,?_⟩;exact aB HT Hb hG hv (fun _ _ _ _ _ h=>h) H O
      · intro ay a w G1 _ ah hc hG HT hv;have H:=HT;clear ah;have H:=H.au (hv 9 114 (hc 9 Y) O) O;have H:=H.au (hv 10 115 (hc 10 Y) O) O;have Hb:=H.full;have H:=Hb;clear hc;refine bD cB aC k H wn O O O V O ?_;clear H;intro a H;refine aj ⟨O,?_⟩;exact aB HT Hb hG hv (fun _ _ _ _ _ h=>h) H O
      · intro ay a w G1 _ ah hc hG HT hv;have H:=HT;clear ah;have H:=H.au (hv 11 116 (hc 11 Y) O) O;have Hb:=H.full;have H:=Hb;clear hc;refine iU aC H wn O (H.hp.gK 0 O (by rw [Nat.mul_one];exact uZ e1)) O ?_;clear H;intro a H;refine aj ⟨O,?_⟩;exact aB HT Hb hG hv (fun _ _ _ _ _ h=>h) H O
      · intro ay a w G1 _ ah hc hG HT hv;have H:=HT;clear ah;have Hb:=H.full;have H:=Hb;clear hc;refine kH H (Rg pI O (aK hG t0) ?_);clear H;intro a H;refine aj ⟨O,?_⟩;exact aB HT Hb hG hv (fun _ _ _ _ _ h=>h) H O
      · intro ay a w G1 _ ah hc hG HT hv;have H:=HT;clear ah;have Hb:=H.full;have H:=Hb;clear hc;refine kH H (Rm O ?_);clear H;intro a H;refine aj ⟨O,?_⟩;exact aB HT Hb hG hv (fun _ _ _ _ _ h=>h) H O
      · intro ay a w G1 _ ah hc hG HT hv;have H:=HT;clear ah;have H:=H.au (hv 13 118 (hc 13 Y) O) O;have H:=H.au (hv 14 119 (hc 14 Y) O) O;have Hb:=H.full;have H:=Hb;clear hc;refine bD iE bP i H wn O O O V O ?_;clear H;intro a H;refine aj ⟨O,?_⟩;exact aB HT Hb hG hv (fun _ _ _ _ _ h=>h) H O
      · intro ay a w G1 _ ah hc hG HT hv;have H:=HT;clear ah;have H:=H.au (hv 15 120 (hc 15 Y) O) O;have Hb:=H.full;have H:=Hb;clear hc;refine kH H (Rg bP O (aK hG (by rw [eH,Nat.mul_one];exact t1)) ?_);clear H;intro a H;refine aj ⟨O,?_⟩;exact aB HT Hb hG hv (fun _ _ _ _ _ h=>h) H O
      · intro ay a w G1 _ ah hc hG HT hv;have H:=HT;clear ah;have Hb:=H.full;have H:=Hb;clear hc;refine kH H (Rm O ?_);clear H;intro a H;refine aj ⟨O,?_⟩;exact aB HT Hb hG hv (fun _ _ _ _ _ h=>h) H O
      · intro ay a w G1 _ ah hc hG HT hv;have H:=HT;clear ah;have H:=H.au (hv 17 122 (hc 17 Y) O) O;have Hb:=H.full;have H:=Hb;clear hc;refine kH H (Rd O ?_);clear H;intro a H;refine aj ⟨O,?_⟩;exact aB HT Hb hG hv (fun _ _ _ _ _ h=>h) H O
      · intro ay a w G1 _ ah hc hG HT hv;have H:=HT;clear ah;have H:=H.au (hv 16 121 (hc 16 Y) O) O;have H:=H.au (hv 18 123 (hc 18 Y) O) O;have Hb:=H.full;have H:=Hb;clear hc;refine bD cB aC (k+1) H wn O O V V O ?_;clear H;intro a H;refine aj ⟨O,?_⟩;exact aB HT Hb hG hv (fun _ _ _ _ _ h=>h) H O
      · intro ay a w G1 _ ah hc hG HT hv;have H:=HT;clear ah;have H:=H.au (hv 19 124 (hc 19 Y) O) O;have Hb:=H.full;have H:=Hb;clear hc;refine iU aC H wn O (H.hp.gK 0 O (by rw [Nat.mul_one];exact uZ e2)) O ?_;clear H;intro a H;refine aj ⟨O,?_⟩;exact aB HT Hb hG hv (fun _ _ _ _ _ h=>h) H O
      · intro ay a w G1 _ ah hc hG HT hv;have H:=HT;clear ah;have Hb:=H.full;have H:=Hb;clear hc;refine kH H (Rm O ?_);clear H;intro a H;refine aj ⟨O,?_⟩;exact aB HT Hb hG hv (fun _ _ _ _ _ h=>h) H O
      · intro ay a w G1 _ ah hc hG HT hv;have H:=HT;clear ah;have Hb:=H.full;have H:=Hb;clear hc;refine kH H (Rm O ?_);clear H;intro a H;refine aj ⟨O,?_⟩;exact aB HT Hb hG hv (fun _ _ _ _ _ h=>h) H O
      · intro ay a w G1 _ ah hc hG HT hv;have H:=HT;clear ah;have Hb:=H.full;have H:=Hb;clear hc;refine kH H (Rm O ?_);clear H;intro a H;refine aj ⟨O,?_⟩;exact aB HT Hb hG hv (fun _ _ _ _ _ h=>h) H O
      · intro ay a w G1 _ ah hc hG HT hv;have H:=HT;clear ah;have H:=H.au (hv 21 126 (hc 21 Y) O) O;have H:=H.au (hv 22 127 (hc 22 Y) O) O;have H:=H.au (hv 23 128 (hc 23 Y) O) O;have Hb:=H.full;have H:=Hb;clear hc;refine pF (Li:=[]) (L:=[bF ng F6]) H wn O O (Yb (Jv.mono hG) (Hp.owns (Li:=[]) H.hp) hi2 hk2 e3 V) O ?_;clear H;rintro akm ajh ajk a w ⟨rfl,rfl⟩ adn H;refine aj ⟨O,?_⟩;exact oD Z (fun _ _ _ _ _ h=>h) O O HT Hb hG hv adn (rfl) H
      · intro ay a w G1 _ ah hc hG HT hv;have H:=HT;clear ah;have H:=H.au (hv 12 117 (hc 12 Y) O) O;have H:=H.au (hv 20 125 (hc 20 Y) O) O;have H:=H.au (hv 24 129 (hc 24 Y) O) O;have Hb:=H.full;have H:=Hb;clear hc;refine agN H wn O O O O ?_;clear H;intro a H;refine aj ⟨O,?_⟩;exact oD Z (fun _ _ _ _ _ h=>h) O O HT Hb hG hv (fun _ _ h=>h) (by rw [Qi hi2 hk2];rfl) H
      · intro ay a w G1 _ ah hc hG HT hv;have H:=HT;clear ah;have H:=H.au (hv 3 108 (hc 3 Y) O) O;have H:=H.au (hv 4 109 (hc 4 Y) O) O;have Hb:=H.full;have H:=Hb;clear hc;refine bD cB aC k H wn O O O V O ?_;clear H;intro a H;refine aj ⟨O,?_⟩;exact aB HT Hb hG hv (fun _ _ _ _ _ h=>h) H O
      clear H;intro a w G adr H hv;have H:=H.au (hv 25 130 O O) O;have H:=H.au (hv 26 131 O O) O;clear hv;refine ql aC 0 (c:=F6.map vi) (vs:=[_]) ((F6.set (i*(m+1)+k) (tot (bI S) S.length m i k)).map vi) H wn O O O O O O (Eq.mpr Nat.ble_eq (by rw [bJ,Ef.1];simp only [List.length_singleton];omega)) (by rw [Nat.mul_one,List.map_set];rfl) ?_;clear H;intro w H;dsimp only [List.set] at H;refine aj ⟨O,?_⟩;refine wT _ _ ?_;clear wT;refine kP H (SC (Rm O (Rs O (Ra O ?_))));clear H;intro a H;refine aj ?_;refine bE ((k,F6.set (i*(m+1)+k) (tot (bI S) S.length m i k),G)) (by exact H.sub ⟨O,O,O,O,O,O,O,aI⟩) ?_
      (try dsimp only);exact ⟨V,acY Ef hi2 hk2 (fun i' k' h=>by omega),fun b o h=>adr b o (gH b o h)⟩
    intro Nr a H
    try have afS:=dF Nr
    refine dJ ?_;refine sj _ _ ?_;clear sj;refine kP H (SC (Rm O (Rs O (Ra O ?_))));clear H;intro a H;refine aj ?_;refine bE ((i,F6,g2)) (by exact H.sub ⟨O,O,O,O,O,O,aI⟩) ?_
    (try dsimp only);exact ⟨V,Ef.weak (fun i' k' h1 h2 h=>by omega),gH⟩
  intro NA a H
  try have p96:=dF NA
  refine dJ ?_;refine rC _ _ ?_;clear rC;refine gy (fun _ Az=>?_)
  have hj0:j=0:=by omega
  subst hj0;have hall:∀ i k,i<=S.length->k<=m->fl[i*(m+1)+k]?=some (tot (bI S) S.length m i k):=fun i k hi hk=>hfl.2 i k hi hk (.inl (fC _));have adR:=FE (bI S) S.length m (S.length+m) 0 0 V;refine kP H (SC (bO Az O (SQ fun _ yu=>SR fun _ AA=>Ra O (av AA O (SB ?_)))));clear H Az AA;intro a H;skip;refine dY (ι:=Nat × Nat × List jJ × ak × List ak × OL × GH) (Tc:=[(1,_),(8,_),(9,_),(11,_),(13,_)]) (Lc:=[(_,_)]) (fun gh=>[(16,gh.2.2.2.1),(17,vi gh.1),(18,vi gh.2.1)]) (fun gh=>[]++gh.2.2.2.2.2.1) (fun gh=>gh.2.2.2.2.2.2) (fun gh=>gh.1<=S.length∧gh.2.1<=m∧aW 45 3 gh.2.2.2.1 gh.2.2.1.length gh.2.2.2.2.1 gh.2.2.2.2.2.1∧cO gh.2.2.2.2.2.2 3 (gh.2.2.1.map jJ.dat) gh.2.2.2.2.1∧gh.2.2.1++lg (bI S) S.length m gh.1 gh.2.1=lg (bI S) S.length m 0 0∧(∀ b o,Gc b=some o->gh.2.2.2.2.2.2 b=some o)) (fun gh=>(S.length - gh.1)+(m - gh.2.1)) ((0,0,[],.slice none 0 0,[],[],g)) (by exact H.sub ⟨O,O,O,O,O,O,O,O,aI⟩) ?_ ?_
  · exact ⟨fC _,fC _,aW.nil,cO.nil,O,hgm⟩
  clear H;rintro ⟨i,k,B,v,xs,Lo,g3⟩ a w hI H;dsimp only at hI H;obtain ⟨hi,hk,hrw,iq,heq,nO⟩:=hI
  have hBl:B.length<=1024:=by have:=gZ List.length heq;rw [fQ] at this;omega
  dsimp only [lca,bW] at H;refine kP H (SQ fun _ vN=>SR fun _ yw=>Rm O (Rm O (Rc O (Rm O (Sp 135 O ?_ ?_))))) <;> clear H
  · intro zO a H
    try have afW:=dT zO
    refine kH H (YM zO O (YM zO O (YC zO O (Pt zO O (Kz yw (Cd O ?_ ?_)))))) <;> clear H yw
    · intro Nt a H
      try have afX:=dT Nt
      have hi2:i < S.length:=by omega
      have hk2:k < m:=by omega
      have Jw:=hT.mono nO;have t0:=Jw.tb
      have t1:aS g3 vT (0+i*1)=some (.slice (some ⟨ng,i*(m+1),none⟩) (m+1) ((S.length+1)*(m+1) - i*(m+1))):=by rw [eH,Nat.mul_one];exact Jw.rows i V
      have hb3:=htb (i+1) (k+1);rw [lg,dif_pos ⟨hi2,hk2⟩] at heq;refine kP H (Kc vN (SB (SR fun _ vO=>Rg pI O (by assumption) ?_)));clear H vN;intro a H;refine kH H (Rm O (Ri iE bP O O (Rg bP O (by assumption) ?_)));clear H;intro a H;refine kH H (Rm O (Ri cB aC O O ?_));clear H;intro a H;refine iU aC H wn O (H.hp.gK 0 O (by rw [Nat.mul_one];exact uZ (hall i k V V))) O ?_;clear H;intro a H;refine vO _ _ ?_;clear vO;refine kP H (SB (SR fun _ rD=>Rm O (Rm O (Rm O ?_))));clear H;intro a H;refine pF (Li:=[]) (L:=bF ng fl :: Lo) H wn O O (Yb Jw (Hp.owns (Li:=[]) H.hp) hi2 hk2 (hall (i+1) (k+1) V V) V) O ?_;clear H;rintro ako Il ajl a w ⟨rfl,rfl⟩ Cr H;dsimp only [List.nil_append] at H;have Ec:=Jw.mono Cr;have t0:=Ec.tb
      have t2:aS Il vT (0+(i+1)*1)=some (.slice (some ⟨ng,(i+1)*(m+1),none⟩) (m+1) ((S.length+1)*(m+1) - (i+1)*(m+1))):=by rw [eH,Nat.mul_one];exact Ec.rows (i+1) V
      obtain ⟨A4,c4,s1,s2⟩:=Ec.sc;obtain ⟨sb,so,sA,sc,rfl,g1,g2⟩:=Ac s2 hi2;obtain ⟨PI,PO,rfl,g5⟩:=rU g2 (show k < S[i].length by rw [Ec.wid _ (dV hi2)];exact hk2);rw [<- EC hi2 (by rw [Ec.wid _ (dV hi2)];exact hk2)] at g5;have hwi:=Ec.wid _ (dV hi2);refine kH H (Rc O (av rD O (Cd O ?_ ?_))) <;> clear H rD
      · intro Nu a H
        try have O5:=dT Nu
        rw [aN (show tot (bI S) S.length m i k=yg (bI S) S.length m i k from O5)] at heq;refine kP H (SR fun _ AB=>Rm O (Rm O (Rm O (Rg pI O (by assumption) ?_))));clear H;intro a H;refine kH H (Rm O (Ri iE bP O O (Rg bP O (by assumption) ?_)));clear H;intro a H;refine kH H (Rm O (Ri cB aC O O (Rg aC O (by assumption) ?_)));clear H;intro a H;refine ku PV [_,_,_] H wn O O O O ?_;clear H;intro a H;refine eU vJ zi [_,_,_] [_,_,_] H wn O O O O O (by intro i q h;match i,h with|0,h=>exact h|n+1,h=>simp at h) O O ?_;clear H;intro ajo a w ajA H;refine dX (Li:=[_,_]) (Lo:=Lo) (news:=[vi i,vi k,vi (bI S i k)]) vJ zi O O H wn O O hrw O (H.hp.bR 0 O O) O V V O ?_;clear H;intro v167 YT a w aeC H;refine kH H (av AB O (SC (Rm O (Rd O (Rm O (Rd O (Ra O (Ra O ?_))))))));clear H AB;intro a H;refine aj ?_;refine bE ((i+1,k+1,B++[⟨i,k,bI S i k⟩],v167,xs++[vi i,vi k,vi (bI S i k)],YT,Il)) (by exact (H.dz (Pl:=[_,_]) (bZ:=[_]) [1] Y O).sub ⟨O,O,O,O,O,O,O,O,aI⟩) ?_
        (try dsimp only);exact ⟨V,V,by rw [fQ];exact aeC,by rw [jw];exact (iq.mono Cr).snoc (VB _ ⟨i,k,bI S i k⟩) O,by simpa using heq,fun b o h=>Cr b o (nO b o h)⟩
      intro Nu a H
      try have O5:=dF Nu
      rw [aL (show ¬ tot (bI S) S.length m i k=yg (bI S) S.length m i k from O5)] at heq;refine kP H (SR fun _ AJ=>Rg pI O (by assumption) ?_);clear H;intro a H;refine kH H (Rm O (Rd O ?_));clear H;intro a H;refine bD iE bP (i+1) H wn O O V V O ?_;clear H;intro a H;refine kH H (Rg bP O (by assumption) ?_);clear H;intro a H;refine kH H (Rm O (Ri cB aC O O ?_));clear H;intro a H;refine iU aC H wn O (H.hp.gK 0 O (by rw [Nat.mul_one];exact uZ (hall (i+1) k V V))) O ?_;clear H;intro a H;refine kH H (Rc O (av AJ O (Cd O ?_ ?_))) <;> clear H AJ
      · intro Nv a H
        try have O6:=dT Nv
        rw [aN O6] at heq;refine kP H (SC (Rm O (Rd O (Ra O ?_))));clear H;intro a H;refine aj ?_;refine bE ((i+1,k,B,v,xs,Lo,Il)) (by exact H.sub ⟨O,O,O,O,O,O,O,O,aI⟩) ?_
        (try dsimp only);exact ⟨V,V,hrw,iq.mono Cr,heq,fun b o h=>Cr b o (nO b o h)⟩
      intro Nv a H
      try have O6:=dF Nv
      rw [aL O6] at heq;refine kP H (SC (Rm O (Rd O (Ra O ?_))));clear H;intro a H;refine aj ?_;refine bE ((i,k+1,B,v,xs,Lo,Il)) (by exact H.sub ⟨O,O,O,O,O,O,O,O,aI⟩) ?_
      (try dsimp only);exact ⟨V,V,hrw,iq.mono Cr,heq,fun b o h=>Cr b o (nO b o h)⟩
    intro Nt a H
    try have afX:=dF Nt
    refine dJ ?_;refine yu _ _ ?_;clear yu;refine gy (fun _ AL=>?_);rw [lg,dif_neg V,lU] at heq;obtain ⟨Gr,hmr,hrep,H⟩:=St.kF (Li:=[_]) H hrw (rows:=B.map jJ.dat) (by simp) iq;rw [heq] at hrep;refine kP H (SC (Rm O (Ra O (bO AL O ?_))));clear H AL;intro a H;refine aU ?_;refine (bK H results12 (.cons (aG H O) (.cons (aG H O) .nil)) ?_).1
    first
      | (have hr:nP m S[i]=2:=by
          rw [nP,aZ,aZ,aL (fun h=>by
            have:=gW.1 h _ (dV hk2)
            simp only [vF,iG,dU] at this
            omega)]
         exact H.rt ⟨_,by rw [uy 2 Y hr],by rw [hbl 2 Y (uy 2 Y hr)];exact aF.lD O Y⟩)
      | (have hS:S=[]:=List.eq_nil_of_length_eq_zero V
         subst hS
         exact H.rt ⟨_,by rw [yH.1],by rw [yH.2];exact aF.lD O Y⟩)
      | exact H.rt ⟨_,by rw [vg],by rw [pR,aN vg,<- hm];exact hrep⟩
  intro zO a H
  try have afW:=dF zO
  refine kH H (aV zO O (Pf zO O (Kz yw (Cf O O ?_))));clear H yw;intro a H;refine dJ ?_;refine yu _ _ ?_;clear yu;refine gy (fun _ vP=>?_);rw [lg,dif_neg V,lU] at heq;obtain ⟨Gr,hmr,hrep,H⟩:=St.kF (Li:=[_]) H hrw (rows:=B.map jJ.dat) (by simp) iq;rw [heq] at hrep;refine kP H (SC (Rm O (Ra O (bO vP O ?_))));clear H vP;intro a H;refine aU ?_;refine (bK H results12 (.cons (aG H O) (.cons (aG H O) .nil)) ?_).1
  first
    | (have hr:nP m S[i]=2:=by
        rw [nP,aZ,aZ,aL (fun h=>by
          have:=gW.1 h _ (dV hk2)
          simp only [vF,iG,dU] at this
          omega)]
       exact H.rt ⟨_,by rw [uy 2 Y hr],by rw [hbl 2 Y (uy 2 Y hr)];exact aF.lD O Y⟩)
    | (have hS:S=[]:=List.eq_nil_of_length_eq_zero V
       subst hS
       exact H.rt ⟨_,by rw [yH.1],by rw [yH.2];exact aF.lD O Y⟩)
    | exact H.rt ⟨_,by rw [vg],by rw [pR,aN vg,<- hm];exact hrep⟩
abbrev Bu:ByteArray:=⟨#[116,104,101,32,99,97,116]⟩
abbrev sA:ByteArray:=⟨#[97,32,99,97,116]⟩
theorem ahZ:gq Bu=true:=by kernel_rfl
theorem Y3:gq sA=true:=by kernel_rfl
theorem ahY:nH Bu=[⟨1,3⟩,⟨2,1⟩,⟨3,3⟩]:=by kernel_rfl
theorem Y2:qZ Bu sA=[⟨4,1⟩,⟨2,1⟩,⟨3,3⟩]:=by kernel_rfl
theorem ahV:yE (nH Bu) (qZ Bu sA)=666:=by kernel_rfl
theorem ahW:pR [[500,900],[1000,600]]=[⟨0,0,500⟩,⟨1,1,600⟩]:=by kernel_rfl
theorem ahX:pV [[500,900],[1000,600]]=0:=by kernel_rfl
theorem Xt:mO (fun _=>none) Bu:=⟨Y,ahZ,Dx.ascii Y Y,Z⟩
theorem Rj:mO (fun _=>none) sA:=⟨Y,Y3,Dx.ascii Y Y,Z⟩
theorem S9:bL 10:=bN func10 O
theorem Tk:bL 25:=bN func25 O
theorem RS {G0:GH} (G:GH) (w0:World) (hG:Hold G w0) (h0:∀ b o,G0 b=some o->G b=some o) (s t:ByteArray) (hs:mO G0 s) (ht:mO G0 t) :
  Calls prog 11 #[.string s,.string t] w0 (bQ w0 G fun u G'=>u=.tuple #[vi (yE (nH s) (qZ s t)),vi 0]):=by
 refine eN [(0,_),(1,_)] func11 O ntmps11 O O hG ?_;intro a H;refine kP H (SR fun _ K1=>Ra O (av K1 O (SR fun _ K2=>Rm O (Rm O ?_))));clear H K1;intro a H;refine s_call S9 H wn O (RY _ _ H.ro h0 s t hs ht hs.size ht.size) O ?_;clear H;rintro v12 LB a w ⟨Yh,y12,rfl,JX,OE⟩ JJ H;refine kH H (Rm O ?_);clear H;intro a H;(iterate 3 refine eZ H wn O O O ?_;clear H;intro a H);refine kH H (Ra O (Ra O (av K2 O (SQ fun _ K3=>SR fun _ K4=>Rm O (Rc O (Kz K4 (Cd O ?_ ?_))))))) <;> clear H K2 K4
 ·intro eO a H
  exact absurd eO Y
 intro eO a H
 refine kP H (Kc K3 (SR fun _ K5=>Rm O (Rm O ?_)));clear H K3;intro a H;refine s_call Tk H wn O (Rx _ _ H.ro _ _ _ _ JX OE (XF s) (aiq s t) (KT s) (Qj s t)) O ?_;clear H;rintro v21 Au a w rfl qL H;(iterate 2 refine eZ H wn O O O ?_;clear H;intro a H);refine kH H (Ra O (av K5 O ?_));clear H K5;intro a H;refine aU ?_;refine (bK H results11 (.cons (aG H O) (.cons (aG H O) .nil)) ?_).1;exact H.rt O
theorem Ta:bL 11:=bN func11 O
theorem Tf:bL 12:=bN func12 O
theorem acw:Lp prog 43 [0,1]:=⟨Z,Z,Z,Z,Z⟩
theorem acy:Lp prog 45 [0,1,2]:=⟨Z,Z,Z,Z,Z⟩
theorem XG {G:GH} {b:Nat} {x y:Int} (hb:G b=some (.cells #[vi x,vi y] 3 (0,0))):aF G (.sl 1 ([x,y].map gJ)) (.slice (some ⟨b,0,none⟩) 2 2) :=
 aF.rV (xs:=[vi x,vi y]) hb O (bS _) Y (gG (bS _)) (yQ _ [x,y])
theorem Kq {G:GH} {l:List Int} {v:ak} (h:aF G (.sl 1 (l.map gJ)) v):aY G (nD l) [v]:=by
 simp only [nD,aY]
 exact ⟨_,_,O,h,O⟩
theorem Pk {G:GH}:∀ (B A:List (List Int)) (vs us:List ak),cO G 1 (A.map nD) vs->us.length=B.length->(∀ (i:Nat) (r:List Int) (u:ak),B[i]?=some r->us[i]?=some u->aF G (.sl 1 (r.map gJ)) u)->cO G 1 ((A++B).map nD) (vs++us)
 | [],A,vs,[],h,_,_=>by rw [lU,lU];exact h
 | x :: B,A,vs,u :: us,h,hl,hr=>by
  have h2:=h.snoc (Kq (hr 0 x u O O)) O;have h3:=Pk B (A++[x]) (vs++[u]) us (by simpa using h2) (by simpa using hl) (fun i r w h1 h2=>hr (i+1) r w (by simpa using h1) (by simpa using h2))
  simpa using h3
theorem OP {G:GH} {l:List jJ} {A:Option Addr} {n c k:Nat} (hv:aF G (.sl 3 (l.map jJ.dat)) (.slice A n c)) (hk:k < l.length):∃ b o,A=some ⟨b,o,none⟩∧(∀ j u,[vi l[k].a,vi l[k].b,vi l[k].score][j]?=some u->aS G b (o+k*3+j)=some u):=by
 obtain ⟨A',c',he,_,_,hg⟩:=hv.slice
 injection he with e1 e2 e3
 subst e1;obtain ⟨b,o,cs,h1,h2,h3,h4⟩:=hg k l[k].dat (by simp [hk]);obtain rfl:=afo h4;exact ⟨b,o,h1,h3⟩
set_option maxHeartbeats 2000000 in
theorem J6 (G:GH) (w0:World) (hG:Hold G w0):Calls prog 4 #[] w0 (bQ w0 G fun u G'=>u=.bool true):=by
 refine eN [] func4 O ntmps4 O O hG ?_;intro a H;refine kP H (SR fun _ K1=>av K1 O (SR fun _ K2=>?_));clear H K1;intro a H;refine s_call S9 H wn O (RY _ _ H.ro (fun _ _ h=>by cases h) Bu sA Xt Rj Y Y) rfl ?_;clear H;rintro v9 G9 a w ⟨x9,y9,rfl,hx,hy⟩ zW H;rw [ahY] at hx;rw [Y2] at hy;obtain ⟨xA,xc,rfl,-,-,-⟩:=hx.slice;obtain ⟨yA,yc,rfl,-,-,-⟩:=hy.slice;(try dsimp only [List.map_cons,List.map_nil,List.length_cons,List.length_nil] at H);refine kH H (Rm O ?_);clear H;intro a H;(iterate 3 refine eZ H wn O O O ?_;clear H;intro a H);refine kH H (Ra O (Ra O (av K2 O (SR fun _ K3=>?_))));clear H K2;intro a H;refine s_call Ta H wn O (RS _ _ H.ro (fun _ _ h=>by cases h) Bu sA Xt Rj) rfl ?_;clear H;rintro v14 Ik a w rfl Gw H;rw [ahV] at H;refine kH H (Rm O ?_);clear H;intro a H;(iterate 2 refine eZ H wn O O O ?_;clear H;intro a H);refine kH H (Ra O (av K3 O (SR fun _ K4=>?_)));clear H K3;intro a H;refine eU cB aC [_,_] [_,_] H wn O O O O O (by intro i q h;match i,h with|0,h=>exact h|1,h=>exact h|n+2,h=>simp at h) O O ?_;clear H;intro b18 a w Jy H;refine eU cB aC [_,_] [_,_] H wn O O O O O (by intro i q h;match i,h with|0,h=>exact h|1,h=>exact h|n+2,h=>simp at h) O O ?_;clear H;intro b19 a w ajB H;refine eU iE bP [_,_] [_,_] H wn O O O O O (by intro i q h;match i,h with|0,h=>exact h|1,h=>exact h|n+2,h=>simp at h) O O ?_;clear H;intro b20 a w adH H;obtain ⟨Ga,hma,hga,H⟩:=H.kE;obtain ⟨Gb,hmb,hgb,H⟩:=H.kE;obtain ⟨Gc,hmc,hgc,H⟩:=H.kE;have ht1:=XG (hmc _ _ hgb);have ht2:=XG hgc;have ht3:aF Gc (.sl 1 ([[500,900],[1000,600]].map nD)) _:=aF.rV (xs:=[_,_]) (hmc _ _ (hmb _ _ hga)) O (bS _) Y O (by simpa using ((cO.nil (sz:=1)).snoc (Kq ht2) O).snoc (Kq ht1) O);refine s_call Tf H wn O (RG _ _ H.ro _ _ ht3) O ?_;clear H;rintro v21 Au a w ⟨z21,rfl,hz⟩ qL H;rw [ahW] at hz;rw [ahX] at H;obtain ⟨zA,zc,rfl,-,-,-⟩:=hz.slice;(try dsimp only [List.map_cons,List.map_nil,List.length_cons,List.length_nil] at H);refine kH H (Rm O ?_);clear H;intro a H;(iterate 2 refine eZ H wn O O O ?_;clear H;intro a H);refine kH H (Ra O (av K4 O (SQ fun _ K5=>?_)));clear H K4;intro a H;obtain ⟨xb,xo,rfl,hx2⟩:=C9 (k:=2) ((((((hx.mono Gw).mono hma).mono hmb).mono hmc).mono qL)) Y;obtain ⟨yb,yo,rfl,hy2⟩:=C9 (k:=2) ((((((hy.mono Gw).mono hma).mono hmb).mono hmc).mono qL)) Y;obtain ⟨_,_,ey,hy0⟩:=C9 (k:=0) ((((((hy.mono Gw).mono hma).mono hmb).mono hmc).mono qL)) Y
 injection ey with ey;injection ey with ey1 ey2;subst ey1;subst ey2
 obtain ⟨zb,zo,rfl,hz1⟩:=OP (k:=1) hz Y;refine dI hmx [[],[0],[0,1],[0,1,2],ra 0 4,ra 0 5,ra 0 6,ra 0 7,ra 0 8,ra 0 9,ra 0 10,ra 0 11,ra 0 12,ra 0 13,ra 0 14,ra 0 15,ra 0 13,(ra 0 13++[16]),(ra 0 13++[16,17]),ra 0 19,ra 0 20,ra 0 21,ra 0 22,ra 0 23,ra 0 24,ra 0 25,ra 0 26,ra 0 27,ra 0 28,ra 0 29,ra 0 30,ra 0 31,ra 0 32,ra 0 33,ra 0 34,ra 0 35,ra 0 36,ra 0 37,ra 0 38,ra 0 39,ra 0 40,ra 0 41,ra 0 42,ra 0 43,ra 0 44,ra 0 45,ra 0 46,ra 0 47,ra 0 48,ra 0 46,ra 0 50,ra 0 51,ra 0 52] [52] Z [vi 0,.bool true,.bool true,.slice (some ⟨xb,xo,none⟩) 3 xc,vi 3,.bool true,.bool true,.bool true,.slice (some ⟨yb,yo,none⟩) 3 yc,vi 3,.bool true,.bool true,.bool true,.slice (some ⟨xb,xo,none⟩) 3 xc,(aJ xb (xo+2*2)),.agg #[vi 3,vi 3],.slice (some ⟨yb,yo,none⟩) 3 yc,(aJ yb (yo+2*2)),.agg #[vi 3,vi 3],.bool true,.bool true,.bool true,.slice (some ⟨yb,yo,none⟩) 3 yc,(aJ yb (yo+0*2)),(aJ yb (yo+0*2+0)),vi 4,.bool true,.bool true,.bool true,vi 666,.bool true,.bool true,.bool true,vi 0,.bool true,.bool true,.bool true,vi 0,.bool true,.bool true,.bool true,.slice (some ⟨zb,zo,none⟩) 2 zc,vi 2,.bool true,.bool true,.bool true,.slice (some ⟨zb,zo,none⟩) 2 zc,(aJ zb (zo+1*3)),.agg #[vi 1,vi 1,vi 600],.agg #[vi 1,vi 1,vi 600],.bool true,.bool true] H (aH ?_ ?_ ?_ ?_ (aH ?_ ?_ ?_ ?_ (aH ?_ ?_ ?_ ?_ (aH ?_ ?_ ?_ ?_ (aH ?_ ?_ ?_ ?_ (aH ?_ ?_ ?_ ?_ (aH ?_ ?_ ?_ ?_ (aH ?_ ?_ ?_ ?_ (aH ?_ ?_ ?_ ?_ (aH ?_ ?_ ?_ ?_ (aH ?_ ?_ ?_ ?_ (aH ?_ ?_ ?_ ?_ (aH ?_ ?_ ?_ ?_ (eB (fT O) fD)))))))))))))) ?_
 ·intro ay a w G1 _ ah hc hG HT hv;have H:=HT;clear ah;have Hb:=H.full;have H:=Hb;clear hc;refine kH H (Rm O ?_);clear H;intro a H;refine aj ⟨O,?_⟩;exact aB HT Hb hG hv (fun _ _ _ _ _ h=>h) H O
 ·intro ay a w G1 _ ah hc hG HT hv;have H:=HT;clear ah;have H:=H.au (hv 0 24 (hc 0 Y) O) O;have Hb:=H.full;have H:=Hb;clear hc;refine kH H (Rc O ?_);clear H;intro a H;refine aj ⟨O,?_⟩;exact aB HT Hb hG hv (fun _ _ _ _ _ h=>h) H O
 ·intro ay a w G1 _ ah hc hG HT hv;have H:=HT;clear ah;have H:=H.au (hv 1 25 (hc 1 Y) O) O;have Hb:=H.full;have H:=Hb;clear hc;refine kH H (Rm O ?_);clear H;intro a H;refine aj ⟨O,?_⟩;exact aB HT Hb hG hv (fun _ _ _ _ _ h=>h) H O
 ·intro ay a w G1 _ ah hc hG HT hv;have H:=HT;clear ah;have H:=H.au (hv 2 26 (hc 2 Y) O) O;have Hb:=H.full;have H:=Hb;clear hc;refine uG H (wg H O O O) O O ?_;clear H;intro a H;refine aj ⟨O,?_⟩;exact aB HT Hb hG hv (fun _ _ _ _ _ h=>h) H O
 ·intro ay a w G1 _ ah hc hG HT hv;have H:=HT;clear ah;have H:=H.au (hv 3 27 (hc 3 Y) O) O;have H:=H.au (hv 2 26 (hc 2 Y) O) O;have Hb:=H.full;have H:=Hb;clear hc;refine EF cu H (wg H O O O) O O ?_;clear H;intro a H;refine aj ⟨O,?_⟩;exact aB HT Hb hG hv (fun _ _ _ _ _ h=>h) H O
 ·intro ay a w G1 _ ah hc hG HT hv;have H:=HT;clear ah;have H:=H.au (hv 4 28 (hc 4 Y) O) O;have H:=H.au (hv 2 26 (hc 2 Y) O) O;have Hb:=H.full;have H:=Hb;clear hc;refine yX H (wg H O O O) O O O O ?_;clear H;intro a H;refine aj ⟨O,?_⟩;exact aB HT Hb hG hv (fun _ _ _ _ _ h=>h) H O
 ·intro ay a w G1 _ ah hc hG HT hv;have H:=HT;clear ah;have H:=H.au (hv 2 26 (hc 2 Y) O) O;have H:=H.au (hv 5 29 (hc 5 Y) O) O;have Hb:=H.full;have H:=Hb;clear hc;refine kH H (Pt O O ?_);clear H;intro a H;refine aj ⟨O,?_⟩;exact aB HT Hb hG hv (fun _ _ _ _ _ h=>h) H O
 ·intro ay a w G1 _ ah hc hG HT hv;have H:=HT;clear ah;have H:=H.au (hv 6 30 (hc 6 Y) O) O;have Hb:=H.full;have H:=Hb;clear hc;refine kH H (Rm O ?_);clear H;intro a H;refine aj ⟨O,?_⟩;exact aB HT Hb hG hv (fun _ _ _ _ _ h=>h) H O
 ·intro ay a w G1 _ ah hc hG HT hv;have H:=HT;clear ah;have H:=H.au (hv 7 31 (hc 7 Y) O) O;have Hb:=H.full;have H:=Hb;clear hc;refine uG H (wg H O O O) O O ?_;clear H;intro a H;refine aj ⟨O,?_⟩;exact aB HT Hb hG hv (fun _ _ _ _ _ h=>h) H O
 ·intro ay a w G1 _ ah hc hG HT hv;have H:=HT;clear ah;have H:=H.au (hv 8 32 (hc 8 Y) O) O;have H:=H.au (hv 7 31 (hc 7 Y) O) O;have Hb:=H.full;have H:=Hb;clear hc;refine EF cu H (wg H O O O) O O ?_;clear H;intro a H;refine aj ⟨O,?_⟩;exact aB HT Hb hG hv (fun _ _ _ _ _ h=>h) H O
 ·intro ay a w G1 _ ah hc hG HT hv;have H:=HT;clear ah;have H:=H.au (hv 9 33 (hc 9 Y) O) O;have H:=H.au (hv 7 31 (hc 7 Y) O) O;have Hb:=H.full;have H:=Hb;clear hc;refine yX H (wg H O O O) O O O O ?_;clear H;intro a H;refine aj ⟨O,?_⟩;exact aB HT Hb hG hv (fun _ _ _ _ _ h=>h) H O
 ·intro ay a w G1 _ ah hc hG HT hv;have H:=HT;clear ah;have H:=H.au (hv 7 31 (hc 7 Y) O) O;have H:=H.au (hv 10 34 (hc 10 Y) O) O;have Hb:=H.full;have H:=Hb;clear hc;refine kH H (Pt O O ?_);clear H;intro a H;refine aj ⟨O,?_⟩;exact aB HT Hb hG hv (fun _ _ _ _ _ h=>h) H O
 ·intro ay a w G1 _ ah hc hG HT hv;have H:=HT;clear ah;have H:=H.au (hv 11 35 (hc 11 Y) O) O;have Hb:=H.full;have H:=Hb;clear hc;refine kH H (Rm O ?_);clear H;intro a H;refine aj ⟨O,?_⟩;exact aB HT Hb hG hv (fun _ _ _ _ _ h=>h) H O
 ·intro ay a w G1 _ ah hc hG HT hv;have H:=HT;clear ah;have H:=H.au (hv 12 36 (hc 12 Y) O) O;have Hb:=H.full;have H:=Hb;clear hc;refine uG H (wg H O O O) O O ?_;clear H;intro a H;refine aj ⟨O,?_⟩;exact aB HT Hb hG hv (fun _ _ _ _ _ h=>h) H O
 ·intro ay a w G1 _ ah hc hG HT hv;have H:=HT;clear ah;have H:=H.au (hv 13 37 (hc 13 Y) O) O;have H:=H.au (hv 12 36 (hc 12 Y) O) O;have Hb:=H.full;have H:=Hb;clear hc;refine bD cu dw 2 H (wg H O O O) O O O Y O ?_;clear H;intro a H;refine aj ⟨O,?_⟩;exact aB HT Hb hG hv (fun _ _ _ _ _ h=>h) H O
 ·intro ay a w G1 _ ah hc hG HT hv;have H:=HT;clear ah;have H:=H.au (hv 14 38 (hc 14 Y) O) O;have H:=H.au (hv 12 36 (hc 12 Y) O) O;have Hb:=H.full;have H:=Hb;clear hc;refine bV dw (cs:=[_,_]) H (wg H O O O) O O (fun j v hj=>H.hp.aS (aK hG (hx2 j v hj))) O ?_;clear H;intro a H;refine aj ⟨O,?_⟩;exact aB HT Hb hG hv (fun _ _ _ _ _ h=>h) H O
 ·intro ay a w G1 _ ah hc hG HT hv;have H:=HT;clear ah;have H:=H.au (hv 12 36 (hc 12 Y) O) O;have Hb:=H.full;have H:=Hb;clear hc;refine uG H (wg H O O O) O O ?_;clear H;intro a H;refine aj ⟨O,?_⟩;exact aB HT Hb hG hv (fun _ _ _ _ _ h=>h) H O
 ·intro ay a w G1 _ ah hc hG HT hv;have H:=HT;clear ah;have H:=H.au (hv 16 40 (hc 16 Y) O) O;have H:=H.au (hv 12 36 (hc 12 Y) O) O;have Hb:=H.full;have H:=Hb;clear hc;refine bD cu dw 2 H (wg H O O O) O O O Y O ?_;clear H;intro a H;refine aj ⟨O,?_⟩;exact aB HT Hb hG hv (fun _ _ _ _ _ h=>h) H O
 ·intro ay a w G1 _ ah hc hG HT hv;have H:=HT;clear ah;have H:=H.au (hv 17 41 (hc 17 Y) O) O;have H:=H.au (hv 12 36 (hc 12 Y) O) O;have Hb:=H.full;have H:=Hb;clear hc;refine bV dw (cs:=[_,_]) H (wg H O O O) O O (fun j v hj=>H.hp.aS (aK hG (hy2 j v hj))) O ?_;clear H;intro a H;refine aj ⟨O,?_⟩;exact aB HT Hb hG hv (fun _ _ _ _ _ h=>h) H O
 ·intro ay a w G1 _ ah hc hG HT hv;have H:=HT;clear ah;have H:=H.au (hv 15 39 (hc 15 Y) O) O;have H:=H.au (hv 18 42 (hc 18 Y) O) O;have H:=H.au (hv 12 36 (hc 12 Y) O) O;have Hb:=H.full;have H:=Hb;clear hc;refine WM acw H (wg H O O O) O O O O ?_;clear H;intro a H;refine aj ⟨O,?_⟩;exact aB HT Hb hG hv (fun _ _ _ _ _ h=>h) H O
 ·intro ay a w G1 _ ah hc hG HT hv;have H:=HT;clear ah;have H:=H.au (hv 12 36 (hc 12 Y) O) O;have H:=H.au (hv 19 43 (hc 19 Y) O) O;have Hb:=H.full;have H:=Hb;clear hc;refine kH H (Pt O O ?_);clear H;intro a H;refine aj ⟨O,?_⟩;exact aB HT Hb hG hv (fun _ _ _ _ _ h=>h) H O
 ·intro ay a w G1 _ ah hc hG HT hv;have H:=HT;clear ah;have H:=H.au (hv 20 44 (hc 20 Y) O) O;have Hb:=H.full;have H:=Hb;clear hc;refine kH H (Rm O ?_);clear H;intro a H;refine aj ⟨O,?_⟩;exact aB HT Hb hG hv (fun _ _ _ _ _ h=>h) H O
 ·intro ay a w G1 _ ah hc hG HT hv;have H:=HT;clear ah;have H:=H.au (hv 21 45 (hc 21 Y) O) O;have Hb:=H.full;have H:=Hb;clear hc;refine uG H (wg H O O O) O O ?_;clear H;intro a H;refine aj ⟨O,?_⟩;exact aB HT Hb hG hv (fun _ _ _ _ _ h=>h) H O
 ·intro ay a w G1 _ ah hc hG HT hv;have H:=HT;clear ah;have H:=H.au (hv 22 46 (hc 22 Y) O) O;have H:=H.au (hv 21 45 (hc 21 Y) O) O;have Hb:=H.full;have H:=Hb;clear hc;refine bD cu dw 0 H (wg H O O O) O O O Y O ?_;clear H;intro a H;refine aj ⟨O,?_⟩;exact aB HT Hb hG hv (fun _ _ _ _ _ h=>h) H O
 ·intro ay a w G1 _ ah hc hG HT hv;have H:=HT;clear ah;have H:=H.au (hv 23 47 (hc 23 Y) O) O;have H:=H.au (hv 21 45 (hc 21 Y) O) O;have Hb:=H.full;have H:=Hb;clear hc;refine Hy uV H (wg H O O O) O O ?_;clear H;intro a H;refine aj ⟨O,?_⟩;exact aB HT Hb hG hv (fun _ _ _ _ _ h=>h) H O
 ·intro ay a w G1 _ ah hc hG HT hv;have H:=HT;clear ah;have H:=H.au (hv 24 48 (hc 24 Y) O) O;have H:=H.au (hv 21 45 (hc 21 Y) O) O;have Hb:=H.full;have H:=Hb;clear hc;refine iU aC H (wg H O O O) O (H.hp.aS (aK hG (hy0 0 _ O))) O ?_;clear H;intro a H;refine aj ⟨O,?_⟩;exact aB HT Hb hG hv (fun _ _ _ _ _ h=>h) H O
 ·intro ay a w G1 _ ah hc hG HT hv;have H:=HT;clear ah;have H:=H.au (hv 25 49 (hc 25 Y) O) O;have H:=H.au (hv 21 45 (hc 21 Y) O) O;have Hb:=H.full;have H:=Hb;clear hc;refine yX H (wg H O O O) O O O O ?_;clear H;intro a H;refine aj ⟨O,?_⟩;exact aB HT Hb hG hv (fun _ _ _ _ _ h=>h) H O
 ·intro ay a w G1 _ ah hc hG HT hv;have H:=HT;clear ah;have H:=H.au (hv 21 45 (hc 21 Y) O) O;have H:=H.au (hv 26 50 (hc 26 Y) O) O;have Hb:=H.full;have H:=Hb;clear hc;refine kH H (Pt O O ?_);clear H;intro a H;refine aj ⟨O,?_⟩;exact aB HT Hb hG hv (fun _ _ _ _ _ h=>h) H O
 ·intro ay a w G1 _ ah hc hG HT hv;have H:=HT;clear ah;have H:=H.au (hv 27 51 (hc 27 Y) O) O;have Hb:=H.full;have H:=Hb;clear hc;refine kH H (Rm O ?_);clear H;intro a H;refine aj ⟨O,?_⟩;exact aB HT Hb hG hv (fun _ _ _ _ _ h=>h) H O
 ·intro ay a w G1 _ ah hc hG HT hv;have H:=HT;clear ah;have H:=H.au (hv 28 52 (hc 28 Y) O) O;have Hb:=H.full;have H:=Hb;clear hc;refine uG H (wg H O O O) O O ?_;clear H;intro a H;refine aj ⟨O,?_⟩;exact aB HT Hb hG hv (fun _ _ _ _ _ h=>h) H O
 ·intro ay a w G1 _ ah hc hG HT hv;have H:=HT;clear ah;have H:=H.au (hv 29 53 (hc 29 Y) O) O;have H:=H.au (hv 28 52 (hc 28 Y) O) O;have Hb:=H.full;have H:=Hb;clear hc;refine yX H (wg H O O O) O O O O ?_;clear H;intro a H;refine aj ⟨O,?_⟩;exact aB HT Hb hG hv (fun _ _ _ _ _ h=>h) H O
 ·intro ay a w G1 _ ah hc hG HT hv;have H:=HT;clear ah;have H:=H.au (hv 28 52 (hc 28 Y) O) O;have H:=H.au (hv 30 54 (hc 30 Y) O) O;have Hb:=H.full;have H:=Hb;clear hc;refine kH H (Pt O O ?_);clear H;intro a H;refine aj ⟨O,?_⟩;exact aB HT Hb hG hv (fun _ _ _ _ _ h=>h) H O
 ·intro ay a w G1 _ ah hc hG HT hv;have H:=HT;clear ah;have H:=H.au (hv 31 55 (hc 31 Y) O) O;have Hb:=H.full;have H:=Hb;clear hc;refine kH H (Rm O ?_);clear H;intro a H;refine aj ⟨O,?_⟩;exact aB HT Hb hG hv (fun _ _ _ _ _ h=>h) H O
 ·intro ay a w G1 _ ah hc hG HT hv;have H:=HT;clear ah;have H:=H.au (hv 32 56 (hc 32 Y) O) O;have Hb:=H.full;have H:=Hb;clear hc;refine uG H (wg H O O O) O O ?_;clear H;intro a H;refine aj ⟨O,?_⟩;exact aB HT Hb hG hv (fun _ _ _ _ _ h=>h) H O
 ·intro ay a w G1 _ ah hc hG HT hv;have H:=HT;clear ah;have H:=H.au (hv 33 57 (hc 33 Y) O) O;have H:=H.au (hv 32 56 (hc 32 Y) O) O;have Hb:=H.full;have H:=Hb;clear hc;refine yX H (wg H O O O) O O O O ?_;clear H;intro a H;refine aj ⟨O,?_⟩;exact aB HT Hb hG hv (fun _ _ _ _ _ h=>h) H O
 ·intro ay a w G1 _ ah hc hG HT hv;have H:=HT;clear ah;have H:=H.au (hv 32 56 (hc 32 Y) O) O;have H:=H.au (hv 34 58 (hc 34 Y) O) O;have Hb:=H.full;have H:=Hb;clear hc;refine kH H (Pt O O ?_);clear H;intro a H;refine aj ⟨O,?_⟩;exact aB HT Hb hG hv (fun _ _ _ _ _ h=>h) H O
 ·intro ay a w G1 _ ah hc hG HT hv;have H:=HT;clear ah;have H:=H.au (hv 35 59 (hc 35 Y) O) O;have Hb:=H.full;have H:=Hb;clear hc;refine kH H (Rm O ?_);clear H;intro a H;refine aj ⟨O,?_⟩;exact aB HT Hb hG hv (fun _ _ _ _ _ h=>h) H O
 ·intro ay a w G1 _ ah hc hG HT hv;have H:=HT;clear ah;have H:=H.au (hv 36 60 (hc 36 Y) O) O;have Hb:=H.full;have H:=Hb;clear hc;refine uG H (wg H O O O) O O ?_;clear H;intro a H;refine aj ⟨O,?_⟩;exact aB HT Hb hG hv (fun _ _ _ _ _ h=>h) H O
 ·intro ay a w G1 _ ah hc hG HT hv;have H:=HT;clear ah;have H:=H.au (hv 37 61 (hc 37 Y) O) O;have H:=H.au (hv 36 60 (hc 36 Y) O) O;have Hb:=H.full;have H:=Hb;clear hc;refine yX H (wg H O O O) O O O O ?_;clear H;intro a H;refine aj ⟨O,?_⟩;exact aB HT Hb hG hv (fun _ _ _ _ _ h=>h) H O
 ·intro ay a w G1 _ ah hc hG HT hv;have H:=HT;clear ah;have H:=H.au (hv 36 60 (hc 36 Y) O) O;have H:=H.au (hv 38 62 (hc 38 Y) O) O;have Hb:=H.full;have H:=Hb;clear hc;refine kH H (Pt O O ?_);clear H;intro a H;refine aj ⟨O,?_⟩;exact aB HT Hb hG hv (fun _ _ _ _ _ h=>h) H O
 ·intro ay a w G1 _ ah hc hG HT hv;have H:=HT;clear ah;have H:=H.au (hv 39 63 (hc 39 Y) O) O;have Hb:=H.full;have H:=Hb;clear hc;refine kH H (Rm O ?_);clear H;intro a H;refine aj ⟨O,?_⟩;exact aB HT Hb hG hv (fun _ _ _ _ _ h=>h) H O
 ·intro ay a w G1 _ ah hc hG HT hv;have H:=HT;clear ah;have H:=H.au (hv 40 64 (hc 40 Y) O) O;have Hb:=H.full;have H:=Hb;clear hc;refine uG H (wg H O O O) O O ?_;clear H;intro a H;refine aj ⟨O,?_⟩;exact aB HT Hb hG hv (fun _ _ _ _ _ h=>h) H O
 ·intro ay a w G1 _ ah hc hG HT hv;have H:=HT;clear ah;have H:=H.au (hv 41 65 (hc 41 Y) O) O;have H:=H.au (hv 40 64 (hc 40 Y) O) O;have Hb:=H.full;have H:=Hb;clear hc;refine EF vJ H (wg H O O O) O O ?_;clear H;intro a H;refine aj ⟨O,?_⟩;exact aB HT Hb hG hv (fun _ _ _ _ _ h=>h) H O
 ·intro ay a w G1 _ ah hc hG HT hv;have H:=HT;clear ah;have H:=H.au (hv 42 66 (hc 42 Y) O) O;have H:=H.au (hv 40 64 (hc 40 Y) O) O;have Hb:=H.full;have H:=Hb;clear hc;refine yX H (wg H O O O) O O O O ?_;clear H;intro a H;refine aj ⟨O,?_⟩;exact aB HT Hb hG hv (fun _ _ _ _ _ h=>h) H O
 ·intro ay a w G1 _ ah hc hG HT hv;have H:=HT;clear ah;have H:=H.au (hv 40 64 (hc 40 Y) O) O;have H:=H.au (hv 43 67 (hc 43 Y) O) O;have Hb:=H.full;have H:=Hb;clear hc;refine kH H (Pt O O ?_);clear H;intro a H;refine aj ⟨O,?_⟩;exact aB HT Hb hG hv (fun _ _ _ _ _ h=>h) H O
 ·intro ay a w G1 _ ah hc hG HT hv;have H:=HT;clear ah;have H:=H.au (hv 44 68 (hc 44 Y) O) O;have Hb:=H.full;have H:=Hb;clear hc;refine kH H (Rm O ?_);clear H;intro a H;refine aj ⟨O,?_⟩;exact aB HT Hb hG hv (fun _ _ _ _ _ h=>h) H O
 ·intro ay a w G1 _ ah hc hG HT hv;have H:=HT;clear ah;have H:=H.au (hv 45 69 (hc 45 Y) O) O;have Hb:=H.full;have H:=Hb;clear hc;refine uG H (wg H O O O) O O ?_;clear H;intro a H;refine aj ⟨O,?_⟩;exact aB HT Hb hG hv (fun _ _ _ _ _ h=>h) H O
 ·intro ay a w G1 _ ah hc hG HT hv;have H:=HT;clear ah;have H:=H.au (hv 46 70 (hc 46 Y) O) O;have H:=H.au (hv 45 69 (hc 45 Y) O) O;have Hb:=H.full;have H:=Hb;clear hc;refine bD vJ zi 1 H (wg H O O O) O O O Y O ?_;clear H;intro a H;refine aj ⟨O,?_⟩;exact aB HT Hb hG hv (fun _ _ _ _ _ h=>h) H O
 ·intro ay a w G1 _ ah hc hG HT hv;have H:=HT;clear ah;have H:=H.au (hv 47 71 (hc 47 Y) O) O;have H:=H.au (hv 45 69 (hc 45 Y) O) O;have Hb:=H.full;have H:=Hb;clear hc;refine bV zi (cs:=[_,_,_]) H (wg H O O O) O O (fun j v hj=>H.hp.aS (aK hG (hz1 j v hj))) O ?_;clear H;intro a H;refine aj ⟨O,?_⟩;exact aB HT Hb hG hv (fun _ _ _ _ _ h=>h) H O
 ·intro ay a w G1 _ ah hc hG HT hv;have H:=HT;clear ah;have H:=H.au (hv 45 69 (hc 45 Y) O) O;have Hb:=H.full;have H:=Hb;clear hc;refine ku PV [_,_,_] H (wg H O O O) O O O O ?_;clear H;intro a H;refine aj ⟨O,?_⟩;exact aB HT Hb hG hv (fun _ _ _ _ _ h=>h) H O
 ·intro ay a w G1 _ ah hc hG HT hv;have H:=HT;clear ah;have H:=H.au (hv 48 72 (hc 48 Y) O) O;have H:=H.au (hv 49 73 (hc 49 Y) O) O;have H:=H.au (hv 45 69 (hc 45 Y) O) O;have Hb:=H.full;have H:=Hb;clear hc;refine WM acy H (wg H O O O) O O O O ?_;clear H;intro a H;refine aj ⟨O,?_⟩;exact aB HT Hb hG hv (fun _ _ _ _ _ h=>h) H O
 ·intro ay a w G1 _ ah hc hG HT hv;have H:=HT;clear ah;have H:=H.au (hv 45 69 (hc 45 Y) O) O;have H:=H.au (hv 50 74 (hc 50 Y) O) O;have Hb:=H.full;have H:=Hb;clear hc;refine kH H (Pt O O ?_);clear H;intro a H;refine aj ⟨O,?_⟩;exact aB HT Hb hG hv (fun _ _ _ _ _ h=>h) H O
 clear H;intro a w G Uk H hv;have H:=H.au (hv 51 75 O O) O;clear hv;refine kH H (Ra O ?_);clear H;intro a H;refine aj ⟨O,?_⟩;refine K5 _ _ ?_;clear K5;refine lr H results4 O ?_;exact H.rt O
theorem Vo {x:ByteArray}:∀ {l:List ByteArray} {i m:Nat},pE x i l=some m->∃ n,m=i+n+1∧l[n]?=some x
 | [],_,_,h=>by cases h
 | y :: l,i,m,h=>by
  rw [pE] at h
  split at h
  ·rename_i e
   injection h with h
   exact ⟨0,V,by simp [e]⟩
  obtain ⟨n,h1,h2⟩:=Vo h;exact ⟨n+1,V,by simpa using h2⟩
theorem Vn {x:ByteArray}:∀ {l:List ByteArray} {i:Nat},pE x i l=none->x∉l
 | [],_,_=>by simp
 | y :: l,i,h=>by
  rw [pE] at h
  split at h
  ·cases h
  rename_i e
  intro hm
  rcases nT.1 hm with rfl|hm
  ·exact e O
  exact Vn h hm
theorem afa {l:List ByteArray} (hl:l.Nodup) (x:ByteArray):(xR l x).Nodup∧(∀ (n:Nat) (y:ByteArray),l[n]?=some y->(xR l x)[n]?=some y)∧∃ n,CQ l x=n+1∧(xR l x)[n]?=some x:=by
 unfold CQ xR
 cases h:pE x 0 l with
 | some m =>
  obtain ⟨n,h1,h2⟩:=Vo h;exact ⟨by simpa using hl,fun _ _ h=>by simpa using h,n,by simp;omega,by simpa using h2⟩
 | none =>
  have hx:=Vn h;refine ⟨?_,fun n y hy=>?_,l.length,by simp,by simp⟩
  ·simp only [Option.isSome_none,yD,if_false]
   rw [List.nodup_append];exact ⟨hl,by simp,fun a ha b hb e=>by rw [uP] at hb;subst hb;subst e;exact hx ha⟩
  simp only [Option.isSome_none,yD,if_false]
  rw [rH (gN.1 hy).1];exact hy
structure tQ (l:List (gM × ByteArray)) (o:List dM) (K:List ByteArray):Prop where
 len:o.length=l.length
 at_:∀ i (h:i < l.length) (h2:i < o.length),∃ n:Nat,o[i].key=(n:Int)+1∧K[n]?=some l[i].2∧o[i].weight=kD l[i].1
theorem H8 (l:List (gM × ByteArray)) (ks:List ByteArray) (hk:ks.Nodup):∀ k,k<=l.length->(eG (l.take k) ks).2.Nodup∧(∀ (n:Nat) (y:ByteArray),ks[n]?=some y->(eG (l.take k) ks).2[n]?=some y)∧tQ (l.take k) (eG (l.take k) ks).1 (eG (l.take k) ks).2
 | 0,_=>⟨by simpa [eG] using hk,fun n y h=>by simpa [eG] using h,by simp [eG],fun i h=>by simp at h⟩
 | k+1,h=>by
  obtain ⟨h1,h2,h3⟩:=H8 l ks hk k V;have hp:=afa h1 l[k].2;obtain ⟨n,hn1,hn2⟩:=hp.2.2;rw [H9 V];refine ⟨hp.1,fun n y hy=>hp.2.1 n y (h2 n y hy),?_,fun i hi hi2=>?_⟩
  ·have:=h3.len
   simp only [qY,fQ,List.length_singleton,List.length_take] at *;omega
  have hl:=h3.len
  simp only [qY] at hi2 |-
  rw [List.length_take] at hi hl
  by_cases e:i < k
  ·obtain ⟨q,q1,q2,q3⟩:=h3.at_ i (by rw [List.length_take];omega) V;refine ⟨q,?_,?_,?_⟩
   ·rw [List.getElem_append_left V];exact q1
   ·rw [List.getElem_take];rw [List.getElem_take] at q2;exact hp.2.1 _ _ q2
   rw [List.getElem_append_left V,List.getElem_take];rw [List.getElem_take] at q3;exact q3
  have hik:i=k:=by omega
  subst hik;refine ⟨n,?_,?_,?_⟩
  ·rw [List.getElem_append_right V];simp [hn1]
  ·rw [List.getElem_take];exact hn2
  rw [List.getElem_append_right V,List.getElem_take];simp
theorem tQ.take {l:List (gM × ByteArray)} {o:List dM} {K:List ByteArray} (h:tQ l o K) (n:Nat):tQ (l.take n) (o.take n) K:=by
 refine ⟨by rw [List.length_take,List.length_take,h.len],fun i hi hi2=>?_⟩;rw [List.length_take] at hi hi2;obtain ⟨m,h1,h2,h3⟩:=h.at_ i V V;exact ⟨m,by rw [List.getElem_take];exact h1,by rw [List.getElem_take];exact h2,by rw [List.getElem_take,List.getElem_take];exact h3⟩
theorem tQ.up {l:List (gM × ByteArray)} {o:List dM} {K K':List ByteArray} (h:tQ l o K) (hu:∀ (n:Nat) (y:ByteArray),K[n]?=some y->K'[n]?=some y):tQ l o K' :=
 ⟨h.len,fun i hi hi2=>by obtain ⟨n,q1,q2,q3⟩:=h.at_ i hi hi2;exact ⟨n,q1,hu _ _ q2,q3⟩⟩
theorem air (a b:ByteArray):∃ K:List ByteArray,K.Nodup∧tQ ((dD a).take 2048) (nH a) K∧tQ ((dD b).take 2048) (qZ a b) K:=by
 obtain ⟨h1,h2,h3⟩:=H8 (dD a) [] List.nodup_nil _ (bS _);rw [qE] at h1 h3;obtain ⟨g1,g2,g3⟩:=H8 (dD b) (eG (dD a) []).2 h1 _ (bS _);rw [qE] at g1 g2 g3;exact ⟨_,g1,(h3.up g2).take 2048,g3.take 2048⟩
theorem afL {K:List ByteArray} (h:K.Nodup) {n m:Nat} {x:ByteArray} (h1:K[n]?=some x) (h2:K[m]?=some x):n=m:=by
 obtain ⟨p1,e1⟩:=gN.1 h1;obtain ⟨p2,e2⟩:=gN.1 h2;exact (List.getElem_inj h).1 (e1.trans e2.symm)
theorem Vr {la lb:List (gM × ByteArray)} {x y:List dM} {K:List ByteArray} (hK:K.Nodup) (hx:tQ la x K) (hy:tQ lb y K) {i k:Nat} (hi:i < la.length) (hk:k < lb.length):(x[i]'(by rw [hx.len];exact hi)).key=(y[k]'(by rw [hy.len];exact hk)).key↔la[i].2=lb[k].2:=by
 obtain ⟨n,n1,n2,-⟩:=hx.at_ i hi (by rw [hx.len];exact hi);obtain ⟨m,m1,m2,-⟩:=hy.at_ k hk (by rw [hy.len];exact hk);rw [n1,m1]
 constructor
 ·intro e
  have:n=m:=by omega
  subst this;rw [n2] at m2;exact Option.some.inj m2
 intro e;rw [e] at n2;rw [afL hK n2 m2]
theorem Xp {l:List (gM × ByteArray)} {x:List dM} {K:List ByteArray} (hx:tQ l x K):x.map (·.weight)=l.map fun q=>kD q.1:=by
 apply List.ext_getElem
 ·simp [hx.len]
 intro i h1 h2;rw [bJ] at h1 h2;obtain ⟨-,-,-,q⟩:=hx.at_ i h2 h1
 simp [q]
theorem Xo:∀ (x y:List dM),x.map (·.weight)=y.map (·.weight)->jL x=jL y
 | [],[],_=>rfl
 | [],y :: ys,h=>by simp at h
 | x :: xs,[],h=>by simp at h
 | x :: xs,y :: ys,h=>by
  simp only [gV,List.cons.injEq] at h
  rw [jL,jL,h.1,Xo xs ys h.2]
theorem P7 (x y:List dM):jL (x++y)=jL x+jL y:=by
 induction x with
 | nil=>simp [jL]
 | cons a x ih=>simp only [nU,jL,ih];omega
theorem KJ {a b:List dM} {k:Nat} (hk:¬ k < b.length):∀ (q i:Nat),a.length - i<=q->fF a b i k=0
 | 0,i,h=>rW V
 | q+1,i,h=>by
  by_cases hi:i < a.length
  ·rw [PS hi hk,KJ hk q (i+1) V]
  exact rW hi
theorem HV {a b c d:List dM} (h1:c.length=b.length) (h2:d.length=a.length) (hk:∀ i k (hi:i < a.length) (hk:k < b.length),a[i].key=b[k].key↔(c[k]'V).key=(d[i]'V).key)
  (hwc:∀ k (hk:k < b.length),(c[k]'V).weight=b[k].weight) (hwd:∀ i (hi:i < a.length),(d[i]'V).weight=a[i].weight):∀ (q i k:Nat),(a.length - i)+(b.length - k)<=q->fF a b i k=fF c d k i
 | 0,i,k,hq=>by rw [rW V,rW V]
 | q+1,i,k,hq=>by
  by_cases hi:i < a.length
  ·by_cases hkb:k < b.length
   ·rw [xW hi hkb,xW (show k < c.length by omega) (show i < d.length by omega)];rw [HV h1 h2 hk hwc hwd q (i+1) k V,HV h1 h2 hk hwc hwd q i (k+1) V,HV h1 h2 hk hwc hwd q (i+1) (k+1) V]
    have hw:jG (c[k]'V) (d[i]'V)=jG a[i] b[k]:=by rw [jG,jG,hwc k hkb,hwd i hi];omega
    rw [hw,Int.max_comm (fF c d k (i+1)) (fF c d (k+1) i)]
    by_cases e:a[i].key=b[k].key
    ·have e2:=(hk i k hi hkb).1 e
     simp only [e,e2,true_and]
    have e2:¬ (c[k]'V).key=(d[i]'V).key:=fun h=>e ((hk i k hi hkb).2 h)
    simp only [e,e2,false_and]
   rw [KJ hkb _ i (bS _),rW V]
  rw [rW hi,KJ V _ k (bS _)]
theorem Xn {x:List dM} {i:Nat} (hi:i < x.length):jL (x.drop i)=x[i].weight+jL (x.drop (i+1)):=by
 rw [List.drop_eq_getElem_cons hi];rfl
theorem KN {x:List dM} (h:∀ y∈x,1<=y.weight∧y.weight<=1000) (i:Nat):0<=jL (x.drop i):=by
 have:=KM (x.drop i) (fun y hy=>h y (List.mem_of_mem_drop hy));omega
theorem KI {a b:List dM} (ha:∀ x∈a,1<=x.weight∧x.weight<=1000) (hb:∀ x∈b,1<=x.weight∧x.weight<=1000):∀ (q i k:Nat),(a.length - i)+(b.length - k)<=q->fF a b i k<=jL (a.drop i)∧fF a b i k<=jL (b.drop k)
 | 0,i,k,hq=>by rw [rW V];exact ⟨KN ha i,KN hb k⟩
 | q+1,i,k,hq=>by
  have p1:=KN ha i;have p2:=KN hb k
  by_cases hi:i < a.length
  ·by_cases hk:k < b.length
   ·have e1:=KI ha hb q (i+1) k V;have e2:=KI ha hb q i (k+1) V;have e3:=KI ha hb q (i+1) (k+1) V;have s1:=Xn hi;have s2:=Xn hk;have w1:=ha _ (dV hi);have w2:=hb _ (dV hk);rw [xW hi hk]
    unfold jG
    split <;> omega
   rw [KJ hk _ i (bS _)];exact ⟨p1,p2⟩
  rw [rW hi];exact ⟨p1,p2⟩
def qm (a b:ByteArray):Int:=yE (nH a) (qZ a b)
theorem ahn (a b:ByteArray):0<=qm a b∧qm a b<=1000:=by
 have h1:=KI (KT a) (Qj a b) _ 0 0 (bS _);have h2:=EI (KT a) (Qj a b) _ 0 0 (bS _);rw [List.drop_zero,List.drop_zero] at h1;rw [qm,yE]
 split
 ·decide
 rename_i hne
 have hs:=P7 (nH a) (qZ a b)
 have hp:0 < jL (nH a++qZ a b):=by omega
 refine ⟨Int.tdiv_nonneg V V,?_⟩;rw [Int.tdiv_eq_ediv_of_nonneg V];have:=Int.ediv_le_ediv hp (show 2000*fF (nH a) (qZ a b) 0 0<=1000*jL (nH a++qZ a b) by omega)
 rwa [Int.mul_ediv_cancel _ V] at this
theorem acC:Dp prog 45 [(0,false),(1,false),(2,false)]:=⟨Z,Z,Z,Z,Z⟩
theorem ahb (G:GH) (w0:World) (hG:Hold G w0) (l:List jJ) (v u:ak) (hv:aF G (.sl 3 (l.map jJ.dat)) v) (hu:aF G (.sl 3 (l.map jJ.dat)) u) :
  Calls prog 21 #[v,u] w0 (bQ w0 G fun r G'=>r=.bool true):=by
 obtain ⟨A,c,rfl,hc1,hc2,-⟩:=hv.slice;obtain ⟨B,c2,rfl,hd1,hd2,-⟩:=hu.slice;have hml:maxLen=9223372036854775807:=rfl;rw [bJ] at *;refine eN [(0,_),(1,_)] func21 O ntmps21 O O hG ?_;intro a H;refine kP H (SR fun _ K1=>av K1 O (SQ fun _ K2=>SR fun _ K3=>Rm O (Rl vJ O (Rm O (Rl vJ O (Rc O (Kz K3 (Cd O ?_ ?_)))))))) <;> clear H K1 K3
 ·intro h10 a H
  try have mG:=dT h10
  simp at mG
 intro h10 a H
 try have mG:=dF h10
 refine kP H (Kc K2 (SQ fun _ K4=>SR fun _ K5=>av K5 O (SB ?_)));clear H K2 K5;intro a H;skip;refine dY (ι:=Nat × GH) (Tc:=[(0,_),(1,_)]) (Lc:=[]) (fun gh=>[(5,vi gh.1)]) (fun gh=>[]) (fun gh=>gh.2) (fun gh=>gh.1<=l.length∧(∀ b o,G b=some o->gh.2 b=some o)) (fun gh=>l.length - gh.1) ((0,G)) (by exact H.sub ⟨O,O,O,aI⟩) ?_ ?_
 ·exact ⟨fC _,fun _ _ h=>h⟩
 clear H;rintro ⟨k,g⟩ a w hI H;dsimp only at hI H;obtain ⟨hk,hgm⟩:=hI;dsimp only [lca,bW] at H;refine kP H (SQ fun _ K6=>SR fun _ K7=>Rm O (Rm O (Rl vJ O (Rc O (Kz K7 (Cd O ?_ ?_)))))) <;> clear H K7
 ·intro eD a H
  try have jC:=dT eD
  have hk1:k < l.length:=by omega
  obtain ⟨b,o,rfl,hrow⟩:=OP (hv.mono hgm) hk1;obtain ⟨b2,o2,rfl,hrow2⟩:=OP (hu.mono hgm) hk1;refine kP H (Kc K6 (SQ fun _ K8=>SB (SQ fun _ K9=>?_)));clear H K6;intro a H;refine dI hmx [[],[],[0,1],[0,1,2],[],[],[4,5],[4,5,6],ra 0 8] [] Z [.slice (some ⟨b,o,none⟩) l.length c,vi k,(aJ b (o+k*3)),.agg #[vi l[k].a,vi l[k].b,vi l[k].score],.slice (some ⟨b2,o2,none⟩) l.length c2,vi k,(aJ b2 (o2+k*3)),.agg #[vi l[k].a,vi l[k].b,vi l[k].score],.bool false] H (aH ?_ ?_ ?_ ?_ (aH ?_ ?_ ?_ ?_ (eB ?_ fD))) ?_
  ·intro ay a w G1 _ ah hc hG HT hv;have H:=HT;clear ah;have Hb:=H.full;have H:=Hb;clear hc;refine kH H (Rm O ?_);clear H;intro a H;refine aj ⟨O,?_⟩;exact aB HT Hb hG hv (fun _ _ _ _ _ h=>h) H O
  ·intro ay a w G1 _ ah hc hG HT hv;have H:=HT;clear ah;have Hb:=H.full;have H:=Hb;clear hc;refine kH H (Rm O ?_);clear H;intro a H;refine aj ⟨O,?_⟩;exact aB HT Hb hG hv (fun _ _ _ _ _ h=>h) H O
  ·intro ay a w G1 _ ah hc hG HT hv;have H:=HT;clear ah;have H:=H.au (hv 0 17 (hc 0 Y) O) O;have H:=H.au (hv 1 18 (hc 1 Y) O) O;have Hb:=H.full;have H:=Hb;clear hc;refine bD vJ zi k H wn O O O hk1 O ?_;clear H;intro a H;refine aj ⟨O,?_⟩;exact aB HT Hb hG hv (fun _ _ _ _ _ h=>h) H O
  ·intro ay a w G1 _ ah hc hG HT hv;have H:=HT;clear ah;have H:=H.au (hv 2 19 (hc 2 Y) O) O;have Hb:=H.full;have H:=Hb;clear hc;refine bV zi (cs:=[_,_,_]) H wn O O (fun j v hj=>H.hp.aS (aK hG (hrow j v hj))) O ?_;clear H;intro a H;refine aj ⟨O,?_⟩;exact aB HT Hb hG hv (fun _ _ _ _ _ h=>h) H O
  ·intro ay a w G1 _ ah hc hG HT hv;have H:=HT;clear ah;have Hb:=H.full;have H:=Hb;clear hc;refine kH H (Rm O ?_);clear H;intro a H;refine aj ⟨O,?_⟩;exact aB HT Hb hG hv (fun _ _ _ _ _ h=>h) H O
  ·intro ay a w G1 _ ah hc hG HT hv;have H:=HT;clear ah;have Hb:=H.full;have H:=Hb;clear hc;refine kH H (Rm O ?_);clear H;intro a H;refine aj ⟨O,?_⟩;exact aB HT Hb hG hv (fun _ _ _ _ _ h=>h) H O
  ·intro ay a w G1 _ ah hc hG HT hv;have H:=HT;clear ah;have H:=H.au (hv 4 21 (hc 4 Y) O) O;have H:=H.au (hv 5 22 (hc 5 Y) O) O;have Hb:=H.full;have H:=Hb;clear hc;refine bD vJ zi k H wn O O O hk1 O ?_;clear H;intro a H;refine aj ⟨O,?_⟩;exact aB HT Hb hG hv (fun _ _ _ _ _ h=>h) H O
  ·intro ay a w G1 _ ah hc hG HT hv;have H:=HT;clear ah;have H:=H.au (hv 6 23 (hc 6 Y) O) O;have Hb:=H.full;have H:=Hb;clear hc;refine bV zi (cs:=[_,_,_]) H wn O O (fun j v hj=>H.hp.aS (aK hG (hrow2 j v hj))) O ?_;clear H;intro a H;refine aj ⟨O,?_⟩;exact aB HT Hb hG hv (fun _ _ _ _ _ h=>h) H O
  ·intro ay a w G1 _ ah hc hG HT hv;have H:=HT;clear ah;have H:=H.au (hv 3 20 (hc 3 Y) O) O;have H:=H.au (hv 7 24 (hc 7 Y) O) O;have Hb:=H.full;have H:=Hb;clear hc;refine Hw (.inr O) acC H wn O O O O ?_;clear H;intro a H;refine aj ⟨O,?_⟩
   exact oD Z (fun _ _ _ _ _ h=>h) O O HT Hb hG hv (fun _ _ h=>h) (by simp [jy] <;> rfl) H
  clear H;intro a w G qb H hv;have H:=H.au (hv 8 25 O O) O;clear hv;refine aj ⟨O,?_⟩;refine K9 _ _ ?_;clear K9;refine vV H O O ?_;refine kP H (Kc K8 (SC (Rm O (Rd O (Ra O ?_)))));clear H K8;intro a H;refine aj ?_;refine bE ((k+1,G)) (by exact H.sub ⟨O,O,O,aI⟩) ?_
  (try dsimp only);exact ⟨V,fun b o h=>qb b o (hgm b o h)⟩
 intro eD a H
 refine dJ ?_;refine K4 _ _ ?_;clear K4;exact kP H (SR fun _ aP=>av aP O (LR results21 O fun H=>H.rt O))
theorem adZ {S:List (List Int)} (h:0 < S.length):(S.headD []).length=S[0].length:=by
 match S,h with
 | r :: S',_=>rfl
structure Dw (S:List (List Int)) (m:Nat):Prop where
 wid:∀ r∈S,r.length=m
 len:S.length<=1024∧m<=1024
 ok:∀ i k,i < S.length->k < m->0<=bI S i k∧bI S i k<=1000
theorem TY:∀ {l:List Int},zM l=0->∀ e∈l,e=0
 | [],_,e,h=>by cases h
 | x :: l,h,e,he=>by
  rw [zM] at h
  split at h
  ·rename_i hx
   rcases nT.1 he with rfl|he
   ·exact hx
   exact TY h e he
  exact absurd h (by assumption)
theorem ZX {S:List (List Int)} (h:pV S=0):Dw S (S.headD []).length:=by
 rw [pV] at h
 split at h
 ·exact absurd h Y
 rename_i hl
 have hr:∀ r∈S,¬ 1024 < r.length∧r.length=(S.headD []).length∧r.all vF=true:=by
  intro r hr;have h0:=TY h _ (List.mem_map.2 ⟨r,hr,O⟩);rw [nP] at h0
  split at h0
  ·exact absurd h0 Y
  split at h0
  ·exact absurd h0 Y
  rename_i h1 h2
  split at h0
  ·rename_i h3;exact ⟨h1,DC.1 h2,h3⟩
  exact absurd h0 Y
 refine ⟨fun r h=>(hr r h).2.1,⟨V,?_⟩,fun i k hi hk=>?_⟩
 ·cases S with
  | nil=>exact fC _
  | cons r S=>have:=hr r (nN ..);rw [List.headD_cons];omega
 have hx:=hr _ (dV hi)
 have hk2:k < S[i].length:=by omega
 rw [EC hi hk2];have h3:=gW.1 hx.2.2 _ (dV hk2)
 simpa [vF] using h3
theorem Dw.row {G:GH} {S:List (List Int)} {m i k:Nat} (hS:Dw S m) {A:Option Addr} {n c:Nat} (hv:aF G (.sl 1 (S.map nD)) (.slice A n c)) (hi:i < S.length) (hk:k < m) :
  ∃ b o nb no bc,A=some ⟨b,o,none⟩∧aS G b (o+i*1)=some (.slice (some ⟨nb,no,none⟩) m bc)∧aS G nb (no+k*1)=some (vi (bI S i k)):=by
 obtain ⟨b,o,bA,bc,rfl,g1,g2⟩:=Ac hv hi;have hw:S[i].length=m:=hS.wid _ (dV hi);obtain ⟨nb,no,rfl,g3⟩:=rU g2 (show k < S[i].length by omega);exact ⟨b,o,nb,no,bc,O,by rw [g1,hw],by rw [g3,EC hi V]⟩
end Go.Proofs.YtomebajfpcjoeaaGreatDoor
