/-
  What the claim stands on, part 3: Tok Seg De Dj Sgc Txs Utf3 Cy Slc Eq Mp Aln Sol Sol2 Bmt Bsm.
-/
import Derived.Test.YtomebajfpcjoeaaDoorWab
import Derived.Lib.BufferWrite
import Derived.Laws.StructEq
import Derived.ChangeKeysEq
import Derived.MapKept
namespace Go.Proofs.YtomebajfpcjoeaaDoor
set_option linter.all false
open Go.Proofs.Tryd
open Go.RowKit
theorem BF:Ty prog 117 1 24 [.slice none 0 0] false:=⟨Z,Z⟩
theorem VT:bX 69:=cu func69 O
theorem WA:gQ prog 146 1 1:=⟨Z⟩
theorem WB:gQ prog 146 2 2:=⟨Z⟩
theorem abD:qX prog 103 [(0,1),(1,1),(2,1)] [.int .i64 0,.int .i64 0,.int .i64 0]:=⟨Z,Z⟩
theorem NQ:bX 68:=cu func68 O
structure fE where
 kind:Int
 from_:Int
 dP:Int
def fE.dat (x:fE):List Dat:=[li x.kind,li x.from_,li x.dP]
def fE.cells (x:fE):List av:=[vi x.kind,vi x.from_,vi x.dP]
theorem acd (G:GH) (x:fE):aZ G x.dat x.cells:=by
 simp only [fE.dat,fE.cells,aZ]
 exact ⟨_,_,O,by simp [aC,Value.oneCell'],_,_,O,by simp [aC,Value.oneCell'],_,_,O,by simp [aC,Value.oneCell'],O⟩
theorem abZ {G:GH} {x:fE} {cs:List av} (h:aZ G x.dat cs):cs=x.cells:=by
 simp only [fE.dat,aZ,aC] at h
 obtain ⟨v1,_,rfl,⟨rfl,-⟩,v2,_,rfl,⟨rfl,-⟩,v3,_,rfl,⟨rfl,-⟩,rfl⟩:=h
 rfl
theorem KD {G:GH} {l:List fE} {A:Option Addr} {n c k:Nat} (hv:aC G (.sl 3 (l.map fE.dat)) (.slice A n c)) (hk:k < l.length):∃ b o,A=some ⟨b,o,none⟩∧(∀ j u,[vi l[k].kind,vi l[k].from_,vi l[k].dP][j]?=some u->aR G b (o+k*3+j)=some u):=by
 obtain ⟨A',c',he,_,_,hg⟩:=hv.slice
 injection he with e1 e2 e3
 subst e1;obtain ⟨b,o,cs,h1,h2,h3,h4⟩:=hg k l[k].dat (by simp [hk]);obtain rfl:=abZ h4;exact ⟨b,o,h1,h3⟩
theorem Sr {l:List eF}:∀ (f n:Nat) (k:Int),n<=l.length->n<=(uO l f n k).1∧(uO l f n k).1<=l.length
 | 0,n,k,h=>⟨bD _,h⟩
 | f+1,n,k,h=>by
  rw [uO];split
  ·split
   ·have:=Sr (l:=l) f (n+1) (if iV l n=5 then 1 else k) V;omega
   exact ⟨bD _,h⟩
  exact ⟨bD _,h⟩
theorem Q0 {l:List eF}:∀ (f n:Nat),n<=l.length->n<=sV l f n∧sV l f n<=l.length
 | 0,n,h=>⟨bD _,h⟩
 | f+1,n,h=>by
  rw [sV];split
  ·have:=Q0 (l:=l) f (n+1) V;omega
  exact ⟨bD _,h⟩
theorem JJ {l:List eF} (h:0 < l.length):1<=(lG l).1∧(lG l).1<=l.length:=by
 unfold lG
 split
 ·rename_i hc
  have hok:okW l 0=true:=by simp only [okW,dH];omega
  rw [jB,Sv V h,aM hok];have:=Sr (l:=l) (l.length - 1) (0+1) (if iV l 0=5 then 1 else 2) V
  omega
 split
 ·rename_i hc
  rw [Q6 V ⟨h,hc⟩];have:=Q0 (l:=l) (l.length - 1) (0+1) V
  omega
 repeat' split
 all_goals (dsimp only;omega)
def ow:Nat->List eF->List fE
 | 0,_=>[]
 | f+1,l=>if h:0 < l.length then ⟨(lG l).2,(l[0]).from_,(l[(lG l).1 - 1]'(by have:=JJ h;omega)).dP⟩ :: ow f (l.drop (lG l).1) else []
def jm (l:List eF):List fE:=ow l.length l
theorem DJ:∀ (f:Nat) (l:List eF),(ow f l).length<=f
 | 0,_=>by simp [ow]
 | f+1,l=>by
  rw [ow];split
  ·rw [kI];have:=DJ f (l.drop (lG l).1);omega
  simp
def yF (x:fE):AP:=fun args _=>args=[.agg #[vi x.kind,vi x.from_,vi x.dP]]
theorem RA {A:List fE} {k:Nat} {args:List av} {g:GH} (h:tC (A.map yF) k args g):∃ (hk:k < A.length),args=[.agg #[vi A[k].kind,vi A[k].from_,vi A[k].dP]]:=by
 obtain ⟨p,hp,hargs⟩:=h;rw [qG] at hp;obtain ⟨q,hq,rfl⟩:=mG.1 hp;obtain ⟨hk,rfl⟩:=iI.1 hq;exact ⟨hk,hargs⟩
abbrev bC (b:Nat) (v:av):Nat × Obj:=(b,.cells #[v] 117 (0,0))
set_option maxHeartbeats 1000000 in
theorem acn {G:GH} {bx:Nat} {l:List eF} {v:av} (hv:aC G (.sl 3 (l.map eF.dat)) v) :
  xu prog G [bC bx v] (.func (.func 68) #[] #[(aH bx 0)]) ((jm l).map yF):=by
 intro J Jx fv G1 L w0 XY hGi uy hJx hJ hO hcb;refine vo (caps:=[(aH bx 0)]) NQ ?_;obtain ⟨A,c,rfl,hc1,hc2,-⟩:=hv.slice;have hml:maxLen=9223372036854775807:=rfl;rw [bN] at *;refine nU (N:=31) (T:=[(0,_),(1,_)]) func68 O ntmps68 O O hO ?_;intro a H;refine xO ?_;skip;refine eG (ι:=List eF × Option Addr × Nat × Nat × Nat × OL × GH) (Tc:=[(0,_),(1,_)]) (Lc:=[]) (fun gh=>[]) (fun gh=>[bC bx (.slice gh.2.1 gh.1.length gh.2.2.1)]++gh.2.2.2.2.2.1) (fun gh=>gh.2.2.2.2.2.2) (fun gh=>gh.1.length<=gh.2.2.2.1∧aC gh.2.2.2.2.2.2 (.sl 3 (gh.1.map eF.dat)) (.slice gh.2.1 gh.1.length gh.2.2.1)∧(∀ b o,G1 b=some o->gh.2.2.2.2.2.2 b=some o)∧Now ((jm l).map yF) yF J (jm l).length gh.2.2.2.2.1 (ow gh.2.2.2.1 gh.1) gh.2.2.2.2.2.2 gh.2.2.2.2.2.1) (fun gh=>gh.1.length) ((l,A,c,l.length,0,L,G1)) (by exact H.sub ⟨O,O,aL⟩) ?_ ?_
 ·exact ⟨bD _,hv.mono hGi,fun _ _ h=>h,⟨hJ,fun i a h=>by rw [fC,qG];rw [show ow l.length l=jm l from rfl] at h;rw [h];rfl,by show 0+(jm l).length=_;omega⟩⟩
 clear H;rintro ⟨r,B,c2,f,j1,Lt,g⟩ a w hI H;dsimp only at hI H;obtain ⟨hf,bK,hgm,iZ⟩:=hI;dsimp only [lca,dB] at H;refine kP H (SQ fun _ K1=>SR fun _ K2=>Ro BF 0 O (Rl iN O (Rc O (Kz K2 (Cd O ?_ ?_))))) <;> clear H K2
 ·intro h7 a H
  try have p7:=dT h7
  have hr0:0 < r.length:=by omega
  obtain ⟨f',rfl⟩:∃ f',f=f'+1:=⟨f - 1,V⟩;rw [ow,dif_pos hr0] at iZ;have hbd:=JJ hr0;obtain ⟨b,o,rfl,-⟩:=En bK hr0;obtain ⟨_,_,he0,hc3,hc4,-⟩:=bK.slice
  injection he0 with _ _ he1
  subst he1;rw [bN] at hc3;refine kP H (Kc K1 (SB (SR fun _ K3=>Ro BF 0 O ?_)));clear H K1;intro a H;refine s_call VT H wn O (ZN _ _ H.ro r _ bK hr0) O ?_;clear H;rintro v10 LB a w rfl AV H;obtain ⟨nn,hnn⟩:∃ nn,nn=(lG r).1:=⟨_,O⟩;have bK:=bK.mono AV;rw [<- hnn] at H hbd
  have hl1:nn - 1 < r.length:=by omega
  have uD:Now ((jm l).map yF) yF J (jm l).length j1 (⟨(lG r).2,(r[0]).from_,(r[nn - 1]).dP⟩ :: ow f' (r.drop nn)) LB Lt:=by
   subst hnn;exact ⟨uy _ _ _ _ AV iZ.now,iZ.rem,iZ.len⟩
  refine kH H (Rm O ?_);clear H;intro a H;(iterate 2 refine fZ H wn O O O ?_;clear H;intro a H);refine kH H (Ra O (aB K3 O (SQ fun _ K4=>SQ fun _ K5=>?_)));clear H K3;intro a H;refine dI gG [[],[],[],[2],[2,3],[2,3,4],[],[],[7],[6,7,8],ra 6 4,ra 6 5,ra 1 11,ra 0 13,ra 0 14] [13,14] Z [fv,vi (lG r).2,.slice (some ⟨b,o,none⟩) r.length c2,(aH b (o+0*3)),(aH b (o+0*3+1)),vi (r[0]).from_,.slice (some ⟨b,o,none⟩) r.length c2,vi nn,vi ((nn:Int) - 1),(aH b (o+(nn - 1)*3)),(aH b (o+(nn - 1)*3+2)),vi (r[nn - 1]).dP,.agg #[vi (lG r).2,vi (r[0]).from_,vi (r[nn - 1]).dP]] H (aI ?_ ?_ ?_ ?_ (aI ?_ ?_ ?_ ?_ (aI ?_ ?_ ?_ ?_ (iO ?_ (iO (gB O) (iO (gB O) fQ)))))) ?_
  ·intro au a w G1 _ ah hc hG HT hv;have H:=HT;clear ah;have Hb:=H.full;have H:=Hb;clear hc;refine kH H (Rm O ?_);clear H;intro a H;refine aj ⟨O,?_⟩;exact ay HT Hb hG hv (fun _ _ _ _ _ h=>h) H O
  ·intro au a w G1 _ ah hc hG HT hv;have H:=HT;clear ah;have Hb:=H.full;have H:=Hb;clear hc;refine kH H (Rm O ?_);clear H;intro a H;refine aj ⟨O,?_⟩;exact ay HT Hb hG hv (fun _ _ _ _ _ h=>h) H O
  ·intro au a w G1 _ ah hc hG HT hv;have H:=HT;clear ah;have Hb:=H.full;have H:=Hb;clear hc;refine kH H (Ro BF 0 O ?_);clear H;intro a H;refine aj ⟨O,?_⟩;exact ay HT Hb hG hv (fun _ _ _ _ _ h=>h) H O
  ·intro au a w G1 _ ah hc hG HT hv;have H:=HT;clear ah;have H:=H.ak (hv 2 15 (hc 2 Y) O) O;have Hb:=H.full;have H:=Hb;clear hc;refine aT iN fq 0 H wn O O O hr0 O ?_;clear H;intro a H;refine aj ⟨O,?_⟩;exact ay HT Hb hG hv (fun _ _ _ _ _ h=>h) H O
  ·intro au a w G1 _ ah hc hG HT hv;have H:=HT;clear ah;have H:=H.ak (hv 3 16 (hc 3 Y) O) O;have Hb:=H.full;have H:=Hb;clear hc;refine kH H (Rf WA O ?_);clear H;intro a H;refine aj ⟨O,?_⟩;exact ay HT Hb hG hv (fun _ _ _ _ _ h=>h) H O
  ·intro au a w G1 _ ah hc hG HT hv;have H:=HT;clear ah;have H:=H.ak (hv 4 17 (hc 4 Y) O) O;have Hb:=H.full;have H:=Hb;clear hc;refine kH H (Rg aF O (aK hG (jW bK hr0 1 _ O)) ?_);clear H;intro a H;refine aj ⟨O,?_⟩;exact ay HT Hb hG hv (fun _ _ _ _ _ h=>h) H O
  ·intro au a w G1 _ ah hc hG HT hv;have H:=HT;clear ah;have Hb:=H.full;have H:=Hb;clear hc;refine kH H (Ro BF 0 O ?_);clear H;intro a H;refine aj ⟨O,?_⟩;exact ay HT Hb hG hv (fun _ _ _ _ _ h=>h) H O
  ·intro au a w G1 _ ah hc hG HT hv;have H:=HT;clear ah;have Hb:=H.full;have H:=Hb;clear hc;refine kH H (Rm O ?_);clear H;intro a H;refine aj ⟨O,?_⟩;exact ay HT Hb hG hv (fun _ _ _ _ _ h=>h) H O
  ·intro au a w G1 _ ah hc hG HT hv;have H:=HT;clear ah;have H:=H.ak (hv 7 20 (hc 7 Y) O) O;have Hb:=H.full;have H:=Hb;clear hc;refine kH H (Rs O ?_);clear H;intro a H;refine aj ⟨O,?_⟩;exact ay HT Hb hG hv (fun _ _ _ _ _ h=>h) H O
  ·intro au a w G1 _ ah hc hG HT hv;have H:=HT;clear ah;have H:=H.ak (hv 6 19 (hc 6 Y) O) O;have H:=H.ak (hv 8 21 (hc 8 Y) O) O;have Hb:=H.full;have H:=Hb;clear hc;refine aT iN fq (nn - 1) H wn O O V hl1 O ?_;clear H;intro a H;refine aj ⟨O,?_⟩;exact ay HT Hb hG hv (fun _ _ _ _ _ h=>h) H O
  ·intro au a w G1 _ ah hc hG HT hv;have H:=HT;clear ah;have H:=H.ak (hv 9 22 (hc 9 Y) O) O;have Hb:=H.full;have H:=Hb;clear hc;refine kH H (Rf WB O ?_);clear H;intro a H;refine aj ⟨O,?_⟩;exact ay HT Hb hG hv (fun _ _ _ _ _ h=>h) H O
  ·intro au a w G1 _ ah hc hG HT hv;have H:=HT;clear ah;have H:=H.ak (hv 10 23 (hc 10 Y) O) O;have Hb:=H.full;have H:=Hb;clear hc;refine kH H (Rg aF O (aK hG (jW bK hl1 2 _ O)) ?_);clear H;intro a H;refine aj ⟨O,?_⟩;exact ay HT Hb hG hv (fun _ _ _ _ _ h=>h) H O
  ·intro au a w G1 _ ah hc hG HT hv;have H:=HT;clear ah;have H:=H.ak (hv 1 14 (hc 1 Y) O) O;have H:=H.ak (hv 5 18 (hc 5 Y) O) O;have H:=H.ak (hv 11 24 (hc 11 Y) O) O;have Hb:=H.full;have H:=Hb;clear hc;refine kF abD [_,_,_] H wn O O O O ?_;clear H;intro a H;refine aj ⟨O,?_⟩;exact ay HT Hb hG hv (fun _ _ _ _ _ h=>h) H O
  clear H;intro a w G EO H hv;have H:=H.ak (hv 0 13 O O) O;have H:=H.ak (hv 12 25 O O) O;clear hv;refine Bo (Li:=[_]) (L:=Lt) H wn O O (hcb j1 _ _ _ _ ⟨_,uD.head,O⟩ (fun b o h=>EO b o (AV b o (hgm b o h))) (uy _ _ _ _ EO uD.now) (Hp.owns (Li:=[_]) H.hp)) O ?_;clear H;rintro v26 SH Mc a w ⟨b26,rfl,hb1,hb2⟩ OH H;have Zb:=(bK.mono EO).mono OH;refine kH H (Rn O ?_);clear H;intro a H;refine aj ⟨O,?_⟩;refine K5 _ _ ?_;clear K5;refine vk H O ?_ ?_
  ·intro h27
   try have p27:=dT h27
   refine aV ?_;refine (leave0 H results68 ?_).1;exact H.hp.yx (L':=Mc) (by repeat (first|exact yN _|apply List.Sublist.cons)) (.inr (hb2 (by simpa using h27)))
  intro h27
  try have p27:=dF h27
  refine kP H (Kc K4 (SC (Ro BF 0 O (Rm O ?_))));clear H K4;intro a H;refine aaZ iN fq nn H wn O O O V O ?_;clear H;intro a H;have hlen:r.length - nn=(r.drop nn).length:=(List.length_drop ..).symm;rw [hlen] at H;have O6:=Zb.part nn r.length V (by rw [bN];exact bD _);rw [iU (by rw [List.length_drop,bN];exact bD _),<- List.map_drop,hlen] at O6;have Yq:=uD.step (hb1 (by simpa using h27));refine eO BF 0 (vs:=[_]) H wn O ?_;clear H;intro w H;refine aj ?_;refine JF ((r.drop nn,_,c2 - nn,f',j1+1,Mc,SH)) (by exact H.sub ⟨O,O,aL⟩) ?_ ?_
  ·(try dsimp only);exact ⟨by rw [<- hlen];omega,O6,fun b o h=>OH b o (EO b o (AV b o (hgm b o h))),Yq⟩
  dsimp only;rw [<- hlen];omega
 intro h7 a H
 try have p7:=dF h7
 have hnl:ow f r=[]:=by
  match f with
  | 0=>rfl
  | f+1=>rw [ow,dif_neg V]
 rw [hnl] at iZ;refine dD ?_;refine (leave0 H results68 ?_).2;refine H.hp.yx (L':=Lt) (by repeat (first|exact yN _|apply List.Sublist.cons)) (.inl ?_);have h:=iZ.len
 simp only [List.length_nil,qZ] at h
 rw [bN,<- h];exact iZ.now
theorem qy:prog.underlying 97=some (.slice 103):=by kernel_rfl
theorem lV:Ty prog 103 3 24 [.int .i64 0,.int .i64 0,.int .i64 0] true:=⟨Z,Z⟩
theorem KP:Ty prog 97 1 24 [.slice none 0 0] false:=⟨Z,Z⟩
theorem VR:bX 67:=cu func67 O
theorem Rz (G:GH):∀ (B A:List fE),dK G 3 (A.map fE.dat) (A.map fE.cells).flatten->dK G 3 ((A++B).map fE.dat) ((A++B).map fE.cells).flatten
 | [],A,h=>by rw [mg];exact h
 | x :: B,A,h=>by
  have h2:=h.snoc (acd G x) O;have h3:=Rz G B (A++[x]) (by simpa using h2)
  simpa using h3
theorem ace (G:GH) (A:List fE):dK G 3 (A.map fE.dat) (A.map fE.cells).flatten:=Rz G A [] dK.nil
theorem TI {G:GH} {w0:World} {bx:Nat} {v:av} {A:List fE} (hO:jS G [bC bx v] w0) (hA:A.length<=4294967296) (hit:xu prog G [bC bx v] (.func (.func 68) #[] #[(aH bx 0)]) (A.map yF)) :
  Calls prog 67 #[.slice none 0 0,.func (.func 68) #[] #[(aH bx 0)]] w0 (jT w0 G [bC bx v] fun u G' L'=>L'=[]∧aC G' (.sl 3 (A.map fE.dat)) u):=by
 have hml:maxLen=9223372036854775807:=rfl;refine nU (N:=13) (T:=[(0,_),(1,_)]) func67 O ntmps67 O O hO ?_;intro a H;refine jL (fun _ K1=>?_);refine oo (cs:=[_]) H wn O O O ?_;clear H;intro b2 a w hb2 H;refine kH H (aB K1 O (SQ fun _ K2=>SR fun _ K3=>Rm O (Kz K3 (SB ?_))));clear H K1 K3;intro a H;skip;refine Ul (B:=[(_,_)]) (ι:=av × OL) (κ:=Empty) (Lc:=[]) (fun (k:Nat) (gh:av × OL)=>[(b2,.cells #[gh.1] 97 (0,0))]) (fun (k:Nat) (gh:av × OL)=>gh.2) (fun (k:Nat) (gh:av × OL) (g:GH)=>bP 103 3 gh.1 k ((A.take k).map fE.cells).flatten gh.2) (fun x=>x.elim) (fun x=>x.elim) (fun x=>x.elim) (fun x=>x.elim) ((.slice none 0 0,[])) (by exact H.dR (Pl:=[_,_]) (dx:=[_,_]) [1,0] Y O) O NQ (hit) (fun _ _ h=>h) O (fun k args g h=>by obtain ⟨_,rfl⟩:=RA h;rfl) (fun _ _ _ _ _ h=>h) (fun x=>x.elim) (bP.nil) ?_ ?_ ?_
 ·clear H;intro l2 zH wm bk k args gh G2 w2 F2 B2 a hk2 hm2 hI XJ Yn aeD H;obtain ⟨u,Lo⟩:=gh;dsimp only at hI H;obtain ⟨hk,rfl⟩:=RA hk2;dsimp only [uY,List.cons_append,List.nil_append] at H;have hrw:=hI;refine uf ?_;refine kE lV H wn O ?_;clear H;intro b5 a w hb5 H;refine eO lV 0 (vs:=[_,_,_]) H wn O ?_;clear H;intro w H;refine aj ?_;refine XJ _ _ _ _ _ _ (by exact H.dR (Pl:=[_,_,_]) (dx:=[_,_,_]) [1,0,2] Y O) ?_;clear H;intro w H;refine kP H (SB (SC (Ro KP 2 O ?_)));clear H;intro a H;refine dX lV (cs:=[_,_,_]) H wn O O (H.hp.dG 1 O O) O ?_;clear H;intro a H;refine eU qy lV [_,_,_] [_,_,_] H wn O O O O O (by intro i q h;match i,h with|0,h=>exact h|n+1,h=>simp at h) O O ?_;clear H;intro b10 a w Ou H;have H:=St.un (A:=[_,_,_,_]) H;refine eD (Li:=[_,_,_,_]++bk) (Lo:=Lo) (news:=[vi A[k].kind,vi A[k].from_,vi A[k].dP]) qy lV O O H wn O O hrw O (H.hp.dG 0 O O) O V V O ?_;clear H;intro v11 Ti a w OO H;have H:=H.assoc;dsimp only [lca,dB] at H;obtain ⟨acL,acO,e11,-,-⟩:=OO.shape;subst e11;refine eO KP 3 (vs:=[_]) H wn O ?_;clear H;intro w H;refine aj ?_;refine Yn ((.slice acL (k+1) acO,Ti)) _ _ _ _ _ (by exact H.dR (Pl:=[_,_,_,_]) (dx:=[_,_]) [1,3] Y O) ?_;rw [lZ hk,kC,List.flatten_append];exact OO
 ·clear H;intro Dk2 gh Gd2 a w hm2 hI H;obtain ⟨u,Lo⟩:=gh;dsimp only at hI H;dsimp only [lca,dB] at H;have hrw:=hI;rw [bN,iU (bD _)] at hrw;refine K2 _ _ ?_;clear K2;refine kP H (SR fun _ K4=>Ro KP 1 O (aB K4 O ?_));clear H K4;intro a H;refine aV ?_;obtain ⟨Gr,hmr,hrep,H⟩:=St.ni (Li:=[_,_]) (Lo:=Lo) H hrw (rows:=A.map fE.dat) (by simp) (ace _ _);refine (Pv H 0 O ?_).1;clear H;intro a w H;dsimp only [List.eraseIdx_cons_succ,List.eraseIdx_cons_zero] at H;refine lv H results67 O ?_;exact H.hp.yx (L':=[]) (List.nil_sublist _) ⟨O,hrep⟩
 intro Dk x;exact x.elim
theorem UL {G:GH} {w0:World} {bx:Nat} {v:av} {A:List fE} (hO:jS G [bC bx v] w0) (hA:A.length<=4294967296) (hit:xu prog G [bC bx v] (.func (.func 68) #[] #[(aH bx 0)]) (A.map yF)) :
  Calls prog 50 #[.func (.func 68) #[] #[(aH bx 0)]] w0 (jT w0 G [bC bx v] fun u G' L'=>L'=[]∧aC G' (.sl 3 (A.map fE.dat)) u):=by
 refine nU (N:=5) (T:=[(0,_)]) func50 O ntmps50 O O hO ?_;intro a H;refine kP H (SR fun _ K1=>aB K1 O (SR fun _ K2=>Rm O ?_));clear H K1;intro a H;refine jH VR (Li:=[]) (L:=[_]) H wn O (TI (Hp.owns (Li:=[]) H.hp) hA hit) O ?_;clear H;rintro v4 G4 L4 a w ⟨rfl,hrep⟩ Yj H;exact kH H (aB K2 O (LR results50 O fun H=>H.hp.dO ⟨O,hrep⟩))
theorem aco {G:GH} {w0:World} (hO:jS G [] w0) (l:List eF) (v:av) (hv:aC G (.sl 3 (l.map eF.dat)) v) :
  Calls prog 51 #[v] w0 (jT w0 G [] fun u G' L'=>G=G'∧∃ bx,u=.func (.func 68) #[] #[(aH bx 0)]∧L'=[bC bx v]):=by
 obtain ⟨A,c,rfl,hc1,hc2,-⟩:=hv.slice;refine nU (N:=4) (T:=[(0,_)]) func51 O ntmps51 O O hO ?_;intro a H;refine jL (fun _ K1=>?_);refine oo (cs:=[_]) H wn O O O ?_;clear H;intro b1 a w hb1 H;refine kH H (aB K1 O (SR fun _ K2=>?_));clear H K1;intro a H;refine DC H wn O O ?_;clear H;intro a H;exact kH H (aB K2 O (LR results51 O fun H=>H.hp.dO ⟨O,b1,O,O⟩))
section
section
variable {N:Nat} {D:List Deferred} {w0:World} {F:Nat->Prop} {G0 G:GH} {L:OL} {T T':List (Nat × av)}
variable {r:Option Nat} {P:Program} {Q:Exit->Act->World->Prop} {l:List Oper} {a a':Act} {w w':World} {ε:Type}
def qY (l:List Oper) (pr:ε->Nat->av->Prop) (T:List (Nat × av)) (S:Nat->Bool) (E:ε) (T':List (Nat × av)):Prop :=
 (∀ t v,lk T t=some v->lk T' t=some v)∧∀ i d,S i=true->dY l i=some d->∃ v,lk T' d=some v∧pr E i v
theorem qY.put {pr:ε->Nat->av->Prop} {S:Nat->Bool} {E E':ε} {i d:Nat} {v:av} (h:qY l pr T S E T') (hok:Va l T=true) (hi:dY l i=some d) (hv:pr E' i v) (hE:∀ j u,j≠i->pr E j u->pr E' j u):qY l pr T (fD S i) E' ((d,v) :: T'):=by
 have hil:=Ao hi
 have hok1:=gq.1 hok i (qI.2 hil)
 rw [mo,hi] at hok1
 simp only [gT,Option.isNone_iff_eq_none,gq,qI] at hok1
 refine ⟨fun t u ht=>?_,fun j e hj he=>?_⟩
 ·rw [oW (fun e=>by subst e;rw [hok1.1] at ht;cases ht)];exact h.1 t u ht
 ·by_cases hji:j=i
  ·subst hji;rw [hi] at he;cases he;exact ⟨v,qP _ _ _,hv⟩
  ·have hSj:S j=true:=by unfold fD at hj;rwa [aJ hji] at hj
   obtain ⟨u,hu1,hu2⟩:=h.2 j e hSj he
   have hne:d≠e:=by
    intro e';subst e'
    have h2:=hok1.2 j (Ao he)
    have hb:Nat.beq i j=false:=Ai (fun h=>hji h.symm)
    rw [hb,he] at h2
    simp at h2
   exact ⟨u,by rw [oW hne];exact hu1,hE j u hji hu2⟩
theorem qY.unit {pr:ε->Nat->av->Prop} {S:Nat->Bool} {E:ε} {i:Nat} (h:qY l pr T S E T') (hi:dY l i=none):qY l pr T (fD S i) E T' :=
 ⟨h.1,fun j e hj he=>h.2 j e (by
  unfold fD at hj
  by_cases hji:j=i
  ·subst hji;rw [hi] at he;cases he
  ·rwa [aJ hji] at hj) he⟩
theorem Ue {id:Nat} (hm:P.follows .mixedOrders=true) (bQ:List (List Nat)) (hk:vC l bQ=true) (pr:ε->Nat->av->Prop) (Lf:(Nat->Bool)->ε->OL) (E0:ε) (H:St N D w0 F G0 G (Lf (fun _=>false) E0) T a w)
  (hstep:allI (fun i o=>∀ S E T' a w,S i=false->(∀ j∈bQ.getD i [],S j=true)->(∀ j,j < l.length->i∈bQ.getD j []->S j=false)->St N D w0 F G0 G (Lf S E) T' a w->qY l pr T S E T' ->
   WL r P l.toArray (fun e a' w'=>e=.normal∧∃ E' T'',St N D w0 F G0 G (Lf (fD S i) E') T'' a' w'∧qY l pr T (fD S i) E' T'') [o] a w) 0 l)
  (hend:∀ S E T' a w,(∀ i,i < l.length->S i=true)->St N D w0 F G0 G (Lf S E) T' a w->qY l pr T S E T'->Q .normal a w):WP r P (.region id l.toArray true) Q a w:=by
 refine El hm bQ hk (fun S a w=>∃ E T',St N D w0 F G0 G (Lf S E) T' a w∧qY l pr T S E T') ⟨E0,T,H.move H.hp.drew,fun _ _ h=>h,fun _ _ h=>by cases h⟩ ?_ ?_
 ·rintro i o S a w ho ⟨E,T',HS,hV⟩ ah mM hdesc
  have h:=yO hstep i o ho
  rw [fC] at h
  exact h S E T' a w ah mM hdesc HS hV
 ·rintro S a w hall ⟨E,T',HS,hV⟩
  exact hend S E T' a w hall HS hV
theorem qY.add {pr:ε->Nat->av->Prop} {S:Nat->Bool} {E:ε} (h:qY l pr T S E T') {t:Nat} {u:av} (hu:lk T' t=some u):qY l pr T S E ((t,u) :: T'):=by
 have e:∀ s v,lk T' s=some v->lk ((t,u) :: T') s=some v:=fun s v hs=>by
  by_cases hst:t=s
  ·subst hst;rw [hu] at hs;cases hs;exact qP _ _ _
  ·rw [oW hst];exact hs
 exact ⟨fun s v hs=>e s v (h.1 s v hs),fun i d hi hd=>by
  obtain ⟨v,h1,h2⟩:=h.2 i d hi hd
  exact ⟨v,e d v h1,h2⟩⟩
theorem St.oK {a:Act} {w:World} (H:St N D w0 F G0 G L T a w) {t:Nat} {u:av} (h:lk T t=some u):St N D w0 F G0 G L ((t,u) :: T) a w:=H.eT (H.get t u h)
end
end
section
section
variable {N:Nat} {D:List Deferred} {w0:World} {F:Nat->Prop} {G0 G G1 G2:GH} {L L1:OL} {T Xs:List (Nat × av)}
variable {r:Option Nat} {P:Program} {Q:Exit->Act->World->Prop} {l:List Oper} {a a':Act} {w w':World}
theorem MI {id:Nat} (hm:P.follows .mixedOrders=true) (bQ:List (List Nat)) (B:List Nat) (hk:vC l bQ=true) (hB:vN l bQ B=true) (X:(Nat->Bool)->Act->World->Prop) (h0:X (fun _=>false) a w.drew)
  (hstep:∀ i o S a w,l[i]?=some o->B.contains i=false->S i=false->(∀ j∈bQ.getD i [],S j=true)->(∀ j,j < l.length->i∈bQ.getD j []->S j=false)->X S a w->WL r P l.toArray (fun e a' w'=>e=.normal∧X (fD S i) a' w') [o] a w)
  (hend:∀ S a w,(∀ i,i < l.length->B.contains i=false->S i=true)->(∀ i,B.contains i=true->S i=false)->X S a w->WL r P l.toArray (fun e a w=>e=.normal∧Q .normal a w) (nI l B) a w):WP r P (.region id l.toArray true) Q a w:=by
 have hB1:∀ p b,B[p]?=some b->b < l.length∧∀ i,i < l.length->(B.contains i=false∨(B.take p).contains i=true)->i∈bQ.getD b []:=by
  intro p b hp
  simp only [vN,gT] at hB
  have h1:=gq.1 hB.1 p (qI.2 (iI.1 hp).1)
  rw [hp] at h1
  simp only [gT,gq,qI] at h1
  refine ⟨Eq.mp Nat.blt_eq h1.1,fun i hi hor=>?_⟩
  have h2:=h1.2 i hi
  rcases hor with h3|h3
  ·have h4:i∉B:=by simpa using h3
   simpa [h4] using h2
  ·have h4:i∈B.take p:=by simpa using h3
   simpa [h4] using h2
 have hB2:∀ i,i < l.length->B.contains i=false->∀ j∈bQ.getD i [],B.contains j=false:=by
  intro i hi hb j hj
  simp only [vN,gT] at hB
  have h1:=gq.1 hB.2 i (qI.2 hi)
  rw [hb] at h1
  simp only [Bool.false_or,gq] at h1
  simpa using h1 j hj
 refine El hm bQ hk (fun S a w=>((∀ i,B.contains i=true->S i=false)∧X S a w) ∨
   ∃ p,(∀ i,i < l.length->B.contains i=false->S i=true)∧(∀ i,(B.take p).contains i=true->S i=true)∧(∀ q b,B[q]?=some b->p<=q->S b=false)∧WL r P l.toArray (fun e a w=>e=.normal∧Q .normal a w) (nI l (B.drop p)) a w)
  (.inl ⟨fun _ _=>rfl,h0⟩) ?_ ?_
 ·intro i o S a w ho hX ah mM hdesc
  have hil:i < l.length:=(iI.1 ho).1
  by_cases hbi:B.contains i=true
  ·-- an operation of the tail: all that stands ahead of it is done
   obtain ⟨p0,hp0⟩:=List.getElem?_of_mem (by simpa using hbi:i∈B)
   have hall:∀ j,j < l.length->B.contains j=false->S j=true:=fun j hj hb=>mM j ((hB1 p0 i hp0).2 j hj (.inl hb))
   have Jq:∃ p,(∀ i,(B.take p).contains i=true->S i=true)∧(∀ q b,B[q]?=some b->p<=q->S b=false)∧WL r P l.toArray (fun e a w=>e=.normal∧Q .normal a w) (nI l (B.drop p)) a w:=by
    rcases hX with ⟨h1,hD⟩|⟨p,_,h2,h3,h4⟩
    ·exact ⟨0,by simp,fun q b hq _=>h1 b (by simpa using jK hq),hend S a w hall h1 hD⟩
    ·exact ⟨p,h2,h3,h4⟩
   obtain ⟨p,h2,h3,h4⟩:=Jq
   -- i is the next one
   have hpp:p<=p0:=by
    rcases Nat.lt_or_ge p0 p with hlt|hge
    ·have:(B.take p).contains i=true:=by
      simp only [sw]
      exact jK (i:=p0) (by rw [sj,aM hlt];exact hp0)
     rw [h2 i this] at ah;cases ah
    ·exact hge
   have zw:p < B.length:=by have:=(iI.1 hp0).1;omega
   have hbp:B[p]?=some B[p]:=iR zw
   have heq:B[p]=i:=by
    rcases Nat.lt_or_ge p p0 with hlt|hge
    ·exfalso
     have hin:B[p]∈bQ.getD i []:=(hB1 p0 i hp0).2 _ (hB1 p _ hbp).1 (.inr (by
      simp only [sw]
      exact jK (i:=p) (by rw [sj,aM hlt];exact hbp)))
     have:=mM _ hin
     rw [h3 p _ hbp (bD _)] at this;cases this
    ·have:p=p0:=by omega
     subst this
     rw [hbp] at hp0;simpa using hp0
   have hdrop:B.drop p=i :: B.drop (p+1):=by rw [List.drop_eq_getElem_cons zw,heq]
   have hops:nI l (B.drop p)=o :: nI l (B.drop (p+1)):=by rw [hdrop];simp [nI,ho]
   rw [hops] at h4
   refine Sn (fun a' w' h5=>.inr ⟨p+1,fun j hj hb=>?_,fun j hj=>?_,fun q b hq hpq=>?_,h5⟩) h4
   ·unfold fD;split
    ·rfl
    ·exact hall j hj hb
   ·unfold fD;split
    ·rfl
    ·rename_i hne
     refine h2 j ?_
     simp only [sw] at hj |-
     rw [lZ zw,vX] at hj
     rcases hj with hj|hj
     ·exact hj
     ·simp only [vY] at hj;exact absurd (hj.trans heq) hne
   ·unfold fD
    rw [aJ ?_]
    ·exact h3 q b hq V
    ·rintro rfl
     -- i would stand twice in B: it would come ahead of itself
     have h6:=(hB1 q b hq).2 b (hB1 q b hq).1 (.inr (by
      simp only [sw]
      exact jK (i:=p) (by rw [sj,aM V];rw [hbp,heq])))
     rw [mM _ h6] at ah;cases ah
  ·have zi:B.contains i=false:=by cases h:B.contains i with|false=>rfl|true=>exact absurd h hbi
   rcases hX with ⟨h1,hX⟩|⟨p,h0,_,_,_⟩
   ·refine qU (fun e a' w' ⟨he,hD⟩=>⟨he,.inl ⟨fun j hj=>?_,hD⟩⟩) (hstep i o S a w ho zi ah mM hdesc hX)
    unfold fD
    rw [aJ (by rintro rfl;rw [zi] at hj;cases hj)]
    exact h1 j hj
   ·rw [h0 i hil zi] at ah;cases ah
 ·intro S a w hall hX
  rcases hX with ⟨h1,hD⟩|⟨p,_,_,h3,h4⟩
  ·have hnil:B=[]:=by
    cases B with
    | nil=>rfl
    | cons b B=>have h5:=h1 b (by simp);rw [hall b (hB1 0 b O).1] at h5;cases h5
   subst hnil
   exact (hend S a w (fun j hj _=>hall j hj) h1 hD).2
  ·have hnil:B.drop p=[]:=by
    cases hd:B.drop p with
    | nil=>rfl
    | cons b B' =>
     have hb:B[p]?=some b:=by
      have:=jD (fun x:List Nat=>x[0]?) hd
      simpa using this
     have h5:=h3 p b hb (bD _)
     rw [hall b (hB1 p b hb).1] at h5;cases h5
   rw [hnil] at h4
   exact h4.2
theorem Uf {id:Nat} (hm:P.follows .mixedOrders=true) (bQ:List (List Nat)) (B:List Nat) (hk:vC l bQ=true) (hB:vN l bQ B=true) (m:Nat) (Ji:B.contains m=false) (ob:Obj) (pr:Nat->Nat->av->GH->Prop)
  (Yu:∀ b b' i v G,i≠m->pr b i v G->pr b' i v G) (H:St N D w0 F G0 G L T a w)
  (hstep:allI (fun i o=>∀ b L' S a w G1,B.contains i=false->Nat.beq i m=false->S i=false->(∀ j∈bQ.getD i [],S j=true)->(∀ k o,G k=some o->G1 k=some o)->St N D w0 F G0 G1 L' T a w->(∀ i d,S i=true->dY l i=some d->∃ v,a.tmps[d]?=some v∧pr b i v G1) ->
   WL r P l.toArray (fun e a' w'=>e=.normal∧DX N D w0 F G0 G L' T l (pr b) (fD S i) a' w') [o] a w) 0 l)
  (hmid:∀ o S a w G1,l[m]?=some o->S m=false->(∀ j∈bQ.getD m [],S j=true)->(∀ k o,G k=some o->G1 k=some o)->St N D w0 F G0 G1 L T a w->(∀ b i d,i≠m->S i=true->dY l i=some d->∃ v,a.tmps[d]?=some v∧pr b i v G1) ->
   WL r P l.toArray (fun e a' w'=>e=.normal∧∃ b,DX N D w0 F G0 G ((b,ob) :: L) T l (pr b) (fD S m) a' w') [o] a w)
  (hend:∀ b a w G1,(∀ k o,G k=some o->G1 k=some o)->St N D w0 F G0 G1 ((b,ob) :: L) T a w->(∀ i d,B.contains i=false->dY l i=some d->∃ v,a.tmps[d]?=some v∧pr b i v G1)->WL r P l.toArray (fun e a w=>e=.normal∧Q .normal a w) (nI l B) a w)
  (hml:Nat.blt m l.length=true):WP r P (.region id l.toArray true) Q a w:=by
 refine MI hm bQ B hk hB (fun S a w=>∃ b L',(S m=false->L'=L)∧(S m=true->L'=(b,ob) :: L)∧DX N D w0 F G0 G L' T l (pr b) S a w)
  ⟨0,L,fun _=>rfl,fun h=>absurd (show false=true from h) Y,G,fun _ _ h=>h,H.move H.hp.drew,fun _ _ h=>absurd (show false=true from h) Y⟩ ?_ ?_
 ·rintro i o S a w ho hb ah mM hdesc ⟨b,L',h1,h2,G1,hG,HS,hv⟩
  by_cases him:i=m
  ·subst him
   have e:=h1 ah;subst e
   have h:=hmid o S a w G1 ho ah mM hG HS fun b' j d hj hSj hd=>by
    obtain ⟨v,hv1,hv2⟩:=hv j d hSj hd
    exact ⟨v,hv1,Yu b b' j v _ hj hv2⟩
   have e1:fD S i i=true:=aM O
   exact qU (fun e a' w' ⟨he,b',hD⟩=>⟨he,b',_,fun h=>absurd (e1.symm.trans h) Y,fun _=>rfl,hD⟩) h
  ·have h:=yO hstep i o ho
   rw [fC] at h
   have e:fD S i m=S m:=aJ (fun h=>him h.symm)
   exact qU (fun e' a' w' ⟨he,hD⟩=>⟨he,b,L',fun h=>h1 (e ▸ h),fun h=>h2 (e ▸ h),hD⟩) (h b L' S a w G1 hb (Ai him) ah mM hG HS hv)
 ·rintro S a w hall Ym ⟨b,L',h1,h2,G1,hG,HS,hv⟩
  have Fb:S m=true:=hall m (Eq.mp Nat.blt_eq hml) Ji
  have e:=h2 Fb;subst e
  exact hend b a w G1 hG HS fun j d hb hd=>hv j d (hall j (Ao hd) hb) hd
theorem U9 {pr:Nat->av->GH->Prop} {S:Nat->Bool} {i d:Nat} {v:av} (hok:mo l T i=true) (hi:dY l i=some d) 
  (HT:St N D w0 F G0 G1 L T a w) (Hb:St N D w0 F G0 G1 L (Xs++full N a) a w) (hG:∀ k o,G k=some o->G1 k=some o) (hv:∀ j d,j≠i->S j=true->dY l j=some d->∃ v,a.tmps[d]?=some v∧pr j v G1)
  (hp:pr i v G1) (H:St N D w0 F G0 G1 L1 ((d,v) :: (Xs++full N a)) a' w'):DX N D w0 F G0 G L1 T l pr (fD S i) a' w':=by
 have hil:i < l.length:=Ao hi
 have hok1:=hok
 rw [mo,hi] at hok1
 simp only [gT,Option.isNone_iff_eq_none,gq,qI] at hok1
 have hsame:∀ t,t≠d->a'.tmps[t]?=a.tmps[t]?:=by
  intro t ht
  by_cases hlt:t < N
  ·have h1:∃ u,lk (Xs++full N a) t=some u:=by
    rw [Du]
    cases lk Xs t with
    | some u=>exact ⟨u,O⟩
    | none=>exact ⟨_,Dv a hlt⟩
   obtain ⟨u,hu⟩:=h1
   rw [Hb.get t u hu,H.get t u (by rw [oW (Ne.symm ht)];exact hu)]
  ·rw [Array.getElem?_eq_none (by rw [H.jv];omega),Array.getElem?_eq_none (by rw [Hb.jv];omega)]
 refine ⟨G1,hG,⟨H.jv,fun t u ht=>?_,H.mJ,H.hp⟩,fun j e hj he=>?_⟩
 ·rw [hsame t (fun e=>by rw [e,hok1.1] at ht;cases ht)]
  exact HT.get t u ht
 ·by_cases hji:j=i
  ·subst hji
   rw [hi] at he
   simp only [ku] at he
   subst he
   exact ⟨v,H.get d v (qP _ _ _),hp⟩
  ·have hSj:S j=true:=by unfold fD at hj;rwa [aJ hji] at hj
   obtain ⟨u,hu1,hu2⟩:=hv j e hji hSj he
   have hne:e≠d:=by
    intro e'
    subst e'
    have h2:=hok1.2 j (Ao he)
    rw [Ai (fun h=>hji h.symm),he] at h2
    simp at h2
   exact ⟨u,by rw [hsame e hne];exact hu1,hu2⟩
end
end
theorem VN:bX 63:=cu func63 O
theorem VO:bX 64:=cu func64 O
theorem VP:bX 65:=cu func65 O
theorem VQ:bX 66:=cu func66 O
theorem abF:qX prog 146 [(0,1),(1,1),(2,1)] [.int .i64 0,.int .i64 0,.int .i64 0]:=⟨Z,Z⟩
theorem VA:bX 49:=cu func49 O
theorem VD:bX 51:=cu func51 O
theorem VB:bX 50:=cu func50 O
structure jr (G0:GH) (s:ByteArray):Prop where
 size:s.size<=1073741824
 ok:fJ s=true
 lib:Ac G0 s
 len:(gD s).length=(uI s).length
def gJ (s:ByteArray):List Nat:=0 :: (mI s).map fun x=>x.2.1
theorem TS (s:ByteArray):wh s=(gJ s).map fun x:Nat=>(x:Int):=by simp [wh,gJ]
theorem Em (size:Nat):∀ (l:List (Nat × Nat)) (u f st:Nat) (m:tT),(∀ x∈oQ size l u f st m,u<=x.2.1∧0 < x.2.1∧x.2.1<=u+l.length)∧((oQ size l u f st m).map fun x=>x.2.1).Pairwise (· < ·)
 | [],u,f,st,m=>by
  rw [oQ];split
  ·refine ⟨fun x hx=>?_,by simp⟩;rw [vY] at hx;subst hx;exact ⟨bD _,by assumption,bD _⟩
  exact ⟨fun x hx=>(by cases hx),by simp⟩
 | y :: l,u,f,st,m=>by
  have h1:=Em size l (u+1) u y.1 (kU m (nT uo y.2));have h2:=Em size l (u+1) f st (kU m (nT uo y.2));rw [oQ];split
  ·rename_i hc
   refine ⟨fun x hx=>?_,?_⟩
   ·rcases oL.1 hx with rfl|hx
    ·exact ⟨bD _,hc.1,Nat.le_add_right _ _⟩
    have:=h1.1 x hx;simp only [kI];omega
   rw [iT,qF];refine ⟨fun z hz=>?_,h1.2⟩;obtain ⟨x,hx,rfl⟩:=List.mem_map.1 hz;have:=h1.1 x hx;dsimp only;omega
  exact ⟨fun x hx=>by have:=h2.1 x hx;simp only [kI];omega,h2.2⟩
theorem Mk {s:ByteArray} {i:Nat} (h:i+1 < (gJ s).length):(gJ s)[i]'V < (gJ s)[i+1]∧(gJ s)[i+1]<=(gD s).length:=by
 have hi:=Em s.size (gD s) 0 0 0 ⟨0,false,false,0⟩;rw [show oQ s.size (gD s) 0 0 0 ⟨0,false,false,0⟩=mI s from rfl] at hi
 have hp:(gJ s).Pairwise (· < ·):=by
  rw [gJ,qF];refine ⟨fun z hz=>?_,hi.2⟩;obtain ⟨x,hx,rfl⟩:=List.mem_map.1 hz;exact (hi.1 x hx).2.1
 refine ⟨List.pairwise_iff_getElem.1 hp i (i+1) V h (Nat.lt_succ_self i),?_⟩
 have hx:(gJ s)[i+1]=((mI s)[i]'(by simp [gJ] at h;omega)).2.1:=by simp [gJ]
 rw [hx];have:=(hi.1 _ (dV (by simp [gJ] at h;omega))).2.2
 omega
def Cn (s:ByteArray) (i:Nat):eF:=⟨qK nJ ((uI s).getD ((gJ s).getD i 0) 0),((gJ s).getD i 0:Nat),((gJ s).getD (i+1) 0:Nat)⟩
def dW (s:ByteArray):List eF:=(List.range ((gJ s).length - 1)).map (Cn s)
theorem Nb (G:GH):∀ (B A:List eF),dK G 3 (A.map eF.dat) (A.map eF.cells).flatten->dK G 3 ((A++B).map eF.dat) ((A++B).map eF.cells).flatten
 | [],A,h=>by rw [mg];exact h
 | x :: B,A,h=>by
  have h2:=h.snoc (UA G x) O;have h3:=Nb G B (A++[x]) (by simpa using h2)
  simpa using h3
theorem UG (G:GH) (A:List eF):dK G 3 (A.map eF.dat) (A.map eF.cells).flatten:=Nb G A [] dK.nil
set_option maxHeartbeats 2000000 in
theorem abh {G0:GH} (G:GH) (w0:World) (hG:Hold G w0) (h0:∀ b o,G0 b=some o->G b=some o) (s:ByteArray) (hs:jr G0 s) :
  Calls prog 49 #[.string s] w0 (cO w0 G fun u G'=>∃ x,u=.tuple #[x,vi 0]∧aC G' (.sl 3 ((dW s).map eF.dat)) x):=by
 have hml:maxLen=9223372036854775807:=rfl;have hcl:=Ak s
 have hbl:(gJ s).length=(mI s).length+1:=by simp [gJ]
 have hsz:=hs.size;refine eN [(0,_)] func49 O ntmps49 O O hG ?_;intro a H;refine kP H (SR fun _ K1=>Ra O (aB K1 O (SR fun _ K2=>Rm O ?_)));clear H K1;intro a H;refine s_call VN H wn O (Z8 _ _ H.ro s hs.size hs.ok) O ?_;clear H;rintro v12 LC a w ⟨Sw,rfl,hpt⟩ Jb H;obtain ⟨pA,pc,rfl,-,-,-⟩:=hpt.slice;rw [bN] at *;refine kH H (Rm O ?_);clear H;intro a H;(iterate 2 refine fZ H wn O O O ?_;clear H;intro a H);refine kH H (Ra O (aB K2 O (SQ fun _ K3=>SR fun _ K4=>Rm O (Rc O (Kz K4 (Cd O ?_ ?_)))))) <;> clear H K2 K4
 ·intro h16 a H
  exact absurd h16 Y
 intro h16 a H
 try have p16:=dF h16
 refine kP H (Kc K3 (SR fun _ K5=>Rm O ?_));clear H K3;intro a H;refine s_call VO H wn O (TY _ _ H.ro (fun b o h=>Jb b o (h0 b o h)) s hs.size hs.lib) O ?_;clear H;rintro v19 rV a w ⟨x19,rfl,hbd⟩ mP H;rw [TS] at hbd;obtain ⟨lA,lc,rfl,-,-,-⟩:=hbd.slice;rw [bN,bN] at *;refine kH H (Rm O ?_);clear H;intro a H;(iterate 2 refine fZ H wn O O O ?_;clear H;intro a H);refine kH H (Ra O (aB K5 O (SQ fun _ K6=>SR fun _ K7=>Rm O (Rc O (Kz K7 (Cd O ?_ ?_)))))) <;> clear H K5 K7
 ·intro h23 a H
  exact absurd h23 Y
 intro h23 a H
 try have JN:=dF h23
 refine mh ?_;refine K6 _ _ ?_;clear K6;refine jL (fun _ K8=>?_);refine s_call VP H wn O (abI _ _ H.ro) O ?_;clear H;rintro v25 LH a w htb OG H;obtain ⟨tA,tc,rfl,-,-,-⟩:=htb.slice;replace hpt:=(hpt.mono mP).mono OG;replace hbd:=hbd.mono OG;refine kH H (aB K8 O (SR fun _ K9=>aB K9 O (SQ fun _ aP=>SR fun _ bH=>aB bH O (SB ?_))));clear H K8 K9 bH;intro a H;skip;refine eG (ι:=Nat × av × OL × GH) (Tc:=[(4,_),(6,_),(7,_)]) (Lc:=[]) (fun gh=>[(8,gh.2.1),(9,vi ((gh.1:Int)+1))]) (fun gh=>[]++gh.2.2.1) (fun gh=>gh.2.2.2) (fun gh=>gh.1<=(gJ s).length - 1∧bP 146 3 gh.2.1 gh.1 (((dW s).take gh.1).map eF.cells).flatten gh.2.2.1∧(∀ b o,LH b=some o->gh.2.2.2 b=some o)) (fun gh=>(gJ s).length - gh.1) ((0,.slice none 0 0,[],LH)) (by exact H.sub ⟨O,O,O,O,O,aL⟩) ?_ ?_
 ·exact ⟨dU _,bP.nil,fun _ _ h=>h⟩
 clear H;rintro ⟨j,v,Lo,g⟩ a w hI H;dsimp only at hI H;obtain ⟨hj,hrw,hgm⟩:=hI;dsimp only [lca,dB] at H;refine kP H (SQ fun _ bL=>SR fun _ bI=>Rm O (Rm O (Rl bE O (Rc O (Kz bI (Cd O ?_ ?_)))))) <;> clear H bI
 ·intro xU a H
  try have p29:=dT xU
  have hj1:j+1 < (gJ s).length:=by omega
  obtain ⟨hb1,hb2⟩:=Mk hj1;obtain ⟨x0,hx0⟩:∃ x,x=(gJ s)[j]:=⟨_,O⟩;obtain ⟨x1,hx1⟩:∃ x,x=(gJ s)[j+1]:=⟨_,O⟩;rw [hs.len] at hb2;rw [<- hx0,<- hx1] at hb1;rw [<- hx1] at hb2
  have hk:x0 < (uI s).length:=by omega
  obtain ⟨z,hz⟩:∃ z,z=(uI s)[x0]:=⟨_,O⟩;obtain ⟨lb,lo,rfl,g1⟩:=oZ (hbd.mono hgm) (show j < ((gJ s).map fun x:Nat=>(x:Int)).length by rw [bN];omega);obtain ⟨_,_,e1,g2⟩:=oZ (hbd.mono hgm) (show j+1 < ((gJ s).map fun x:Nat=>(x:Int)).length by rw [bN];omega)
  injection e1 with e1;injection e1 with e2 e3;subst e2;subst e3
  obtain ⟨pb,po,rfl,g3⟩:=oZ (hpt.mono hgm) hk;rw [List.getElem_map,<- hx0] at g1;rw [List.getElem_map,<- hx1] at g2;rw [<- hz] at g3
  have hcd:(dW s)[j]?=some ⟨qK nJ z,x0,x1⟩:=by
   have h0:(gJ s)[j]?=some x0:=by rw [hx0];exact iR V
   have h1:(gJ s)[j+1]?=some x1:=by rw [hx1];exact iR hj1
   have h2:(uI s)[x0]?=some z:=by rw [hz];exact iR hk
   rw [dW,qG,List.getElem?_range V,oM,Cn]
   simp only [List.getD_eq_getElem?_getD,h0,h1,h2,Option.getD_some]
  have hjc:j < (dW s).length:=(iI.1 hcd).1;have XO:(dW s)[j]=⟨qK nJ z,x0,x1⟩:=(iI.1 hcd).2;obtain ⟨vA,vc,rfl,Dm,Dn⟩:=hrw.shape;refine kP H (Kc bL (SQ fun _ cB=>SB ?_));clear H bL;intro a H
  have jk:∀ (fH jg:Nat) (v:av) (G G':GH),(∀ k o,G k=some o->G' k=some o)->(fun (fH jg:Nat) (v:av) (G:GH)=>match jg with|0=>v=.slice vA j vc|1=>v=.slice tA nJ.length tc|2=>v=.slice (some ⟨pb,po,none⟩) (uI s).length pc|3=>v=.slice (some ⟨lb,lo,none⟩) (gJ s).length lc|4=>v=vi ((j:Int)+1)|5=>v=vi ((j:Int)+1 - 1)|6=>v=(aH lb (lo+j*1))|7=>v=vi x0|8=>v=(aH pb (po+x0*1))|9=>v=vi z|10=>v=vi (qK nJ z)|11=>v=.slice (some ⟨lb,lo,none⟩) (gJ s).length lc|12=>v=vi ((j:Int)+1)|13=>v=vi ((j:Int)+1 - 1)|14=>v=(aH lb (lo+j*1))|15=>v=vi x0|16=>v=.slice (some ⟨lb,lo,none⟩) (gJ s).length lc|17=>v=vi ((j:Int)+1)|18=>v=(aH lb (lo+(j+1)*1))|19=>v=vi x1|20=>v=.agg #[vi (qK nJ z),vi x0,vi x1]|21=>v=.slice (some ⟨fH,0,none⟩) 1 1|_=>True) fH jg v G->(fun (fH jg:Nat) (v:av) (G:GH)=>match jg with|0=>v=.slice vA j vc|1=>v=.slice tA nJ.length tc|2=>v=.slice (some ⟨pb,po,none⟩) (uI s).length pc|3=>v=.slice (some ⟨lb,lo,none⟩) (gJ s).length lc|4=>v=vi ((j:Int)+1)|5=>v=vi ((j:Int)+1 - 1)|6=>v=(aH lb (lo+j*1))|7=>v=vi x0|8=>v=(aH pb (po+x0*1))|9=>v=vi z|10=>v=vi (qK nJ z)|11=>v=.slice (some ⟨lb,lo,none⟩) (gJ s).length lc|12=>v=vi ((j:Int)+1)|13=>v=vi ((j:Int)+1 - 1)|14=>v=(aH lb (lo+j*1))|15=>v=vi x0|16=>v=.slice (some ⟨lb,lo,none⟩) (gJ s).length lc|17=>v=vi ((j:Int)+1)|18=>v=(aH lb (lo+(j+1)*1))|19=>v=vi x1|20=>v=.agg #[vi (qK nJ z),vi x0,vi x1]|21=>v=.slice (some ⟨fH,0,none⟩) 1 1|_=>True) fH jg v G':=by
   intro fH jg v G G' hm h
   match jg,h with
   | 0,h=>exact h
   | 1,h=>exact h
   | 2,h=>exact h
   | 3,h=>exact h
   | 4,h=>exact h
   | 5,h=>exact h
   | 6,h=>exact h
   | 7,h=>exact h
   | 8,h=>exact h
   | 9,h=>exact h
   | 10,h=>exact h
   | 11,h=>exact h
   | 12,h=>exact h
   | 13,h=>exact h
   | 14,h=>exact h
   | 15,h=>exact h
   | 16,h=>exact h
   | 17,h=>exact h
   | 18,h=>exact h
   | 19,h=>exact h
   | 20,h=>exact h
   | 21,h=>exact h
   | 22,h=>exact trivial
   | 23,h=>exact trivial
   | _+24,h=>exact trivial
  refine Uf (gG) [[],[],[],[],[],[4],[3,4,5],ra 3 4,ra 2 6,ra 2 7,ra 1 9,[],[],[12],[11,12,13],ra 11 4,[],[],[16,17],[16,17,18],ra 1 19,ra 1 20,ra 0 22,ra 0 23] [22,23] Z Z 21 Y (.cells [vi (qK nJ z),vi x0,vi x1].toArray 146 (0,0)) (fun (fH jg:Nat) (v:av) (G:GH)=>match jg with|0=>v=.slice vA j vc|1=>v=.slice tA nJ.length tc|2=>v=.slice (some ⟨pb,po,none⟩) (uI s).length pc|3=>v=.slice (some ⟨lb,lo,none⟩) (gJ s).length lc|4=>v=vi ((j:Int)+1)|5=>v=vi ((j:Int)+1 - 1)|6=>v=(aH lb (lo+j*1))|7=>v=vi x0|8=>v=(aH pb (po+x0*1))|9=>v=vi z|10=>v=vi (qK nJ z)|11=>v=.slice (some ⟨lb,lo,none⟩) (gJ s).length lc|12=>v=vi ((j:Int)+1)|13=>v=vi ((j:Int)+1 - 1)|14=>v=(aH lb (lo+j*1))|15=>v=vi x0|16=>v=.slice (some ⟨lb,lo,none⟩) (gJ s).length lc|17=>v=vi ((j:Int)+1)|18=>v=(aH lb (lo+(j+1)*1))|19=>v=vi x1|20=>v=.agg #[vi (qK nJ z),vi x0,vi x1]|21=>v=.slice (some ⟨fH,0,none⟩) 1 1|_=>True) (fun _ _ i v G hi h=>by
   (iterate 24 (rcases i with _|i;(first|exact h|exact absurd O hi)));exact trivial) H ?_ ?_ ?_ Z
  ·clear H;refine aI ?_ ?_ ?_ ?_ (aI ?_ ?_ ?_ ?_ (aI ?_ ?_ ?_ ?_ (aI ?_ ?_ ?_ ?_ (aI ?_ ?_ ?_ ?_ (aI ?_ ?_ ?_ ?_ fQ)))))
   ·intro fH mF au a w G1 _ _ ah hc hG HT hv;have H:=HT;clear ah;have Hb:=H.full;have H:=Hb;clear hc;refine kH H (Rm O ?_);clear H;intro a H;refine aj ⟨O,?_⟩;exact ay HT Hb hG hv (jk fH) H O
   ·intro fH mF au a w G1 _ _ ah hc hG HT hv;have H:=HT;clear ah;have Hb:=H.full;have H:=Hb;clear hc;refine kH H (Rm O ?_);clear H;intro a H;refine aj ⟨O,?_⟩;exact ay HT Hb hG hv (jk fH) H O
   ·intro fH mF au a w G1 _ _ ah hc hG HT hv;have H:=HT;clear ah;have Hb:=H.full;have H:=Hb;clear hc;refine kH H (Rm O ?_);clear H;intro a H;refine aj ⟨O,?_⟩;exact ay HT Hb hG hv (jk fH) H O
   ·intro fH mF au a w G1 _ _ ah hc hG HT hv;have H:=HT;clear ah;have Hb:=H.full;have H:=Hb;clear hc;refine kH H (Rm O ?_);clear H;intro a H;refine aj ⟨O,?_⟩;exact ay HT Hb hG hv (jk fH) H O
   ·intro fH mF au a w G1 _ _ ah hc hG HT hv;have H:=HT;clear ah;have Hb:=H.full;have H:=Hb;clear hc;refine kH H (Rm O ?_);clear H;intro a H;refine aj ⟨O,?_⟩;exact ay HT Hb hG hv (jk fH) H O
   ·intro fH mF au a w G1 _ _ ah hc hG HT hv;have H:=HT;clear ah;have H:=H.ak (hv 4 36 (hc 4 Y) O) O;have Hb:=H.full;have H:=Hb;clear hc;refine kH H (Rs O ?_);clear H;intro a H;refine aj ⟨O,?_⟩;exact ay HT Hb hG hv (jk fH) H O
   ·intro fH mF au a w G1 _ _ ah hc hG HT hv;have H:=HT;clear ah;have H:=H.ak (hv 3 35 (hc 3 Y) O) O;have H:=H.ak (hv 5 37 (hc 5 Y) O) O;have Hb:=H.full;have H:=Hb;clear hc;refine aT bE aF j H wn O O V V O ?_;clear H;intro a H;refine aj ⟨O,?_⟩;exact ay HT Hb hG hv (jk fH) H O
   ·intro fH mF au a w G1 _ _ ah hc hG HT hv;have H:=HT;clear ah;have H:=H.ak (hv 6 38 (hc 6 Y) O) O;have Hb:=H.full;have H:=Hb;clear hc;refine kH H (Rg aF O (aK hG g1) ?_);clear H;intro a H;refine aj ⟨O,?_⟩;exact ay HT Hb hG hv (jk fH) H O
   ·intro fH mF au a w G1 _ _ ah hc hG HT hv;have H:=HT;clear ah;have H:=H.ak (hv 2 34 (hc 2 Y) O) O;have H:=H.ak (hv 7 39 (hc 7 Y) O) O;have Hb:=H.full;have H:=Hb;clear hc;refine aT bE aF x0 H wn O O O hk O ?_;clear H;intro a H;refine aj ⟨O,?_⟩;exact ay HT Hb hG hv (jk fH) H O
   ·intro fH mF au a w G1 _ _ ah hc hG HT hv;have H:=HT;clear ah;have H:=H.ak (hv 8 40 (hc 8 Y) O) O;have Hb:=H.full;have H:=Hb;clear hc;refine kH H (Rg aF O (aK hG g3) ?_);clear H;intro a H;refine aj ⟨O,?_⟩;exact ay HT Hb hG hv (jk fH) H O
   ·intro fH mF au a w G1 _ _ ah hc hG HT hv;have H:=HT;clear ah;have H:=H.ak (hv 1 33 (hc 1 Y) O) O;have H:=H.ak (hv 9 41 (hc 9 Y) O) O;have Hb:=H.full;have H:=Hb;clear hc;refine s_call VQ H wn O (find_spec _ _ H.ro nJ z _ ((htb.mono hgm).mono hG) Y) O ?_;clear H;rintro v42 G42 a w rfl Xm H;refine aj ⟨O,?_⟩;exact jw Z (jk fH) O O HT Hb hG hv Xm (rfl) H
   ·intro fH mF au a w G1 _ _ ah hc hG HT hv;have H:=HT;clear ah;have Hb:=H.full;have H:=Hb;clear hc;refine kH H (Rm O ?_);clear H;intro a H;refine aj ⟨O,?_⟩;exact ay HT Hb hG hv (jk fH) H O
   ·intro fH mF au a w G1 _ _ ah hc hG HT hv;have H:=HT;clear ah;have Hb:=H.full;have H:=Hb;clear hc;refine kH H (Rm O ?_);clear H;intro a H;refine aj ⟨O,?_⟩;exact ay HT Hb hG hv (jk fH) H O
   ·intro fH mF au a w G1 _ _ ah hc hG HT hv;have H:=HT;clear ah;have H:=H.ak (hv 12 44 (hc 12 Y) O) O;have Hb:=H.full;have H:=Hb;clear hc;refine kH H (Rs O ?_);clear H;intro a H;refine aj ⟨O,?_⟩;exact ay HT Hb hG hv (jk fH) H O
   ·intro fH mF au a w G1 _ _ ah hc hG HT hv;have H:=HT;clear ah;have H:=H.ak (hv 11 43 (hc 11 Y) O) O;have H:=H.ak (hv 13 45 (hc 13 Y) O) O;have Hb:=H.full;have H:=Hb;clear hc;refine aT bE aF j H wn O O V V O ?_;clear H;intro a H;refine aj ⟨O,?_⟩;exact ay HT Hb hG hv (jk fH) H O
   ·intro fH mF au a w G1 _ _ ah hc hG HT hv;have H:=HT;clear ah;have H:=H.ak (hv 14 46 (hc 14 Y) O) O;have Hb:=H.full;have H:=Hb;clear hc;refine kH H (Rg aF O (aK hG g1) ?_);clear H;intro a H;refine aj ⟨O,?_⟩;exact ay HT Hb hG hv (jk fH) H O
   ·intro fH mF au a w G1 _ _ ah hc hG HT hv;have H:=HT;clear ah;have Hb:=H.full;have H:=Hb;clear hc;refine kH H (Rm O ?_);clear H;intro a H;refine aj ⟨O,?_⟩;exact ay HT Hb hG hv (jk fH) H O
   ·intro fH mF au a w G1 _ _ ah hc hG HT hv;have H:=HT;clear ah;have Hb:=H.full;have H:=Hb;clear hc;refine kH H (Rm O ?_);clear H;intro a H;refine aj ⟨O,?_⟩;exact ay HT Hb hG hv (jk fH) H O
   ·intro fH mF au a w G1 _ _ ah hc hG HT hv;have H:=HT;clear ah;have H:=H.ak (hv 16 48 (hc 16 Y) O) O;have H:=H.ak (hv 17 49 (hc 17 Y) O) O;have Hb:=H.full;have H:=Hb;clear hc;refine aT bE aF (j+1) H wn O O V V O ?_;clear H;intro a H;refine aj ⟨O,?_⟩;exact ay HT Hb hG hv (jk fH) H O
   ·intro fH mF au a w G1 _ _ ah hc hG HT hv;have H:=HT;clear ah;have H:=H.ak (hv 18 50 (hc 18 Y) O) O;have Hb:=H.full;have H:=Hb;clear hc;refine kH H (Rg aF O (aK hG g2) ?_);clear H;intro a H;refine aj ⟨O,?_⟩;exact ay HT Hb hG hv (jk fH) H O
   ·intro fH mF au a w G1 _ _ ah hc hG HT hv;have H:=HT;clear ah;have H:=H.ak (hv 10 42 (hc 10 Y) O) O;have H:=H.ak (hv 15 47 (hc 15 Y) O) O;have H:=H.ak (hv 19 51 (hc 19 Y) O) O;have Hb:=H.full;have H:=Hb;clear hc;refine kF abF [_,_,_] H wn O O O O ?_;clear H;intro a H;refine aj ⟨O,?_⟩;exact ay HT Hb hG hv (jk fH) H O
   ·intro _ _ _ _ _ _ _ hB;exact absurd hB Y
   ·intro _ _ _ _ _ _ hB;exact absurd hB Y
   intro _ _ _ _ _ _ hB;exact absurd hB Y
  ·clear H;intro o_ au a w G1 yj _ hc hG HT hv;obtain rfl:_=o_:=Option.some.inj yj;clear yj;have H:=HT;have H:=H.ak (hv 0 20 52 Y (hc 20 Y) O) O;have Hb:=H.full;have H:=Hb;clear hc;refine eU iN fq [_,_,_] [_,_,_] H wn O O O O O (by intro i q h;match i,h with|0,h=>exact h|n+1,h=>simp at h) O O ?_;clear H;intro Cg a w aeg H;refine aj ⟨O,Cg,?_⟩;exact U9 Z O HT Hb hG (fun j e h1 h2 h3=>hv _ j e h1 h2 h3) (rfl) H
  clear H;intro Cg a w G vE H hv;have H:=H.ak (hv 0 32 O O) O;have H:=H.ak (hv 21 53 O O) O;clear hv;refine eD (Li:=[_]) (Lo:=Lo) (news:=[vi (qK nJ z),vi x0,vi x1]) iN fq O O H wn O O hrw O (H.hp.dG 0 O O) O V V O ?_;clear H;intro v54 Ma a w YS H
  have YT:bP 146 3 v54 (j+1) (((dW s).take (j+1)).map eF.cells).flatten Ma:=by
   rw [lZ hjc,XO,kC,List.flatten_append];exact YS
  refine kH H (Ra O ?_);clear H;intro a H;refine aj ⟨O,?_⟩;refine cB _ _ ?_;clear cB;refine kP H (SC (Rm O (Rd O (Ra O ?_))));clear H;intro a H;refine aj ?_;refine bg ((j+1,v54,Ma,G)) (by exact (H.dR (Pl:=[_]) (dx:=[]) [] Y O).sub ⟨O,O,O,O,O,aL⟩) ?_
  (try dsimp only);exact ⟨V,YT,fun b o h=>vE b o (hgm b o h)⟩
 intro xU a H
 try have p29:=dF xU
 refine dD ?_;refine aP _ _ ?_;clear aP;refine kP H (SR fun _ dw=>Rm O (Ra O (aB dw O ?_)));clear H dw;intro a H;refine aV ?_
 have hlc:(dW s).length=(gJ s).length - 1:=by simp [dW]
 obtain ⟨Gr,hmr,hrep,H⟩:=St.ni (Li:=[]) (Lo:=Lo) H hrw (rows:=(dW s).map eF.dat) (by rw [bN];omega) (by rw [iU V];exact UG _ _);refine (aY H results49 (.cons (aD H O) (.cons (aD H O) .nil)) ?_).1;exact H.rt ⟨_,O,hrep⟩
theorem Kl {G0:GH} (G:GH) (w0:World) (hG:Hold G w0) (h0:∀ b o,G0 b=some o->G b=some o) (s:ByteArray) (hs:jr G0 s) :
  Calls prog 40 #[.string s] w0 (cO w0 G fun u G'=>∃ x,u=.tuple #[x,vi 0]∧aC G' (.sl 3 ((jm (dW s)).map fE.dat)) x):=by
 have hcl:=Ak s;have hsz:=hs.size
 have hlc:(dW s).length=(mI s).length:=by simp [dW,gJ]
 have htl:=DJ (dW s).length (dW s);refine eN [(0,_)] func40 O ntmps40 O O hG ?_;intro a H;refine kP H (SR fun _ K1=>Ra O (aB K1 O (SR fun _ K2=>Rm O ?_)));clear H K1;intro a H;refine s_call VA H wn O (abh _ _ H.ro h0 s hs) O ?_;clear H;rintro v8 G8 a w ⟨x8,rfl,hcs⟩ hm8 H;refine kH H (Rm O ?_);clear H;intro a H;(iterate 2 refine fZ H wn O O O ?_;clear H;intro a H);refine kH H (Ra O (aB K2 O (SQ fun _ K3=>SR fun _ K4=>Rm O (Rc O (Kz K4 (Cd O ?_ ?_)))))) <;> clear H K2 K4
 ·intro h12 a H
  exact absurd h12 Y
 intro h12 a H
 try have vJ:=dF h12
 refine kP H (Kc K3 (SR fun _ K5=>Rm O ?_));clear H K3;intro a H;refine jH VD (Li:=[]) (L:=[]) H wn O (aco (Hp.owns (Li:=[]) H.hp) _ _ hcs) O ?_;clear H;rintro v15 _ L15 a w ⟨rfl,bx,rfl,rfl⟩ - H;dsimp only [List.nil_append] at H;refine jH VB (Li:=[]) (L:=[_]) H wn O (UL (Hp.owns (Li:=[]) H.hp) (by unfold jm;omega) (acn hcs)) rfl ?_;clear H;rintro v16 Gs L16 a w ⟨rfl,hrep⟩ E8 H;dsimp only [List.nil_append] at H;refine kH H (Ra O (aB K5 O ?_));clear H K5;intro a H;refine aV ?_;refine (aY H results40 (.cons (aD H O) (.cons (aD H O) .nil)) ?_).1;exact H.rt ⟨_,O,hrep⟩
theorem HY:bX 40:=cu func40 O
theorem KR:prog.underlying 149=some (.slice 21):=by kernel_rfl
theorem VF:bX 53:=cu func53 O
theorem acB:Ty prog 21 1 4 [.int .i32 0] false:=⟨Z,Z⟩
theorem kW:prog.underlying 40=some (.slice 9):=by kernel_rfl
theorem Av:gQ prog 103 1 1:=⟨Z⟩
theorem Aw:gQ prog 103 2 2:=⟨Z⟩
theorem VE:bX 52:=cu func52 O
def LK (N:Int) (l:List eF):Prop:=∀ i j (hi:i < l.length) (hj:j < l.length),i<=j->0<=l[i].from_∧l[i].from_ < l[j].dP∧l[j].dP<=N
theorem Ry {N:Int}:∀ (f:Nat) (l:List eF),LK N l->∀ t∈ow f l,0<=t.from_∧t.from_ < t.dP∧t.dP<=N
 | 0,_,_,t,ht=>by simp [ow] at ht
 | f+1,l,hl,t,ht=>by
  rw [ow] at ht
  split at ht
  ·rename_i h
   have hb:=JJ h
   rcases oL.1 ht with rfl|ht
   ·exact hl 0 ((lG l).1 - 1) h V (dU _)
   refine Ry f (l.drop (lG l).1) (fun i j hi hj hij=>?_) t ht;rw [List.length_drop] at hi hj;have:=hl ((lG l).1+i) ((lG l).1+j) V V V
   simpa only [List.getElem_drop] using this
  cases ht
theorem TR (s:ByteArray):(gJ s).Pairwise (· < ·):=by
 have hi:=Em s.size (gD s) 0 0 0 ⟨0,false,false,0⟩;rw [show oQ s.size (gD s) 0 0 0 ⟨0,false,false,0⟩=mI s from rfl] at hi;rw [gJ,qF];refine ⟨fun z hz=>?_,hi.2⟩;obtain ⟨x,hx,rfl⟩:=List.mem_map.1 hz;exact (hi.1 x hx).2.1
theorem UF (s:ByteArray):LK (gD s).length (dW s):=by
 intro i j hi hj hij
 simp only [dW,bN,List.length_range] at hi hj
 have e1:(dW s)[i]'(by simpa [dW] using hi)=Cn s i:=by simp [dW]
 have e2:(dW s)[j]'(by simpa [dW] using hj)=Cn s j:=by simp [dW]
 rw [e1,e2]
 simp only [Cn,List.getD_eq_getElem?_getD,iR (show i < (gJ s).length by omega),iR (show j+1 < (gJ s).length by omega),Option.getD_some]
 have h1:=List.pairwise_iff_getElem.1 (TR s) i (j+1) V V V;have h2:=(Mk (show j+1 < (gJ s).length by omega)).2
 omega
theorem F3 (s:ByteArray):∀ t∈jm (dW s),0<=t.from_∧t.from_ < t.dP∧t.dP<=(gD s).length:=Ry _ _ (UF s)
def sZ (s:ByteArray) (t:fE):ByteArray:=runesBytes ((((gD s).map fun x=>(x.2:Int)).drop t.from_.toNat).take (t.dP.toNat - t.from_.toNat))
def pG (s:ByteArray):List ByteArray:=(jm (dW s)).map (sZ s)
def mV (s:ByteArray):List Dat:=[.lf (.string s)]
theorem abN (G:GH) (s:ByteArray):aZ G (mV s) [.string s]:=by
 simp only [mV,aZ]
 exact ⟨_,_,O,by simp [aC,Value.oneCell'],O⟩
theorem abM {G:GH} {s:ByteArray} {cs:List av} (h:aZ G (mV s) cs):cs=[.string s]:=by
 simp only [mV,aZ,aC] at h
 obtain ⟨v1,_,rfl,⟨rfl,-⟩,rfl⟩:=h
 rfl
theorem Km {G:GH} {r:List ByteArray} {A:Option Addr} {n c k:Nat} (hv:aC G (.sl 1 (r.map mV)) (.slice A n c)) (hk:k < r.length):∃ b o,A=some ⟨b,o,none⟩∧aR G b (o+k*1)=some (.string r[k]):=by
 obtain ⟨A',c',he,_,_,hg⟩:=hv.slice
 injection he with e1 e2 e3
 subst e1;obtain ⟨b,o,cs,h1,h2,h3,h4⟩:=hg k (mV r[k]) (by simp [hk]);obtain rfl:=abM h4;exact ⟨b,o,h1,h3 0 _ O⟩
theorem Rb (G:GH):∀ (B A:List ByteArray),dK G 1 (A.map mV) (A.map Value.string)->dK G 1 ((A++B).map mV) ((A++B).map Value.string)
 | [],A,h=>by rw [mg];exact h
 | x :: B,A,h=>by
  have h2:=h.snoc (abN G x) O;have h3:=Rb G B (A++[x]) (by simpa using h2)
  simpa using h3
theorem Kq (G:GH) (A:List ByteArray):dK G 1 (A.map mV) (A.map Value.string):=Rb G A [] dK.nil
def uJ (z:Int):List Dat:=[.lf (.int .i32 z)]
theorem aav (G:GH) (z:Int):aZ G (uJ z) [.int .i32 z]:=by
 simp only [uJ,aZ]
 exact ⟨_,_,O,by simp [aC,Value.oneCell'],O⟩
theorem aat {G:GH} {s:Int} {cs:List av} (h:aZ G (uJ s) cs):cs=[.int .i32 s]:=by
 simp only [uJ,aZ,aC] at h
 obtain ⟨v1,_,rfl,⟨rfl,-⟩,rfl⟩:=h
 rfl
theorem Qq (G:GH):∀ (B A:List Int),dK G 1 (A.map uJ) (A.map (Value.int .i32))->dK G 1 ((A++B).map uJ) ((A++B).map (Value.int .i32))
 | [],A,h=>by rw [mg];exact h
 | x :: B,A,h=>by
  have h2:=h.snoc (aav G x) O;have h3:=Qq G B (A++[x]) (by simpa using h2)
  simpa using h3
theorem aay (G:GH) (A:List Int):dK G 1 (A.map uJ) (A.map (Value.int .i32)):=Qq G A [] dK.nil
theorem aaz {G:GH} {r:List Int} {A:Option Addr} {n c:Nat} (hv:aC G (.sl 1 (r.map uJ)) (.slice A n c)) {lo hi:Nat} (h1:lo < hi) (h2:hi<=r.length):∃ b o,(if c=lo then A else A.map (·.add (lo*1)))=some ⟨b,o,none⟩∧∀ j (h:j < ((r.drop lo).take (hi - lo)).length),aR G b (o+j)=some (.int .i32 ((r.drop lo).take (hi - lo))[j]):=by
 have hp:=hv.part lo hi V (by rw [bN];exact h2);obtain ⟨A',c',he,_,_,hg⟩:=hp.slice
 injection he with e1 e2 e3
 have hrow:∀ j (h:j < ((r.drop lo).take (hi - lo)).length),((List.map uJ r).drop lo |>.take (hi - lo))[j]?=some (uJ ((r.drop lo).take (hi - lo))[j]):=by
  intro j h;rw [<- List.map_drop,<- List.map_take,qG,iR h];rfl
 obtain ⟨b,o,cs,g1,g2,g3,g4⟩:=hg 0 _ (hrow 0 (by simp;omega));refine ⟨b,o,e1.trans g1,fun j h=>?_⟩;obtain ⟨b',o',cs',k1,k2,k3,k4⟩:=hg j _ (hrow j h)
 obtain ⟨rfl,rfl⟩:b=b'∧o=o':=by rw [g1] at k1;simpa using k1
 obtain rfl:=aat k4;have:=k3 0 _ O
 simpa using this
theorem acr (G:GH) (w0:World) (hG:Hold G w0) (x y z:Int):Calls prog 53 #[.agg #[vi x,vi y,vi z]] w0 (cO w0 G fun u G'=>u=.bool true):=by
 refine eN [(0,_)] func53 O ntmps53 O O hG ?_;intro a H;refine jL (fun _ K1=>?_);refine oo (cs:=[_,_,_]) H wn O O O ?_;clear H;intro b1 a w hb1 H;exact kH H (aB K1 O (SR fun _ K2=>aB K2 O (LR results53 O fun H=>H.rt O)))
set_option maxHeartbeats 1000000 in
theorem abK {G0:GH} (G:GH) (w0:World) (hG:Hold G w0) (h0:∀ b o,G0 b=some o->G b=some o) (s:ByteArray) (hs:jr G0 s) :
  Calls prog 52 #[.string s,.func (.func 53) #[] #[]] w0 (cO w0 G fun u G'=>∃ x,u=.tuple #[x,vi 0]∧aC G' (.sl 1 ((pG s).map mV)) x):=by
 have hml:maxLen=9223372036854775807:=rfl;have hcl:=Ak s;have hsz:=hs.size
 have hlc:(dW s).length=(mI s).length:=by simp [dW,gJ]
 have htl:=DJ (dW s).length (dW s);rw [show ow (dW s).length (dW s)=jm (dW s) from rfl] at htl;have hrl:(gD s).length<=s.size:=Bh s s.size 0;refine eN [(0,_),(1,_)] func52 O ntmps52 O O hG ?_;intro a H;refine kP H (SR fun _ K1=>Ra O (aB K1 O (SR fun _ K2=>Rm O ?_)));clear H K1;intro a H;refine s_call HY H wn O (Kl _ _ H.ro h0 s hs) O ?_;clear H;rintro v14 LD a w ⟨x14,rfl,htk⟩ E5 H;obtain ⟨tA,tc,rfl,-,-,-⟩:=htk.slice;rw [bN] at *;refine kH H (Rm O ?_);clear H;intro a H;(iterate 2 refine fZ H wn O O O ?_;clear H;intro a H);refine kH H (Ra O (aB K2 O (SQ fun _ K3=>SR fun _ K4=>Rm O (Rc O (Kz K4 (Cd O ?_ ?_)))))) <;> clear H K2 K4
 ·intro h18 a H
  exact absurd h18 Y
 intro h18 a H
 try have sQ:=dF h18
 refine kP H (Kc K3 (SR fun _ K5=>Rm O ?_));clear H K3;intro a H;refine aaU jA KR KT H wn O V O ?_;clear H;intro v21 Tk a w OQ H;rw [mg] at H;rw [show ((gD s).map fun x=>Value.int .i32 (x.2:Int))=((gD s).map fun x=>(x.2:Int)).map (Value.int .i32) by rw [List.map_map];rfl] at OQ;obtain ⟨yL,pY,hrn,H⟩:=St.ni (Li:=[]) (Lo:=Tk) H OQ (rows:=((gD s).map fun x=>(x.2:Int)).map uJ) (by simp) (aay LD _);obtain ⟨rA,rc,rfl,hrc,-,-⟩:=hrn.slice;rw [bN,bN] at *;refine kH H (aB K5 O (SR fun _ K6=>aB K6 O (SQ fun _ K7=>SR fun _ K8=>Rm O (Rl qy O (Rm O (Kz K8 (SB ?_)))))));clear H K5 K6 K8;intro a H;skip;refine eG (ι:=Nat × av × OL × GH) (Tc:=[(1,_),(8,_),(22,_),(23,_)]) (Lc:=[]) (fun gh=>[(9,gh.2.1),(24,vi gh.1)]) (fun gh=>[]++gh.2.2.1) (fun gh=>gh.2.2.2) (fun gh=>gh.1<=(jm (dW s)).length∧bP 9 1 gh.2.1 gh.1 (((pG s).take gh.1).map Value.string) gh.2.2.1∧(∀ b o,yL b=some o->gh.2.2.2 b=some o)) (fun gh=>(jm (dW s)).length - gh.1) ((0,.slice none 0 0,[],yL)) (by exact H.sub ⟨O,O,O,O,O,O,aL⟩) ?_ ?_
 ·exact ⟨dU _,bP.nil,fun _ _ h=>h⟩
 clear H;rintro ⟨k,v,Lo,g⟩ a w hI H;dsimp only at hI H;obtain ⟨hk,hrw,hgm⟩:=hI;dsimp only [lca,dB] at H;refine kP H (SR fun _ K9=>Rc O (Kz K9 (SQ fun _ aP=>Cd O ?_ ?_))) <;> clear H K9
 ·intro iY a H
  try have p25:=dT iY
  have hk1:k < (jm (dW s)).length:=by omega
  obtain ⟨b,o,rfl,hrow⟩:=KD ((htk.mono pY).mono hgm) hk1;obtain ⟨t,ht⟩:∃ t,t=(jm (dW s))[k]:=⟨_,O⟩;have htb:=F3 s t (by rw [ht];exact dV _);rw [<- ht] at hrow
  have hxt:(pG s)[k]?=some (sZ s t):=by rw [pG,qG,iR hk1,oM,ht]
  have hkx:k < (pG s).length:=(iI.1 hxt).1;have Zf:(pG s)[k]=sZ s t:=(iI.1 hxt).2
  have hf0:t.from_=(t.from_.toNat:Int):=by omega
  have ht0:t.dP=(t.dP.toNat:Int):=by omega
  refine kP H (Kc aP (SQ fun _ bH=>SB (SR fun _ bL=>Ri qy lV O O ?_)));clear H aP;intro a H;refine dX lV (cs:=[_,_,_]) H wn O O (fun j v hj=>H.hp.aR (hrow j v hj)) O ?_;clear H;intro a H;refine kE lV H wn O ?_;clear H;intro b11 a w Ov H;refine eO lV 0 (vs:=[_,_,_]) H wn O ?_;clear H;intro w H;refine bL _ _ ?_;clear bL;refine kP H (SR fun _ bI=>Rm O ?_);clear H;intro a H;refine dX lV (cs:=[_,_,_]) H wn O O (H.hp.dG 0 O O) O ?_;clear H;intro a H;refine yC H wn O O (vo (caps:=[]) (args:=[_]) VF (acr _ _ H.ro _ _ _)) O ?_;clear H;rintro v30 D6 a w rfl CQ H;refine bI _ _ ?_;clear bI;refine vk H O ?_ ?_
  ·intro Ip
   try have p30:=dT Ip
   refine kP H (SC (Rm O (Rm O (gH Av aF 0 O O (gH Aw aF 0 O O ?_)))));clear H;intro a H;obtain ⟨pb,po,Yt,hpc⟩:=aaz ((hrn.mono hgm).mono CQ) (show t.from_.toNat < t.dP.toNat by omega) (show t.dP.toNat<=((gD s).map fun x=>(x.2:Int)).length by rw [bN];omega);refine J8 KR acB t.from_.toNat t.dP.toNat H wn O O O hf0 ht0 V V O ?_;clear H;intro a H;rw [Yt] at H;refine aaS _ KR KT jA H wn O (by simp;omega) (fun j hj=>H.hp.aR (hpc j hj)) O ?_;clear H;intro a H;skip;rw [show runesBytes ((((gD s).map fun x=>(x.2:Int)).drop t.from_.toNat).take (t.dP.toNat - t.from_.toNat))=sZ s t from rfl] at H;refine eU kW jQ [_] [_] H wn O O O O O (by intro i q h;match i,h with|0,h=>exact h|n+1,h=>simp at h) O O ?_;clear H;intro mH a w ES H;refine eD (Li:=[_,_]) (Lo:=Lo) (news:=[.string (sZ s t)]) kW jQ O O H wn O O hrw O (H.hp.dG 0 O O) O V V O ?_;clear H;intro v40 L9 a w YK H
   have YP:bP 9 1 v40 (k+1) (((pG s).take (k+1)).map Value.string) L9:=by
    rw [lZ hkx,Zf,kC];exact YK
   refine kH H (bS bH O (SC (Rd O (Rm O ?_))));clear H bH;intro a H;refine aj ?_;refine bg ((k+1,v40,L9,D6)) (by exact (H.dR (Pl:=[_,_]) (dx:=[]) [] Y O).sub ⟨O,O,O,O,O,O,aL⟩) ?_
   (try dsimp only);exact ⟨V,YP,fun b o h=>CQ b o (hgm b o h)⟩
  intro Ip
  exact absurd Ip Y
 intro iY a H
 try have p25:=dF iY
 refine dD ?_;refine K7 _ _ ?_;clear K7;refine kP H (SR fun _ cB=>Rm O (Ra O (aB cB O ?_)));clear H cB;intro a H;refine aV ?_
 have hlx:(pG s).length=(jm (dW s)).length:=by simp [pG]
 obtain ⟨Gr,hmr,hrep,H⟩:=St.ni (Li:=[]) (Lo:=Lo) H hrw (rows:=(pG s).map mV) (by rw [bN];omega) (by rw [iU V];exact Kq _ _);refine (aY H results52 (.cons (aD H O) (.cons (aD H O) .nil)) ?_).1;exact H.rt ⟨_,O,hrep⟩
theorem abJ {G0:GH} (G:GH) (w0:World) (hG:Hold G w0) (h0:∀ b o,G0 b=some o->G b=some o) (s:ByteArray) (hs:jr G0 s) :
  Calls prog 41 #[.string s] w0 (cO w0 G fun u G'=>∃ x,u=.tuple #[x,vi 0]∧aC G' (.sl 1 ((pG s).map mV)) x):=by
 refine eN [(0,_)] func41 O ntmps41 O O hG ?_;intro a H;refine kP H (SR fun _ K1=>Ra O (aB K1 O (SR fun _ K2=>Rm O ?_)));clear H K1;intro a H;refine s_call VE H wn O (abK _ _ H.ro h0 s hs) O ?_;clear H;rintro v5 G5 a w ⟨x5,rfl,hrep⟩ Je H;(iterate 2 refine fZ H wn O O O ?_;clear H;intro a H);refine kH H (Ra O (aB K2 O ?_));clear H K2;intro a H;refine aV ?_;refine (aY H results41 (.cons (aD H O) (.cons (aD H O) .nil)) ?_).1;exact H.rt ⟨_,O,hrep⟩
theorem Ql {s:ByteArray}:∀ (q i f g:Nat),s.size - i<=q->s.size - i<=f->s.size - i<=g->gK s i < 0->(jP s f i).length=(sS s g i).length
 | 0,i,f,g,hq,_,_,_=>by rw [zI V,JU V];rfl
 | q+1,i,f,g,hq,hf,hg,h=>by
  by_cases hi:i < s.size
  ·have hs:=qz h hi;have hd:=xP h hi;have he:=wu hi hs.1;rw [Dy hf hi,Qd hg hi,kI,kI,he.1,Ql q _ (f - 1) (g - 1) V V V hs.2]
  rw [zI V,JU V];rfl
theorem QY {G0:GH} (ht:vW G0) {s:ByteArray} (hs:s.size<=1073741824) (hv:fJ s=true):jr G0 s:=by
 have hf:gK s 0 < 0:=by simpa [fJ] using hv
 refine ⟨hs,hv,⟨fun G w0 h0 hG=>?_⟩,Ql _ 0 _ _ (bD _) V V hf⟩;have hT:vW G:=⟨fun c hc=>aK h0 (ht.first c hc),fun i hi=>⟨aK h0 (ht.acc i hi).1,aK h0 (ht.acc i hi).2⟩⟩;have h:=acQ G w0 hG hT s hs
 have e:Go.Lib.validD s.data.toList=true:=by simpa using R9 _ 0 (bD _) hf
 rw [e] at h;exact h
section
section
variable {N:Nat} {D:List Deferred} {w0:World} {F:Nat->Prop} {G0 G:GH} {L:OL} {T:List (Nat × av)}
variable {r:Option Nat} {P:Program} {ops:Array Oper} {Q:Exit->Act->World->Prop} {rest:List Oper} {a:Act} {w:World}
variable {d:Nat} {ty:TypeId} {pos:String} {aG:Array Edge} {g:Option (Nat × Bool)}
theorem acJ {w:World} {b:Nat} {c c':Array av} {e:TypeId} (h:w.heap[b]?=some (.cells c e (0,0))):pQ b (.cells c' e (0,0)) w (w.setRow b c'):=by
 have hlt:b < w.heap.size:=(Array.getElem?_eq_some_iff.1 h).1
 refine ⟨O,O,O,by simp [World.setRow],?_,fun k hk=>?_⟩
 ·simp only [World.setRow,Array.getElem?_modify,aM,h,oM]
 ·simp only [World.setRow,Array.getElem?_modify,aJ (Ne.symm hk)]
theorem aaF {t u e:TypeId} (hs:P.underlying t=some (.slice e)) (hz:(P.info? e).map (·.size)=some 1) {x y:Operand} {b i n:Nat} {s:ByteArray} {c:List av} (H:St N D w0 F G0 G L T a w)
  (hw:Region.wanted ⟨some d,.call { callee:=.builtin .copy,args:=#[x,y],argTypes:=#[t,u] },ty,pos,aG,g⟩ (yielded ops a.tmps)=true) (hx:ev T x=some (.slice (some ⟨b,0,none⟩) n n)) (hy:ev T y=some (.string s)) (hi:L[i]?=some (b,.cells c.toArray e (0,0)))
  (hn:s.size=n) (hc:c.length=n) (hd:Nat.blt d N=true)
  (k:∀ a' w',St N D w0 F G0 G (L.set i (b,.cells (Lib.byteCells s.data.toList).toArray e (0,0))) ((d,.int .i64 n) :: T) a' w'->WL r P ops Q rest a' w') :
  WL r P ops Q (⟨some d,.call { callee:=.builtin .copy,args:=#[x,y],argTypes:=#[t,u] },ty,pos,aG,g⟩ :: rest) a w:=by
 have hb:=H.hp.own _ (jK hi)
 have hr:=Lib.run_copy_row_string (P:=P) w t u ty e b 0 n n s c.toArray e hs hz hb V (by simp;omega)
 have e1:(c.toArray.toList.take 0++Lib.byteCells s.data.toList++c.toArray.toList.drop (0+s.size))=Lib.byteCells s.data.toList:=by
  simp;omega
 rw [e1] at hr
 refine dQ (v:=.int .i64 n) (w':=w.setRow b (Lib.byteCells s.data.toList).toArray) hw O ?_ (k _ _ (H.put hd _ (H.hp.upd hi (acJ hb))))
 simp [execOp,resolve,invoke,builtin,H.ev hx,H.ev hy,bZ,hr,goInt,hn]
end
end
theorem wX:prog.underlying 85=some (.slice 5):=by kernel_rfl
theorem DU:Ty prog 5 1 1 [.int .u8 0] false:=⟨Z,Z⟩
theorem RZ:prog.underlying 111=some (.pointer 5):=by kernel_rfl
theorem VW:bX 70:=cu func70 O
theorem VJ:bX 60:=cu func60 O
theorem VK:bX 61:=cu func61 O
theorem abr:(prog.info? 5).map (·.size)=some 1:=by kernel_rfl
theorem UD (G:GH) (w0:World) (hG:Hold G w0) (s:ByteArray) (hs:s.size<=1073741824):Calls prog 70 #[.string s] w0 (cO w0 G fun u G'=>u=.string s):=by
 refine eN [(0,_)] func70 O ntmps70 O O hG ?_;intro a H;refine kP H (SR fun _ K1=>aB K1 O (SQ fun _ K2=>SR fun _ K3=>Rm O (Rv jA O (Rc O (Kz K3 (Cd O ?_ ?_)))))) <;> clear H K1 K3
 ·intro h6 a H
  try have p6:=dT h6
  have he:s=⟨#[]⟩:=by
   have h0:s.size=0:=by omega
   have h1:s.data.size=0:=h0;exact ByteArray.ext (Array.eq_empty_of_size_eq_zero h1)
  exact kP H (SR fun _ K4=>aB K4 O (LR results70 O fun H=>H.rt (by rw [he])))
 intro h6 a H
 try have p6:=dF h6
 refine kP H (Kc K2 (SR fun _ K5=>Rm O (Rv jA O ?_)));clear H K2;intro a H;refine oq s.size wX DU H wn O O O V V O ?_;clear H;intro b9 a w IV H;refine kH H (aB K5 O (SR fun _ K6=>Rm O (Rm O ?_)));clear H K5;intro a H;refine aaF (i:=0) wX abr H wn O O O O (by simp) O ?_;clear H;intro a w H;dsimp only [List.set] at H;refine K6 _ _ ?_;clear K6;refine kP H (SR fun _ K7=>Rm O ?_);clear H;intro a H;refine aT wX DU 0 H wn O O O V O ?_;clear H;intro a H;refine kH H (Rm O (Rl wX O ?_));clear H;intro a H;have hl:s.data.toList.length=s.size:=(Go.Lib.size_eq s).symm;refine QL (i:=0) s.data.toList RZ Z (by intro e;rw [e] at hl;simp at hl;omega) V H wn rfl (by rw [hl];rfl) rfl (by rw [List.toList_toArray];exact iU (by rw [Go.Lib.byteCells_length];exact bD _)) O ?_;clear H;intro fz a w H;exact kH H (aB K7 O (LR results70 O fun H=>H.rt (by simp)))
theorem UE (G:GH) (w0:World) (hG:Hold G w0) (s:ByteArray) (hs:s.size<=1073741824):Calls prog 61 #[.string s] w0 (cO w0 G fun u G'=>u=.string s):=by
 refine eN [(0,_)] func61 O ntmps61 O O hG ?_;intro a H;refine kP H (SR fun _ K1=>aB K1 O (SR fun _ K2=>Rm O ?_));clear H K1;intro a H;refine s_call VW H wn O (UD _ _ H.ro s hs) O ?_;clear H;rintro v4 G4 a w rfl Yj H;exact kH H (aB K2 O (LR results61 O fun H=>H.rt O))
set_option maxRecDepth 10000 in
theorem TH:∀ X:Fin 256,nS .and .u8 ((X.val:Nat):Int) 192=128↔(128<=X.val∧X.val<=191):=by decide
theorem O8 {s:ByteArray} {i:Nat} (h:i < s.size):(¬ nS .and .u8 (s[i].toNat:Int) 192=128)↔rM s i=true:=by
 have h1:=TH ⟨s[i].toNat,s[i].toNat_lt⟩;dsimp only at h1;rw [h1,rM,pU h]
 simp only [dH]
 omega
def xM (s:ByteArray) (k:Nat):List Nat:=(List.range k).filter (rM s)
theorem Ml (s:ByteArray) (k:Nat):xM s (k+1)=xM s k++(if rM s k=true then [k] else []):=by
 rw [xM,List.range_succ,List.filter_append,List.filter_cons]
 rfl
theorem TT (s:ByteArray) (k:Nat):(xM s k).length<=k:=by
 have:=List.length_filter_le (rM s) (List.range k)
 rwa [List.length_range] at this
theorem TU (G:GH) (w0:World) (hG:Hold G w0) (s:ByteArray) (hs:s.size<=1073741824):Calls prog 60 #[.string s] w0 (cO w0 G fun u G'=>aC G' (.sl 1 (((uZ s).map fun x:Nat=>(x:Int)).map eZ)) u):=by
 have hml:maxLen=9223372036854775807:=rfl;refine eN [(0,_)] func60 O ntmps60 O O hG ?_;intro a H;refine kP H (SR fun _ K1=>aB K1 O (SR fun _ K2=>aB K2 O (SQ fun _ K3=>SR fun _ K4=>Rm O (Rv jA O (Rm O (Kz K4 (SB ?_)))))));clear H K1 K2 K4;intro a H;skip;refine eG (ι:=Nat × av × OL) (Tc:=[(0,_),(6,_)]) (Lc:=[]) (fun gh=>[(3,gh.2.1),(7,vi gh.1)]) (fun gh=>[]++gh.2.2) (fun gh=>G) (fun gh=>gh.1<=s.size∧bP 3 1 gh.2.1 (xM s gh.1).length (((xM s gh.1).map fun x:Nat=>(x:Int)).map vi) gh.2.2) (fun gh=>s.size - gh.1) ((0,.slice none 0 0,[])) (by exact H.sub ⟨O,O,O,O,aL⟩) ?_ ?_
 ·exact ⟨dU _,bP.nil⟩
 clear H;rintro ⟨k,v,Lo⟩ a w hI H;dsimp only at hI H;obtain ⟨hk,hrw⟩:=hI;have hbl:=TT s k;dsimp only [lca,dB] at H;refine kP H (SR fun _ K5=>Rc O (Kz K5 (SQ fun _ K6=>Cd O ?_ ?_))) <;> clear H K5
 ·intro h8 a H
  try have p8:=dT h8
  have hk1:k < s.size:=by omega
  refine kP H (Kc K6 (SQ fun _ K7=>SB (SR fun _ K8=>Rm O (aB K8 O (SR fun _ K9=>Rm O (Rm O ?_))))));clear H K6 K8;intro a H;refine zL _ jA H wn O O O (by first|assumption|omega) rfl ?_;clear H;intro a H;refine FH O H wn O O O ?_;clear H;intro a H;refine kH H (Rc O (Kz K9 (Cd O ?_ ?_))) <;> clear H K9
  ·intro fF a H
   try have jY:=dT fF
   refine kP H (SC (Rm O (Rm O ?_)));clear H;intro a H;refine eU bE aF [_] [_] H wn O O O O O (by intro i q h;match i,h with|0,h=>exact h|n+1,h=>simp at h) O O ?_;clear H;intro b17 a w Ow H;refine eD (Li:=[_]) (Lo:=Lo) (news:=[vi k]) bE aF O O H wn O O hrw O (H.hp.dG 0 O O) O V V O ?_;clear H;intro v18 Ca a w Bb H;refine kH H (bS K7 O (SC (Rd O (Rm O ?_))));clear H K7;intro a H;refine aj ?_;refine bg ((k+1,v18,Ca)) (by exact (H.dR (Pl:=[_]) (dx:=[]) [] Y O).sub ⟨O,O,O,O,aL⟩) ?_
   (try dsimp only);exact ⟨V,by rw [Ml,aM ((O8 hk1).1 jY),iK,kC,kC];exact Bb⟩
  intro fF a H
  try have jY:=dF fF
  refine kP H (Kc K7 (SC (Rd O (Rm O ?_))));clear H K7;intro a H;refine aj ?_;refine bg ((k+1,v,Lo)) (by exact H.sub ⟨O,O,O,O,aL⟩) ?_
  (try dsimp only);exact ⟨V,by rw [Ml,aJ (by rw [<- O8 V];exact jY),mg];exact hrw⟩
 intro h8 a H
 try have p8:=dF h8
 refine dD ?_;refine K3 _ _ ?_;clear K3;refine kP H (SR fun _ aP=>Rm O (Rm O (Rv jA O ?_)));clear H;intro a H;refine eU bE aF [_] [_] H wn O O O O O (by intro i q h;match i,h with|0,h=>exact h|n+1,h=>simp at h) O O ?_;clear H;intro TJ a w XE H
 have hke:k=s.size:=by omega
 refine eD (Li:=[_]) (Lo:=Lo) (news:=[vi s.size]) bE aF O O H wn O O hrw O (H.hp.dG 0 O O) O V V O ?_;clear H;intro v24 Gu a w zy H;rw [hke] at zy;obtain ⟨Gr,hmr,hrep,H⟩:=St.ni (Li:=[_]) (Lo:=Gu) H zy (rows:=((uZ s).map fun x:Nat=>(x:Int)).map eZ) (by simp [uZ,xM]) (by have:=uH G ((uZ s).map fun x:Nat=>(x:Int));rw [uZ] at this |-;simpa [xM] using this);exact kH H (aB aP O (LR results60 O fun H=>H.rt hrep))
theorem abx (G:GH) (w0:World) (hG:Hold G w0) (s:ByteArray) (hs:s.size<=1073741824) (hv:fJ s=true) (u vv:Nat) (huv:u<=vv) (hvl:vv<=(gD s).length) :
  Calls prog 47 #[.string s,vi u,vi vv] w0 (cO w0 G fun r G'=>r=.tuple #[.string (s.extract (gI s 0 u) (gI s 0 vv)),vi 0]):=by
 have hf:gK s 0 < 0:=by simpa [fJ] using hv
 have hol:(uZ s).length=(gD s).length+1:=by rw [Mq hv];simp [Fq]
 have XA:=Ad u 0 hf (dU _);have XB:=Ad vv 0 hf (dU _)
 have Za:gI s 0 u<=gI s 0 vv:=by
  have h1:=GD (s:=s) u 0 (vv - u);rw [show u+(vv - u)=vv by omega] at h1;rw [h1];exact (Ad (vv - u) (gI s 0 u) (GI u 0 hf (dU _)) XA.2).1
 have eu:=P6 hv (show u<=(gD s).length by omega);have ev:=P6 hv hvl;rw [<- Mq hv] at eu ev;refine eN [(0,_),(1,_),(2,_)] func47 O ntmps47 O O hG ?_;intro a H;refine kP H (SR fun _ K1=>Ra O (aB K1 O (SQ fun _ K2=>SR fun _ K3=>Rm O ?_)));clear H K1;intro a H;refine s_call Cw H wn O (DY _ _ H.ro s V) O ?_;clear H;rintro v10 _ a w ⟨rfl,rfl⟩ - H;rw [hv] at H;refine kH H (Rn O (Kz K3 (Cd O ?_ ?_))) <;> clear H K3
 ·intro h11 a H
  exact absurd h11 Y
 intro h11 a H
 try have rR:=dF h11
 refine kP H (Kc K2 (SR fun _ K4=>Rm O ?_));clear H K2;intro a H;refine s_call VJ H wn O (TU _ _ H.ro s hs) O ?_;clear H;rintro v13 Gp a w Js yh H;obtain ⟨bA,bc,rfl,-,-,-⟩:=Js.slice;rw [bN,bN,hol] at H;refine kH H (aB K4 O (SQ fun _ K5=>SR fun _ K6=>Rm O (Rc O (Rm O (Sp 16 O ?_ ?_))))) <;> clear H K4
 ·intro h16 a H
  try have p16:=dT h16
  exfalso;omega
 intro h16 a H
 try have p16:=dF h16
 refine kH H (YM h16 O (YM h16 O (YC h16 O (Pf h16 O (Rm O (Sp 21 O ?_ ?_)))))) <;> clear H
 ·intro h21 a H
  try have mD:=dT h21
  exfalso;omega
 intro h21 a H
 try have mD:=dF h21
 refine kH H (YM h21 O (YM h21 O (YL bE h21 O (YC h21 O (Pf h21 O (Kz K6 (Cd O ?_ ?_))))))) <;> clear H K6
 ·intro gN a H
  try have p26:=dT gN
  exfalso;omega
 intro gN a H
 try have p26:=dF gN
 refine mh ?_;refine K5 _ _ ?_;clear K5;refine iF (fun _ K7=>?_);obtain ⟨lb,lo,rfl,gu⟩:=oZ (k:=u) Js (by rw [bN];omega);obtain ⟨_,_,e0,gv⟩:=oZ (k:=vv) Js (by rw [bN];omega)
 injection e0 with e0;injection e0 with e1 e2;subst e1;subst e2
 rw [show ((uZ s).map fun x:Nat=>(x:Int))[u]'(by rw [bN];omega)=((gI s 0 u:Nat):Int) by rw [List.getElem_map,(iI.1 eu).2]] at gu;rw [show ((uZ s).map fun x:Nat=>(x:Int))[vv]'(by rw [bN];omega)=((gI s 0 vv:Nat):Int) by rw [List.getElem_map,(iI.1 ev).2]] at gv;refine dI gG [[],[],[],[1,2],[1,2,3],[],[],[5,6],[5,6,7],ra 0 9,ra 0 10,ra 0 11,ra 0 12] [11,12] Z [.string s,.slice (some ⟨lb,lo,none⟩) ((gD s).length+1) bc,vi u,(aH lb (lo+u*1)),vi ((gI s 0 u:Nat):Int),.slice (some ⟨lb,lo,none⟩) ((gD s).length+1) bc,vi vv,(aH lb (lo+vv*1)),vi ((gI s 0 vv:Nat):Int),.string (s.extract (gI s 0 u) (gI s 0 vv)),.string (s.extract (gI s 0 u) (gI s 0 vv))] H (aI ?_ ?_ ?_ ?_ (aI ?_ ?_ ?_ ?_ (aI ?_ ?_ ?_ (gB O) (iO (gB O) fQ)))) ?_
 ·intro au a w G1 _ ah hc hG HT hv;have H:=HT;clear ah;have Hb:=H.full;have H:=Hb;clear hc;refine kH H (Rm O ?_);clear H;intro a H;refine aj ⟨O,?_⟩;exact ay HT Hb hG hv (fun _ _ _ _ _ h=>h) H O
 ·intro au a w G1 _ ah hc hG HT hv;have H:=HT;clear ah;have Hb:=H.full;have H:=Hb;clear hc;refine kH H (Rm O ?_);clear H;intro a H;refine aj ⟨O,?_⟩;exact ay HT Hb hG hv (fun _ _ _ _ _ h=>h) H O
 ·intro au a w G1 _ ah hc hG HT hv;have H:=HT;clear ah;have Hb:=H.full;have H:=Hb;clear hc;refine kH H (Rm O ?_);clear H;intro a H;refine aj ⟨O,?_⟩;exact ay HT Hb hG hv (fun _ _ _ _ _ h=>h) H O
 ·intro au a w G1 _ ah hc hG HT hv;have H:=HT;clear ah;have H:=H.ak (hv 1 28 (hc 1 Y) O) O;have H:=H.ak (hv 2 29 (hc 2 Y) O) O;have Hb:=H.full;have H:=Hb;clear hc;refine aT bE aF u H wn O O O V O ?_;clear H;intro a H;refine aj ⟨O,?_⟩;exact ay HT Hb hG hv (fun _ _ _ _ _ h=>h) H O
 ·intro au a w G1 _ ah hc hG HT hv;have H:=HT;clear ah;have H:=H.ak (hv 3 30 (hc 3 Y) O) O;have Hb:=H.full;have H:=Hb;clear hc;refine kH H (Rg aF O (aK hG gu) ?_);clear H;intro a H;refine aj ⟨O,?_⟩;exact ay HT Hb hG hv (fun _ _ _ _ _ h=>h) H O
 ·intro au a w G1 _ ah hc hG HT hv;have H:=HT;clear ah;have Hb:=H.full;have H:=Hb;clear hc;refine kH H (Rm O ?_);clear H;intro a H;refine aj ⟨O,?_⟩;exact ay HT Hb hG hv (fun _ _ _ _ _ h=>h) H O
 ·intro au a w G1 _ ah hc hG HT hv;have H:=HT;clear ah;have Hb:=H.full;have H:=Hb;clear hc;refine kH H (Rm O ?_);clear H;intro a H;refine aj ⟨O,?_⟩;exact ay HT Hb hG hv (fun _ _ _ _ _ h=>h) H O
 ·intro au a w G1 _ ah hc hG HT hv;have H:=HT;clear ah;have H:=H.ak (hv 5 32 (hc 5 Y) O) O;have H:=H.ak (hv 6 33 (hc 6 Y) O) O;have Hb:=H.full;have H:=Hb;clear hc;refine aT bE aF vv H wn O O O V O ?_;clear H;intro a H;refine aj ⟨O,?_⟩;exact ay HT Hb hG hv (fun _ _ _ _ _ h=>h) H O
 ·intro au a w G1 _ ah hc hG HT hv;have H:=HT;clear ah;have H:=H.ak (hv 7 34 (hc 7 Y) O) O;have Hb:=H.full;have H:=Hb;clear hc;refine kH H (Rg aF O (aK hG gv) ?_);clear H;intro a H;refine aj ⟨O,?_⟩;exact ay HT Hb hG hv (fun _ _ _ _ _ h=>h) H O
 ·intro au a w G1 _ ah hc hG HT hv;have H:=HT;clear ah;have H:=H.ak (hv 0 27 (hc 0 Y) O) O;have H:=H.ak (hv 4 31 (hc 4 Y) O) O;have H:=H.ak (hv 8 35 (hc 8 Y) O) O;have Hb:=H.full;have H:=Hb;clear hc;refine QK (gI s 0 u) (gI s 0 vv) jA H wn O O O O O Za XB.2 O ?_;clear H;intro a H;refine aj ⟨O,?_⟩;exact ay HT Hb hG hv (fun _ _ _ _ _ h=>h) H O
 ·intro au a w G1 _ ah hc hG HT hv;have H:=HT;clear ah;have H:=H.ak (hv 9 36 (hc 9 Y) O) O;have Hb:=H.full;have H:=Hb;clear hc;refine s_call VK H wn O (UE _ _ H.ro _ (by rw [ByteArray.size_extract];omega)) rfl ?_;clear H;rintro v37 G37 a w rfl Xl H;refine aj ⟨O,?_⟩;exact jw Z (fun _ _ _ _ _ h=>h) O O HT Hb hG hv Xl (rfl) H
 clear H;intro a w G sM H hv;have H:=H.ak (hv 10 37 O O) O;clear hv;refine kH H (Ra O (Ra O ?_));clear H;intro a H;refine aj ⟨O,?_⟩;refine K7 _ _ ?_;clear K7;refine aV ?_;refine (aY H results47 (.cons (aD H O) (.cons (aD H O) .nil)) ?_).1;exact H.rt O
section
def pW (xs:Array av) (o:Nat):Option Int:=match xs[o]? with|some (.int .i64 n)=>some n|_=>none
def JC (u:Option TypeDesc):Bool:=match u with|some (.int .i64)=>true|_=>false
structure Gm (P:Program) (t:TypeId) (rP:List Nat):Prop where
 und:P.underlying t=some (.struct (P.fieldsOf t))
 held:P.stoodInHeld t=false
 guard:P.eqGuardType P.depth t=false
 xR:(P.fieldsOf t).toList.map (·.offset)=rP
 ok:(P.fieldsOf t).toList.all (fun f=>decide (f.name ≠ "_") && P.plainKey f.type && JC (P.underlying f.type))=true
theorem Qr {P:Program} {w:World} {d:Nat} {xs ys:Array av}:∀ fs:List Field,fs.all (fun f=>decide (f.name ≠ "_") && P.plainKey f.type && JC (P.underlying f.type))=true ->
  (fs.map (·.offset)).all (fun o=>(pW xs o).isSome && (pW ys o).isSome)=true->(Op.eqFields (d+1) xs ys fs).run P w=.ok ((fs.map (·.offset)).all fun o=>pW xs o == pW ys o) w
 | [],_,_=>by simp [Op.eqFields]
 | f :: fs,h1,h2=>by
  simp only [List.all_cons,gT,dH,iT] at h1 h2
  obtain ⟨⟨⟨hn,hp⟩,hi⟩,h1⟩:=h1
  obtain ⟨⟨hx,hy⟩,h2⟩:=h2
  have ih:=Qr (w:=w) (d:=d) fs (by simpa using h1) h2
  unfold JC at hi
  split at hi
  ·rename_i hu
   unfold pW at hx hy
   split at hx
   ·rename_i m hxm
    split at hy
    ·rename_i m2 hym
     have e1:pW xs f.offset=some m:=by unfold pW;rw [hxm]
     have e2:pW ys f.offset=some m2:=by unfold pW;rw [hym]
     simp only [Op.eqFields,hn,ne_eq,not_false_eq_true,if_true,bZ,run_part_plain w hp hxm,run_part_plain w hp hym,iX,run_equalIn_int w d f.type .i64 .i64 m m2 hu,iT,List.all_cons,e1,e2]
     by_cases e:m=m2
     ·subst e;simp [ih,List.all_map]
     ·simp [e]
    ·simp at hy
   ·simp at hx
  ·simp at hi
def lD (xs:Array av) (o:Nat × Bool):Option (Int × Bool):=match xs[o.1]?,o.2 with|some (.int .i64 n),false=>some (n,false)|some (.bool b),true=>some (0,b)|_,_=>none
def vH (u:Option TypeDesc) (b:Bool):Bool:=match u,b with|some (.int .i64),false=>true|some .bool,true=>true|_,_=>false
structure LA (P:Program) (t:TypeId) (rP:List (Nat × Bool)):Prop where
 und:P.underlying t=some (.struct (P.fieldsOf t))
 held:P.stoodInHeld t=false
 guard:P.eqGuardType P.depth t=false
 xR:(P.fieldsOf t).toList.map (fun f=>(f.offset,vH (P.underlying f.type) true))=rP
 ok:(P.fieldsOf t).toList.all (fun f=>decide (f.name ≠ "_") && P.plainKey f.type && vH (P.underlying f.type) (vH (P.underlying f.type) true))=true
theorem Qs {P:Program} {w:World} {d:Nat} {xs ys:Array av}:∀ fs:List Field,fs.all (fun f=>decide (f.name ≠ "_") && P.plainKey f.type && vH (P.underlying f.type) (vH (P.underlying f.type) true))=true ->
  (fs.map (fun f=>(f.offset,vH (P.underlying f.type) true))).all (fun o=>(lD xs o).isSome && (lD ys o).isSome)=true->(Op.eqFields (d+1) xs ys fs).run P w=.ok ((fs.map (fun f=>(f.offset,vH (P.underlying f.type) true))).all fun o=>lD xs o == lD ys o) w
 | [],_,_=>by simp [Op.eqFields]
 | f :: fs,h1,h2=>by
  simp only [List.all_cons,gT,dH,iT] at h1 h2
  obtain ⟨⟨⟨hn,hp⟩,hi⟩,h1⟩:=h1
  obtain ⟨⟨hx,hy⟩,h2⟩:=h2
  have ih:=Qs (w:=w) (d:=d) fs (by simpa using h1) h2
  obtain ⟨kb,hkb⟩:∃ kb,kb=vH (P.underlying f.type) true:=⟨_,O⟩
  rw [<- hkb] at hi hx hy
  cases kb with
  | false =>
   have hu:P.underlying f.type=some (.int .i64):=by clear hkb ih h1 h2 hx hy;unfold vH at hi;split at hi <;> simp_all
   obtain ⟨m,hxm⟩:∃ m,xs[f.offset]?=some (.int .i64 m):=by clear hkb ih h1 h2 hi hy;unfold lD at hx;split at hx <;> simp_all
   obtain ⟨m2,hym⟩:∃ m,ys[f.offset]?=some (.int .i64 m):=by clear hkb ih h1 h2 hi hx;unfold lD at hy;split at hy <;> simp_all
   have e1:lD xs (f.offset,false)=some (m,false):=by unfold lD;rw [hxm]
   have e2:lD ys (f.offset,false)=some (m2,false):=by unfold lD;rw [hym]
   simp only [Op.eqFields,hn,ne_eq,not_false_eq_true,if_true,bZ,run_part_plain w hp hxm,run_part_plain w hp hym,iX,run_equalIn_int w d f.type .i64 .i64 m m2 hu,iT,List.all_cons,<- hkb,e1,e2]
   by_cases e:m=m2
   ·subst e;simp [ih,List.all_map]
   ·simp [e]
  | true =>
   have hu:P.underlying f.type=some .bool:=by clear hkb ih h1 h2 hx hy;unfold vH at hi;split at hi <;> simp_all
   obtain ⟨m,hxm⟩:∃ m,xs[f.offset]?=some (.bool m):=by clear hkb ih h1 h2 hi hy;unfold lD at hx;split at hx <;> simp_all
   obtain ⟨m2,hym⟩:∃ m,ys[f.offset]?=some (.bool m):=by clear hkb ih h1 h2 hi hx;unfold lD at hy;split at hy <;> simp_all
   have e1:lD xs (f.offset,true)=some (0,m):=by unfold lD;rw [hxm]
   have e2:lD ys (f.offset,true)=some (0,m2):=by unfold lD;rw [hym]
   simp only [Op.eqFields,hn,ne_eq,not_false_eq_true,if_true,bZ,run_part_plain w hp hxm,run_part_plain w hp hym,iX,run_equalIn_bool' w d f.type m m2 hu,iT,List.all_cons,<- hkb,e1,e2]
   by_cases e:m=m2
   ·subst e;simp [ih,List.all_map]
   ·simp [e]
section
variable {N:Nat} {D:List Deferred} {w0:World} {F:Nat->Prop} {G0 G:GH} {L:List (Nat × Obj)} {T:List (Nat × av)}
variable {r:Option Nat} {P:Program} {ops:Array Oper} {Q:Exit->Act->World->Prop} {rest:List Oper} {a:Act} {w:World}
variable {d:Nat} {ty:TypeId} {pos:String} {aG:Array Edge} {g:Option (Nat × Bool)}
theorem QC {t yt:TypeId} {rP:List Nat} (he:Gm P t rP) {x y:Operand} {xs ys:Array av} (H:St N D w0 F G0 G L T a w) (hw:Region.wanted ⟨some d,.binOp .eql t x y yt,ty,pos,aG,g⟩ (yielded ops a.tmps)=true) (hx:ev T x=some (.agg xs)) (hy:ev T y=some (.agg ys))
  (hi:rP.all (fun o=>(pW xs o).isSome && (pW ys o).isSome)=true) (hd:Nat.blt d N=true)
  (k:∀ a',St N D w0 F G0 G L ((d,.bool (rP.all fun o=>pW xs o == pW ys o)) :: T) a' w->WL r P ops Q rest a' w):WL r P ops Q (⟨some d,.binOp .eql t x y yt,ty,pos,aG,g⟩ :: rest) a w:=by
 refine dQ (v:=.bool (rP.all fun o=>pW xs o == pW ys o)) (w':=w) hw O ?_ (k _ (H.put hd _ H.hp))
 have h1:=Qr (P:=P) (w:=w) (d:=9998) (xs:=xs) (ys:=ys) _ he.ok (by rw [he.xR];exact hi)
 rw [he.xR] at h1
 simp only [execOp,H.ev hx,H.ev hy,bZ,run_eqGuard_agg w .eql t x y xs ys he.guard,iX,run_eql_struct,run_equalIn_struct w 9999 t xs ys he.und he.held,h1]
 rfl
theorem QG {t yt:TypeId} {x y:Operand} {p q:Int} (z:Int) (H:St N D w0 F G0 G L T a w) (hw:Region.wanted ⟨some d,.binOp .quo t x y yt,ty,pos,aG,g⟩ (yielded ops a.tmps)=true) (hx:ev T x=some (.int .i64 p)) (hy:ev T y=some (.int .i64 q)) (hq:¬ q=0) (hz:p.tdiv q=z) (h1:-9223372036854775808<=z) (h2:z < 9223372036854775808) (hd:Nat.blt d N=true)
  (k:∀ a',St N D w0 F G0 G L ((d,.int .i64 z) :: T) a' w->WL r P ops Q rest a' w):WL r P ops Q (⟨some d,.binOp .quo t x y yt,ty,pos,aG,g⟩ :: rest) a w:=by
 subst hz
 refine dQ (v:=.int .i64 (p.tdiv q)) (w':=w) hw O ?_ (k _ (H.put hd _ H.hp))
 simp [execOp,H.ev hx,H.ev hy,bZ,eqGuard,binOp,Op.intDiv,hq,wL h1 h2]
theorem aaG {op:BinOp} {t yt:TypeId} {rP:List (Nat × Bool)} (ho:op=.eql∨op=.neq) (he:LA P t rP) {x y:Operand} {xs ys:Array av} (H:St N D w0 F G0 G L T a w) (hw:Region.wanted ⟨some d,.binOp op t x y yt,ty,pos,aG,g⟩ (yielded ops a.tmps)=true) (hx:ev T x=some (.agg xs)) (hy:ev T y=some (.agg ys))
  (hi:rP.all (fun o=>(lD xs o).isSome && (lD ys o).isSome)=true) (hd:Nat.blt d N=true)
  (k:∀ a',St N D w0 F G0 G L ((d,.bool (if op=.eql then rP.all fun o=>lD xs o == lD ys o else !(rP.all fun o=>lD xs o == lD ys o))) :: T) a' w->WL r P ops Q rest a' w):WL r P ops Q (⟨some d,.binOp op t x y yt,ty,pos,aG,g⟩ :: rest) a w:=by
 have h1:=Qs (P:=P) (w:=w) (d:=9998) (xs:=xs) (ys:=ys) _ he.ok (by rw [he.xR];exact hi)
 rw [he.xR] at h1
 rcases ho with rfl|rfl
 ·refine dQ (v:=_) (w':=w) hw O ?_ (k _ (H.put hd _ H.hp))
  simp only [execOp,H.ev hx,H.ev hy,bZ,run_eqGuard_agg w .eql t x y xs ys he.guard,iX,run_eql_struct,run_equalIn_struct w 9999 t xs ys he.und he.held,h1]
  rfl
 ·refine dQ (v:=_) (w':=w) hw O ?_ (k _ (H.put hd _ H.hp))
  simp only [execOp,H.ev hx,H.ev hy,bZ,run_eqGuard_agg w .neq t x y xs ys he.guard,iX,run_neq_struct,run_equalIn_struct w 9999 t xs ys he.und he.held,h1]
  rfl
end
end
section
section
variable {N:Nat} {D:List Deferred} {w0:World} {F:Nat->Prop} {G0 G:GH} {L:OL} {T:List (Nat × av)}
variable {r:Option Nat} {P:Program} {ops:Array Oper} {Q:Exit->Act->World->Prop} {rest:List Oper} {a:Act} {w:World}
variable {d:Nat} {ty:TypeId} {pos:String} {aG:Array Edge} {g:Option (Nat × Bool)}
theorem aaL {t:TypeId} (H:St N D w0 F G0 G L T a w) (hw:Region.wanted ⟨some d,.makeMap t none,ty,pos,aG,g⟩ (yielded ops a.tmps)=true) (hd:Nat.blt d N=true)
  (k:∀ b a' w',w0.heap.size<=b->St N D w0 F G0 G ((b,.map #[] 0) :: L) ((d,.map (some b)) :: T) a' w'->WL r P ops Q rest a' w'):WL r P ops Q (⟨some d,.makeMap t none,ty,pos,aG,g⟩ :: rest) a w:=by
 refine dQ (v:=.map (some w.heap.size)) (w':=w.alloc (.map #[] 0)) hw O ?_ (k _ _ _ H.hp.size (H.put hd _ (H.hp.alloc _)))
 simp [execOp,Instr.makeMap,newObj,Sem.run,bZ]
def wN (an:Option (Nat × av)) (zv:av):av × Bool:=match an with|some (_,v)=>(v,true)|none=>(zv,false)
theorem aaK {t kt et:TypeId} {kd:TypeDesc} {x y:Operand} {b i clock:Nat} {es:Array MapEntry} {ky zv:av} (an:Option (Nat × av)) (hm:P.underlying t=some (.map kt et)) (hk:P.underlying kt=some kd) (hz:(P.info? et).map (fun i=>i.zero)=some (some zv)) (H:St N D w0 F G0 G L T a w)
  (hw:Region.wanted ⟨some d,.lookup t x y true,ty,pos,aG,g⟩ (yielded ops a.tmps)=true) (hx:ev T x=some (.map (some b))) (hy:ev T y=some ky) (hi:L[i]?=some (b,.map es clock)) (hky:MapKept.IsKey kd ky) (hf:Instr.findNow kd ky es.toList 0=some an) (hd:Nat.blt d N=true)
  (k:∀ a',St N D w0 F G0 G L ((d,.tuple #[(wN an zv).1,.bool (wN an zv).2]) :: T) a' w->WL r P ops Q rest a' w):WL r P ops Q (⟨some d,.lookup t x y true,ty,pos,aG,g⟩ :: rest) a w:=by
 have hb:w.heap[b]?=some (.map es clock):=H.hp.own _ (jK hi)
 obtain ⟨inf,hi1,hi2⟩:=mG.1 hz
 refine dQ (v:=.tuple #[(wN an zv).1,.bool (wN an zv).2]) (w':=w) hw O ?_ (k _ (H.put hd _ H.hp))
 have h1:=MapKept.run_checkKey (w:=w) hk hky es.isEmpty 9999
 have h2:=MapKept.run_findKey (w:=w) hk hf
 cases an with
 | none=>simp [execOp,Instr.lookup,H.ev hx,H.ev hy,bZ,lq hm,MapKept.run_getObj_map hb,h1,h2,Result.andThen,zeroValue,zJ hi1,hi2,wN]
 | some q=>simp [execOp,Instr.lookup,H.ev hx,H.ev hy,bZ,lq hm,MapKept.run_getObj_map hb,h1,h2,Result.andThen,wN]
theorem acH {w:World} {b clock:Nat} {es:Array MapEntry} {o:Obj} (h:w.heap[b]?=some (.map es clock)):pQ b o w { w with heap:=w.heap.setIfInBounds b o }:=by
 have hlt:b < w.heap.size:=(Array.getElem?_eq_some_iff.1 h).1
 refine ⟨O,O,O,by simp,by simp [hlt],fun k hk=>?_⟩
 simp only
 rw [Array.getElem?_setIfInBounds_ne (Ne.symm hk)]
theorem aaM {t kt et:TypeId} {kd:TypeDesc} {x y z:Operand} {b i clock:Nat} {es:Array MapEntry} {ky v:av} (hm:P.underlying t=some (.map kt et)) (hk:P.underlying kt=some kd) (H:St N D w0 F G0 G L T a w)
  (hw:Region.wanted ⟨none,.mapUpdate t x y z,ty,pos,aG,g⟩ (yielded ops a.tmps)=true) (hx:ev T x=some (.map (some b))) (hy:ev T y=some ky) (hzv:ev T z=some v) (hi:L[i]?=some (b,.map es clock)) (hky:MapKept.IsKey kd ky) (hf:Instr.findNow kd ky es.toList 0=some none)
  (k:∀ w',St N D w0 F G0 G (L.set i (b,.map (es.push ⟨ky,v,clock⟩) (clock+1))) T a w'->WL r P ops Q rest a w'):WL r P ops Q (⟨none,.mapUpdate t x y z,ty,pos,aG,g⟩ :: rest) a w:=by
 have hb:w.heap[b]?=some (.map es clock):=H.hp.own _ (jK hi)
 have h1:=MapKept.run_checkKey (w:=w) hk hky false 9999
 have h2:=MapKept.run_findKey (w:=w) hk hf
 refine Sq (w':={ w with heap:=w.heap.setIfInBounds b (.map (es.push ⟨ky,v,clock⟩) (clock+1)) }) hw O ?_ (k _ (H.move (H.hp.upd hi (acH hb))))
 simp [execOp,Instr.mapUpdate,H.ev hx,H.ev hy,H.ev hzv,bZ,lq hm,MapKept.run_getObj_map hb,h1,h2,MapKept.run_setObj_map _ hb,Result.andThen]
theorem aaI {x:Operand} {t kt et:TypeId} {b i clock:Nat} {es:Array MapEntry} (hs:P.underlying t=some (.map kt et)) (H:St N D w0 F G0 G L T a w) (hw:Region.wanted ⟨some d,.call { callee:=.builtin .len,args:=#[x],argTypes:=#[t] },ty,pos,aG,g⟩ (yielded ops a.tmps)=true) (hx:ev T x=some (.map (some b))) (hi:L[i]?=some (b,.map es clock)) (hd:Nat.blt d N=true)
  (k:∀ a',St N D w0 F G0 G L ((d,.int .i64 es.size) :: T) a' w->WL r P ops Q rest a' w):WL r P ops Q (⟨some d,.call { callee:=.builtin .len,args:=#[x],argTypes:=#[t] },ty,pos,aG,g⟩ :: rest) a w:=by
 have hb:w.heap[b]?=some (.map es clock):=H.hp.own _ (jK hi)
 exact dQ (v:=.int .i64 es.size) (w':=w) hw O (by simp [execOp,resolve,invoke,builtin,Builtin.len_,H.ev hx,bZ,lq hs,MapKept.run_getObj_map hb,goInt,Result.andThen]) (k _ (H.put hd _ H.hp))
theorem aaP {t yt:TypeId} {x y:Operand} {p q:ByteArray} (H:St N D w0 F G0 G L T a w) (hw:Region.wanted ⟨some d,.binOp .neq t x y yt,ty,pos,aG,g⟩ (yielded ops a.tmps)=true) (hx:ev T x=some (.string p)) (hy:ev T y=some (.string q)) (hd:Nat.blt d N=true)
  (k:∀ a',St N D w0 F G0 G L ((d,.bool (!(p.toList == q.toList))) :: T) a' w->WL r P ops Q rest a' w):WL r P ops Q (⟨some d,.binOp .neq t x y yt,ty,pos,aG,g⟩ :: rest) a w:=by
 refine dQ (v:=.bool (!(p.toList == q.toList))) (w':=w) hw O ?_ (k _ (H.put hd _ H.hp))
 simp [execOp,H.ev hx,H.ev hy,bZ,eqGuard,binOp,Op.stringOp]
theorem Hp.PL (h:Hp w0 F G0 G L w) {b o:Nat} {c:Array av} {e:TypeId} {fz:Nat × Nat} {v:av} (hm:(b,Obj.cells c e fz)∈L) (hv:c[o]?=some v):w.cell? ⟨b,o,none⟩=some v:=by
 have:=h.own _ hm
 simp only [World.cell?,this]
 exact hv
end
end
theorem bG:prog.underlying 53=some (.slice 60):=by kernel_rfl
theorem bO:Ty prog 60 2 16 [.int .i64 0,.int .i64 0] true:=⟨Z,Z⟩
theorem Cx:gQ prog 60 1 1:=⟨Z⟩
theorem NM:bX 54:=cu func54 O
theorem VG:bX 55:=cu func55 O
theorem DV:prog.underlying 127=some (.slice 53):=by kernel_rfl
theorem DT:Ty prog 53 1 24 [.slice none 0 0] false:=⟨Z,Z⟩
structure cK where
 key:Int
 weight:Int
def cK.dat (x:cK):List Dat:=[li x.key,li x.weight]
theorem acj (G:GH) (x:cK):aZ G x.dat [vi x.key,vi x.weight]:=by
 simp only [cK.dat,aZ]
 exact ⟨_,_,O,by simp [aC,Value.oneCell'],_,_,O,by simp [aC,Value.oneCell'],O⟩
theorem aci {G:GH} {x:cK} {cs:List av} (h:aZ G x.dat cs):cs=[vi x.key,vi x.weight]:=by
 simp only [cK.dat,aZ,aC] at h
 obtain ⟨v1,_,rfl,⟨rfl,-⟩,v2,_,rfl,⟨rfl,-⟩,rfl⟩:=h
 rfl
theorem zT {G:GH} {l:List cK} {A:Option Addr} {n c k:Nat} (hv:aC G (.sl 2 (l.map cK.dat)) (.slice A n c)) (hk:k < l.length):∃ b o,A=some ⟨b,o,none⟩∧(∀ j u,[vi l[k].key,vi l[k].weight][j]?=some u->aR G b (o+k*2+j)=some u):=by
 obtain ⟨A',c',he,_,_,hg⟩:=hv.slice
 injection he with e1 e2 e3
 subst e1;obtain ⟨b,o,cs,h1,h2,h3,h4⟩:=hg k l[k].dat (by simp [hk]);obtain rfl:=aci h4;exact ⟨b,o,h1,h3⟩
def vI (x:cK):Bool:=decide (1<=x.weight) && decide (x.weight<=1000)
def rz (l:List cK):Int:=if 2048 < l.length then 9 else if l.all vI then 0 else 5
theorem MV (G:GH) (w0:World) (hG:Hold G w0) (l:List cK) (v:av) (hv:aC G (.sl 2 (l.map cK.dat)) v) :
    Calls prog 54 #[v] w0 (cO w0 G fun u G'=>u=vi (rz l)∧G=G'):=by
  obtain ⟨A,c,rfl,hc1,hc2,-⟩:=hv.slice;have hml:maxLen=9223372036854775807:=rfl;rw [bN] at *;refine eN [(0,_)] func54 O ntmps54 O O hG ?_;intro a H;refine kP H (SR fun _ K1=>aB K1 O (SQ fun _ K2=>SR fun _ K3=>Rm O (Rl bG O (Rc O (Kz K3 (Cd O ?_ ?_)))))) <;> clear H K1 K3
  · intro h7 a H
    try have p7:=dT h7
    exact kP H (SR fun _ K4=>aB K4 O (LR results54 O fun H=>H.rt ⟨by rw [rz,dJ],O⟩))
  intro h7 a H
  try have p7:=dF h7
  refine kP H (Kc K2 (SQ fun _ K5=>SR fun _ K6=>Rm O (Rl bG O (Rm O (Kz K6 (SB ?_))))));clear H K2 K6;intro a H;skip;refine eG (ι:=Nat) (Tc:=[(8,_),(9,_)]) (Lc:=[]) (fun gh=>[(10,vi gh)]) (fun gh=>[]) (fun gh=>G) (fun gh=>gh<=l.length∧∀ q (hq:q < gh) (hq2:q < l.length),vI l[q]=true) (fun gh=>l.length - gh) (0) (by exact H.sub ⟨O,O,O,aL⟩) ?_ ?_
  · exact ⟨V,fun q hq=>absurd hq (Nat.not_lt_zero _)⟩
  clear H;intro k a w hI H;obtain ⟨hk,zm⟩:=hI;dsimp only [lca,dB] at H;refine kP H (SR fun _ K7=>Rc O (Kz K7 (SQ fun _ K8=>Cd O ?_ ?_))) <;> clear H K7
  · intro h11 a H
    try have rR:=dT h11
    have hk2:k < l.length:=by omega
    obtain ⟨b,o,rfl,hrow⟩:=zT hv hk2;refine kP H (Kc K8 (SQ fun _ K9=>SB (SR fun _ aP=>Ri bG bO O O ?_)));clear H K8;intro a H;refine dX bO (cs:=[_,_]) H wn O O (fun j v hj=>H.hp.aR (hrow j v hj)) O ?_;clear H;intro a H;refine kE bO H wn O ?_;clear H;intro b4 a w hb4 H;refine eO bO 0 (vs:=[_,_]) H wn O ?_;clear H;intro w H;refine aP _ _ ?_;clear aP;refine kP H (SR fun _ bH=>gH Cx aF 0 O O (Rc O (Rm O (Sp 17 O ?_ ?_)))) <;> clear H
    · intro dZ a H
      try have lg:=dT dZ
      refine kH H (aQ dZ O (Pt dZ O (Kz bH (Ct O O (SR fun _ bL=>aB bL O ?_)))));clear H bH bL;intro a H;refine lr H results54 O ?_
      first
        | (have hr:¬ l.all vI=true:=fun h=>by
            have:=gq.1 h _ (dV hk2)
            simp only [vI,gT,dH] at this
            omega
           exact H.rt ⟨by rw [rz,aX,aJ hr],O⟩)
        | exact H.rt ⟨by rw [rz,aX,aM (gq.2 fun x hx=>by
              obtain ⟨q,hq,rfl⟩:=List.getElem_of_mem hx
              exact zm q V hq)],O⟩
    intro dZ a H
    try have lg:=dF dZ
    refine kH H (YF Cx dZ O (YO aF 0 dZ O (YC dZ O (Pf dZ O (Kz bH (Cd O ?_ ?_)))))) <;> clear H bH
    · intro h21 a H
      try have mD:=dT h21
      refine kP H (SR fun _ bI=>aB bI O ?_);clear H bI;intro a H;refine lr H results54 O ?_
      first
        | (have hr:¬ l.all vI=true:=fun h=>by
            have:=gq.1 h _ (dV hk2)
            simp only [vI,gT,dH] at this
            omega
           exact H.rt ⟨by rw [rz,aX,aJ hr],O⟩)
        | exact H.rt ⟨by rw [rz,aX,aM (gq.2 fun x hx=>by
              obtain ⟨q,hq,rfl⟩:=List.getElem_of_mem hx
              exact zm q V hq)],O⟩
    intro h21 a H
    try have mD:=dF h21
    refine kP H (Kc K9 (SC (Rd O (Rm O ?_))));clear H K9;intro a H;refine aj ?_;refine bg ((k+1)) (by exact (H.dR (Pl:=[_]) (dx:=[]) [] Y O).sub ⟨O,O,O,aL⟩) ?_
    exact ⟨V,fun q hq hq2=>by
        by_cases e:q=k
        · subst e;simp only [vI,gT,dH];omega
        exact zm q V hq2⟩
  intro h11 a H
  try have rR:=dF h11
  refine dD ?_;refine K5 _ _ ?_;clear K5;refine kP H (SR fun _ cB=>aB cB O ?_);clear H cB;intro a H;refine lr H results54 O ?_
  first
    | (have hr:¬ l.all vI=true:=fun h=>by
        have:=gq.1 h _ (dV hk2)
        simp only [vI,gT,dH] at this
        omega
       exact H.rt ⟨by rw [rz,aX,aJ hr],O⟩)
    | exact H.rt ⟨by rw [rz,aX,aM (gq.2 fun x hx=>by
          obtain ⟨q,hq,rfl⟩:=List.getElem_of_mem hx
          exact zm q V hq)],O⟩
def Ci (a b:List cK):Int:=if rz a=0 then rz b else rz a
theorem TV (G:GH) (w0:World) (hG:Hold G w0) (la lb:List cK) (v u:av) (hv:aC G (.sl 2 (la.map cK.dat)) v) (hu:aC G (.sl 2 (lb.map cK.dat)) u) :
  Calls prog 42 #[v,u] w0 (cO w0 G fun r G'=>r=vi (Ci la lb)∧G=G'):=by
 refine eN [(0,_),(1,_)] func42 O ntmps42 O O hG ?_;intro a H;refine kP H (SR fun _ K1=>aB K1 O (SQ fun _ K2=>SR fun _ K3=>Rm O ?_));clear H K1;intro a H;refine s_call NM H wn O (MV _ _ H.ro la v hv) O ?_;clear H;rintro v7 _ a w ⟨rfl,rfl⟩ - H;refine kH H (aB K3 O (SR fun _ K4=>Rm O (Rc O (Kz K4 (Cd O ?_ ?_))))) <;> clear H K3 K4
 ·intro h9 a H
  try have p9:=dT h9
  exact kP H (SR fun _ K5=>Rm O (aB K5 O (LR results42 O fun H=>H.rt ⟨by rw [Ci,aJ p9],O⟩)))
 intro h9 a H
 try have p9:=dF h9
 refine kP H (Kc K2 (SR fun _ K6=>Rm O ?_));clear H K2;intro a H;refine s_call NM H wn O (MV _ _ H.ro lb u hu) O ?_;clear H;rintro v12 _ a w ⟨rfl,rfl⟩ - H;exact kH H (aB K6 O (LR results42 O fun H=>H.rt ⟨by rw [Ci,aM (Af.1 p9)],O⟩))
def iW (a b:cK):Int:=min a.weight b.weight
theorem Sj (G:GH) (w0:World) (hG:Hold G w0) (a b:cK):Calls prog 57 #[.agg #[vi a.key,vi a.weight],.agg #[vi b.key,vi b.weight]] w0 (cO w0 G fun u G'=>u=vi (iW a b)∧G=G'):=by
 refine eN [(0,_),(1,_)] func57 O ntmps57 O O hG ?_;intro a H;refine jL (fun _ K1=>?_);refine oo (cs:=[_,_]) H wn O O O ?_;clear H;intro b2 a w hb2 H;refine oo (cs:=[_,_]) H wn O O O ?_;clear H;intro b3 a w hb3 H;refine kH H (aB K1 O (SR fun _ K2=>gH Cx aF 1 O O (gH Cx aF 0 O O ?_)));clear H K1;intro a H;refine DF H wn O O O ?_;clear H;intro a H;exact kH H (aB K2 O (LR results57 O fun H=>H.rt ⟨O,O⟩))
theorem WW (G:GH) (w0:World) (n:Nat) (hO:jS G [] w0) (hn:n<=4294967296):Calls prog 55 #[.slice none 0 0,vi n] w0 (jT w0 G [] fun u G' L'=>G=G'∧bP 60 2 u 0 [] L'):=by
 have hml:4294967297<=maxLen:=by decide
 refine nU (N:=27) (T:=[(0,_),(1,_)]) func55 O ntmps55 O O hO ?_;intro a H;refine kP H (SR fun _ K1=>aB K1 O (SQ fun _ K2=>SR fun _ K3=>Rm O (Rc O (Kz K3 (Cd O ?_ ?_))))) <;> clear H K1 K3
 ·intro h6 a H
  try have p6:=dT h6
  exact absurd p6 V
 intro h6 a H
 try have p6:=dF h6
 refine kP H (Kc K2 (SQ fun _ K4=>SR fun _ K5=>Rm O (Rm O ?_)));clear H K2;intro a H;refine QB bG H wn O O ?_;clear H;intro a H;refine kH H (Rm O (Rl bG O (Rs O (Rs O ?_))));clear H;intro a H;rw [show ((n:Int) - (((0:Nat):Int) - ((0:Nat):Int)))=(n:Int) by omega] at H;refine kH H (aB K5 O (SR fun _ K6=>Rm O (Rc O (Kz K6 (Cd O ?_ ?_))))) <;> clear H K5 K6
 ·intro h16 a H
  try have p16:=dT h16
  refine kP H (SC (Rm O (Rm O ?_)));clear H;intro a H;refine QB bG H wn O O ?_;clear H;intro a H;refine QI bG bO 0 H wn O O O (bD _) O ?_;clear H;intro a H;refine kH H (Rm O ?_);clear H;intro a H;refine aaD bG wW bO O O H wn O O V V V O ?_;clear H;intro oN Uo UY a w IQ hc22 XQ XR H;refine kH H (Rm O (Rl bG O ?_));clear H;intro a H;refine QI bG bO 0 H wn O O O (dU _) O ?_;clear H;intro a H;exact kH H (bS K4 O (SR fun _ K7=>Rm O (aB K7 O (LR results55 O fun H=>H.hp.dO ⟨O,by simp,.inr ⟨oN,Uo,UY,O,O,dU _,XQ,XR,by simp⟩⟩))))
 intro h16 a H
 exact kP H (Kc K4 (SR fun _ K8=>Rm O (aB K8 O (LR results55 O fun H=>H.hp.dO ⟨O,bP.nil⟩))))
def Bw (l:List cK):List Dat:=[.sl 2 (l.map cK.dat)]
theorem RH {G:GH} {S:List (List cK)} {A:Option Addr} {n c i:Nat} (hv:aC G (.sl 1 (S.map Bw)) (.slice A n c)) (hi:i < S.length):∃ b o bA bc,A=some ⟨b,o,none⟩∧aR G b (o+i*1)=some (.slice bA S[i].length bc)∧aC G (.sl 2 (S[i].map cK.dat)) (.slice bA S[i].length bc):=by
 obtain ⟨A',c',he,_,_,hg⟩:=hv.slice
 injection he with e1 e2 e3
 subst e1;obtain ⟨b,o,cs,h1,h2,h3,h4⟩:=hg i (Bw S[i]) (by simp [hi])
 simp only [Bw,aZ] at h4
 obtain ⟨v,_,rfl,h5,rfl⟩:=h4;obtain ⟨bA,bn,bc,rfl⟩:=h5.form;obtain ⟨_,_,I4,-⟩:=h5.slice;obtain ⟨-,hn,-⟩:=Value.slice.inj I4;rw [bN] at hn;subst hn;exact ⟨b,o,bA,bc,h1,h3 0 _ O,h5⟩
theorem Ig {α:Type} {S:List (List α)} {k:Nat} (h:k < S.length):(S.take (k+1)).flatten=(S.take k).flatten++S[k]:=by rw [lZ h,List.flatten_append,List.flatten_cons,List.flatten_nil,mg]
theorem Oa {α:Type} (S:List (List α)) (k:Nat):(S.take k).flatten.length<=S.flatten.length:=by
 have e:=jD List.length (jD List.flatten (List.take_append_drop k S));rw [List.flatten_append,iK] at e;omega
theorem UM (G:GH) (w0:World) (hG:Hold G w0) (S:List (List cK)) (v:av) (hv:aC G (.sl 1 (S.map Bw)) v) (hz:S.flatten.length<=1073741824) :
  Calls prog 43 #[v] w0 (cO w0 G fun u G'=>aC G' (.sl 2 (S.flatten.map cK.dat)) u):=by
 obtain ⟨A,c,rfl,hc1,hc2,-⟩:=hv.slice;have hml:maxLen=9223372036854775807:=rfl;rw [bN] at *;refine eN [(0,_)] func43 O ntmps43 O O hG ?_;intro a H;refine kP H (SR fun _ K1=>aB K1 O (SR fun _ K2=>aB K2 O (SQ fun _ K3=>SR fun _ K4=>Rm O (Rl DV O (Rm O (Kz K4 (SB ?_)))))));clear H K1 K2 K4;intro a H;skip;refine eG (ι:=Nat) (Tc:=[(0,_),(9,_),(10,_)]) (Lc:=[]) (fun gh=>[(3,vi ((S.take gh).flatten.length:Nat)),(11,vi gh)]) (fun gh=>[]) (fun gh=>G) (fun gh=>gh<=S.length) (fun gh=>S.length - gh) (0) (by exact H.sub ⟨O,O,O,O,O,aL⟩) ?_ ?_
 ·exact dU _
 clear H;intro k a w hI H;have hk:k<=S.length:=hI;dsimp only [lca,dB] at H;refine kP H (SR fun _ K5=>Rc O (Kz K5 (SQ fun _ K6=>Cd O ?_ ?_))) <;> clear H K5
 ·intro h12 a H
  try have vJ:=dT h12
  have hk2:k < S.length:=by omega
  obtain ⟨b,o,bA,bc,rfl,g1,g2⟩:=RH hv hk2;have hft:=Oa S (k+1);have hfs:=jD List.length (Ig hk2);rw [iK] at hfs;refine kP H (Kc K6 (SQ fun _ K7=>SB (SR fun _ K8=>Ri DV DT O O (Rg DT O (by assumption) ?_))));clear H K6;intro a H;refine kH H (aB K8 O (SR fun _ K9=>Rm O (Rm O (Rl bG O (Rd O ?_)))));clear H K8;intro a H;rw [show (((S.take k).flatten.length:Nat):Int)+(S[k].length:Int)=(((S.take (k+1)).flatten.length:Nat):Int) by omega] at H;refine kH H (aB K9 O (SR fun _ aP=>Rm O (Rc O (Kz aP (Cd O ?_ ?_))))) <;> clear H K9 aP
  ·intro h20 a H
   try have pq:=dT h20
   exact absurd pq V
  intro h20 a H
  try have pq:=dF h20
  refine kP H (Kc K7 (SC (Rd O (Rm O ?_))));clear H K7;intro a H;refine aj ?_;refine bg ((k+1)) (by exact H.sub ⟨O,O,O,O,O,aL⟩) ?_
  exact hk2
 intro h12 a H
 try have vJ:=dF h12
 refine dD ?_;refine K3 _ _ ?_;clear K3;refine iF (fun _ bH=>?_);rw [show S.take k=S from iU V] at H;refine kP H (SC (Rm O ?_));clear H;intro a H;refine jH VG (Li:=[]) (L:=[]) H wn O (WW _ _ S.flatten.length (Hp.owns (Li:=[]) H.hp) V) O ?_;clear H;rintro v24 _ L8 a w ⟨rfl,zy⟩ aep H;dsimp only [List.nil_append] at H;refine kH H (bS bH O (SQ fun _ bL=>SR fun _ bI=>Rm O (Rl DV O (Rm O (Kz bI (SB ?_))))));clear H bH bI;intro a H;skip;refine eG (ι:=Nat × av × List av × OL) (Tc:=[(25,_),(26,_)]) (Lc:=[]) (fun gh=>[(6,gh.2.1),(27,vi gh.1)]) (fun gh=>[]++gh.2.2.2) (fun gh=>G) (fun gh=>gh.1<=S.length∧bP 60 2 gh.2.1 (S.take gh.1).flatten.length gh.2.2.1 gh.2.2.2∧dK G 2 ((S.take gh.1).flatten.map cK.dat) gh.2.2.1) (fun gh=>S.length - gh.1) ((0,v24,[],L8)) (by exact (H:St _ _ _ _ _ _ ([]++L8) _ _ _).sub ⟨O,O,O,O,aL⟩) ?_ ?_
 ·exact ⟨dU _,zy,dK.nil⟩
 clear H;rintro ⟨j,v,xs,Lo⟩ a w hI H;dsimp only at hI H;obtain ⟨hj,hrw,nG⟩:=hI;dsimp only [lca,dB] at H;refine kP H (SR fun _ cB=>Rc O (Kz cB (SQ fun _ dw=>Cd O ?_ ?_))) <;> clear H cB
 ·intro fU a H
  try have p28:=dT fU
  have hj2:j < S.length:=by omega
  obtain ⟨b,o,bA,bc,rfl,g1,g2⟩:=RH hv hj2;have hft:=Oa S (j+1);have hfs:=jD List.length (Ig hj2);rw [iK] at hfs;refine kP H (Kc dw (SQ fun _ dN=>SB (SR fun _ eP=>Ri DV DT O O (Rg DT O (by assumption) ?_))));clear H dw;intro a H;refine kH H (aB eP O (SC (Rm O (Rm O ?_))));clear H eP;intro a H;refine Qz (Li:=[]) (Lo:=Lo) bG bO O O H wn O O hrw g2 V V O ?_;clear H;intro v33 Tn ZL a w YJ XM H;dsimp only [List.nil_append] at H;refine kH H (bS dN O (SC (Rd O (Rm O ?_))));clear H dN;intro a H;refine aj ?_;refine bg ((j+1,v33,xs++ZL,Tn)) (by exact H.sub ⟨O,O,O,O,aL⟩) ?_
  (try dsimp only);exact ⟨V,by rw [hfs];exact YJ,by rw [Ig hj2,kC];exact nG.append XM⟩
 intro fU a H
 try have p28:=dF fU
 refine dD ?_;refine bL _ _ ?_;clear bL;refine iF (fun _ fM=>?_);obtain ⟨Gr,hmr,hrep,H⟩:=St.ni (Li:=[]) H hrw (rows:=(S.take j).flatten.map cK.dat) (by rw [bN]) nG;rw [show S.take j=S from iU V] at hrep;exact kP H (SC (Rm O (bS fM O (LR results43 O fun H=>H.rt hrep))))
theorem RY:prog.underlying 107=some (.array 2 85):=by kernel_rfl
theorem vQ:Ty prog 85 1 24 [.slice none 0 0] false:=⟨Z,Z⟩
theorem NY:gQ prog 109 1 1:=⟨Z⟩
theorem Ey:gQ prog 109 2 3:=⟨Z⟩
def dS (a b:List cK) (i k:Nat):Int :=
 if hi:i < a.length then
  if hk:k < b.length then
   (if a[i].key=b[k].key∧max (dS a b (i+1) k) (dS a b i (k+1))<=dS a b (i+1) (k+1)+iW a[i] b[k] then dS a b (i+1) (k+1)+iW a[i] b[k] else max (dS a b (i+1) k) (dS a b i (k+1)))
  else dS a b (i+1) k
 else 0
termination_by (a.length - i)+(b.length - k)
theorem pF {a b:List cK} {i k:Nat} (h:¬ i < a.length):dS a b i k=0:=by rw [dS,dif_neg h]
theorem Ki {a b:List cK} {i k:Nat} (h:i < a.length) (hk:¬ k < b.length):dS a b i k=dS a b (i+1) k:=by rw [dS,dif_pos h,dif_neg hk]
theorem uL {a b:List cK} {i k:Nat} (h:i < a.length) (hk:k < b.length):dS a b i k=if a[i].key=b[k].key∧max (dS a b (i+1) k) (dS a b i (k+1))<=dS a b (i+1) (k+1)+iW a[i] b[k] then dS a b (i+1) (k+1)+iW a[i] b[k] else max (dS a b (i+1) k) (dS a b i (k+1)):=by rw [dS,dif_pos h,dif_pos hk]
theorem Bq {a b:List cK} (ha:∀ x∈a,1<=x.weight∧x.weight<=1000) (hb:∀ x∈b,1<=x.weight∧x.weight<=1000):∀ (q i k:Nat),(a.length - i)+(b.length - k)<=q->0<=dS a b i k∧dS a b i k<=1000*((a.length - i:Nat):Int)
 | 0,i,k,h=>by rw [pF V];omega
 | q+1,i,k,h=>by
  by_cases hi:i < a.length
  ·have h1:=Bq ha hb q (i+1) k V
   by_cases hk:k < b.length
   ·rw [uL hi hk];have h2:=Bq ha hb q i (k+1) V;have h3:=Bq ha hb q (i+1) (k+1) V;have h4:=ha _ (dV hi);have h5:=hb _ (dV hk)
    have h6:1<=iW a[i] b[k]∧iW a[i] b[k]<=1000:=by unfold iW;omega
    split <;> omega
   rw [Ki hi hk];omega
  rw [pF hi];omega
abbrev bT (b:Nat) (x y z v:av):Nat × Obj:=(b,.cells #[x,y,z,v] 109 (0,0))
abbrev bY (b:Nat) (X:List av):Nat × Obj:=(b,.cells X.toArray 5 (0,0))
theorem wU {G:GH} {w0:World} {bt cb rb W M s i k:Nat} {x y z:av} {R:List Int} {X:List av} (c score:Int) (hO:jS G [bT bt x y z (vi W),bY cb X,bF rb R] w0) (hs:s < 2) (hc:[x,y,z,vi W][1+s*1]?=some (.slice (some ⟨cb,0,none⟩) M M)) (hk:k < W) (hR:R.length=W) (hX:X.length=M) (hi:i*W+k < M) (hM:M<=10000000) (hW:W<=10000) (hi2:i<=10000) :
  Calls prog 56 #[(aH bt 0),.slice (some ⟨rb,0,none⟩) W W,vi s,vi i,vi k,vi score,.int .u8 c] w0 (jT w0 G [bT bt x y z (vi W),bY cb X,bF rb R] fun u G' L'=>L'=[bT bt x y z (vi W),bY cb (X.set (i*W+k) (.int .u8 c)),bF rb (R.set k score)]):=by
 have hiw:(i:Int)*(W:Int)=((i*W:Nat):Int):=by push_cast;rfl
 refine nU (N:=34) (T:=[(0,_),(1,_),(2,_),(3,_),(4,_),(5,_),(6,_)]) func56 O ntmps56 O O hO ?_;intro a H;refine kP H (SR fun _ K1=>Rm O (Rm O (Rm O ?_)));clear H;intro a H;refine aT bE aF k H wn O O O hk O ?_;clear H;intro a H;refine pz aF 2 (c:=R.map vi) (vs:=[_]) ((R.set k score).map vi) H wn O O O O O O (Eq.mpr Nat.ble_eq (by rw [bN,hR];simp only [List.length_singleton];omega)) (by rw [fC,Nat.mul_one,List.map_set];rfl) ?_;clear H;intro w H;dsimp only [List.set] at H;refine K1 _ _ ?_;clear K1;refine dI gG [[],[],[0],[0,2],ra 0 4,ra 0 5,[],[],[7],[7,8],[7,8,9],ra 6 5,[],ra 6 7,[],ra 0 15,ra 0 16] [16] Z [(aH bt 0),vi s,(aH bt 0),(aH bt 1),(aH bt (0+1+s*1)),.slice (some ⟨cb,0,none⟩) M M,vi i,(aH bt 0),(aH bt 0),(aH bt 3),vi W,vi ((i*W:Nat):Int),vi k,vi (((i*W:Nat):Int)+k),.int .u8 c,(aH cb (0+(i*W+k)*1))] H (aI ?_ ?_ ?_ ?_ (aI ?_ ?_ ?_ ?_ (aI ?_ ?_ ?_ ?_ (aI ?_ ?_ ?_ ?_ (iO (gB O) fQ))))) ?_
 ·intro au a w G1 _ ah hc hG HT hv;have H:=HT;clear ah;have Hb:=H.full;have H:=Hb;clear hc;refine kH H (Rm O ?_);clear H;intro a H;refine aj ⟨O,?_⟩;exact ay HT Hb hG hv (fun _ _ _ _ _ h=>h) H O
 ·intro au a w G1 _ ah hc hG HT hv;have H:=HT;clear ah;have Hb:=H.full;have H:=Hb;clear hc;refine kH H (Rm O ?_);clear H;intro a H;refine aj ⟨O,?_⟩;exact ay HT Hb hG hv (fun _ _ _ _ _ h=>h) H O
 ·intro au a w G1 _ ah hc hG HT hv;have H:=HT;clear ah;have H:=H.ak (hv 0 18 (hc 0 Y) O) O;have Hb:=H.full;have H:=Hb;clear hc;refine kH H (Rk O ?_);clear H;intro a H;refine aj ⟨O,?_⟩;exact ay HT Hb hG hv (fun _ _ _ _ _ h=>h) H O
 ·intro au a w G1 _ ah hc hG HT hv;have H:=HT;clear ah;have H:=H.ak (hv 2 20 (hc 2 Y) O) O;have Hb:=H.full;have H:=Hb;clear hc;refine kH H (Rf NY O ?_);clear H;intro a H;refine aj ⟨O,?_⟩;exact ay HT Hb hG hv (fun _ _ _ _ _ h=>h) H O
 ·intro au a w G1 _ ah hc hG HT hv;have H:=HT;clear ah;have H:=H.ak (hv 3 21 (hc 3 Y) O) O;have H:=H.ak (hv 1 19 (hc 1 Y) O) O;have Hb:=H.full;have H:=Hb;clear hc;refine mU RY vQ s H wn O O O hs O ?_;clear H;intro a H;refine aj ⟨O,?_⟩;exact ay HT Hb hG hv (fun _ _ _ _ _ h=>h) H O
 ·intro au a w G1 _ ah hc hG HT hv;have H:=HT;clear ah;have H:=H.ak (hv 4 22 (hc 4 Y) O) O;have Hb:=H.full;have H:=Hb;clear hc;refine iM vQ H wn O (H.hp.jc 0 O (by rw [fC];simpa using hc)) O ?_;clear H;intro a H;refine aj ⟨O,?_⟩;exact ay HT Hb hG hv (fun _ _ _ _ _ h=>h) H O
 ·intro au a w G1 _ ah hc hG HT hv;have H:=HT;clear ah;have Hb:=H.full;have H:=Hb;clear hc;refine kH H (Rm O ?_);clear H;intro a H;refine aj ⟨O,?_⟩;exact ay HT Hb hG hv (fun _ _ _ _ _ h=>h) H O
 ·intro au a w G1 _ ah hc hG HT hv;have H:=HT;clear ah;have Hb:=H.full;have H:=Hb;clear hc;refine kH H (Rm O ?_);clear H;intro a H;refine aj ⟨O,?_⟩;exact ay HT Hb hG hv (fun _ _ _ _ _ h=>h) H O
 ·intro au a w G1 _ ah hc hG HT hv;have H:=HT;clear ah;have H:=H.ak (hv 7 25 (hc 7 Y) O) O;have Hb:=H.full;have H:=Hb;clear hc;refine kH H (Rk O ?_);clear H;intro a H;refine aj ⟨O,?_⟩;exact ay HT Hb hG hv (fun _ _ _ _ _ h=>h) H O
 ·intro au a w G1 _ ah hc hG HT hv;have H:=HT;clear ah;have H:=H.ak (hv 8 26 (hc 8 Y) O) O;have Hb:=H.full;have H:=Hb;clear hc;refine kH H (Rf Ey O ?_);clear H;intro a H;refine aj ⟨O,?_⟩;exact ay HT Hb hG hv (fun _ _ _ _ _ h=>h) H O
 ·intro au a w G1 _ ah hc hG HT hv;have H:=HT;clear ah;have H:=H.ak (hv 9 27 (hc 9 Y) O) O;have Hb:=H.full;have H:=Hb;clear hc;refine kH H (Ro aF 0 O ?_);clear H;intro a H;refine aj ⟨O,?_⟩;exact ay HT Hb hG hv (fun _ _ _ _ _ h=>h) H O
 ·intro au a w G1 _ ah hc hG HT hv;have H:=HT;clear ah;have H:=H.ak (hv 6 24 (hc 6 Y) O) O;have H:=H.ak (hv 10 28 (hc 10 Y) O) O;have Hb:=H.full;have H:=Hb;clear hc;refine zM ((i*W:Nat):Int) H wn O O hiw V V O ?_;clear H;intro a H;refine aj ⟨O,?_⟩;exact ay HT Hb hG hv (fun _ _ _ _ _ h=>h) H O
 ·intro au a w G1 _ ah hc hG HT hv;have H:=HT;clear ah;have Hb:=H.full;have H:=Hb;clear hc;refine kH H (Rm O ?_);clear H;intro a H;refine aj ⟨O,?_⟩;exact ay HT Hb hG hv (fun _ _ _ _ _ h=>h) H O
 ·intro au a w G1 _ ah hc hG HT hv;have H:=HT;clear ah;have H:=H.ak (hv 11 29 (hc 11 Y) O) O;have H:=H.ak (hv 12 30 (hc 12 Y) O) O;have Hb:=H.full;have H:=Hb;clear hc;refine kH H (Rd O ?_);clear H;intro a H;refine aj ⟨O,?_⟩;exact ay HT Hb hG hv (fun _ _ _ _ _ h=>h) H O
 ·intro au a w G1 _ ah hc hG HT hv;have H:=HT;clear ah;have Hb:=H.full;have H:=Hb;clear hc;refine kH H (Rm O ?_);clear H;intro a H;refine aj ⟨O,?_⟩;exact ay HT Hb hG hv (fun _ _ _ _ _ h=>h) H O
 ·intro au a w G1 _ ah hc hG HT hv;have H:=HT;clear ah;have H:=H.ak (hv 5 23 (hc 5 Y) O) O;have H:=H.ak (hv 13 31 (hc 13 Y) O) O;have Hb:=H.full;have H:=Hb;clear hc;refine aT wX DU (i*W+k) H wn O O V V O ?_;clear H;intro a H;refine aj ⟨O,?_⟩;exact ay HT Hb hG hv (fun _ _ _ _ _ h=>h) H O
 clear H;intro a w G IC H hv;have H:=H.ak (hv 14 32 O O) O;have H:=H.ak (hv 15 33 O O) O;clear hv;refine pz DU 1 (c:=X) (vs:=[_]) (X.set (i*W+k) (.int .u8 c)) H wn O O O O O O (Eq.mpr Nat.ble_eq (by rw [hX];simp only [List.length_singleton];omega)) (by rw [fC,Nat.mul_one];rfl) ?_;clear H;intro w H;dsimp only [List.set] at H;refine aj ⟨O,?_⟩;refine (leave0 H results56 ?_).2;exact H.hp.dO O
section
theorem oG:prog.underlying 129=some (.array 2 46):=by kernel_rfl
theorem wB:bX 56:=cu func56 O
theorem BD:Ty prog 109 4 64 [.int .i64 0,.slice none 0 0,.slice none 0 0,.int .i64 0] true:=⟨Z,Z⟩
theorem abE:qX prog 109 [(0,1),(1,2),(3,1)] [.int .i64 0,.slice none 0 0,.slice none 0 0,.int .i64 0]:=⟨Z,Z⟩
theorem BG:Ty prog 129 2 48 [.slice none 0 0,.slice none 0 0] true:=⟨Z,Z⟩
theorem NP:bX 57:=cu func57 O
theorem rE:gQ prog 60 0 0:=⟨Z⟩
theorem Wy:gQ prog 109 0 0:=⟨Z⟩
def slc (o:Option Nat) (M:Nat):av:=match o with|some b=>.slice (some ⟨b,0,none⟩) M M|none=>.slice none 0 0
abbrev zB (b M:Nat):Nat × Obj:=bY b (List.replicate M (.int .u8 0))
abbrev zR (b W:Nat):Nat × Obj:=(b,.cells (List.replicate W (.int .i64 0)).toArray 3 (0,0))
def Dw (M W:Nat) (bs:List (Nat × Nat × Nat)):OL:=bs.flatMap fun x=>[zB x.1 M,zR x.2.1 W,zR x.2.2 W]
abbrev bA (b:Nat) (x y:av):Nat × Obj:=(b,.cells #[x,y] 129 (0,0))
abbrev fc (b W:Nat):av:=.slice (some ⟨b,0,none⟩) W W
def upd {α:Type} (f:Nat->α) (s:Nat) (v:α):Nat->α:=fun t=>if t=s then v else f t
def wk (C rN qN:Nat->Nat) (X:Nat->List av) (R Q:Nat->List Int):OL:=[bY (C 0) (X 0),bF (rN 0) (R 0),bF (qN 0) (Q 0),bY (C 1) (X 1),bF (rN 1) (R 1),bF (qN 1) (Q 1)]
def mE (C rN qN:Nat->Nat) (X:Nat->List av) (R Q:Nat->List Int) (s:Nat):OL:=[bF (qN s) (Q s),bY (C (1 - s)) (X (1 - s)),bF (rN (1 - s)) (R (1 - s)),bF (qN (1 - s)) (Q (1 - s))]
section
variable {N:Nat} {D:List Deferred} {w0:World} {F:Nat->Prop} {G0 G:GH} {T:List (Nat × av)} {a:Act} {w:World}
variable {C rN qN:Nat->Nat} {X:Nat->List av} {R Q:Nat->List Int} {o p q r:Nat × Obj} {s:Nat}
theorem St.wY (hs:s < 2) (H:St N D w0 F G0 G ([o,p,q,r]++wk C rN qN X R Q) T a w):St N D w0 F G0 G (([o,q,r]++mE C rN qN X R Q s)++[p,bY (C s) (X s),bF (rN s) (R s)]) T a w:=by
 match s,hs with
 | 0,_=>exact H.dR (Pl:=[_,_,_,_,_,_,_,_,_,_]) (dx:=[_,_,_,_,_,_,_,_,_,_]) (Lo:=[]) [0,2,3,6,7,8,9,1,4,5] Y rfl
 | 1,_=>exact H.dR (Pl:=[_,_,_,_,_,_,_,_,_,_]) (dx:=[_,_,_,_,_,_,_,_,_,_]) (Lo:=[]) [0,2,3,9,4,5,6,1,7,8] Y O
theorem St.acU {x:List av} {y:List Int} (hs:s < 2) (H:St N D w0 F G0 G (([o,q,r]++mE C rN qN X R Q s)++[p,bY (C s) x,bF (rN s) y]) T a w):St N D w0 F G0 G ([o,p,q,r]++wk C rN qN (upd X s x) (upd R s y) Q) T a w:=by
 match s,hs with
 | 0,_=>exact H.dR (Pl:=[_,_,_,_,_,_,_,_,_,_]) (dx:=[_,_,_,_,_,_,_,_,_,_]) (Lo:=[]) [0,7,1,2,8,9,3,4,5,6] Y rfl
 | 1,_=>exact H.dR (Pl:=[_,_,_,_,_,_,_,_,_,_]) (dx:=[_,_,_,_,_,_,_,_,_,_]) (Lo:=[]) [0,7,1,2,4,5,6,8,9,3] Y O
theorem St.acV (H:St N D w0 F G0 G ([o,p,q,r]++wk C rN qN X R Q) T a w):St N D w0 F G0 G ([o,p,q,r]++wk C qN rN X Q R) T a w :=
 H.dR (Pl:=[_,_,_,_,_,_,_,_,_,_]) (dx:=[_,_,_,_,_,_,_,_,_,_]) (Lo:=[]) [0,1,2,3,4,6,5,7,9,8] Y O
end
def Cc (f:Nat->Int) (W k:Nat) (R:Nat->List Int):Prop:=∀ t,t < 2->(R t).length=W∧∀ k',k<=k'->k' < W->(R t)[k']?=some (f k')
def tX (f:Nat->Int) (W k s:Nat) (R:Nat->List Int):Prop:=Cc f W (k+1) R∧∀ t,t < s->t < 2->(R t)[k]?=some (f k)
theorem tX.open {f:Nat->Int} {W k:Nat} {R:Nat->List Int} (h:Cc f W (k+1) R):tX f W k 0 R:=⟨h,fun t ht=>absurd ht (Nat.not_lt_zero _)⟩
theorem tX.step {f:Nat->Int} {W k s:Nat} {R:Nat->List Int} {y:Int} (h:tX f W k s R) (hk:k < W) (hy:y=f k):tX f W k (s+1) (upd R s ((R s).set k y)):=by
 refine ⟨fun t ht=>⟨?_,fun k' h1 h2=>?_⟩,fun t ht ht2=>?_⟩
 ·by_cases e:t=s
  ·subst e;simp only [upd,aM];rw [List.length_set];exact (h.1 t ht).1
  simp only [upd,aJ e];exact (h.1 t ht).1
 ·by_cases e:t=s
  ·subst e;simp only [upd,aM];rw [List.getElem?_set_ne V];exact (h.1 t ht).2 k' h1 h2
  simp only [upd,aJ e];exact (h.1 t ht).2 k' h1 h2
 by_cases e:t=s
 ·subst e;simp only [upd,aM];rw [List.getElem?_set_self (by rw [(h.1 t ht2).1];exact hk),hy]
 simp only [upd,aJ e];exact h.2 t V ht2
theorem tX.close {f:Nat->Int} {W k:Nat} {R:Nat->List Int} (h:tX f W k 2 R):Cc f W k R:=fun t ht=>⟨(h.1 t ht).1,fun k' h1 h2=>by
 by_cases e:k'=k
 ·subst e;exact h.2 t ht ht
 exact (h.1 t ht).2 k' V h2⟩
theorem St.wZ {N:Nat} {D:List Deferred} {w0:World} {F:Nat->Prop} {G0 G:GH} {T:List (Nat × av)} {a:Act} {w:World} {C rN qN:Nat->Nat} {X:Nat->List av} {R Q:Nat->List Int} {o p q r:Nat × Obj} {s k W M:Nat} {f:Nat->Int} {x:List av} {y:Int} (hs:s < 2) (hm:tX f W k s R) (hk:k < W) (hX:∀ t,t < 2->(X t).length=M) (hy:y=f k) (hx:x.length=M) (H:St N D w0 F G0 G (([o,q,r]++mE C rN qN X R Q s)++[p,bY (C s) x,bF (rN s) ((R s).set k y)]) T a w) :
  ∃ X4 R4,(∀ t,t < 2->(X4 t).length=M)∧tX f W k (s+1) R4∧St N D w0 F G0 G ([o,p,q,r]++wk C rN qN X4 R4 Q) T a w:=by
 refine ⟨_,_,?_,hm.step hk hy,H.acU hs⟩;intro t ht
 by_cases e:t=s
 ·subst e;simp only [upd,aM];exact hx
 simp only [upd,aJ e];exact hX t ht
def pair (x y:Nat):Nat->Nat:=fun t=>if t=0 then x else y
theorem Zv {c0 r0 q0 c1 r1 q1 M W:Nat}:Dw M W [(c0,r0,q0),(c1,r1,q1)]=wk (pair c0 c1) (pair r0 r1) (pair q0 q1) (fun _=>List.replicate M (.int .u8 0)) (fun _=>List.replicate W 0) (fun _=>List.replicate W 0):=by
 simp [Dw,wk,pair,List.map_replicate]
theorem wV {x:Nat->av} {s:Nat} (hs:s < 2):#[x 0,x 1][0+s*1]?=some (x s):=by
 match s,hs with
 | 0,_=>rfl
 | 1,_=>rfl
theorem wo {u:av} {v:av} {x:Nat->av} {s:Nat} (hs:s < 2):[u,x 0,x 1,v][1+s*1]?=some (x s):=by
 match s,hs with
 | 0,_=>rfl
 | 1,_=>rfl
def ql (iE b7 b8 b9 M W:Nat) (x6:Nat × Obj) (bs:List (Nat × Nat × Nat)) (s4 s7 s9 s11:Bool) (E:Nat × Nat):OL :=
 [zB iE M,x6,bT b7 (vi 0) (slc ((bs++[(iE,0,0)])[0]?.map (·.1)) M) (slc ((bs++[(iE,0,0)])[1]?.map (·.1)) M) (vi W),bA b8 (slc ((if s9 then bs++[(iE,E.1,0)] else bs)[0]?.map (·.2.1)) W) (slc ((if s9 then bs++[(iE,E.1,0)] else bs)[1]?.map (·.2.1)) W),bA b9 (slc ((if s11 then bs++[(iE,0,E.2)] else bs)[0]?.map (·.2.2)) W) (slc ((if s11 then bs++[(iE,0,E.2)] else bs)[1]?.map (·.2.2)) W)]++((if s4 then [zR E.1 W] else [])++((if s7 then [zR E.2 W] else [])++Dw M W bs))
theorem Zo {iE b7 b8 b9 M W x:Nat} {x6:Nat × Obj} {bs:List (Nat × Nat × Nat)} {s7:Bool} {E:Nat × Nat}:(zR x W :: ql iE b7 b8 b9 M W x6 bs false s7 false false E).Perm (ql iE b7 b8 b9 M W x6 bs true s7 false false (x,E.2)):=by
 exact (List.perm_middle (a:=zR x W) (l₁:=[_,_,_,_,_])).symm
theorem Zp {iE b7 b8 b9 M W x:Nat} {x6:Nat × Obj} {bs:List (Nat × Nat × Nat)} {s4 s9:Bool} {E:Nat × Nat}:(zR x W :: ql iE b7 b8 b9 M W x6 bs s4 false s9 false E).Perm (ql iE b7 b8 b9 M W x6 bs s4 true s9 false (E.1,x)):=by
 cases s4
 ·exact (List.perm_middle (a:=zR x W) (l₁:=[_,_,_,_,_])).symm
 exact (List.perm_middle (a:=zR x W) (l₁:=[_,_,_,_,_,_])).symm
theorem abu {bs:List (Nat × Nat × Nat)} {b M W:Nat} (h:bs.length < 2):[vi 0,slc (bs[0]?.map (·.1)) M,slc (bs[1]?.map (·.1)) M,vi W].set (1+bs.length) (fc b M)=[vi 0,slc ((bs++[(b,0,0)])[0]?.map (·.1)) M,slc ((bs++[(b,0,0)])[1]?.map (·.1)) M,vi W]:=by
 match bs,h with
 | [],_=>rfl
 | [_],_=>rfl
theorem abv {bs:List (Nat × Nat × Nat)} {b x W:Nat} (h:bs.length < 2):[slc (bs[0]?.map (·.2.1)) W,slc (bs[1]?.map (·.2.1)) W].set bs.length (fc x W)=[slc ((bs++[(b,x,0)])[0]?.map (·.2.1)) W,slc ((bs++[(b,x,0)])[1]?.map (·.2.1)) W]:=by
 match bs,h with
 | [],_=>rfl
 | [_],_=>rfl
theorem abw {bs:List (Nat × Nat × Nat)} {b x W:Nat} (h:bs.length < 2):[slc (bs[0]?.map (·.2.2)) W,slc (bs[1]?.map (·.2.2)) W].set bs.length (fc x W)=[slc ((bs++[(b,0,x)])[0]?.map (·.2.2)) W,slc ((bs++[(b,0,x)])[1]?.map (·.2.2)) W]:=by
 match bs,h with
 | [],_=>rfl
 | [_],_=>rfl
theorem St.Zq {N:Nat} {D:List Deferred} {w0:World} {F:Nat->Prop} {G0 G:GH} {T:List (Nat × av)} {a:Act} {w:World} {iE b7 b8 b9 M W x y:Nat} {x6:Nat × Obj} {bs:List (Nat × Nat × Nat)} (h:bs.length < 2) (H:St N D w0 F G0 G (ql iE b7 b8 b9 M W x6 bs true true true true (x,y)) T a w) :
  St N D w0 F G0 G ([x6,bT b7 (vi 0) (slc ((bs++[(iE,x,y)])[0]?.map (·.1)) M) (slc ((bs++[(iE,x,y)])[1]?.map (·.1)) M) (vi W),bA b8 (slc ((bs++[(iE,x,y)])[0]?.map (·.2.1)) W) (slc ((bs++[(iE,x,y)])[1]?.map (·.2.1)) W),bA b9 (slc ((bs++[(iE,x,y)])[0]?.map (·.2.2)) W) (slc ((bs++[(iE,x,y)])[1]?.map (·.2.2)) W)]++Dw M W (bs++[(iE,x,y)])) T a w:=by
 match bs,h with
 | [],_=>exact H.dR (Pl:=[_,_,_,_,_,_,_]) (dx:=[_,_,_,_,_,_,_]) (Lo:=[]) [1,2,3,4,0,5,6] Y rfl
 | [_],_=>exact H.dR (Pl:=[_,_,_,_,_,_,_,_,_,_]) (dx:=[_,_,_,_,_,_,_,_,_,_]) (Lo:=[]) [1,2,3,4,7,8,9,0,5,6] Y O
set_option maxHeartbeats 4000000 in
theorem abA (G:GH) (w0:World) (hG:Hold G w0) (la lb:List cK) (v u:av) (hv:aC G (.sl 2 (la.map cK.dat)) v) (hu:aC G (.sl 2 (lb.map cK.dat)) u) (ha:la.length<=2048) (hb:lb.length<=2048) (yu:∀ x∈la,1<=x.weight∧x.weight<=1000) (hwb:∀ x∈lb,1<=x.weight∧x.weight<=1000) :
  Calls prog 44 #[v,u,vi 0] w0 (cO w0 G fun r G'=>∃ x y z,r=.agg #[vi (dS la lb 0 0),x,y,z]):=by
 obtain ⟨vA,vc,rfl,hc1,hc2,-⟩:=hv.slice;obtain ⟨uA,uc,rfl,hd1,hd2,-⟩:=hu.slice;have hml:maxLen=9223372036854775807:=rfl;(iterate 2 rw [bN] at *);obtain ⟨W,hW⟩:∃ W,W=lb.length+1:=⟨_,O⟩;obtain ⟨M,hM⟩:∃ M,M=(la.length+1)*W:=⟨_,O⟩
 have hMb:M<=2049*2049:=by rw [hM];exact Nat.mul_le_mul V V
 refine eN [(0,_),(1,_),(2,_)] func44 O ntmps44 O O hG ?_;intro a H;refine jL (fun _ K1=>?_);refine kE BD H wn O ?_;clear H;intro b6 a w hb6 H;refine K1 _ _ ?_;clear K1;refine kP H (SR fun _ K2=>Rm O (Rl bG O (Rd O ?_)));clear H;intro a H;rw [show ((lb.length:Int)+1)=(W:Int) by omega] at H;refine kF abE [_,_,_,_] H wn O O O O ?_;clear H;intro a H;refine kE BD H wn O ?_;clear H;intro b7 a w hb7 H;refine eO BD 0 (vs:=[_,_,_,_]) H wn O ?_;clear H;intro w H;refine K2 _ _ ?_;clear K2;refine jL (fun _ K3=>?_);refine kE BG H wn O ?_;clear H;intro b8 a w Oy H;refine kE BG H wn O ?_;clear H;intro b9 a w IV H;refine K3 _ _ ?_;clear K3;refine kP H (SQ fun _ K4=>SR fun _ K5=>Rm O (Kz K5 (SB ?_)));clear H K5;intro a H;skip;refine eG (ι:=Nat × List (Nat × Nat × Nat)) (Tc:=[(0,_),(1,_),(2,_),(6,_),(7,_),(8,_),(9,_)]) (Lc:=[(_,_)]) (fun gh=>[(24,vi gh.1)]) (fun gh=>[bT b7 (vi 0) (slc (gh.2[0]?.map (·.1)) M) (slc (gh.2[1]?.map (·.1)) M) (vi W),bA b8 (slc (gh.2[0]?.map (·.2.1)) W) (slc (gh.2[1]?.map (·.2.1)) W),bA b9 (slc (gh.2[0]?.map (·.2.2)) W) (slc (gh.2[1]?.map (·.2.2)) W)]++Dw M W gh.2) (fun gh=>G) (fun gh=>gh.1<=2∧gh.2.length=gh.1) (fun gh=>2 - gh.1) ((0,[])) (by exact (H.dR (Pl:=[_,_,_,_]) (dx:=[_,_,_,_]) (Lo:=[]) [3,2,1,0] Y O).sub ⟨O,O,O,O,O,O,O,O,aL⟩) ?_ ?_
 ·exact ⟨Y,O⟩
 clear H;rintro ⟨s,bs⟩ a w hI H;dsimp only at hI H;obtain ⟨hs,hbs⟩:=hI;dsimp only [lca,dB] at H;refine kP H (SR fun _ K6=>Rc O (Kz K6 (SQ fun _ K7=>Cd O ?_ ?_))) <;> clear H K6
 ·intro iY a H
  try have p25:=dT iY
  refine kP H (Kc K7 (SQ fun _ K8=>SB (SR fun _ K9=>Rm O (aB K9 O (SR fun _ aP=>Rm O (Rm O (Rl bG O (Rd O (gH Ey aF 1 O O ?_)))))))));clear H K7 K9;intro a H;refine zM (M:Int) H wn O O (by rw [hM];push_cast;rfl) V V rfl ?_;clear H;intro a H;refine oq M wX DU H wn O O O V V O ?_;clear H;intro iE a w aeb H;refine kH H (Rf NY O ?_);clear H;intro a H;refine mU RY vQ s H wn O O O V O ?_;clear H;intro a H;refine pz vQ 2 (c:=[vi 0,slc (bs[0]?.map (·.1)) M,slc (bs[1]?.map (·.1)) M,vi W]) (vs:=[_]) [vi 0,slc ((bs++[(iE,0,0)])[0]?.map (·.1)) M,slc ((bs++[(iE,0,0)])[1]?.map (·.1)) M,vi W] H wn rfl rfl rfl rfl rfl rfl (Eq.mpr Nat.ble_eq (by simp only [kI,List.length_nil];omega)) (by rw [fC,Nat.mul_one,<- hbs];exact abu V) ?_;clear H;intro w H;dsimp only [List.set] at H;refine aP _ _ ?_;clear aP;obtain ⟨x6,hx6⟩:∃ x,x=bT b6 (vi 0) (.slice none 0 0) (.slice none 0 0) (vi 0):=⟨_,O⟩;have H:=H.cast (L':=ql iE b7 b8 b9 M W x6 bs false false false false (0,0)) (by rw [hx6];rfl);refine Ue (ε:=Nat × Nat) gG [[],[],[],[2],[2,3],[],[5],[5,6],[0,2,3,4],[0,2,3,4,8],ra 0 10,ra 0 11] Z (fun E i v=>match i with|0=>v=vi s|1=>v=vi s|2=>v=(aH b7 (0+3))|3=>v=vi W|4=>v=fc E.1 W|5=>v=(aH b7 (0+3))|6=>v=vi W|7=>v=fc E.2 W|8=>v=(aH b8 (0+s*1))|10=>v=(aH b9 (0+s*1))|_=>True) (fun S E=>ql iE b7 b8 b9 M W x6 bs (S 4) (S 7) (S 9) (S 11) E) (0,0) H ?_ ?_
  ·clear H;refine aI ?_ ?_ ?_ ?_ (aI ?_ ?_ ?_ ?_ (aI ?_ ?_ ?_ ?_ fQ))
   ·intro S E T1 a w hS hc hd H hV;have H:=H.oK (hV.1 10 _ O);have hV:=hV.add (hV.1 10 _ O);refine kH H (Rm O ?_);clear H;intro a H;exact aj ⟨O,E,_,H,hV.put Z O O (fun _ _ _ h=>h)⟩
   ·intro S E T1 a w hS hc hd H hV;have H:=H.oK (hV.1 10 _ O);have hV:=hV.add (hV.1 10 _ O);refine kH H (Rm O ?_);clear H;intro a H;exact aj ⟨O,E,_,H,hV.put Z O O (fun _ _ _ h=>h)⟩
   ·intro S E T1 a w hS hc hd H hV;have H:=H.oK (hV.1 7 _ O);have hV:=hV.add (hV.1 7 _ O);refine kH H (Rf Ey O ?_);clear H;intro a H;exact aj ⟨O,E,_,H,hV.put Z O O (fun _ _ _ h=>h)⟩
   ·intro S E T1 a w hS hc hd H hV;obtain ⟨u39,OV,rfl⟩:=hV.2 2 39 (hc 2 Y) O;have H:=H.oK OV;have hV:=hV.add OV;refine kH H (Ro aF 2 O ?_);clear H;intro a H;exact aj ⟨O,E,_,H,hV.put Z O O (fun _ _ _ h=>h)⟩
   ·intro S E T1 a w hS hc hd H hV;obtain ⟨u40,OW,rfl⟩:=hV.2 3 40 (hc 3 Y) O;have H:=H.oK OW;have hV:=hV.add OW;have h4:S 4=false:=hS;have h9:S 9=false:=hd 9 Y Y;have h11:S 11=false:=hd 11 Y Y;refine oq W bE aF H wn O O O V V O ?_;clear H;intro Ee a w aec H;rw [h4,h9,h11] at H;have H:=H.perm Zo;have e:ql iE b7 b8 b9 M W x6 bs true (S 7) false false (Ee,E.2)=(fun (S:Nat->Bool) (E:Nat × Nat)=>ql iE b7 b8 b9 M W x6 bs (S 4) (S 7) (S 9) (S 11) E) (fD S 4) (Ee,E.2):=(by show _=ql iE b7 b8 b9 M W x6 bs true (S 7) (S 9) (S 11) (Ee,E.2);rw [h9,h11]);have H:=H.cast e
    exact aj ⟨O,(Ee,E.2),_,H,hV.put Z O O (fun j u hne h=>by
       match j,hne,h with
       | 0,_,h|1,_,h|2,_,h|3,_,h|5,_,h|6,_,h|8,_,h|10,_,h=>exact h
       | 4,hne,h=>first|exact h|exact absurd O hne
       | 7,hne,h=>first|exact h|exact absurd O hne
       | 9,_,h|11,_,h=>exact h
       | _+12,_,h=>exact h)⟩
   ·intro S E T1 a w hS hc hd H hV;have H:=H.oK (hV.1 7 _ O);have hV:=hV.add (hV.1 7 _ O);refine kH H (Rf Ey O ?_);clear H;intro a H;exact aj ⟨O,E,_,H,hV.put Z O O (fun _ _ _ h=>h)⟩
   ·intro S E T1 a w hS hc hd H hV;obtain ⟨u42,OY,rfl⟩:=hV.2 5 42 (hc 5 Y) O;have H:=H.oK OY;have hV:=hV.add OY;refine kH H (Ro aF 2 O ?_);clear H;intro a H;exact aj ⟨O,E,_,H,hV.put Z O O (fun _ _ _ h=>h)⟩
   ·intro S E T1 a w hS hc hd H hV;obtain ⟨u43,OZ,rfl⟩:=hV.2 6 43 (hc 6 Y) O;have H:=H.oK OZ;have hV:=hV.add OZ;have h7:S 7=false:=hS;have h11:S 11=false:=hd 11 Y Y;refine oq W bE aF H wn O O O V V O ?_;clear H;intro Ef a w aed H;rw [h7,h11] at H;have H:=H.perm Zp;have e:ql iE b7 b8 b9 M W x6 bs (S 4) true (S 9) false (E.1,Ef)=(fun (S:Nat->Bool) (E:Nat × Nat)=>ql iE b7 b8 b9 M W x6 bs (S 4) (S 7) (S 9) (S 11) E) (fD S 7) (E.1,Ef):=(by show _=ql iE b7 b8 b9 M W x6 bs (S 4) true (S 9) (S 11) (E.1,Ef);rw [h11]);have H:=H.cast e
    exact aj ⟨O,(E.1,Ef),_,H,hV.put Z O O (fun j u hne h=>by
       match j,hne,h with
       | 0,_,h|1,_,h|2,_,h|3,_,h|5,_,h|6,_,h|8,_,h|10,_,h=>exact h
       | 4,hne,h=>first|exact h|exact absurd O hne
       | 7,hne,h=>first|exact h|exact absurd O hne
       | 9,_,h|11,_,h=>exact h
       | _+12,_,h=>exact h)⟩
   ·intro S E T1 a w hS hc hd H hV;have H:=H.oK (hV.1 8 _ O);have hV:=hV.add (hV.1 8 _ O);obtain ⟨u37,OT,rfl⟩:=hV.2 0 37 (hc 0 Y) O;have H:=H.oK OT;have hV:=hV.add OT;refine mU oG aW s H wn O O O V O ?_;clear H;intro a H;exact aj ⟨O,E,_,H,hV.put Z O O (fun _ _ _ h=>h)⟩
   ·intro S E T1 a w hS hc hd H hV;obtain ⟨u45,O4,rfl⟩:=hV.2 8 45 (hc 8 Y) O;have H:=H.oK O4;have hV:=hV.add O4;obtain ⟨u41,OX,rfl⟩:=hV.2 4 41 (hc 4 Y) O;have H:=H.oK OX;have hV:=hV.add OX;have h9:S 9=false:=hS;rw [h9] at H;refine pz aW 3 (c:=[slc (bs[0]?.map (·.2.1)) W,slc (bs[1]?.map (·.2.1)) W]) (vs:=[_]) [slc ((bs++[(iE,E.1,0)])[0]?.map (·.2.1)) W,slc ((bs++[(iE,E.1,0)])[1]?.map (·.2.1)) W] H wn rfl rfl rfl rfl rfl rfl (Eq.mpr Nat.ble_eq (by simp only [kI,List.length_nil];omega)) (by rw [fC,Nat.mul_one,<- hbs];exact abv V) ?_;clear H;intro w H;exact aj ⟨O,E,_,H,hV.unit O⟩
   ·intro S E T1 a w hS hc hd H hV;have H:=H.oK (hV.1 9 _ O);have hV:=hV.add (hV.1 9 _ O);obtain ⟨u38,OU,rfl⟩:=hV.2 1 38 (hc 1 Y) O;have H:=H.oK OU;have hV:=hV.add OU;refine mU oG aW s H wn O O O V O ?_;clear H;intro a H;exact aj ⟨O,E,_,H,hV.put Z O O (fun _ _ _ h=>h)⟩
   intro S E T1 a w hS hc hd H hV;obtain ⟨u46,O5,rfl⟩:=hV.2 10 46 (hc 10 Y) O;have H:=H.oK O5;have hV:=hV.add O5;obtain ⟨u44,O1,rfl⟩:=hV.2 7 44 (hc 7 Y) O;have H:=H.oK O1;have hV:=hV.add O1;have h11:S 11=false:=hS;rw [h11] at H;refine pz aW 4 (c:=[slc (bs[0]?.map (·.2.2)) W,slc (bs[1]?.map (·.2.2)) W]) (vs:=[_]) [slc ((bs++[(iE,0,E.2)])[0]?.map (·.2.2)) W,slc ((bs++[(iE,0,E.2)])[1]?.map (·.2.2)) W] H wn rfl rfl rfl rfl rfl rfl (Eq.mpr Nat.ble_eq (by simp only [kI,List.length_nil];omega)) (by rw [fC,Nat.mul_one,<- hbs];exact abw V) ?_;clear H;intro w H;exact aj ⟨O,E,_,H,hV.unit O⟩
  clear H;intro S E T1 a w hall H hV;have H:=H.weak (T:=_) hV.1;obtain ⟨br,bq⟩:=E
  have e:ql iE b7 b8 b9 M W x6 bs (S 4) (S 7) (S 9) (S 11) (br,bq)=ql iE b7 b8 b9 M W x6 bs true true true true (br,bq):=by
   rw [hall 4 Y,hall 7 Y,hall 9 Y,hall 11 Y]
  have H:=H.cast e;have H:=H.Zq V;subst hx6;refine K8 _ _ ?_;clear K8;refine kP H (SC (Rd O (Rm O ?_)));clear H;intro a H;refine aj ?_;refine bg ((s+1,bs++[(iE,br,bq)])) (by exact H.sub ⟨O,O,O,O,O,O,O,O,aL⟩) ?_
  (try dsimp only);exact ⟨V,by simp [hbs]⟩
 intro iY a H
 try have p25:=dF iY
 refine dD ?_;refine K4 _ _ ?_;clear K4;refine iF (fun _ bH=>?_);refine iF (fun _ bL=>?_)
 obtain rfl:s=2:=by omega
 obtain ⟨⟨c0,r0,q0⟩,⟨c1,r1,q1⟩,rfl⟩:∃ x y,bs=[x,y]:=by
  match bs,hbs with
  | [x,y],_=>exact ⟨x,y,O⟩
 rw [Zv] at H;have H:St _ _ _ _ _ _ ([_,bT b7 (vi 0) (fc (pair c0 c1 0) M) (fc (pair c0 c1 1) M) (vi W),bA b8 (fc (pair r0 r1 0) W) (fc (pair r0 r1 1) W),bA b9 (fc (pair q0 q1 0) W) (fc (pair q0 q1 1) W)]++wk (pair c0 c1) (pair r0 r1) (pair q0 q1) _ _ _) _ _ _:=H
 generalize pair c0 c1=C at H
 generalize pair r0 r1=rN0 at H
 generalize pair q0 q1=qN0 at H
 have hsb:=fun i k=>Bq yu hwb ((la.length - i)+(lb.length - k)) i k (bD _);refine kP H (SC (Rm O (Rl bG O (bS bL O (SB ?_)))));clear H bL;intro a H;skip;refine eG (ι:=Nat × (Nat->Nat) × (Nat->Nat) × (Nat->List av) × (Nat->List Int) × (Nat->List Int) × GH) (Tc:=[(0,_),(1,_),(2,_),(6,_),(7,_),(8,_),(9,_)]) (Lc:=[(_,_),(_,_)]) (fun gh=>[(11,vi ((gh.1:Int) - 1))]) (fun gh=>[bA b8 (fc (gh.2.1 0) W) (fc (gh.2.1 1) W),bA b9 (fc (gh.2.2.1 0) W) (fc (gh.2.2.1 1) W)]++wk C gh.2.1 gh.2.2.1 gh.2.2.2.1 gh.2.2.2.2.1 gh.2.2.2.2.2.1) (fun gh=>gh.2.2.2.2.2.2) (fun gh=>gh.1<=la.length+1∧(∀ t,t < 2->(gh.2.2.2.1 t).length=M)∧(∀ t,t < 2->(gh.2.2.2.2.1 t).length=W)∧(∀ t,t < 2->(gh.2.2.2.2.2.1 t).length=W)∧(gh.1<=la.length->Cc (dS la lb gh.1) W 0 gh.2.2.2.2.2.1)∧(∀ b o,G b=some o->gh.2.2.2.2.2.2 b=some o)) (fun gh=>gh.1) ((la.length+1,rN0,qN0,fun _=>List.replicate M (.int .u8 0),fun _=>List.replicate W 0,fun _=>List.replicate W 0,G)) (by exact (show St _ _ _ _ _ _ _ ((11,vi (((la.length+1:Nat):Int) - 1)) :: _) _ _ from by rw [show (((la.length+1:Nat):Int) - 1)=(la.length:Int) by omega];exact H).sub ⟨O,O,O,O,O,O,O,O,aL⟩) ?_ ?_
 ·exact ⟨bD _,fun t _=>List.length_replicate ..,fun t _=>List.length_replicate ..,fun t _=>List.length_replicate ..,fun h=>absurd h V,fun _ _ h=>h⟩
 clear H;rintro ⟨j,rN,qN,X,R,Q,g⟩ a w hI H;dsimp only at hI H;obtain ⟨hj,hX,hR,hQ,Oq,hgm⟩:=hI;dsimp only [lca,dB] at H;refine kP H (SQ fun _ bI=>SR fun _ cB=>Rm O (Rc O (Kz cB (Cd O ?_ ?_)))) <;> clear H cB
 ·intro kN a H
  try have p51:=dT kN
  obtain ⟨i,rfl⟩:∃ i,j=i+1:=⟨j - 1,V⟩;rw [show (((i+1:Nat):Int) - 1)=(i:Int) by omega] at H;refine kP H (Kc bI (SQ fun _ dw=>SB (SQ fun _ dN=>SR fun _ eP=>Rm O (Rl bG O (Ra O ?_)))));clear H bI;intro a H;rw [show (lb.length:Int)=((W:Int) - 1) by omega] at H;refine eP _ _ ?_;clear eP;refine xO ?_;skip;refine eG (ι:=Nat × (Nat->List av) × (Nat->List Int) × GH) (Tc:=[(0,_),(1,_),(2,_),(6,_),(7,_),(8,_),(9,_),(11,_)]) (Lc:=[(_,_),(_,_),(_,_),(_,_)]) (fun gh=>[(12,vi ((gh.1:Int) - 1))]) (fun gh=>[]++wk C rN qN gh.2.1 gh.2.2.1 Q) (fun gh=>gh.2.2.2) (fun gh=>gh.1<=W∧(∀ t,t < 2->(gh.2.1 t).length=M)∧Cc (dS la lb i) W gh.1 gh.2.2.1∧(∀ b o,G b=some o->gh.2.2.2 b=some o)) (fun gh=>gh.1) ((W,X,R,g)) (by exact H.sub ⟨O,O,O,O,O,O,O,O,O,aL⟩) ?_ ?_
  ·exact ⟨bD _,hX,fun t ht=>⟨hR t ht,fun k' h1 h2=>absurd h2 V⟩,hgm⟩
  clear H;rintro ⟨q,X2,R2,g2⟩ a w hI H;dsimp only at hI H;obtain ⟨hq,hX2,hR2,eH⟩:=hI;dsimp only [lca,dB] at H;refine kP H (SQ fun _ fM=>SR fun _ fO=>Rm O (Rc O (Kz fO (Cd O ?_ ?_)))) <;> clear H fO
  ·intro h57 a H
   try have p57:=dT h57
   obtain ⟨k,rfl⟩:∃ k,q=k+1:=⟨q - 1,V⟩;rw [show (((k+1:Nat):Int) - 1)=(k:Int) by omega] at H
   have hkW:k < W:=by omega
   refine kP H (Kc fM (SQ fun _ ig=>SB (SR fun _ iq=>Rm O (Kz iq (SB ?_)))));clear H fM iq;intro a H;skip;refine eG (ι:=Nat × (Nat->List av) × (Nat->List Int) × GH) (Tc:=[(0,_),(1,_),(2,_),(6,_),(7,_),(8,_),(9,_),(11,_),(12,_)]) (Lc:=[(_,_),(_,_),(_,_),(_,_)]) (fun gh=>[(60,vi gh.1)]) (fun gh=>[]++wk C rN qN gh.2.1 gh.2.2.1 Q) (fun gh=>gh.2.2.2) (fun gh=>gh.1<=2∧(∀ t,t < 2->(gh.2.1 t).length=M)∧tX (dS la lb i) W k gh.1 gh.2.2.1∧(∀ b o,G b=some o->gh.2.2.2 b=some o)) (fun gh=>2 - gh.1) ((0,X2,R2,g2)) (by exact H.sub ⟨O,O,O,O,O,O,O,O,O,O,aL⟩) ?_ ?_
   ·exact ⟨dU _,hX2,tX.open hR2,eH⟩
   clear H;rintro ⟨s,X3,R3,g3⟩ a w hI H;dsimp only at hI H;obtain ⟨hs,jO,hmid,lT⟩:=hI;dsimp only [lca,dB] at H;refine kP H (SR fun _ gM=>Rc O (Kz gM (SQ fun _ jC=>Cd O ?_ ?_))) <;> clear H gM
   ·intro Ir a H
    try have p61:=dT Ir
    have hs2:s < 2:=by omega
    have wI:i*W+k < M:=by
     have:=Nat.mul_le_mul_right W (show i<=la.length by omega);rw [hM,Nat.succ_mul];omega
    have aeA:=hsb i (k+1);have aeB:=hsb (i+1) k;have aeC:=hsb (i+1) (k+1);refine kP H (Kc jC (SQ fun _ iw=>SB (SR fun _ lu=>Rm O (aB lu O (SR fun _ lX=>Rm O (Rm O (Rs O ?_)))))));clear H jC lu;intro a H;refine zM 0 H wn O O (Int.zero_mul _) Y Y O ?_;clear H;intro a H;refine kH H (aB lX O (SQ fun _ nN=>SR fun _ ji=>Rm O (Rm O (Rl bG O (Rc O (Kz ji (Cd O ?_ ?_))))))) <;> clear H lX ji
    ·intro cZ a H
     try have p70:=dT cZ
     refine kP H (SR fun _ mW=>aB mW O (SQ fun _ mX=>SR fun _ lY=>Rm O (Rm O (Rl bG O (Rc O (Kz lY (Cd O ?_ ?_))))))) <;> clear H mW lY
     ·intro Iw a H
      try have p74:=dT Iw
      refine uf ?_;refine mU oG aW 1 H wn O O O Y O ?_;clear H;intro a H;refine kH H (Ro aW 2 O (Rm O (Rd O ?_)));clear H;intro a H;refine aT bE aF (k+1) H wn O O V V O ?_;clear H;intro a H;refine iM aF H wn O (H.hp.jc 8 O (by rw [fC,Nat.mul_one];exact rF ((hmid.1 1 Y).2 (k+1) (bD _) V))) O ?_;clear H;intro a H;refine kH H (Rm O (Rs O ?_));clear H;intro a H;rw [Int.sub_zero] at H;refine kH H (bS mX O (SR fun _ nO=>Rm O ?_));clear H mX;intro a H;refine mU oG aW s H wn O O O hs2 O ?_;clear H;intro a H;refine iM aW H wn O (H.hp.jc 2 O (wV (x:=fun t=>fc (rN t) W) hs2)) O ?_;clear H;intro a H;refine kH H (Rm O (Rm O (Rm O (Rm O ?_))));clear H;intro a H;have H:=H.wY hs2;refine jH wB (Li:=[_,_,_]++mE C rN qN X3 R3 Q s) (L:=[_,_,_]) H wn O (wU 3 _ (Hp.owns (Li:=[_,_,_]++mE C rN qN X3 R3 Q s) H.hp) hs2 (wo (x:=fun t=>fc (C t) M) hs2) hkW (hmid.1 s hs2).1 (jO s hs2) wI V V V) O ?_;clear H;rintro v90 G4 Tg a w rfl Jh H;have og:∀ b o,G b=some o->G4 b=some o:=fun b o h=>Jh b o (lT b o h)
      obtain ⟨X4,R4,nY,nX,H⟩:=St.wZ hs2 hmid hkW jO (by first
       | exact (pF V).symm
       | (rw [pF (k:=k) V];exact pF V)) (by rw [List.length_set];exact jO s hs2) H
      refine nO _ _ ?_;clear nO;refine dD ?_;refine iw _ _ ?_;clear iw;refine kP H (SC (Rd O (Rm O ?_)));clear H;intro a H;refine aj ?_;refine bg ((s+1,X4,R4,G4)) (by exact H.sub ⟨O,O,O,O,O,O,O,O,O,O,aL⟩) ?_
      (try dsimp only);exact ⟨V,nY,nX,og⟩
     intro Iw a H
     try have p74:=dF Iw
     refine kP H (Kc mX (SR fun _ nP=>Rm O ?_));clear H mX;intro a H;refine mU oG aW s H wn O O O hs2 O ?_;clear H;intro a H;refine iM aW H wn O (H.hp.jc 2 O (wV (x:=fun t=>fc (rN t) W) hs2)) O ?_;clear H;intro a H;refine kH H (Rm O (Rm O (Rm O (Rm O ?_))));clear H;intro a H;have H:=H.wY hs2;refine jH wB (Li:=[_,_,_]++mE C rN qN X3 R3 Q s) (L:=[_,_,_]) H wn O (wU 3 _ (Hp.owns (Li:=[_,_,_]++mE C rN qN X3 R3 Q s) H.hp) hs2 (wo (x:=fun t=>fc (C t) M) hs2) hkW (hmid.1 s hs2).1 (jO s hs2) wI V V V) O ?_;clear H;rintro v90 G4 Tg a w rfl Jh H;have og:∀ b o,G b=some o->G4 b=some o:=fun b o h=>Jh b o (lT b o h)
     obtain ⟨X4,R4,nY,nX,H⟩:=St.wZ hs2 hmid hkW jO (by first
      | exact (pF V).symm
      | (rw [pF (k:=k) V];exact pF V)) (by rw [List.length_set];exact jO s hs2) H
     refine nP _ _ ?_;clear nP;refine dD ?_;refine iw _ _ ?_;clear iw;refine kP H (SC (Rd O (Rm O ?_)));clear H;intro a H;refine aj ?_;refine bg ((s+1,X4,R4,G4)) (by exact H.sub ⟨O,O,O,O,O,O,O,O,O,O,aL⟩) ?_
     (try dsimp only);exact ⟨V,nY,nX,og⟩
    intro cZ a H
    try have p70:=dF cZ
    have hi2:i < la.length:=by omega
    have CK:=Oq V;refine mh ?_;refine nN _ _ ?_;clear nN;refine jL (fun _ lJ=>?_);refine mU oG aW 1 H wn O O O Y O ?_;clear H;intro a H;refine kH H (Ro aW 3 O (Rm O ?_));clear H;intro a H;refine aT bE aF k H wn O O O V O ?_;clear H;intro a H;refine iM aF H wn O (H.hp.jc 9 O (by rw [fC,Nat.mul_one];exact rF ((CK 1 Y).2 k (dU _) hkW))) O ?_;clear H;intro a H;refine kH H (Rm O (Rs O ?_));clear H;intro a H;rw [Int.sub_zero] at H;refine kH H (Ra O (aB lJ O (SQ fun _ ko=>SR fun _ oH=>Rm O (Rm O (Rl bG O (Rc O (Kz oH (Cd O ?_ ?_)))))))) <;> clear H lJ oH
    ·intro AJ a H
     try have P9:=dT AJ
     have hk3:k < lb.length:=by omega
     obtain ⟨mx,aey⟩:∃ mx,mx=max (dS la lb (i+1) k) (dS la lb i (k+1)):=⟨_,O⟩;obtain ⟨ab,ao,rfl,hra⟩:=zT hv hi2;obtain ⟨bb,bo,rfl,hrb⟩:=zT hu hk3
     have hwt:1<=iW la[i] lb[k]∧iW la[i] lb[k]<=1000:=by
      have h4:=yu _ (dV hi2);have h5:=hwb _ (dV hk3)
      unfold iW;omega
     have hra:=fun j v hj=>aK lT (hra j v hj);have hrb:=fun j v hj=>aK lT (hrb j v hj);refine iF (fun _ oI=>?_);refine jL (fun _ qB=>?_);refine mU oG aW 1 H wn O O O Y O ?_;clear H;intro a H;refine kH H (Ro aW 2 O (Rm O (Rd O ?_)));clear H;intro a H;refine aT bE aF (k+1) H wn O O V V O ?_;clear H;intro a H;refine iM aF H wn O (H.hp.jc 8 O (by rw [fC,Nat.mul_one];exact rF ((hmid.1 1 Y).2 (k+1) (bD _) V))) O ?_;clear H;intro a H;refine kH H (Rm O (Rs O ?_));clear H;intro a H;rw [Int.sub_zero] at H;refine kH H (aB qB O (SR fun _ lK=>Rm O (Rm O (Rc O (Kz lK (Cd O ?_ ?_)))))) <;> clear H qB lK
     ·intro h112 a H
      try have ZW:=dT h112
      rw [show dS la lb i (k+1)=mx by omega] at H;refine kP H (SC (Rm O (Ra O (bS oI O (SQ fun _ lM=>?_)))));clear H oI;intro a H;refine dI gG [[],[0],[],[2],ra 0 4,ra 0 5,[],[],[6,7],[6,7,8],[],[],[10,11],[10,11,12],ra 6 8,ra 0 15,ra 0 16] [] Z [(aH b9 (0+0*1)),fc (qN 0) W,vi k,vi ((k:Int)+1),(aH (qN 0) (0+(k+1)*1)),vi (dS la lb (i+1) (k+1)),.slice (some ⟨ab,ao,none⟩) la.length vc,vi i,(aH ab (ao+i*2)),.agg #[vi la[i].key,vi la[i].weight],.slice (some ⟨bb,bo,none⟩) lb.length uc,vi k,(aH bb (bo+k*2)),.agg #[vi lb[k].key,vi lb[k].weight],vi (iW la[i] lb[k]),vi (dS la lb (i+1) (k+1)+iW la[i] lb[k]),vi (dS la lb (i+1) (k+1)+iW la[i] lb[k])] H (aI ?_ ?_ ?_ ?_ (aI ?_ ?_ ?_ ?_ (aI ?_ ?_ ?_ ?_ (aI ?_ ?_ ?_ ?_ (iO ?_ fQ))))) ?_
      ·intro au a w G1 _ ah hc hG HT hv;have H:=HT;clear ah;have Hb:=H.full;have H:=Hb;clear hc;refine mU oG aW 0 H wn O O O Y O ?_;clear H;intro a H;refine aj ⟨O,?_⟩;exact ay HT Hb hG hv (fun _ _ _ _ _ h=>h) H O
      ·intro au a w G1 _ ah hc hG HT hv;have H:=HT;clear ah;have H:=H.ak (hv 0 114 (hc 0 Y) O) O;have Hb:=H.full;have H:=Hb;clear hc;refine kH H (Ro aW 3 O ?_);clear H;intro a H;refine aj ⟨O,?_⟩;exact ay HT Hb hG hv (fun _ _ _ _ _ h=>h) H O
      ·intro au a w G1 _ ah hc hG HT hv;have H:=HT;clear ah;have Hb:=H.full;have H:=Hb;clear hc;refine kH H (Rm O ?_);clear H;intro a H;refine aj ⟨O,?_⟩;exact ay HT Hb hG hv (fun _ _ _ _ _ h=>h) H O
      ·intro au a w G1 _ ah hc hG HT hv;have H:=HT;clear ah;have H:=H.ak (hv 2 116 (hc 2 Y) O) O;have Hb:=H.full;have H:=Hb;clear hc;refine kH H (Rd O ?_);clear H;intro a H;refine aj ⟨O,?_⟩;exact ay HT Hb hG hv (fun _ _ _ _ _ h=>h) H O
      ·intro au a w G1 _ ah hc hG HT hv;have H:=HT;clear ah;have H:=H.ak (hv 1 115 (hc 1 Y) O) O;have H:=H.ak (hv 3 117 (hc 3 Y) O) O;have Hb:=H.full;have H:=Hb;clear hc;refine aT bE aF (k+1) H wn O O V V O ?_;clear H;intro a H;refine aj ⟨O,?_⟩;exact ay HT Hb hG hv (fun _ _ _ _ _ h=>h) H O
      ·intro au a w G1 _ ah hc hG HT hv;have H:=HT;clear ah;have H:=H.ak (hv 4 118 (hc 4 Y) O) O;have Hb:=H.full;have H:=Hb;clear hc;refine iM aF H wn O (H.hp.jc 6 O (by rw [fC,Nat.mul_one];exact rF ((CK 0 Y).2 (k+1) (dU _) V))) O ?_;clear H;intro a H;refine aj ⟨O,?_⟩;exact ay HT Hb hG hv (fun _ _ _ _ _ h=>h) H O
      ·intro au a w G1 _ ah hc hG HT hv;have H:=HT;clear ah;have Hb:=H.full;have H:=Hb;clear hc;refine kH H (Rm O ?_);clear H;intro a H;refine aj ⟨O,?_⟩;exact ay HT Hb hG hv (fun _ _ _ _ _ h=>h) H O
      ·intro au a w G1 _ ah hc hG HT hv;have H:=HT;clear ah;have Hb:=H.full;have H:=Hb;clear hc;refine kH H (Rm O ?_);clear H;intro a H;refine aj ⟨O,?_⟩;exact ay HT Hb hG hv (fun _ _ _ _ _ h=>h) H O
      ·intro au a w G1 _ ah hc hG HT hv;have H:=HT;clear ah;have H:=H.ak (hv 6 120 (hc 6 Y) O) O;have H:=H.ak (hv 7 121 (hc 7 Y) O) O;have Hb:=H.full;have H:=Hb;clear hc;refine kH H (Ri bG bO O O ?_);clear H;intro a H;refine aj ⟨O,?_⟩;exact ay HT Hb hG hv (fun _ _ _ _ _ h=>h) H O
      ·intro au a w G1 _ ah hc hG HT hv;have H:=HT;clear ah;have H:=H.ak (hv 8 122 (hc 8 Y) O) O;have Hb:=H.full;have H:=Hb;clear hc;refine dX bO (cs:=[_,_]) H wn O O (fun j v hj=>H.hp.aR (aK hG (hra j v hj))) O ?_;clear H;intro a H;refine aj ⟨O,?_⟩;exact ay HT Hb hG hv (fun _ _ _ _ _ h=>h) H O
      ·intro au a w G1 _ ah hc hG HT hv;have H:=HT;clear ah;have Hb:=H.full;have H:=Hb;clear hc;refine kH H (Rm O ?_);clear H;intro a H;refine aj ⟨O,?_⟩;exact ay HT Hb hG hv (fun _ _ _ _ _ h=>h) H O
      ·intro au a w G1 _ ah hc hG HT hv;have H:=HT;clear ah;have Hb:=H.full;have H:=Hb;clear hc;refine kH H (Rm O ?_);clear H;intro a H;refine aj ⟨O,?_⟩;exact ay HT Hb hG hv (fun _ _ _ _ _ h=>h) H O
      ·intro au a w G1 _ ah hc hG HT hv;have H:=HT;clear ah;have H:=H.ak (hv 10 124 (hc 10 Y) O) O;have H:=H.ak (hv 11 125 (hc 11 Y) O) O;have Hb:=H.full;have H:=Hb;clear hc;refine kH H (Ri bG bO O O ?_);clear H;intro a H;refine aj ⟨O,?_⟩;exact ay HT Hb hG hv (fun _ _ _ _ _ h=>h) H O
      ·intro au a w G1 _ ah hc hG HT hv;have H:=HT;clear ah;have H:=H.ak (hv 12 126 (hc 12 Y) O) O;have Hb:=H.full;have H:=Hb;clear hc;refine dX bO (cs:=[_,_]) H wn O O (fun j v hj=>H.hp.aR (aK hG (hrb j v hj))) O ?_;clear H;intro a H;refine aj ⟨O,?_⟩;exact ay HT Hb hG hv (fun _ _ _ _ _ h=>h) H O
      ·intro au a w G1 _ ah hc hG HT hv;have H:=HT;clear ah;have H:=H.ak (hv 9 123 (hc 9 Y) O) O;have H:=H.ak (hv 13 127 (hc 13 Y) O) O;have Hb:=H.full;have H:=Hb;clear hc;refine s_call NP H wn O (Sj _ _ H.ro la[i] lb[k]) O ?_;clear H;rintro acK SA a w ⟨rfl,rfl⟩ IE H;refine aj ⟨O,?_⟩;exact jw Z (fun _ _ _ _ _ h=>h) O O HT Hb hG hv IE (rfl) H
      ·intro au a w G1 _ ah hc hG HT hv;have H:=HT;clear ah;have H:=H.ak (hv 5 119 (hc 5 Y) O) O;have H:=H.ak (hv 14 128 (hc 14 Y) O) O;have Hb:=H.full;have H:=Hb;clear hc;refine kH H (Rd O ?_);clear H;intro a H;refine aj ⟨O,?_⟩;exact ay HT Hb hG hv (fun _ _ _ _ _ h=>h) H O
      ·intro au a w G1 _ ah hc hG HT hv;have H:=HT;clear ah;have H:=H.ak (hv 15 129 (hc 15 Y) O) O;have Hb:=H.full;have H:=Hb;clear hc;refine kH H (Ra O ?_);clear H;intro a H;refine aj ⟨O,?_⟩;exact ay HT Hb hG hv (fun _ _ _ _ _ h=>h) H O
      clear H;intro a w G zh H hv;have H:=H.ak (hv 16 19 O O) O;clear hv;refine aj ⟨O,?_⟩;refine lM _ _ ?_;clear lM;refine iF (fun _ pK=>?_);have qh:=fun j v hj=>aK zh (hra j v hj);have zx:=fun j v hj=>aK zh (hrb j v hj);have xZ:=fun b o h=>zh b o (lT b o h)
      by_cases c0:la[i].key=lb[k].key
      ·skip
       by_cases c1:mx<=dS la lb (i+1) (k+1)+iW la[i] lb[k]
       ·skip;refine dI gG [[],[],[0,1],[0,1,2],ra 0 4,[],[],[5,6],[5,6,7],ra 5 4,ra 0 10,ra 0 11,ra 0 12,ra 0 12,ra 0 14,ra 0 15] [] Z [.slice (some ⟨ab,ao,none⟩) la.length vc,vi i,(aH ab (ao+i*2)),(aH ab (ao+i*2+0)),vi la[i].key,.slice (some ⟨bb,bo,none⟩) lb.length uc,vi k,(aH bb (bo+k*2)),(aH bb (bo+k*2+0)),vi lb[k].key,.bool (decide (la[i].key=lb[k].key)),.bool (decide (la[i].key=lb[k].key)),vi (dS la lb (i+1) (k+1)+iW la[i] lb[k]),vi mx,.bool (decide (dS la lb (i+1) (k+1)+iW la[i] lb[k] ≥ mx)),.bool (decide (dS la lb (i+1) (k+1)+iW la[i] lb[k] ≥ mx))] H (aI ?_ ?_ ?_ ?_ (aI ?_ ?_ ?_ ?_ (aI ?_ ?_ ?_ ?_ (aI ?_ ?_ ?_ ?_ fQ)))) ?_
        ·intro au a w G1 _ ah hc hG HT hv;have H:=HT;clear ah;have Hb:=H.full;have H:=Hb;clear hc;refine kH H (Rm O ?_);clear H;intro a H;refine aj ⟨O,?_⟩;exact ay HT Hb hG hv (fun _ _ _ _ _ h=>h) H O
        ·intro au a w G1 _ ah hc hG HT hv;have H:=HT;clear ah;have Hb:=H.full;have H:=Hb;clear hc;refine kH H (Rm O ?_);clear H;intro a H;refine aj ⟨O,?_⟩;exact ay HT Hb hG hv (fun _ _ _ _ _ h=>h) H O
        ·intro au a w G1 _ ah hc hG HT hv;have H:=HT;clear ah;have H:=H.ak (hv 0 130 (hc 0 Y) O) O;have H:=H.ak (hv 1 131 (hc 1 Y) O) O;have Hb:=H.full;have H:=Hb;clear hc;refine kH H (Ri bG bO O O ?_);clear H;intro a H;refine aj ⟨O,?_⟩;exact ay HT Hb hG hv (fun _ _ _ _ _ h=>h) H O
        ·intro au a w G1 _ ah hc hG HT hv;have H:=HT;clear ah;have H:=H.ak (hv 2 132 (hc 2 Y) O) O;have Hb:=H.full;have H:=Hb;clear hc;refine kH H (Rf rE O ?_);clear H;intro a H;refine aj ⟨O,?_⟩;exact ay HT Hb hG hv (fun _ _ _ _ _ h=>h) H O
        ·intro au a w G1 _ ah hc hG HT hv;have H:=HT;clear ah;have H:=H.ak (hv 3 133 (hc 3 Y) O) O;have Hb:=H.full;have H:=Hb;clear hc;refine kH H (Rg aF O (aK hG (qh 0 _ O)) ?_);clear H;intro a H;refine aj ⟨O,?_⟩;exact ay HT Hb hG hv (fun _ _ _ _ _ h=>h) H O
        ·intro au a w G1 _ ah hc hG HT hv;have H:=HT;clear ah;have Hb:=H.full;have H:=Hb;clear hc;refine kH H (Rm O ?_);clear H;intro a H;refine aj ⟨O,?_⟩;exact ay HT Hb hG hv (fun _ _ _ _ _ h=>h) H O
        ·intro au a w G1 _ ah hc hG HT hv;have H:=HT;clear ah;have Hb:=H.full;have H:=Hb;clear hc;refine kH H (Rm O ?_);clear H;intro a H;refine aj ⟨O,?_⟩;exact ay HT Hb hG hv (fun _ _ _ _ _ h=>h) H O
        ·intro au a w G1 _ ah hc hG HT hv;have H:=HT;clear ah;have H:=H.ak (hv 5 135 (hc 5 Y) O) O;have H:=H.ak (hv 6 136 (hc 6 Y) O) O;have Hb:=H.full;have H:=Hb;clear hc;refine kH H (Ri bG bO O O ?_);clear H;intro a H;refine aj ⟨O,?_⟩;exact ay HT Hb hG hv (fun _ _ _ _ _ h=>h) H O
        ·intro au a w G1 _ ah hc hG HT hv;have H:=HT;clear ah;have H:=H.ak (hv 7 137 (hc 7 Y) O) O;have Hb:=H.full;have H:=Hb;clear hc;refine kH H (Rf rE O ?_);clear H;intro a H;refine aj ⟨O,?_⟩;exact ay HT Hb hG hv (fun _ _ _ _ _ h=>h) H O
        ·intro au a w G1 _ ah hc hG HT hv;have H:=HT;clear ah;have H:=H.ak (hv 8 138 (hc 8 Y) O) O;have Hb:=H.full;have H:=Hb;clear hc;refine kH H (Rg aF O (aK hG (zx 0 _ O)) ?_);clear H;intro a H;refine aj ⟨O,?_⟩;exact ay HT Hb hG hv (fun _ _ _ _ _ h=>h) H O
        ·intro au a w G1 _ ah hc hG HT hv;have H:=HT;clear ah;have H:=H.ak (hv 4 134 (hc 4 Y) O) O;have H:=H.ak (hv 9 139 (hc 9 Y) O) O;have Hb:=H.full;have H:=Hb;clear hc;refine kH H (Rc O ?_);clear H;intro a H;refine aj ⟨O,?_⟩;exact ay HT Hb hG hv (fun _ _ _ _ _ h=>h) H O
        ·intro au a w G1 _ ah hc hG HT hv;have H:=HT;clear ah;have H:=H.ak (hv 10 140 (hc 10 Y) O) O;have Hb:=H.full;have H:=Hb;clear hc;refine kH H (Rm O ?_);clear H;intro a H;refine aj ⟨O,?_⟩;exact ay HT Hb hG hv (fun _ _ _ _ _ h=>h) H O
        ·intro au a w G1 _ ah hc hG HT hv;have H:=HT;clear ah;have H:=H.ak (hv 11 141 (hc 11 Y) O) O;have Hb:=H.full;have H:=Hb;clear hc;refine kH H (YM (dz c0) O ?_);clear H;intro a H;refine aj ⟨O,?_⟩;exact ay HT Hb hG hv (fun _ _ _ _ _ h=>h) H O
        ·intro au a w G1 _ ah hc hG HT hv;have H:=HT;clear ah;have H:=H.ak (hv 11 141 (hc 11 Y) O) O;have Hb:=H.full;have H:=Hb;clear hc;refine kH H (YM (dz c0) O ?_);clear H;intro a H;refine aj ⟨O,?_⟩;exact ay HT Hb hG hv (fun _ _ _ _ _ h=>h) H O
        ·intro au a w G1 _ ah hc hG HT hv;have H:=HT;clear ah;have H:=H.ak (hv 12 142 (hc 12 Y) O) O;have H:=H.ak (hv 13 143 (hc 13 Y) O) O;have H:=H.ak (hv 11 141 (hc 11 Y) O) O;have Hb:=H.full;have H:=Hb;clear hc;refine kH H (YC (dz c0) O ?_);clear H;intro a H;refine aj ⟨O,?_⟩;exact ay HT Hb hG hv (fun _ _ _ _ _ h=>h) H O
        ·intro au a w G1 _ ah hc hG HT hv;have H:=HT;clear ah;have H:=H.ak (hv 11 141 (hc 11 Y) O) O;have H:=H.ak (hv 14 144 (hc 14 Y) O) O;have Hb:=H.full;have H:=Hb;clear hc;refine kH H (Pt (dz c0) O ?_);clear H;intro a H;refine aj ⟨O,?_⟩;exact ay HT Hb hG hv (fun _ _ _ _ _ h=>h) H O
        clear H;intro a w G sK H hv;have H:=H.ak (hv 15 145 O O) O;clear hv;refine aj ⟨O,?_⟩;refine pK _ _ ?_;clear pK;refine Cj H O (dz c1) ?_;refine kP H (SC (Rm O (Ra O (bS ko O ?_))));clear H ko;intro a H
        first|(have mO:=fun b o h=>sK b o (xZ b o h))|(have mO:=lT)
        refine kP H (SC (Rm O ?_));clear H;intro a H;refine mU oG aW s H wn O O O hs2 O ?_;clear H;intro a H;refine iM aW H wn O (H.hp.jc 2 O (wV (x:=fun t=>fc (rN t) W) hs2)) O ?_;clear H;intro a H;refine kH H (Rm O (Rm O (Rm O (Rm O (Rm O ?_)))));clear H;intro a H;have H:=H.wY hs2;refine jH wB (Li:=[_,_,_]++mE C rN qN X3 R3 Q s) (L:=[_,_,_]) H wn O (wU _ _ (Hp.owns (Li:=[_,_,_]++mE C rN qN X3 R3 Q s) H.hp) hs2 (wo (x:=fun t=>fc (C t) M) hs2) hkW (hmid.1 s hs2).1 (jO s hs2) wI V V V) O ?_;clear H;rintro BI G4 zX a w rfl rJ H;have og:=fun b o h=>rJ b o (mO b o h)
        obtain ⟨X4,R4,nY,nX,H⟩:=St.wZ hs2 hmid hkW jO (by first|omega|(rw [uL hi2 hk3];split <;> omega)) (by rw [List.length_set];exact jO s hs2) H
        refine kH H (Kn iw (SC (Rd O (Rm O ?_))));clear H iw;intro a H;refine aj ?_;refine bg ((s+1,X4,R4,G4)) (by exact H.sub ⟨O,O,O,O,O,O,O,O,O,O,aL⟩) ?_
        (try dsimp only);exact ⟨V,nY,nX,og⟩
       skip;refine dI gG [[],[],[0,1],[0,1,2],ra 0 4,[],[],[5,6],[5,6,7],ra 5 4,ra 0 10,ra 0 11,ra 0 12,ra 0 12,ra 0 14,ra 0 15] [] Z [.slice (some ⟨ab,ao,none⟩) la.length vc,vi i,(aH ab (ao+i*2)),(aH ab (ao+i*2+0)),vi la[i].key,.slice (some ⟨bb,bo,none⟩) lb.length uc,vi k,(aH bb (bo+k*2)),(aH bb (bo+k*2+0)),vi lb[k].key,.bool (decide (la[i].key=lb[k].key)),.bool (decide (la[i].key=lb[k].key)),vi (dS la lb (i+1) (k+1)+iW la[i] lb[k]),vi mx,.bool (decide (dS la lb (i+1) (k+1)+iW la[i] lb[k] ≥ mx)),.bool (decide (dS la lb (i+1) (k+1)+iW la[i] lb[k] ≥ mx))] H (aI ?_ ?_ ?_ ?_ (aI ?_ ?_ ?_ ?_ (aI ?_ ?_ ?_ ?_ (aI ?_ ?_ ?_ ?_ fQ)))) ?_
       ·intro au a w G1 _ ah hc hG HT hv;have H:=HT;clear ah;have Hb:=H.full;have H:=Hb;clear hc;refine kH H (Rm O ?_);clear H;intro a H;refine aj ⟨O,?_⟩;exact ay HT Hb hG hv (fun _ _ _ _ _ h=>h) H O
       ·intro au a w G1 _ ah hc hG HT hv;have H:=HT;clear ah;have Hb:=H.full;have H:=Hb;clear hc;refine kH H (Rm O ?_);clear H;intro a H;refine aj ⟨O,?_⟩;exact ay HT Hb hG hv (fun _ _ _ _ _ h=>h) H O
       ·intro au a w G1 _ ah hc hG HT hv;have H:=HT;clear ah;have H:=H.ak (hv 0 130 (hc 0 Y) O) O;have H:=H.ak (hv 1 131 (hc 1 Y) O) O;have Hb:=H.full;have H:=Hb;clear hc;refine kH H (Ri bG bO O O ?_);clear H;intro a H;refine aj ⟨O,?_⟩;exact ay HT Hb hG hv (fun _ _ _ _ _ h=>h) H O
       ·intro au a w G1 _ ah hc hG HT hv;have H:=HT;clear ah;have H:=H.ak (hv 2 132 (hc 2 Y) O) O;have Hb:=H.full;have H:=Hb;clear hc;refine kH H (Rf rE O ?_);clear H;intro a H;refine aj ⟨O,?_⟩;exact ay HT Hb hG hv (fun _ _ _ _ _ h=>h) H O
       ·intro au a w G1 _ ah hc hG HT hv;have H:=HT;clear ah;have H:=H.ak (hv 3 133 (hc 3 Y) O) O;have Hb:=H.full;have H:=Hb;clear hc;refine kH H (Rg aF O (aK hG (qh 0 _ O)) ?_);clear H;intro a H;refine aj ⟨O,?_⟩;exact ay HT Hb hG hv (fun _ _ _ _ _ h=>h) H O
       ·intro au a w G1 _ ah hc hG HT hv;have H:=HT;clear ah;have Hb:=H.full;have H:=Hb;clear hc;refine kH H (Rm O ?_);clear H;intro a H;refine aj ⟨O,?_⟩;exact ay HT Hb hG hv (fun _ _ _ _ _ h=>h) H O
       ·intro au a w G1 _ ah hc hG HT hv;have H:=HT;clear ah;have Hb:=H.full;have H:=Hb;clear hc;refine kH H (Rm O ?_);clear H;intro a H;refine aj ⟨O,?_⟩;exact ay HT Hb hG hv (fun _ _ _ _ _ h=>h) H O
       ·intro au a w G1 _ ah hc hG HT hv;have H:=HT;clear ah;have H:=H.ak (hv 5 135 (hc 5 Y) O) O;have H:=H.ak (hv 6 136 (hc 6 Y) O) O;have Hb:=H.full;have H:=Hb;clear hc;refine kH H (Ri bG bO O O ?_);clear H;intro a H;refine aj ⟨O,?_⟩;exact ay HT Hb hG hv (fun _ _ _ _ _ h=>h) H O
       ·intro au a w G1 _ ah hc hG HT hv;have H:=HT;clear ah;have H:=H.ak (hv 7 137 (hc 7 Y) O) O;have Hb:=H.full;have H:=Hb;clear hc;refine kH H (Rf rE O ?_);clear H;intro a H;refine aj ⟨O,?_⟩;exact ay HT Hb hG hv (fun _ _ _ _ _ h=>h) H O
       ·intro au a w G1 _ ah hc hG HT hv;have H:=HT;clear ah;have H:=H.ak (hv 8 138 (hc 8 Y) O) O;have Hb:=H.full;have H:=Hb;clear hc;refine kH H (Rg aF O (aK hG (zx 0 _ O)) ?_);clear H;intro a H;refine aj ⟨O,?_⟩;exact ay HT Hb hG hv (fun _ _ _ _ _ h=>h) H O
       ·intro au a w G1 _ ah hc hG HT hv;have H:=HT;clear ah;have H:=H.ak (hv 4 134 (hc 4 Y) O) O;have H:=H.ak (hv 9 139 (hc 9 Y) O) O;have Hb:=H.full;have H:=Hb;clear hc;refine kH H (Rc O ?_);clear H;intro a H;refine aj ⟨O,?_⟩;exact ay HT Hb hG hv (fun _ _ _ _ _ h=>h) H O
       ·intro au a w G1 _ ah hc hG HT hv;have H:=HT;clear ah;have H:=H.ak (hv 10 140 (hc 10 Y) O) O;have Hb:=H.full;have H:=Hb;clear hc;refine kH H (Rm O ?_);clear H;intro a H;refine aj ⟨O,?_⟩;exact ay HT Hb hG hv (fun _ _ _ _ _ h=>h) H O
       ·intro au a w G1 _ ah hc hG HT hv;have H:=HT;clear ah;have H:=H.ak (hv 11 141 (hc 11 Y) O) O;have Hb:=H.full;have H:=Hb;clear hc;refine kH H (YM (dz c0) O ?_);clear H;intro a H;refine aj ⟨O,?_⟩;exact ay HT Hb hG hv (fun _ _ _ _ _ h=>h) H O
       ·intro au a w G1 _ ah hc hG HT hv;have H:=HT;clear ah;have H:=H.ak (hv 11 141 (hc 11 Y) O) O;have Hb:=H.full;have H:=Hb;clear hc;refine kH H (YM (dz c0) O ?_);clear H;intro a H;refine aj ⟨O,?_⟩;exact ay HT Hb hG hv (fun _ _ _ _ _ h=>h) H O
       ·intro au a w G1 _ ah hc hG HT hv;have H:=HT;clear ah;have H:=H.ak (hv 12 142 (hc 12 Y) O) O;have H:=H.ak (hv 13 143 (hc 13 Y) O) O;have H:=H.ak (hv 11 141 (hc 11 Y) O) O;have Hb:=H.full;have H:=Hb;clear hc;refine kH H (YC (dz c0) O ?_);clear H;intro a H;refine aj ⟨O,?_⟩;exact ay HT Hb hG hv (fun _ _ _ _ _ h=>h) H O
       ·intro au a w G1 _ ah hc hG HT hv;have H:=HT;clear ah;have H:=H.ak (hv 11 141 (hc 11 Y) O) O;have H:=H.ak (hv 14 144 (hc 14 Y) O) O;have Hb:=H.full;have H:=Hb;clear hc;refine kH H (Pt (dz c0) O ?_);clear H;intro a H;refine aj ⟨O,?_⟩;exact ay HT Hb hG hv (fun _ _ _ _ _ h=>h) H O
       clear H;intro a w G sK H hv;have H:=H.ak (hv 15 145 O O) O;clear hv;refine aj ⟨O,?_⟩;refine pK _ _ ?_;clear pK;refine sH H O (fu c1) ?_;refine mh ?_;refine ko _ _ ?_;clear ko
       first|(have mO:=fun b o h=>sK b o (xZ b o h))|(have mO:=lT)
       refine kP H (SC (Rm O ?_));clear H;intro a H;refine mU oG aW s H wn O O O hs2 O ?_;clear H;intro a H;refine iM aW H wn O (H.hp.jc 2 O (wV (x:=fun t=>fc (rN t) W) hs2)) O ?_;clear H;intro a H;refine kH H (Rm O (Rm O (Rm O (Rm O (Rm O ?_)))));clear H;intro a H;have H:=H.wY hs2;refine jH wB (Li:=[_,_,_]++mE C rN qN X3 R3 Q s) (L:=[_,_,_]) H wn O (wU _ _ (Hp.owns (Li:=[_,_,_]++mE C rN qN X3 R3 Q s) H.hp) hs2 (wo (x:=fun t=>fc (C t) M) hs2) hkW (hmid.1 s hs2).1 (jO s hs2) wI V V V) O ?_;clear H;rintro BI G4 zX a w rfl rJ H;have og:=fun b o h=>rJ b o (mO b o h)
       obtain ⟨X4,R4,nY,nX,H⟩:=St.wZ hs2 hmid hkW jO (by first|omega|(rw [uL hi2 hk3];split <;> omega)) (by rw [List.length_set];exact jO s hs2) H
       refine kH H (Kn iw (SC (Rd O (Rm O ?_))));clear H iw;intro a H;refine aj ?_;refine bg ((s+1,X4,R4,G4)) (by exact H.sub ⟨O,O,O,O,O,O,O,O,O,O,aL⟩) ?_
       (try dsimp only);exact ⟨V,nY,nX,og⟩
      skip;refine dI gG [[],[],[0,1],[0,1,2],ra 0 4,[],[],[5,6],[5,6,7],ra 5 4,ra 0 10,ra 0 11,ra 0 12,ra 0 12,ra 0 14,ra 0 15] [] Z [.slice (some ⟨ab,ao,none⟩) la.length vc,vi i,(aH ab (ao+i*2)),(aH ab (ao+i*2+0)),vi la[i].key,.slice (some ⟨bb,bo,none⟩) lb.length uc,vi k,(aH bb (bo+k*2)),(aH bb (bo+k*2+0)),vi lb[k].key,.bool (decide (la[i].key=lb[k].key)),.bool (decide (la[i].key=lb[k].key)),undef,undef,undef,.bool false] H (aI ?_ ?_ ?_ ?_ (aI ?_ ?_ ?_ ?_ (aI ?_ ?_ ?_ ?_ (aI (gP 11 (fu c0) O O) (gP 11 (fu c0) O O) (gP 11 (fu c0) O O) ?_ fQ)))) ?_
      ·intro au a w G1 _ ah hc hG HT hv;have H:=HT;clear ah;have Hb:=H.full;have H:=Hb;clear hc;refine kH H (Rm O ?_);clear H;intro a H;refine aj ⟨O,?_⟩;exact ay HT Hb hG hv (fun _ _ _ _ _ h=>h) H O
      ·intro au a w G1 _ ah hc hG HT hv;have H:=HT;clear ah;have Hb:=H.full;have H:=Hb;clear hc;refine kH H (Rm O ?_);clear H;intro a H;refine aj ⟨O,?_⟩;exact ay HT Hb hG hv (fun _ _ _ _ _ h=>h) H O
      ·intro au a w G1 _ ah hc hG HT hv;have H:=HT;clear ah;have H:=H.ak (hv 0 130 (hc 0 Y) O) O;have H:=H.ak (hv 1 131 (hc 1 Y) O) O;have Hb:=H.full;have H:=Hb;clear hc;refine kH H (Ri bG bO O O ?_);clear H;intro a H;refine aj ⟨O,?_⟩;exact ay HT Hb hG hv (fun _ _ _ _ _ h=>h) H O
      ·intro au a w G1 _ ah hc hG HT hv;have H:=HT;clear ah;have H:=H.ak (hv 2 132 (hc 2 Y) O) O;have Hb:=H.full;have H:=Hb;clear hc;refine kH H (Rf rE O ?_);clear H;intro a H;refine aj ⟨O,?_⟩;exact ay HT Hb hG hv (fun _ _ _ _ _ h=>h) H O
      ·intro au a w G1 _ ah hc hG HT hv;have H:=HT;clear ah;have H:=H.ak (hv 3 133 (hc 3 Y) O) O;have Hb:=H.full;have H:=Hb;clear hc;refine kH H (Rg aF O (aK hG (qh 0 _ O)) ?_);clear H;intro a H;refine aj ⟨O,?_⟩;exact ay HT Hb hG hv (fun _ _ _ _ _ h=>h) H O
      ·intro au a w G1 _ ah hc hG HT hv;have H:=HT;clear ah;have Hb:=H.full;have H:=Hb;clear hc;refine kH H (Rm O ?_);clear H;intro a H;refine aj ⟨O,?_⟩;exact ay HT Hb hG hv (fun _ _ _ _ _ h=>h) H O
      ·intro au a w G1 _ ah hc hG HT hv;have H:=HT;clear ah;have Hb:=H.full;have H:=Hb;clear hc;refine kH H (Rm O ?_);clear H;intro a H;refine aj ⟨O,?_⟩;exact ay HT Hb hG hv (fun _ _ _ _ _ h=>h) H O
      ·intro au a w G1 _ ah hc hG HT hv;have H:=HT;clear ah;have H:=H.ak (hv 5 135 (hc 5 Y) O) O;have H:=H.ak (hv 6 136 (hc 6 Y) O) O;have Hb:=H.full;have H:=Hb;clear hc;refine kH H (Ri bG bO O O ?_);clear H;intro a H;refine aj ⟨O,?_⟩;exact ay HT Hb hG hv (fun _ _ _ _ _ h=>h) H O
      ·intro au a w G1 _ ah hc hG HT hv;have H:=HT;clear ah;have H:=H.ak (hv 7 137 (hc 7 Y) O) O;have Hb:=H.full;have H:=Hb;clear hc;refine kH H (Rf rE O ?_);clear H;intro a H;refine aj ⟨O,?_⟩;exact ay HT Hb hG hv (fun _ _ _ _ _ h=>h) H O
      ·intro au a w G1 _ ah hc hG HT hv;have H:=HT;clear ah;have H:=H.ak (hv 8 138 (hc 8 Y) O) O;have Hb:=H.full;have H:=Hb;clear hc;refine kH H (Rg aF O (aK hG (zx 0 _ O)) ?_);clear H;intro a H;refine aj ⟨O,?_⟩;exact ay HT Hb hG hv (fun _ _ _ _ _ h=>h) H O
      ·intro au a w G1 _ ah hc hG HT hv;have H:=HT;clear ah;have H:=H.ak (hv 4 134 (hc 4 Y) O) O;have H:=H.ak (hv 9 139 (hc 9 Y) O) O;have Hb:=H.full;have H:=Hb;clear hc;refine kH H (Rc O ?_);clear H;intro a H;refine aj ⟨O,?_⟩;exact ay HT Hb hG hv (fun _ _ _ _ _ h=>h) H O
      ·intro au a w G1 _ ah hc hG HT hv;have H:=HT;clear ah;have H:=H.ak (hv 10 140 (hc 10 Y) O) O;have Hb:=H.full;have H:=Hb;clear hc;refine kH H (Rm O ?_);clear H;intro a H;refine aj ⟨O,?_⟩;exact ay HT Hb hG hv (fun _ _ _ _ _ h=>h) H O
      ·intro au a w G1 _ ah hc hG HT hv;have H:=HT;clear ah;have H:=H.ak (hv 11 141 (hc 11 Y) O) O;have H:=H.ak (hv 14 144 (hc 14 Y) O) O;have Hb:=H.full;have H:=Hb;clear hc;refine kH H (Pf (fu c0) O ?_);clear H;intro a H;refine aj ⟨O,?_⟩;exact ay HT Hb hG hv (fun _ _ _ _ _ h=>h) H O
      clear H;intro a w G sK H hv;have H:=H.ak (hv 15 145 O O) O;clear hv;refine aj ⟨O,?_⟩;refine pK _ _ ?_;clear pK;refine sH H O O ?_;refine mh ?_;refine ko _ _ ?_;clear ko
      first|(have mO:=fun b o h=>sK b o (xZ b o h))|(have mO:=lT)
      refine kP H (SC (Rm O ?_));clear H;intro a H;refine mU oG aW s H wn O O O hs2 O ?_;clear H;intro a H;refine iM aW H wn O (H.hp.jc 2 O (wV (x:=fun t=>fc (rN t) W) hs2)) O ?_;clear H;intro a H;refine kH H (Rm O (Rm O (Rm O (Rm O (Rm O ?_)))));clear H;intro a H;have H:=H.wY hs2;refine jH wB (Li:=[_,_,_]++mE C rN qN X3 R3 Q s) (L:=[_,_,_]) H wn O (wU _ _ (Hp.owns (Li:=[_,_,_]++mE C rN qN X3 R3 Q s) H.hp) hs2 (wo (x:=fun t=>fc (C t) M) hs2) hkW (hmid.1 s hs2).1 (jO s hs2) wI V V V) O ?_;clear H;rintro BI G4 zX a w rfl rJ H;have og:=fun b o h=>rJ b o (mO b o h)
      obtain ⟨X4,R4,nY,nX,H⟩:=St.wZ hs2 hmid hkW jO (by first|omega|(rw [uL hi2 hk3];split <;> omega)) (by rw [List.length_set];exact jO s hs2) H
      refine kH H (Kn iw (SC (Rd O (Rm O ?_))));clear H iw;intro a H;refine aj ?_;refine bg ((s+1,X4,R4,G4)) (by exact H.sub ⟨O,O,O,O,O,O,O,O,O,O,aL⟩) ?_
      (try dsimp only);exact ⟨V,nY,nX,og⟩
     intro h112 a H
     try have ZW:=dF h112
     rw [show dS la lb (i+1) k=mx by omega] at H;refine mh ?_;refine oI _ _ ?_;clear oI;refine iF (fun _ tJ=>?_);refine dI gG [[],[0],[],[2],ra 0 4,ra 0 5,[],[],[6,7],[6,7,8],[],[],[10,11],[10,11,12],ra 6 8,ra 0 15,ra 0 16] [] Z [(aH b9 (0+0*1)),fc (qN 0) W,vi k,vi ((k:Int)+1),(aH (qN 0) (0+(k+1)*1)),vi (dS la lb (i+1) (k+1)),.slice (some ⟨ab,ao,none⟩) la.length vc,vi i,(aH ab (ao+i*2)),.agg #[vi la[i].key,vi la[i].weight],.slice (some ⟨bb,bo,none⟩) lb.length uc,vi k,(aH bb (bo+k*2)),.agg #[vi lb[k].key,vi lb[k].weight],vi (iW la[i] lb[k]),vi (dS la lb (i+1) (k+1)+iW la[i] lb[k]),vi (dS la lb (i+1) (k+1)+iW la[i] lb[k])] H (aI ?_ ?_ ?_ ?_ (aI ?_ ?_ ?_ ?_ (aI ?_ ?_ ?_ ?_ (aI ?_ ?_ ?_ ?_ (iO ?_ fQ))))) ?_
     ·intro au a w G1 _ ah hc hG HT hv;have H:=HT;clear ah;have Hb:=H.full;have H:=Hb;clear hc;refine mU oG aW 0 H wn O O O Y O ?_;clear H;intro a H;refine aj ⟨O,?_⟩;exact ay HT Hb hG hv (fun _ _ _ _ _ h=>h) H O
     ·intro au a w G1 _ ah hc hG HT hv;have H:=HT;clear ah;have H:=H.ak (hv 0 114 (hc 0 Y) O) O;have Hb:=H.full;have H:=Hb;clear hc;refine kH H (Ro aW 3 O ?_);clear H;intro a H;refine aj ⟨O,?_⟩;exact ay HT Hb hG hv (fun _ _ _ _ _ h=>h) H O
     ·intro au a w G1 _ ah hc hG HT hv;have H:=HT;clear ah;have Hb:=H.full;have H:=Hb;clear hc;refine kH H (Rm O ?_);clear H;intro a H;refine aj ⟨O,?_⟩;exact ay HT Hb hG hv (fun _ _ _ _ _ h=>h) H O
     ·intro au a w G1 _ ah hc hG HT hv;have H:=HT;clear ah;have H:=H.ak (hv 2 116 (hc 2 Y) O) O;have Hb:=H.full;have H:=Hb;clear hc;refine kH H (Rd O ?_);clear H;intro a H;refine aj ⟨O,?_⟩;exact ay HT Hb hG hv (fun _ _ _ _ _ h=>h) H O
     ·intro au a w G1 _ ah hc hG HT hv;have H:=HT;clear ah;have H:=H.ak (hv 1 115 (hc 1 Y) O) O;have H:=H.ak (hv 3 117 (hc 3 Y) O) O;have Hb:=H.full;have H:=Hb;clear hc;refine aT bE aF (k+1) H wn O O V V O ?_;clear H;intro a H;refine aj ⟨O,?_⟩;exact ay HT Hb hG hv (fun _ _ _ _ _ h=>h) H O
     ·intro au a w G1 _ ah hc hG HT hv;have H:=HT;clear ah;have H:=H.ak (hv 4 118 (hc 4 Y) O) O;have Hb:=H.full;have H:=Hb;clear hc;refine iM aF H wn O (H.hp.jc 6 O (by rw [fC,Nat.mul_one];exact rF ((CK 0 Y).2 (k+1) (dU _) V))) O ?_;clear H;intro a H;refine aj ⟨O,?_⟩;exact ay HT Hb hG hv (fun _ _ _ _ _ h=>h) H O
     ·intro au a w G1 _ ah hc hG HT hv;have H:=HT;clear ah;have Hb:=H.full;have H:=Hb;clear hc;refine kH H (Rm O ?_);clear H;intro a H;refine aj ⟨O,?_⟩;exact ay HT Hb hG hv (fun _ _ _ _ _ h=>h) H O
     ·intro au a w G1 _ ah hc hG HT hv;have H:=HT;clear ah;have Hb:=H.full;have H:=Hb;clear hc;refine kH H (Rm O ?_);clear H;intro a H;refine aj ⟨O,?_⟩;exact ay HT Hb hG hv (fun _ _ _ _ _ h=>h) H O
     ·intro au a w G1 _ ah hc hG HT hv;have H:=HT;clear ah;have H:=H.ak (hv 6 120 (hc 6 Y) O) O;have H:=H.ak (hv 7 121 (hc 7 Y) O) O;have Hb:=H.full;have H:=Hb;clear hc;refine kH H (Ri bG bO O O ?_);clear H;intro a H;refine aj ⟨O,?_⟩;exact ay HT Hb hG hv (fun _ _ _ _ _ h=>h) H O
     ·intro au a w G1 _ ah hc hG HT hv;have H:=HT;clear ah;have H:=H.ak (hv 8 122 (hc 8 Y) O) O;have Hb:=H.full;have H:=Hb;clear hc;refine dX bO (cs:=[_,_]) H wn O O (fun j v hj=>H.hp.aR (aK hG (hra j v hj))) O ?_;clear H;intro a H;refine aj ⟨O,?_⟩;exact ay HT Hb hG hv (fun _ _ _ _ _ h=>h) H O
     ·intro au a w G1 _ ah hc hG HT hv;have H:=HT;clear ah;have Hb:=H.full;have H:=Hb;clear hc;refine kH H (Rm O ?_);clear H;intro a H;refine aj ⟨O,?_⟩;exact ay HT Hb hG hv (fun _ _ _ _ _ h=>h) H O
     ·intro au a w G1 _ ah hc hG HT hv;have H:=HT;clear ah;have Hb:=H.full;have H:=Hb;clear hc;refine kH H (Rm O ?_);clear H;intro a H;refine aj ⟨O,?_⟩;exact ay HT Hb hG hv (fun _ _ _ _ _ h=>h) H O
     ·intro au a w G1 _ ah hc hG HT hv;have H:=HT;clear ah;have H:=H.ak (hv 10 124 (hc 10 Y) O) O;have H:=H.ak (hv 11 125 (hc 11 Y) O) O;have Hb:=H.full;have H:=Hb;clear hc;refine kH H (Ri bG bO O O ?_);clear H;intro a H;refine aj ⟨O,?_⟩;exact ay HT Hb hG hv (fun _ _ _ _ _ h=>h) H O
     ·intro au a w G1 _ ah hc hG HT hv;have H:=HT;clear ah;have H:=H.ak (hv 12 126 (hc 12 Y) O) O;have Hb:=H.full;have H:=Hb;clear hc;refine dX bO (cs:=[_,_]) H wn O O (fun j v hj=>H.hp.aR (aK hG (hrb j v hj))) O ?_;clear H;intro a H;refine aj ⟨O,?_⟩;exact ay HT Hb hG hv (fun _ _ _ _ _ h=>h) H O
     ·intro au a w G1 _ ah hc hG HT hv;have H:=HT;clear ah;have H:=H.ak (hv 9 123 (hc 9 Y) O) O;have H:=H.ak (hv 13 127 (hc 13 Y) O) O;have Hb:=H.full;have H:=Hb;clear hc;refine s_call NP H wn O (Sj _ _ H.ro la[i] lb[k]) O ?_;clear H;rintro acK SA a w ⟨rfl,rfl⟩ IE H;refine aj ⟨O,?_⟩;exact jw Z (fun _ _ _ _ _ h=>h) O O HT Hb hG hv IE (rfl) H
     ·intro au a w G1 _ ah hc hG HT hv;have H:=HT;clear ah;have H:=H.ak (hv 5 119 (hc 5 Y) O) O;have H:=H.ak (hv 14 128 (hc 14 Y) O) O;have Hb:=H.full;have H:=Hb;clear hc;refine kH H (Rd O ?_);clear H;intro a H;refine aj ⟨O,?_⟩;exact ay HT Hb hG hv (fun _ _ _ _ _ h=>h) H O
     ·intro au a w G1 _ ah hc hG HT hv;have H:=HT;clear ah;have H:=H.ak (hv 15 129 (hc 15 Y) O) O;have Hb:=H.full;have H:=Hb;clear hc;refine kH H (Ra O ?_);clear H;intro a H;refine aj ⟨O,?_⟩;exact ay HT Hb hG hv (fun _ _ _ _ _ h=>h) H O
     clear H;intro a w G zh H hv;have H:=H.ak (hv 16 19 O O) O;clear hv;refine aj ⟨O,?_⟩;refine tJ _ _ ?_;clear tJ;refine iF (fun _ pO=>?_);have qh:=fun j v hj=>aK zh (hra j v hj);have zx:=fun j v hj=>aK zh (hrb j v hj);have xZ:=fun b o h=>zh b o (lT b o h)
     by_cases c0:la[i].key=lb[k].key
     ·skip
      by_cases c1:mx<=dS la lb (i+1) (k+1)+iW la[i] lb[k]
      ·skip;refine dI gG [[],[],[0,1],[0,1,2],ra 0 4,[],[],[5,6],[5,6,7],ra 5 4,ra 0 10,ra 0 11,ra 0 12,ra 0 12,ra 0 14,ra 0 15] [] Z [.slice (some ⟨ab,ao,none⟩) la.length vc,vi i,(aH ab (ao+i*2)),(aH ab (ao+i*2+0)),vi la[i].key,.slice (some ⟨bb,bo,none⟩) lb.length uc,vi k,(aH bb (bo+k*2)),(aH bb (bo+k*2+0)),vi lb[k].key,.bool (decide (la[i].key=lb[k].key)),.bool (decide (la[i].key=lb[k].key)),vi (dS la lb (i+1) (k+1)+iW la[i] lb[k]),vi mx,.bool (decide (dS la lb (i+1) (k+1)+iW la[i] lb[k] ≥ mx)),.bool (decide (dS la lb (i+1) (k+1)+iW la[i] lb[k] ≥ mx))] H (aI ?_ ?_ ?_ ?_ (aI ?_ ?_ ?_ ?_ (aI ?_ ?_ ?_ ?_ (aI ?_ ?_ ?_ ?_ fQ)))) ?_
       ·intro au a w G1 _ ah hc hG HT hv;have H:=HT;clear ah;have Hb:=H.full;have H:=Hb;clear hc;refine kH H (Rm O ?_);clear H;intro a H;refine aj ⟨O,?_⟩;exact ay HT Hb hG hv (fun _ _ _ _ _ h=>h) H O
       ·intro au a w G1 _ ah hc hG HT hv;have H:=HT;clear ah;have Hb:=H.full;have H:=Hb;clear hc;refine kH H (Rm O ?_);clear H;intro a H;refine aj ⟨O,?_⟩;exact ay HT Hb hG hv (fun _ _ _ _ _ h=>h) H O
       ·intro au a w G1 _ ah hc hG HT hv;have H:=HT;clear ah;have H:=H.ak (hv 0 130 (hc 0 Y) O) O;have H:=H.ak (hv 1 131 (hc 1 Y) O) O;have Hb:=H.full;have H:=Hb;clear hc;refine kH H (Ri bG bO O O ?_);clear H;intro a H;refine aj ⟨O,?_⟩;exact ay HT Hb hG hv (fun _ _ _ _ _ h=>h) H O
       ·intro au a w G1 _ ah hc hG HT hv;have H:=HT;clear ah;have H:=H.ak (hv 2 132 (hc 2 Y) O) O;have Hb:=H.full;have H:=Hb;clear hc;refine kH H (Rf rE O ?_);clear H;intro a H;refine aj ⟨O,?_⟩;exact ay HT Hb hG hv (fun _ _ _ _ _ h=>h) H O
       ·intro au a w G1 _ ah hc hG HT hv;have H:=HT;clear ah;have H:=H.ak (hv 3 133 (hc 3 Y) O) O;have Hb:=H.full;have H:=Hb;clear hc;refine kH H (Rg aF O (aK hG (qh 0 _ O)) ?_);clear H;intro a H;refine aj ⟨O,?_⟩;exact ay HT Hb hG hv (fun _ _ _ _ _ h=>h) H O
       ·intro au a w G1 _ ah hc hG HT hv;have H:=HT;clear ah;have Hb:=H.full;have H:=Hb;clear hc;refine kH H (Rm O ?_);clear H;intro a H;refine aj ⟨O,?_⟩;exact ay HT Hb hG hv (fun _ _ _ _ _ h=>h) H O
       ·intro au a w G1 _ ah hc hG HT hv;have H:=HT;clear ah;have Hb:=H.full;have H:=Hb;clear hc;refine kH H (Rm O ?_);clear H;intro a H;refine aj ⟨O,?_⟩;exact ay HT Hb hG hv (fun _ _ _ _ _ h=>h) H O
       ·intro au a w G1 _ ah hc hG HT hv;have H:=HT;clear ah;have H:=H.ak (hv 5 135 (hc 5 Y) O) O;have H:=H.ak (hv 6 136 (hc 6 Y) O) O;have Hb:=H.full;have H:=Hb;clear hc;refine kH H (Ri bG bO O O ?_);clear H;intro a H;refine aj ⟨O,?_⟩;exact ay HT Hb hG hv (fun _ _ _ _ _ h=>h) H O
       ·intro au a w G1 _ ah hc hG HT hv;have H:=HT;clear ah;have H:=H.ak (hv 7 137 (hc 7 Y) O) O;have Hb:=H.full;have H:=Hb;clear hc;refine kH H (Rf rE O ?_);clear H;intro a H;refine aj ⟨O,?_⟩;exact ay HT Hb hG hv (fun _ _ _ _ _ h=>h) H O
       ·intro au a w G1 _ ah hc hG HT hv;have H:=HT;clear ah;have H:=H.ak (hv 8 138 (hc 8 Y) O) O;have Hb:=H.full;have H:=Hb;clear hc;refine kH H (Rg aF O (aK hG (zx 0 _ O)) ?_);clear H;intro a H;refine aj ⟨O,?_⟩;exact ay HT Hb hG hv (fun _ _ _ _ _ h=>h) H O
       ·intro au a w G1 _ ah hc hG HT hv;have H:=HT;clear ah;have H:=H.ak (hv 4 134 (hc 4 Y) O) O;have H:=H.ak (hv 9 139 (hc 9 Y) O) O;have Hb:=H.full;have H:=Hb;clear hc;refine kH H (Rc O ?_);clear H;intro a H;refine aj ⟨O,?_⟩;exact ay HT Hb hG hv (fun _ _ _ _ _ h=>h) H O
       ·intro au a w G1 _ ah hc hG HT hv;have H:=HT;clear ah;have H:=H.ak (hv 10 140 (hc 10 Y) O) O;have Hb:=H.full;have H:=Hb;clear hc;refine kH H (Rm O ?_);clear H;intro a H;refine aj ⟨O,?_⟩;exact ay HT Hb hG hv (fun _ _ _ _ _ h=>h) H O
       ·intro au a w G1 _ ah hc hG HT hv;have H:=HT;clear ah;have H:=H.ak (hv 11 141 (hc 11 Y) O) O;have Hb:=H.full;have H:=Hb;clear hc;refine kH H (YM (dz c0) O ?_);clear H;intro a H;refine aj ⟨O,?_⟩;exact ay HT Hb hG hv (fun _ _ _ _ _ h=>h) H O
       ·intro au a w G1 _ ah hc hG HT hv;have H:=HT;clear ah;have H:=H.ak (hv 11 141 (hc 11 Y) O) O;have Hb:=H.full;have H:=Hb;clear hc;refine kH H (YM (dz c0) O ?_);clear H;intro a H;refine aj ⟨O,?_⟩;exact ay HT Hb hG hv (fun _ _ _ _ _ h=>h) H O
       ·intro au a w G1 _ ah hc hG HT hv;have H:=HT;clear ah;have H:=H.ak (hv 12 142 (hc 12 Y) O) O;have H:=H.ak (hv 13 143 (hc 13 Y) O) O;have H:=H.ak (hv 11 141 (hc 11 Y) O) O;have Hb:=H.full;have H:=Hb;clear hc;refine kH H (YC (dz c0) O ?_);clear H;intro a H;refine aj ⟨O,?_⟩;exact ay HT Hb hG hv (fun _ _ _ _ _ h=>h) H O
       ·intro au a w G1 _ ah hc hG HT hv;have H:=HT;clear ah;have H:=H.ak (hv 11 141 (hc 11 Y) O) O;have H:=H.ak (hv 14 144 (hc 14 Y) O) O;have Hb:=H.full;have H:=Hb;clear hc;refine kH H (Pt (dz c0) O ?_);clear H;intro a H;refine aj ⟨O,?_⟩;exact ay HT Hb hG hv (fun _ _ _ _ _ h=>h) H O
       clear H;intro a w G sK H hv;have H:=H.ak (hv 15 145 O O) O;clear hv;refine aj ⟨O,?_⟩;refine pO _ _ ?_;clear pO;refine Cj H O (dz c1) ?_;refine kP H (SC (Rm O (Ra O (bS ko O ?_))));clear H ko;intro a H
       first|(have mO:=fun b o h=>sK b o (xZ b o h))|(have mO:=lT)
       refine kP H (SC (Rm O ?_));clear H;intro a H;refine mU oG aW s H wn O O O hs2 O ?_;clear H;intro a H;refine iM aW H wn O (H.hp.jc 2 O (wV (x:=fun t=>fc (rN t) W) hs2)) O ?_;clear H;intro a H;refine kH H (Rm O (Rm O (Rm O (Rm O (Rm O ?_)))));clear H;intro a H;have H:=H.wY hs2;refine jH wB (Li:=[_,_,_]++mE C rN qN X3 R3 Q s) (L:=[_,_,_]) H wn O (wU _ _ (Hp.owns (Li:=[_,_,_]++mE C rN qN X3 R3 Q s) H.hp) hs2 (wo (x:=fun t=>fc (C t) M) hs2) hkW (hmid.1 s hs2).1 (jO s hs2) wI V V V) O ?_;clear H;rintro BI G4 zX a w rfl rJ H;have og:=fun b o h=>rJ b o (mO b o h)
       obtain ⟨X4,R4,nY,nX,H⟩:=St.wZ hs2 hmid hkW jO (by first|omega|(rw [uL hi2 hk3];split <;> omega)) (by rw [List.length_set];exact jO s hs2) H
       refine kH H (Kn iw (SC (Rd O (Rm O ?_))));clear H iw;intro a H;refine aj ?_;refine bg ((s+1,X4,R4,G4)) (by exact H.sub ⟨O,O,O,O,O,O,O,O,O,O,aL⟩) ?_
       (try dsimp only);exact ⟨V,nY,nX,og⟩
      skip;refine dI gG [[],[],[0,1],[0,1,2],ra 0 4,[],[],[5,6],[5,6,7],ra 5 4,ra 0 10,ra 0 11,ra 0 12,ra 0 12,ra 0 14,ra 0 15] [] Z [.slice (some ⟨ab,ao,none⟩) la.length vc,vi i,(aH ab (ao+i*2)),(aH ab (ao+i*2+0)),vi la[i].key,.slice (some ⟨bb,bo,none⟩) lb.length uc,vi k,(aH bb (bo+k*2)),(aH bb (bo+k*2+0)),vi lb[k].key,.bool (decide (la[i].key=lb[k].key)),.bool (decide (la[i].key=lb[k].key)),vi (dS la lb (i+1) (k+1)+iW la[i] lb[k]),vi mx,.bool (decide (dS la lb (i+1) (k+1)+iW la[i] lb[k] ≥ mx)),.bool (decide (dS la lb (i+1) (k+1)+iW la[i] lb[k] ≥ mx))] H (aI ?_ ?_ ?_ ?_ (aI ?_ ?_ ?_ ?_ (aI ?_ ?_ ?_ ?_ (aI ?_ ?_ ?_ ?_ fQ)))) ?_
      ·intro au a w G1 _ ah hc hG HT hv;have H:=HT;clear ah;have Hb:=H.full;have H:=Hb;clear hc;refine kH H (Rm O ?_);clear H;intro a H;refine aj ⟨O,?_⟩;exact ay HT Hb hG hv (fun _ _ _ _ _ h=>h) H O
      ·intro au a w G1 _ ah hc hG HT hv;have H:=HT;clear ah;have Hb:=H.full;have H:=Hb;clear hc;refine kH H (Rm O ?_);clear H;intro a H;refine aj ⟨O,?_⟩;exact ay HT Hb hG hv (fun _ _ _ _ _ h=>h) H O
      ·intro au a w G1 _ ah hc hG HT hv;have H:=HT;clear ah;have H:=H.ak (hv 0 130 (hc 0 Y) O) O;have H:=H.ak (hv 1 131 (hc 1 Y) O) O;have Hb:=H.full;have H:=Hb;clear hc;refine kH H (Ri bG bO O O ?_);clear H;intro a H;refine aj ⟨O,?_⟩;exact ay HT Hb hG hv (fun _ _ _ _ _ h=>h) H O
      ·intro au a w G1 _ ah hc hG HT hv;have H:=HT;clear ah;have H:=H.ak (hv 2 132 (hc 2 Y) O) O;have Hb:=H.full;have H:=Hb;clear hc;refine kH H (Rf rE O ?_);clear H;intro a H;refine aj ⟨O,?_⟩;exact ay HT Hb hG hv (fun _ _ _ _ _ h=>h) H O
      ·intro au a w G1 _ ah hc hG HT hv;have H:=HT;clear ah;have H:=H.ak (hv 3 133 (hc 3 Y) O) O;have Hb:=H.full;have H:=Hb;clear hc;refine kH H (Rg aF O (aK hG (qh 0 _ O)) ?_);clear H;intro a H;refine aj ⟨O,?_⟩;exact ay HT Hb hG hv (fun _ _ _ _ _ h=>h) H O
      ·intro au a w G1 _ ah hc hG HT hv;have H:=HT;clear ah;have Hb:=H.full;have H:=Hb;clear hc;refine kH H (Rm O ?_);clear H;intro a H;refine aj ⟨O,?_⟩;exact ay HT Hb hG hv (fun _ _ _ _ _ h=>h) H O
      ·intro au a w G1 _ ah hc hG HT hv;have H:=HT;clear ah;have Hb:=H.full;have H:=Hb;clear hc;refine kH H (Rm O ?_);clear H;intro a H;refine aj ⟨O,?_⟩;exact ay HT Hb hG hv (fun _ _ _ _ _ h=>h) H O
      ·intro au a w G1 _ ah hc hG HT hv;have H:=HT;clear ah;have H:=H.ak (hv 5 135 (hc 5 Y) O) O;have H:=H.ak (hv 6 136 (hc 6 Y) O) O;have Hb:=H.full;have H:=Hb;clear hc;refine kH H (Ri bG bO O O ?_);clear H;intro a H;refine aj ⟨O,?_⟩;exact ay HT Hb hG hv (fun _ _ _ _ _ h=>h) H O
      ·intro au a w G1 _ ah hc hG HT hv;have H:=HT;clear ah;have H:=H.ak (hv 7 137 (hc 7 Y) O) O;have Hb:=H.full;have H:=Hb;clear hc;refine kH H (Rf rE O ?_);clear H;intro a H;refine aj ⟨O,?_⟩;exact ay HT Hb hG hv (fun _ _ _ _ _ h=>h) H O
      ·intro au a w G1 _ ah hc hG HT hv;have H:=HT;clear ah;have H:=H.ak (hv 8 138 (hc 8 Y) O) O;have Hb:=H.full;have H:=Hb;clear hc;refine kH H (Rg aF O (aK hG (zx 0 _ O)) ?_);clear H;intro a H;refine aj ⟨O,?_⟩;exact ay HT Hb hG hv (fun _ _ _ _ _ h=>h) H O
      ·intro au a w G1 _ ah hc hG HT hv;have H:=HT;clear ah;have H:=H.ak (hv 4 134 (hc 4 Y) O) O;have H:=H.ak (hv 9 139 (hc 9 Y) O) O;have Hb:=H.full;have H:=Hb;clear hc;refine kH H (Rc O ?_);clear H;intro a H;refine aj ⟨O,?_⟩;exact ay HT Hb hG hv (fun _ _ _ _ _ h=>h) H O
      ·intro au a w G1 _ ah hc hG HT hv;have H:=HT;clear ah;have H:=H.ak (hv 10 140 (hc 10 Y) O) O;have Hb:=H.full;have H:=Hb;clear hc;refine kH H (Rm O ?_);clear H;intro a H;refine aj ⟨O,?_⟩;exact ay HT Hb hG hv (fun _ _ _ _ _ h=>h) H O
      ·intro au a w G1 _ ah hc hG HT hv;have H:=HT;clear ah;have H:=H.ak (hv 11 141 (hc 11 Y) O) O;have Hb:=H.full;have H:=Hb;clear hc;refine kH H (YM (dz c0) O ?_);clear H;intro a H;refine aj ⟨O,?_⟩;exact ay HT Hb hG hv (fun _ _ _ _ _ h=>h) H O
      ·intro au a w G1 _ ah hc hG HT hv;have H:=HT;clear ah;have H:=H.ak (hv 11 141 (hc 11 Y) O) O;have Hb:=H.full;have H:=Hb;clear hc;refine kH H (YM (dz c0) O ?_);clear H;intro a H;refine aj ⟨O,?_⟩;exact ay HT Hb hG hv (fun _ _ _ _ _ h=>h) H O
      ·intro au a w G1 _ ah hc hG HT hv;have H:=HT;clear ah;have H:=H.ak (hv 12 142 (hc 12 Y) O) O;have H:=H.ak (hv 13 143 (hc 13 Y) O) O;have H:=H.ak (hv 11 141 (hc 11 Y) O) O;have Hb:=H.full;have H:=Hb;clear hc;refine kH H (YC (dz c0) O ?_);clear H;intro a H;refine aj ⟨O,?_⟩;exact ay HT Hb hG hv (fun _ _ _ _ _ h=>h) H O
      ·intro au a w G1 _ ah hc hG HT hv;have H:=HT;clear ah;have H:=H.ak (hv 11 141 (hc 11 Y) O) O;have H:=H.ak (hv 14 144 (hc 14 Y) O) O;have Hb:=H.full;have H:=Hb;clear hc;refine kH H (Pt (dz c0) O ?_);clear H;intro a H;refine aj ⟨O,?_⟩;exact ay HT Hb hG hv (fun _ _ _ _ _ h=>h) H O
      clear H;intro a w G sK H hv;have H:=H.ak (hv 15 145 O O) O;clear hv;refine aj ⟨O,?_⟩;refine pO _ _ ?_;clear pO;refine sH H O (fu c1) ?_;refine mh ?_;refine ko _ _ ?_;clear ko
      first|(have mO:=fun b o h=>sK b o (xZ b o h))|(have mO:=lT)
      refine kP H (SC (Rm O ?_));clear H;intro a H;refine mU oG aW s H wn O O O hs2 O ?_;clear H;intro a H;refine iM aW H wn O (H.hp.jc 2 O (wV (x:=fun t=>fc (rN t) W) hs2)) O ?_;clear H;intro a H;refine kH H (Rm O (Rm O (Rm O (Rm O (Rm O ?_)))));clear H;intro a H;have H:=H.wY hs2;refine jH wB (Li:=[_,_,_]++mE C rN qN X3 R3 Q s) (L:=[_,_,_]) H wn O (wU _ _ (Hp.owns (Li:=[_,_,_]++mE C rN qN X3 R3 Q s) H.hp) hs2 (wo (x:=fun t=>fc (C t) M) hs2) hkW (hmid.1 s hs2).1 (jO s hs2) wI V V V) O ?_;clear H;rintro BI G4 zX a w rfl rJ H;have og:=fun b o h=>rJ b o (mO b o h)
      obtain ⟨X4,R4,nY,nX,H⟩:=St.wZ hs2 hmid hkW jO (by first|omega|(rw [uL hi2 hk3];split <;> omega)) (by rw [List.length_set];exact jO s hs2) H
      refine kH H (Kn iw (SC (Rd O (Rm O ?_))));clear H iw;intro a H;refine aj ?_;refine bg ((s+1,X4,R4,G4)) (by exact H.sub ⟨O,O,O,O,O,O,O,O,O,O,aL⟩) ?_
      (try dsimp only);exact ⟨V,nY,nX,og⟩
     skip;refine dI gG [[],[],[0,1],[0,1,2],ra 0 4,[],[],[5,6],[5,6,7],ra 5 4,ra 0 10,ra 0 11,ra 0 12,ra 0 12,ra 0 14,ra 0 15] [] Z [.slice (some ⟨ab,ao,none⟩) la.length vc,vi i,(aH ab (ao+i*2)),(aH ab (ao+i*2+0)),vi la[i].key,.slice (some ⟨bb,bo,none⟩) lb.length uc,vi k,(aH bb (bo+k*2)),(aH bb (bo+k*2+0)),vi lb[k].key,.bool (decide (la[i].key=lb[k].key)),.bool (decide (la[i].key=lb[k].key)),undef,undef,undef,.bool false] H (aI ?_ ?_ ?_ ?_ (aI ?_ ?_ ?_ ?_ (aI ?_ ?_ ?_ ?_ (aI (gP 11 (fu c0) O O) (gP 11 (fu c0) O O) (gP 11 (fu c0) O O) ?_ fQ)))) ?_
     ·intro au a w G1 _ ah hc hG HT hv;have H:=HT;clear ah;have Hb:=H.full;have H:=Hb;clear hc;refine kH H (Rm O ?_);clear H;intro a H;refine aj ⟨O,?_⟩;exact ay HT Hb hG hv (fun _ _ _ _ _ h=>h) H O
     ·intro au a w G1 _ ah hc hG HT hv;have H:=HT;clear ah;have Hb:=H.full;have H:=Hb;clear hc;refine kH H (Rm O ?_);clear H;intro a H;refine aj ⟨O,?_⟩;exact ay HT Hb hG hv (fun _ _ _ _ _ h=>h) H O
     ·intro au a w G1 _ ah hc hG HT hv;have H:=HT;clear ah;have H:=H.ak (hv 0 130 (hc 0 Y) O) O;have H:=H.ak (hv 1 131 (hc 1 Y) O) O;have Hb:=H.full;have H:=Hb;clear hc;refine kH H (Ri bG bO O O ?_);clear H;intro a H;refine aj ⟨O,?_⟩;exact ay HT Hb hG hv (fun _ _ _ _ _ h=>h) H O
     ·intro au a w G1 _ ah hc hG HT hv;have H:=HT;clear ah;have H:=H.ak (hv 2 132 (hc 2 Y) O) O;have Hb:=H.full;have H:=Hb;clear hc;refine kH H (Rf rE O ?_);clear H;intro a H;refine aj ⟨O,?_⟩;exact ay HT Hb hG hv (fun _ _ _ _ _ h=>h) H O
     ·intro au a w G1 _ ah hc hG HT hv;have H:=HT;clear ah;have H:=H.ak (hv 3 133 (hc 3 Y) O) O;have Hb:=H.full;have H:=Hb;clear hc;refine kH H (Rg aF O (aK hG (qh 0 _ O)) ?_);clear H;intro a H;refine aj ⟨O,?_⟩;exact ay HT Hb hG hv (fun _ _ _ _ _ h=>h) H O
     ·intro au a w G1 _ ah hc hG HT hv;have H:=HT;clear ah;have Hb:=H.full;have H:=Hb;clear hc;refine kH H (Rm O ?_);clear H;intro a H;refine aj ⟨O,?_⟩;exact ay HT Hb hG hv (fun _ _ _ _ _ h=>h) H O
     ·intro au a w G1 _ ah hc hG HT hv;have H:=HT;clear ah;have Hb:=H.full;have H:=Hb;clear hc;refine kH H (Rm O ?_);clear H;intro a H;refine aj ⟨O,?_⟩;exact ay HT Hb hG hv (fun _ _ _ _ _ h=>h) H O
     ·intro au a w G1 _ ah hc hG HT hv;have H:=HT;clear ah;have H:=H.ak (hv 5 135 (hc 5 Y) O) O;have H:=H.ak (hv 6 136 (hc 6 Y) O) O;have Hb:=H.full;have H:=Hb;clear hc;refine kH H (Ri bG bO O O ?_);clear H;intro a H;refine aj ⟨O,?_⟩;exact ay HT Hb hG hv (fun _ _ _ _ _ h=>h) H O
     ·intro au a w G1 _ ah hc hG HT hv;have H:=HT;clear ah;have H:=H.ak (hv 7 137 (hc 7 Y) O) O;have Hb:=H.full;have H:=Hb;clear hc;refine kH H (Rf rE O ?_);clear H;intro a H;refine aj ⟨O,?_⟩;exact ay HT Hb hG hv (fun _ _ _ _ _ h=>h) H O
     ·intro au a w G1 _ ah hc hG HT hv;have H:=HT;clear ah;have H:=H.ak (hv 8 138 (hc 8 Y) O) O;have Hb:=H.full;have H:=Hb;clear hc;refine kH H (Rg aF O (aK hG (zx 0 _ O)) ?_);clear H;intro a H;refine aj ⟨O,?_⟩;exact ay HT Hb hG hv (fun _ _ _ _ _ h=>h) H O
     ·intro au a w G1 _ ah hc hG HT hv;have H:=HT;clear ah;have H:=H.ak (hv 4 134 (hc 4 Y) O) O;have H:=H.ak (hv 9 139 (hc 9 Y) O) O;have Hb:=H.full;have H:=Hb;clear hc;refine kH H (Rc O ?_);clear H;intro a H;refine aj ⟨O,?_⟩;exact ay HT Hb hG hv (fun _ _ _ _ _ h=>h) H O
     ·intro au a w G1 _ ah hc hG HT hv;have H:=HT;clear ah;have H:=H.ak (hv 10 140 (hc 10 Y) O) O;have Hb:=H.full;have H:=Hb;clear hc;refine kH H (Rm O ?_);clear H;intro a H;refine aj ⟨O,?_⟩;exact ay HT Hb hG hv (fun _ _ _ _ _ h=>h) H O
     ·intro au a w G1 _ ah hc hG HT hv;have H:=HT;clear ah;have H:=H.ak (hv 11 141 (hc 11 Y) O) O;have H:=H.ak (hv 14 144 (hc 14 Y) O) O;have Hb:=H.full;have H:=Hb;clear hc;refine kH H (Pf (fu c0) O ?_);clear H;intro a H;refine aj ⟨O,?_⟩;exact ay HT Hb hG hv (fun _ _ _ _ _ h=>h) H O
     clear H;intro a w G sK H hv;have H:=H.ak (hv 15 145 O O) O;clear hv;refine aj ⟨O,?_⟩;refine pO _ _ ?_;clear pO;refine sH H O O ?_;refine mh ?_;refine ko _ _ ?_;clear ko
     first|(have mO:=fun b o h=>sK b o (xZ b o h))|(have mO:=lT)
     refine kP H (SC (Rm O ?_));clear H;intro a H;refine mU oG aW s H wn O O O hs2 O ?_;clear H;intro a H;refine iM aW H wn O (H.hp.jc 2 O (wV (x:=fun t=>fc (rN t) W) hs2)) O ?_;clear H;intro a H;refine kH H (Rm O (Rm O (Rm O (Rm O (Rm O ?_)))));clear H;intro a H;have H:=H.wY hs2;refine jH wB (Li:=[_,_,_]++mE C rN qN X3 R3 Q s) (L:=[_,_,_]) H wn O (wU _ _ (Hp.owns (Li:=[_,_,_]++mE C rN qN X3 R3 Q s) H.hp) hs2 (wo (x:=fun t=>fc (C t) M) hs2) hkW (hmid.1 s hs2).1 (jO s hs2) wI V V V) O ?_;clear H;rintro BI G4 zX a w rfl rJ H;have og:=fun b o h=>rJ b o (mO b o h)
     obtain ⟨X4,R4,nY,nX,H⟩:=St.wZ hs2 hmid hkW jO (by first|omega|(rw [uL hi2 hk3];split <;> omega)) (by rw [List.length_set];exact jO s hs2) H
     refine kH H (Kn iw (SC (Rd O (Rm O ?_))));clear H iw;intro a H;refine aj ?_;refine bg ((s+1,X4,R4,G4)) (by exact H.sub ⟨O,O,O,O,O,O,O,O,O,O,aL⟩) ?_
     (try dsimp only);exact ⟨V,nY,nX,og⟩
    intro AJ a H
    try have P9:=dF AJ
    have hse:=Ki (a:=la) (b:=lb) (k:=k) hi2 V;refine mh ?_;refine ko _ _ ?_;clear ko
    first|(have mO:=fun b o h=>sK b o (xZ b o h))|(have mO:=lT)
    refine kP H (SC (Rm O ?_));clear H;intro a H;refine mU oG aW s H wn O O O hs2 O ?_;clear H;intro a H;refine iM aW H wn O (H.hp.jc 2 O (wV (x:=fun t=>fc (rN t) W) hs2)) O ?_;clear H;intro a H;refine kH H (Rm O (Rm O (Rm O (Rm O (Rm O ?_)))));clear H;intro a H;have H:=H.wY hs2;refine jH wB (Li:=[_,_,_]++mE C rN qN X3 R3 Q s) (L:=[_,_,_]) H wn O (wU _ _ (Hp.owns (Li:=[_,_,_]++mE C rN qN X3 R3 Q s) H.hp) hs2 (wo (x:=fun t=>fc (C t) M) hs2) hkW (hmid.1 s hs2).1 (jO s hs2) wI V V V) O ?_;clear H;rintro BI G4 zX a w rfl rJ H;have og:=fun b o h=>rJ b o (mO b o h)
    obtain ⟨X4,R4,nY,nX,H⟩:=St.wZ hs2 hmid hkW jO (by first|omega|(rw [uL hi2 hk3];split <;> omega)) (by rw [List.length_set];exact jO s hs2) H
    refine kH H (Kn iw (SC (Rd O (Rm O ?_))));clear H iw;intro a H;refine aj ?_;refine bg ((s+1,X4,R4,G4)) (by exact H.sub ⟨O,O,O,O,O,O,O,O,O,O,aL⟩) ?_
    (try dsimp only);exact ⟨V,nY,nX,og⟩
   intro Ir a H
   try have p61:=dF Ir
   refine dD ?_;refine ig _ _ ?_;clear ig;refine kP H (SC (Rm O (Rs O (Ra O ?_))));clear H;intro a H;refine aj ?_;refine bg ((k,X3,R3,g3)) (by exact H.sub ⟨O,O,O,O,O,O,O,O,O,aL⟩) ?_
   try dsimp only
   exact ⟨V,jO,by
    obtain rfl:s=2:=by omega
    exact hmid.close,lT⟩
  intro h57 a H
  try have p57:=dF h57
  refine dD ?_;refine dN _ _ ?_;clear dN;refine uf ?_;refine dX BG (cs:=[_,_]) H wn O O (H.hp.dG 3 O O) O ?_;clear H;intro a H;refine dX BG (cs:=[_,_]) H wn O O (H.hp.dG 2 O O) O ?_;clear H;intro a H;refine eO BG 2 (vs:=[_,_]) H wn O ?_;clear H;intro w H;refine eO BG 3 (vs:=[_,_]) H wn O ?_;clear H;intro w H;refine kH H (Kn dw (SC (Rm O (Rs O (Ra O ?_)))));clear H dw;intro a H;refine aj ?_;refine bg ((i,qN,rN,X2,Q,R2,g2)) (by exact H.acV.sub ⟨O,O,O,O,O,O,O,O,aL⟩) ?_
  try dsimp only
  exact ⟨V,hX2,fun t ht=>hQ t ht,fun t ht=>(hR2 t ht).1,fun _=>by
   obtain rfl:q=0:=by omega
   exact hR2,eH⟩
 intro kN a H
 try have p51:=dF kN
 refine dD ?_;refine bH _ _ ?_;clear bH;refine iF (fun _ tK=>?_)
 obtain rfl:j=0:=by omega
 have CK:=Oq (dU _);refine uf ?_;refine mU oG aW 0 H wn O O O Y O ?_;clear H;intro a H;refine kH H (Ro aW 3 O ?_);clear H;intro a H;refine aT bE aF 0 H wn O O O V O ?_;clear H;intro a H;refine iM aF H wn O (H.hp.jc 6 O (by rw [fC,Nat.zero_mul];exact rF ((CK 0 Y).2 0 (bD _) V))) O ?_;clear H;intro a H;refine kH H (Rf Wy O ?_);clear H;intro a H;refine eO aF 1 (vs:=[_]) H wn O ?_;clear H;intro w H;refine aj ?_;refine tK _ _ ?_;clear tK;refine jL (fun _ tL=>?_);refine dX BD (cs:=[_,_,_,_]) H wn O O (H.hp.dG 1 O O) O ?_;clear H;intro a H;refine eO BD 0 (vs:=[_,_,_,_]) H wn O ?_;clear H;intro w H;refine tL _ _ ?_;clear tL;refine aV ?_;refine (leave1 H results44 (.cons (aaA BD (cs:=[_,_,_,_]) H O O (H.hp.dG 0 O O)) .nil) ?_).1;exact H.rt ⟨_,_,_,O⟩
end
theorem Vt:bX 41:=cu func41 O
theorem KZ:prog.underlying 79=some (.map 9 3):=by kernel_rfl
theorem Ew:gQ prog 103 0 0:=⟨Z⟩
theorem sW:qX prog 60 [(0,1),(1,1)] [.int .i64 0,.int .i64 0]:=⟨Z,Z⟩
def rO:Nat->List ByteArray->List MapEntry
 | _,[]=>[]
 | i,k :: r=>⟨.string k,vi ((i+1:Nat):Int),i⟩ :: rO (i+1) r
theorem Pz:∀ (i:Nat) (l:List ByteArray),(rO i l).length=l.length
 | _,[]=>rfl
 | i,_ :: r=>by simp [rO,Pz (i+1) r]
theorem PD (x:ByteArray):∀ (i:Nat) (l:List ByteArray),rO i (l++[x])=rO i l++[⟨.string x,vi ((i+l.length+1:Nat):Int),i+l.length⟩]
 | _,[]=>rfl
 | i,k :: r=>by
  rw [nQ,rO,PD x (i+1) r,rO,nQ,kI,show i+1+r.length=i+(r.length+1) by omega]
def ny (s:ByteArray):Nat->List ByteArray->Option Nat
 | _,[]=>none
 | i,k :: r=>if k=s then some (i+1) else ny s (i+1) r
theorem N8 (s:ByteArray):∀ (i j:Nat) (l:List ByteArray),Instr.findNow .string (.string s) (rO i l) j=some ((ny s i l).map fun n=>(j+(n - 1 - i),vi (n:Int)))
 | _,_,[]=>rfl
 | i,j,k :: r=>by
  have ih:=N8 s (i+1) (j+1) r
  have hk:∀ (l:List ByteArray) (i n:Nat),ny s i l=some n->i < n:=by
   intro l
   induction l with
   | nil=>intro i n h;cases h
   | cons a t ih =>
    intro i n h;rw [ny] at h
    split at h
    ·cases h;omega
    have:=ih _ _ h;omega
  by_cases e:k=s
  ·subst e;have hb:(k == k)=true:=(MapKept.bytes_beq k k).2 O
   simp only [rO,Instr.findNow,Instr.sameNow,hb,ny,aM]
   simp
  have hb:(s == k)=false:=by
   cases h:(s == k) with
   | false=>rfl
   | true=>exact absurd ((MapKept.bytes_beq s k).1 h).symm e
  simp only [rO,Instr.findNow,Instr.sameNow,hb,ny,aJ e,ih]
  cases h:ny s (i+1) r with
  | none=>rfl
  | some n =>
   have:=hk _ _ _ h
   simp only [oM,ku,fP,and_true]
   omega
def zF (l:List ByteArray) (s:ByteArray):Nat:=(ny s 0 l).getD (l.length+1)
def uG (l:List ByteArray) (s:ByteArray):List ByteArray:=if (ny s 0 l).isSome then l else l++[s]
def jF (t:fE):Int:=if t.kind=3 then 1 else min (t.dP - t.from_) 1000
def oC (q:List cK × List ByteArray) (x:fE × ByteArray):List cK × List ByteArray:=(q.1++[⟨(zF q.2 x.2:Nat),jF x.1⟩],uG q.2 x.2)
def dM (l:List (fE × ByteArray)) (ks:List ByteArray):List cK × List ByteArray:=l.foldl oC ([],ks)
theorem DN {l:List (fE × ByteArray)} {k:Nat} (h:k < l.length) (ks:List ByteArray):dM (l.take (k+1)) ks=oC (dM (l.take k) ks) l[k]:=by
 rw [dM,lZ h,List.foldl_append];rfl
theorem Zm (l:List ByteArray) (s:ByteArray):(uG l s).length<=l.length+1:=by
 unfold uG;split
 ·omega
 simp
theorem vO (l:List (fE × ByteArray)) (ks:List ByteArray):∀ k,k<=l.length->(dM (l.take k) ks).1.length=k∧(dM (l.take k) ks).2.length<=ks.length+k
 | 0,_=>by simp [dM]
 | k+1,h=>by
  have ih:=vO l ks k V;have h2:=Zm (dM (l.take k) ks).2 l[k].2;rw [DN V]
  simp only [oC,iK,List.length_singleton]
  omega
def bR (s:ByteArray):List (fE × ByteArray):=(jm (dW s)).map fun t=>(t,sZ s t)
def iD (l:List cK):List av:=(l.map fun x=>[vi x.key,vi x.weight]).flatten
theorem RF (G:GH):∀ (B A:List cK),dK G 2 (A.map cK.dat) (iD A)->dK G 2 ((A++B).map cK.dat) (iD (A++B))
 | [],A,h=>by rw [mg];exact h
 | x :: B,A,h=>by
  have h2:=h.snoc (acj G x) O;have h3:=RF G B (A++[x]) (by simpa [iD] using h2)
  simpa using h3
theorem KE (G:GH) (A:List cK):dK G 2 (A.map cK.dat) (iD A):=RF G A [] dK.nil
abbrev Ah (b:Nat) (l:List ByteArray):Nat × Obj:=(b,.map (rO 0 l).toArray l.length)
theorem map_push (l:List ByteArray) (x:ByteArray):(rO 0 l).toArray.push ⟨.string x,vi ((l.length+1:Nat):Int),l.length⟩=(rO 0 (l++[x])).toArray:=by
 rw [PD,List.push_toArray,fC]
def oz (l:List (fE × ByteArray)) (ks:List ByteArray) (k:Nat):List cK:=(dM (l.take k) ks).1.take 2048
theorem ach (l:List (fE × ByteArray)) (ks:List ByteArray) {k:Nat} (h:k<=l.length):(oz l ks k).length=min k 2048:=by
 rw [oz,List.length_take,(vO l ks k h).1];omega
theorem RD {l:List (fE × ByteArray)} {ks:List ByteArray} {k:Nat} (h:k < l.length) (hk:k < 2048) {x:cK} (hx:(dM (l.take (k+1)) ks).1=(dM (l.take k) ks).1++[x]):oz l ks (k+1)=oz l ks k++[x]:=by
 have hl:=(vO l ks k V).1;have e1:((dM (l.take k) ks).1++[x]).take 2048=(dM (l.take k) ks).1++[x]:=iU (by rw [iK,List.length_singleton];omega);have e2:((dM (l.take k) ks).1).take 2048=(dM (l.take k) ks).1:=iU V;rw [oz,oz,hx,e1,e2]
theorem RB {l:List (fE × ByteArray)} {ks:List ByteArray} {k:Nat} (h:k < l.length) (hk:2048<=k) {x:cK} (hx:(dM (l.take (k+1)) ks).1=(dM (l.take k) ks).1++[x]):oz l ks (k+1)=oz l ks k:=by
 have hl:=(vO l ks k V).1;rw [oz,oz,hx,List.take_append_of_le_length V]
theorem Bl {e t:Nat} {v:av} {n n':Nat} {A A':List av} {Lo:OL} (h:bP e t v n A Lo) (hn:n=n') (hA:A=A'):bP e t v n' A' Lo:=by subst hn;subst hA;exact h
set_option maxHeartbeats 1000000 in
theorem Mx {G0 G:GH} {w0:World} {bm:Nat} (ks:List ByteArray) (hO:jS G [Ah bm ks] w0) (h0:∀ b o,G0 b=some o->G b=some o) (s:ByteArray) (hs:jr G0 s) (hz:s.size<=1073741824) (hks:ks.length<=1099511627776) :
  Calls prog 31 #[.string s,.map (some bm)] w0 (jT w0 G [Ah bm ks] fun u G' L'=>L'=[Ah bm (dM (bR s) ks).2]∧aC G' (.sl 2 (((dM (bR s) ks).1.take 2048).map cK.dat)) u):=by
 have hml:maxLen=9223372036854775807:=rfl;have hcl:=Ak s
 have hlc:(dW s).length=(mI s).length:=by simp [dW,gJ]
 have htl:=DJ (dW s).length (dW s);rw [show ow (dW s).length (dW s)=jm (dW s) from rfl] at htl
 have hll:(bR s).length=(jm (dW s)).length:=by simp [bR]
 have hrl:(gD s).length<=s.size:=Bh s s.size 0;refine nU (N:=72) (T:=[(0,_),(1,_)]) func31 O ntmps31 O O hO ?_;intro a H;refine kP H (SR fun _ K1=>aB K1 O (SR fun _ K2=>Rm O ?_));clear H K1;intro a H;refine s_call HY H wn O (Kl _ _ H.ro h0 s hs) O ?_;clear H;rintro v17 SG a w ⟨x17,rfl,htk⟩ AX H;obtain ⟨tA,tc,rfl,-,-,-⟩:=htk.slice;rw [bN] at *;refine kH H (Rm O ?_);clear H;intro a H;(iterate 2 refine fZ H wn O O O ?_;clear H;intro a H);refine kH H (Ra O (aB K2 O (SR fun _ K3=>Rm O ?_)));clear H K2;intro a H;refine s_call Vt H wn O (abJ _ _ H.ro (fun b o h=>AX b o (h0 b o h)) s hs) O ?_;clear H;rintro v22 BM a w ⟨x22,rfl,htx⟩ zl H;obtain ⟨xA,xc,rfl,-,-,-⟩:=htx.slice;rw [bN] at *
 have hlx:(pG s).length=(jm (dW s)).length:=by simp [pG]
 refine kH H (Rm O ?_);clear H;intro a H;(iterate 2 refine fZ H wn O O O ?_;clear H;intro a H);refine kH H (Ra O (aB K3 O (SR fun _ K4=>aB K4 O (SQ fun _ K5=>SR fun _ K6=>Rm O (Rl qy O (Rm O (Kz K6 (SB ?_))))))));clear H K3 K4 K6;intro a H;skip;refine eG (ι:=Nat × av × OL × GH) (Tc:=[(1,_),(7,_),(25,_),(26,_)]) (Lc:=[]) (fun gh=>[(9,gh.2.1),(27,vi gh.1)]) (fun gh=>[Ah bm (dM ((bR s).take gh.1) ks).2]++gh.2.2.1) (fun gh=>gh.2.2.2) (fun gh=>gh.1<=(bR s).length∧bP 60 2 gh.2.1 (min gh.1 2048) (iD (oz (bR s) ks gh.1)) gh.2.2.1∧(∀ b o,BM b=some o->gh.2.2.2 b=some o)) (fun gh=>(bR s).length - gh.1) ((0,.slice none 0 0,[],BM)) (by exact H.sub ⟨O,O,O,O,O,O,aL⟩) ?_ ?_
 ·exact ⟨dU _,bP.nil,fun _ _ h=>h⟩
 clear H;rintro ⟨k,v,Lo,g⟩ a w hI H;dsimp only at hI H;obtain ⟨hk,hrw,hgm⟩:=hI;dsimp only [lca,dB] at H;refine kP H (SR fun _ K7=>Rc O (Kz K7 (SQ fun _ K8=>Cd O ?_ ?_))) <;> clear H K7
 ·intro fU a H
  try have p28:=dT fU
  have hk1:k < (bR s).length:=by omega
  obtain ⟨b,o,rfl,hrow⟩:=KD ((htk.mono zl).mono hgm) (show k < (jm (dW s)).length by omega);obtain ⟨t,ht⟩:∃ t,t=(jm (dW s))[k]'V:=⟨_,O⟩;have htb:=F3 s t (by rw [ht];exact dV _);rw [<- ht] at hrow;obtain ⟨tb,nC,rfl,hrx⟩:=Km (htx.mono hgm) (show k < (pG s).length by omega)
  have hxt:(pG s)[k]'V=sZ s t:=by simp [pG,ht]
  rw [hxt] at hrx
  have hlk:(bR s)[k]=(t,sZ s t):=by simp [bR,ht]
  obtain ⟨x,hx⟩:∃ x,x=sZ s t:=⟨_,O⟩;rw [<- hx] at hrx hlk;have hst:=DN hk1 ks;rw [hlk] at hst;have hpl:=vO (bR s) ks k V;obtain ⟨kk,hkk⟩:∃ kk,kk=(dM ((bR s).take k) ks).2:=⟨_,O⟩;rw [<- hkk] at H hpl;obtain ⟨an,han⟩:∃ an,an=ny x 0 kk:=⟨_,O⟩;have hfn:=N8 x 0 0 kk;rw [<- han] at hfn;obtain ⟨vA,vc,rfl,Dm,Dn⟩:=hrw.shape;refine kP H (Kc K8 (SQ fun _ K9=>SB (SR fun _ aP=>Rm O (Ri qy lV O O ?_))));clear H K8;intro a H;refine dX lV (cs:=[_,_,_]) H wn O O (fun j v hj=>H.hp.aR (hrow j v hj)) O ?_;clear H;intro a H;refine kE lV H wn O ?_;clear H;intro b11 a w Ov H;refine kH H (Ra O ?_);clear H;intro a H;refine eO lV 0 (vs:=[_,_,_]) H wn O ?_;clear H;intro w H;refine aP _ _ ?_;clear aP;refine kP H (SR fun _ bH=>Rm O (Rm O (Rm O (Ri kW jQ O O (Rg jQ O (by assumption) ?_)))));clear H;intro a H;refine aaK (i:=1) (zv:=vi 0) _ KZ jA Z H wn O O O (by trivial) (by simpa using hfn) O ?_;clear H;intro a H;refine kH H (Rm O ?_);clear H;intro a H;(iterate 2 refine fZ H wn O O O ?_;clear H;intro a H);refine kH H (Ra O (aB bH O (SQ fun _ bL=>SR fun _ bI=>Rm O (Rn O (Kz bI (Cd O ?_ ?_)))))) <;> clear H bH bI
  ·intro jy a H
   try have p42:=dT jy
   obtain rfl:an=none:=by
    cases an with
    | none=>rfl
    | some n=>simp [wN] at jy
   have Dl:kk++[x]=(dM ((bR s).take (k+1)) ks).2:=by rw [hst];simp [oC,uG,<- hkk,<- han]
   have Dj:(dM ((bR s).take (k+1)) ks).1=(dM ((bR s).take k) ks).1++[⟨((dM ((bR s).take (k+1)) ks).2.length:Int),jF t⟩]:=by rw [<- Dl,hst];simp [oC,zF,<- hkk,<- han]
   refine kP H (SR fun _ cB=>Rm O ?_);clear H;intro a H;refine aaI (i:=1) KZ H wn O O O ?_;clear H;intro a H;rw [List.size_toArray,Pz] at H;refine kH H (Rd O (aB cB O (SC (Rm O (Rm O (Rm O (Ri kW jQ O O (Rg jQ O (by assumption) ?_))))))));clear H cB;intro a H;refine kH H (Rm O ?_);clear H;intro a H;rw [show ((kk.length:Int)+1)=((kk.length+1:Nat):Int) from rfl] at H;refine aaM (i:=1) KZ jA H wn O O O O (by trivial) (by simpa using hfn) ?_;clear H;intro w H;rw [map_push,show kk.length+1=(kk++[x]).length by simp,Dl] at H;refine kH H (Kn bL (SQ fun _ dw=>SR fun _ dN=>Rm O (Rl bG O (Rc O (Kz dN (Cd O ?_ ?_)))))) <;> clear H bL dN
   ·intro yY a H
    try have p54:=dT yY
    refine dD ?_;refine K9 _ _ ?_;clear K9;refine kP H (SC (Rd O (Rm O ?_)));clear H;intro a H;refine aj ?_;refine bg ((k+1,.slice vA (min k 2048) vc,Lo,g)) (by exact (H.dR (Pl:=[_,_]) (dx:=[_]) [1] Y O).sub ⟨O,O,O,O,O,O,aL⟩) ?_
    (try dsimp only);exact ⟨V,Bl hrw V (by rw [RB hk1 V Dj]),hgm⟩
   intro yY a H
   try have p54:=dF yY
   have I8:k < 2048:=by omega
   have hon:=RD hk1 I8 Dj;refine kP H (Kc dw (SR fun _ eP=>gH Aw aF 0 O O (gH Av aF 0 O O (Rs O ?_))));clear H dw;intro a H;refine DF H wn O O O ?_;clear H;intro a H;refine kH H (aB eP O (SQ fun _ fM=>SR fun _ fO=>gH Ew aF 0 O O (Rc O (Kz fO (Cd O ?_ ?_))))) <;> clear H eP fO
   ·intro h63 a H
    try have p63:=dT h63
    have hwt:jF t=1:=aM (by simpa using h63);refine kP H (SC (bS fM O (SC (Rm O (Rm O (Rm O ?_))))));clear H fM;intro a H;refine kF sW [_,_] H wn O O O O ?_;clear H;intro a H;refine eU bG bO [_,_] [_,_] H wn O O O O O (by intro i q h;match i,h with|0,h=>exact h|n+1,h=>simp at h) O O ?_;clear H;intro lC a w ET H
    first
     | refine eD (Li:=[_,_,_]) (Lo:=Lo) (news:=[vi (kx:Int),vi 1]) bG bO O O H wn O O hrw O (H.hp.dG 0 O O) O V V O ?_
     | refine eD (Li:=[_,_,_]) (Lo:=Lo) (news:=[vi (kx:Int),vi (min (t.dP - t.from_) 1000)]) bG bO O O H wn O O hrw O (H.hp.dG 0 O O) O V V O ?_
     | refine eD (Li:=[_,_,_]) (Lo:=Lo) (news:=[vi ((dM ((bR s).take (k+1)) ks).2.length:Int),vi 1]) bG bO O O H wn O O hrw O (H.hp.dG 0 O O) O V V O ?_
     | refine eD (Li:=[_,_,_]) (Lo:=Lo) (news:=[vi ((dM ((bR s).take (k+1)) ks).2.length:Int),vi (min (t.dP - t.from_) 1000)]) bG bO O O H wn O O hrw O (H.hp.dG 0 O O) O V V O ?_
    clear H;intro v69 tQ a w zC H
    have zD:bP 60 2 v69 (min (k+1) 2048) (iD (oz (bR s) ks (k+1))) tQ:=by
     refine Bl zC V ?_;rw [hon,hwt]
     simp [iD]
    refine kH H (bS K9 O (SC (Rd O (Rm O ?_))));clear H K9;intro a H;refine aj ?_;refine bg ((k+1,v69,tQ,g)) (by exact (H.dR (Pl:=[_,_,_]) (dx:=[_]) [2] Y O).sub ⟨O,O,O,O,O,O,aL⟩) ?_
    (try dsimp only);exact ⟨V,zD,hgm⟩
   intro h63 a H
   try have p63:=dF h63
   have hwt:jF t=min (t.dP - t.from_) 1000:=aJ (by simpa using h63);refine kP H (Kc fM (SC (Rm O (Rm O (Rm O ?_)))));clear H fM;intro a H;refine kF sW [_,_] H wn O O O O ?_;clear H;intro a H;refine eU bG bO [_,_] [_,_] H wn O O O O O (by intro i q h;match i,h with|0,h=>exact h|n+1,h=>simp at h) O O ?_;clear H;intro lC a w ET H
   first
    | refine eD (Li:=[_,_,_]) (Lo:=Lo) (news:=[vi (kx:Int),vi 1]) bG bO O O H wn O O hrw O (H.hp.dG 0 O O) O V V O ?_
    | refine eD (Li:=[_,_,_]) (Lo:=Lo) (news:=[vi (kx:Int),vi (min (t.dP - t.from_) 1000)]) bG bO O O H wn O O hrw O (H.hp.dG 0 O O) O V V O ?_
    | refine eD (Li:=[_,_,_]) (Lo:=Lo) (news:=[vi ((dM ((bR s).take (k+1)) ks).2.length:Int),vi 1]) bG bO O O H wn O O hrw O (H.hp.dG 0 O O) O V V O ?_
    | refine eD (Li:=[_,_,_]) (Lo:=Lo) (news:=[vi ((dM ((bR s).take (k+1)) ks).2.length:Int),vi (min (t.dP - t.from_) 1000)]) bG bO O O H wn O O hrw O (H.hp.dG 0 O O) O V V O ?_
   clear H;intro v69 tQ a w zC H
   have zD:bP 60 2 v69 (min (k+1) 2048) (iD (oz (bR s) ks (k+1))) tQ:=by
    refine Bl zC V ?_;rw [hon,hwt]
    simp [iD]
   refine kH H (bS K9 O (SC (Rd O (Rm O ?_))));clear H K9;intro a H;refine aj ?_;refine bg ((k+1,v69,tQ,g)) (by exact (H.dR (Pl:=[_,_,_]) (dx:=[_]) [2] Y O).sub ⟨O,O,O,O,O,O,aL⟩) ?_
   (try dsimp only);exact ⟨V,zD,hgm⟩
  intro jy a H
  try have p42:=dF jy
  obtain ⟨kx,rfl⟩:∃ n,an=some n:=by
   cases an with
   | none=>simp [wN] at jy
   | some n=>exact ⟨n,O⟩
  have Dl:kk=(dM ((bR s).take (k+1)) ks).2:=by rw [hst];simp [oC,uG,<- hkk,<- han]
  have Dj:(dM ((bR s).take (k+1)) ks).1=(dM ((bR s).take k) ks).1++[⟨(kx:Int),jF t⟩]:=by rw [hst];simp [oC,zF,<- hkk,<- han]
  dsimp only [wN,Option.map_some] at H;rw [Dl] at H;refine kP H (Kc bL (SQ fun _ ig=>SR fun _ iq=>Rm O (Rl bG O (Rc O (Kz iq (Cd O ?_ ?_)))))) <;> clear H bL iq
  ·intro yY a H
   try have p54:=dT yY
   refine dD ?_;refine K9 _ _ ?_;clear K9;refine kP H (SC (Rd O (Rm O ?_)));clear H;intro a H;refine aj ?_;refine bg ((k+1,.slice vA (min k 2048) vc,Lo,g)) (by exact (H.dR (Pl:=[_,_]) (dx:=[_]) [1] Y O).sub ⟨O,O,O,O,O,O,aL⟩) ?_
   (try dsimp only);exact ⟨V,Bl hrw V (by rw [RB hk1 V Dj]),hgm⟩
  intro yY a H
  try have p54:=dF yY
  have I8:k < 2048:=by omega
  have hon:=RD hk1 I8 Dj;refine kP H (Kc ig (SR fun _ gM=>gH Aw aF 0 O O (gH Av aF 0 O O (Rs O ?_))));clear H ig;intro a H;refine DF H wn O O O ?_;clear H;intro a H;refine kH H (aB gM O (SQ fun _ jC=>SR fun _ iw=>gH Ew aF 0 O O (Rc O (Kz iw (Cd O ?_ ?_))))) <;> clear H gM iw
  ·intro h63 a H
   try have p63:=dT h63
   have hwt:jF t=1:=aM (by simpa using h63);refine kP H (SC (bS jC O (SC (Rm O (Rm O (Rm O ?_))))));clear H jC;intro a H;refine kF sW [_,_] H wn O O O O ?_;clear H;intro a H;refine eU bG bO [_,_] [_,_] H wn O O O O O (by intro i q h;match i,h with|0,h=>exact h|n+1,h=>simp at h) O O ?_;clear H;intro lC a w ET H
   first
    | refine eD (Li:=[_,_,_]) (Lo:=Lo) (news:=[vi (kx:Int),vi 1]) bG bO O O H wn O O hrw O (H.hp.dG 0 O O) O V V O ?_
    | refine eD (Li:=[_,_,_]) (Lo:=Lo) (news:=[vi (kx:Int),vi (min (t.dP - t.from_) 1000)]) bG bO O O H wn O O hrw O (H.hp.dG 0 O O) O V V O ?_
    | refine eD (Li:=[_,_,_]) (Lo:=Lo) (news:=[vi ((dM ((bR s).take (k+1)) ks).2.length:Int),vi 1]) bG bO O O H wn O O hrw O (H.hp.dG 0 O O) O V V O ?_
    | refine eD (Li:=[_,_,_]) (Lo:=Lo) (news:=[vi ((dM ((bR s).take (k+1)) ks).2.length:Int),vi (min (t.dP - t.from_) 1000)]) bG bO O O H wn O O hrw O (H.hp.dG 0 O O) O V V O ?_
   clear H;intro v69 tQ a w zC H
   have zD:bP 60 2 v69 (min (k+1) 2048) (iD (oz (bR s) ks (k+1))) tQ:=by
    refine Bl zC V ?_;rw [hon,hwt]
    simp [iD]
   refine kH H (bS K9 O (SC (Rd O (Rm O ?_))));clear H K9;intro a H;refine aj ?_;refine bg ((k+1,v69,tQ,g)) (by exact (H.dR (Pl:=[_,_,_]) (dx:=[_]) [2] Y O).sub ⟨O,O,O,O,O,O,aL⟩) ?_
   (try dsimp only);exact ⟨V,zD,hgm⟩
  intro h63 a H
  try have p63:=dF h63
  have hwt:jF t=min (t.dP - t.from_) 1000:=aJ (by simpa using h63);refine kP H (Kc jC (SC (Rm O (Rm O (Rm O ?_)))));clear H jC;intro a H;refine kF sW [_,_] H wn O O O O ?_;clear H;intro a H;refine eU bG bO [_,_] [_,_] H wn O O O O O (by intro i q h;match i,h with|0,h=>exact h|n+1,h=>simp at h) O O ?_;clear H;intro lC a w ET H
  first
   | refine eD (Li:=[_,_,_]) (Lo:=Lo) (news:=[vi (kx:Int),vi 1]) bG bO O O H wn O O hrw O (H.hp.dG 0 O O) O V V O ?_
   | refine eD (Li:=[_,_,_]) (Lo:=Lo) (news:=[vi (kx:Int),vi (min (t.dP - t.from_) 1000)]) bG bO O O H wn O O hrw O (H.hp.dG 0 O O) O V V O ?_
   | refine eD (Li:=[_,_,_]) (Lo:=Lo) (news:=[vi ((dM ((bR s).take (k+1)) ks).2.length:Int),vi 1]) bG bO O O H wn O O hrw O (H.hp.dG 0 O O) O V V O ?_
   | refine eD (Li:=[_,_,_]) (Lo:=Lo) (news:=[vi ((dM ((bR s).take (k+1)) ks).2.length:Int),vi (min (t.dP - t.from_) 1000)]) bG bO O O H wn O O hrw O (H.hp.dG 0 O O) O V V O ?_
  clear H;intro v69 tQ a w zC H
  have zD:bP 60 2 v69 (min (k+1) 2048) (iD (oz (bR s) ks (k+1))) tQ:=by
   refine Bl zC V ?_;rw [hon,hwt]
   simp [iD]
  refine kH H (bS K9 O (SC (Rd O (Rm O ?_))));clear H K9;intro a H;refine aj ?_;refine bg ((k+1,v69,tQ,g)) (by exact (H.dR (Pl:=[_,_,_]) (dx:=[_]) [2] Y O).sub ⟨O,O,O,O,O,O,aL⟩) ?_
  (try dsimp only);exact ⟨V,zD,hgm⟩
 intro fU a H
 try have p28:=dF fU
 refine dD ?_;refine K5 _ _ ?_;clear K5;refine kP H (SR fun _ lu=>Rm O (aB lu O ?_));clear H lu;intro a H;refine aV ?_
 have hke:k=(bR s).length:=by omega
 subst hke;have hlq:=ach (bR s) ks (bD _);obtain ⟨Gr,hmr,hrep,H⟩:=St.ni (Li:=[_]) (Lo:=Lo) H hrw (rows:=(oz (bR s) ks (bR s).length).map cK.dat) (by rw [bN];omega) (KE _ _);rw [oz,sD] at hrep;rw [sD] at H;refine lv H results31 O ?_;exact H.hp.dO ⟨O,hrep⟩
theorem NG:bX 31:=cu func31 O
theorem Vv:bX 43:=cu func43 O
theorem Vw:bX 44:=cu func44 O
theorem Vu:bX 42:=cu func42 O
theorem ada {N:Int} {t:fE} (h:0<=t.from_∧t.from_ < t.dP∧t.dP<=N):1<=jF t∧jF t<=1000:=by
 unfold jF;split
 ·decide
 omega
theorem F4 {l:List (fE × ByteArray)} (ks:List ByteArray) (h:∀ x∈l,1<=jF x.1∧jF x.1<=1000):∀ k,k<=l.length->∀ x∈(dM (l.take k) ks).1,1<=x.weight∧x.weight<=1000
 | 0,_=>by simp [dM]
 | k+1,hk=>by
  have ih:=F4 ks h k V;rw [DN V];intro x hx
  rcases vX.1 hx with hx|hx
  ·exact ih x hx
  rw [vY] at hx;subst hx;exact h _ (dV _)
theorem KC (s:ByteArray):∀ x∈bR s,1<=jF x.1∧jF x.1<=1000:=by
 intro x hx;obtain ⟨t,ht,rfl⟩:=List.mem_map.1 hx;exact ada (F3 s t ht)
def lI (a:ByteArray):List cK:=(dM (bR a) []).1.take 2048
def oD (a b:ByteArray):List cK:=(dM (bR b) (dM (bR a) []).2).1.take 2048
theorem RL (a:ByteArray):(lI a).length<=2048:=by rw [lI,List.length_take];omega
theorem acs (a b:ByteArray):(oD a b).length<=2048:=by rw [oD,List.length_take];omega
theorem FZ (s:ByteArray):(bR s).length<=s.size+1:=by
 have hcl:=Ak s
 have hlc:(dW s).length=(mI s).length:=by simp [dW,gJ]
 have htl:=DJ (dW s).length (dW s);rw [show ow (dW s).length (dW s)=jm (dW s) from rfl] at htl
 simp only [bR,bN];omega
theorem DK (l:List (fE × ByteArray)) (ks:List ByteArray):(dM l ks).1.length=l.length∧(dM l ks).2.length<=ks.length+l.length:=by
 have h:=vO l ks l.length (bD _)
 rwa [sD] at h
theorem F6 (a:ByteArray):∀ x∈lI a,1<=x.weight∧x.weight<=1000:=by
 have h:=F4 [] (KC a) _ (bD _);rw [sD] at h;exact fun x hx=>h x (List.mem_of_mem_take hx)
theorem KH (a b:ByteArray):∀ x∈oD a b,1<=x.weight∧x.weight<=1000:=by
 have h:=F4 (dM (bR a) []).2 (KC b) _ (bD _);rw [sD] at h;exact fun x hx=>h x (List.mem_of_mem_take hx)
theorem MB {G0:GH} (G:GH) (w0:World) (hG:Hold G w0) (h0:∀ b o,G0 b=some o->G b=some o) (s t:ByteArray) (hs:jr G0 s) (ht:jr G0 t) (hz1:s.size<=1073741824) (hz2:t.size<=1073741824) :
  Calls prog 14 #[.string s,.string t] w0 (cO w0 G fun u G'=>∃ x y,u=.tuple #[x,y,vi 0]∧aC G' (.sl 2 ((lI s).map cK.dat)) x∧aC G' (.sl 2 ((oD s t).map cK.dat)) y):=by
 have hl1:=FZ s;have hl2:=(DK (bR s) []).2;rw [List.length_nil] at hl2;refine eN [(0,_),(1,_)] func14 O ntmps14 O O hG ?_;intro a H;refine kP H (SR fun _ K1=>Ra O (Ra O (aB K1 O (SQ fun _ K2=>SR fun _ K3=>Rm O ?_))));clear H K1;intro a H;refine s_call Cw H wn O (DY _ _ H.ro s V) O ?_;clear H;rintro v9 _ a w ⟨rfl,rfl⟩ - H;rw [hs.ok] at H;refine kH H (Rn O (Rm O (Sp 11 O ?_ ?_))) <;> clear H
 ·intro h11 a H
  exact absurd h11 Y
 intro h11 a H
 try have rR:=dF h11
 refine kH H (YM h11 O ?_);clear H;intro a H;refine s_call Cw H (wg H O O h11) O (DY _ _ H.ro t V) O ?_;clear H;rintro v13 _ a w ⟨rfl,rfl⟩ - H;rw [ht.ok] at H;refine kH H (YN h11 O (Pf h11 O (Kz K3 (Cd O ?_ ?_)))) <;> clear H K3
 ·intro jX a H
  exact absurd jX Y
 intro jX a H
 try have qo:=dF jX
 refine mh ?_;refine K2 _ _ ?_;clear K2;refine jL (fun _ K4=>?_);refine aaL H wn O ?_;clear H;intro bm a w hbm H;refine kH H (aB K4 O (SR fun _ K5=>Rm O (Rm O ?_)));clear H K4;intro a H;refine jH NG (Li:=[]) (L:=[Ah bm []]) H wn O (Mx [] (Hp.owns (Li:=[]) H.hp) h0 s hs hz1 Y) O ?_;clear H;rintro v19 rV Te a w ⟨rfl,Db⟩ mP H;refine kH H (Rm O (Rm O ?_));clear H;intro a H;refine jH NG (Li:=[]) (L:=[Ah bm _]) H wn O (Mx _ (Hp.owns (Li:=[]) H.hp) (fun b o h=>mP b o (h0 b o h)) t ht hz2 V) O ?_;clear H;rintro v22 BM Tf a w ⟨rfl,Yx⟩ zl H;refine kH H (Ra O (Ra O (aB K5 O ?_)));clear H K5;intro a H;refine aV ?_;refine (aY H results14 (.cons (aD H O) (.cons (aD H O) (.cons (aD H O) .nil))) ?_).1;exact H.rt ⟨_,_,O,Db.mono zl,Yx⟩
def jh:List cK->Int
 | []=>0
 | x :: l=>x.weight+jh l
theorem abR (l:List cK) (x:cK):jh (l++[x])=jh l+x.weight:=by
 induction l with
 | nil=>simp [jh]
 | cons y l ih=>simp only [nQ,jh,ih];omega
theorem FT:∀ (l:List cK),(∀ x∈l,1<=x.weight∧x.weight<=1000)->(l.length:Int)<=jh l∧jh l<=1000*l.length
 | [],_=>by simp [jh]
 | x :: l,h=>by
  have h1:=h x (qH ..);have h2:=FT l fun y hy=>h y (List.mem_cons_of_mem _ hy)
  simp only [jh,kI];omega
def uX (a b:List cK):Int:=if jh (a++b)=0 then 1000 else (2000*dS a b 0 0).tdiv (jh (a++b))
theorem MW {l:List cK} (h:∀ x∈l,1<=x.weight∧x.weight<=1000) (hl:l.length<=2048):rz l=0:=by
 rw [rz,aX,aM];rw [gq];intro x hx;have:=h x hx
 simp [vI,this]
theorem RG {G:GH} {l:List cK} {v:av} (h:aC G (.sl 2 (l.map cK.dat)) v):aZ G (Bw l) [v]:=by
 simp only [Bw,aZ]
 exact ⟨_,_,O,h,O⟩
set_option maxHeartbeats 1000000 in
theorem Mj (G:GH) (w0:World) (hG:Hold G w0) (la lb:List cK) (v u:av) (hv:aC G (.sl 2 (la.map cK.dat)) v) (hu:aC G (.sl 2 (lb.map cK.dat)) u) (ha:la.length<=2048) (hb:lb.length<=2048) (yu:∀ x∈la,1<=x.weight∧x.weight<=1000) (hwb:∀ x∈lb,1<=x.weight∧x.weight<=1000) :
  Calls prog 32 #[v,u] w0 (cO w0 G fun r G'=>r=.tuple #[vi (uX la lb),vi 0]):=by
 obtain ⟨vA,vc,rfl,hc1,hc2,-⟩:=hv.slice;obtain ⟨uA,uc,rfl,hd1,hd2,-⟩:=hu.slice;have hml:maxLen=9223372036854775807:=rfl;have hsb:=Bq yu hwb _ 0 0 (bD _)
 have hok:Ci la lb=0:=by rw [Ci,aM (MW yu ha),MW hwb hb]
 have hll:(la++lb).length=la.length+lb.length:=iK;have hsw:=FT (la++lb) (fun x hx=>(vX.1 hx).elim (yu x) (hwb x));(iterate 2 rw [bN] at *);refine eN [(0,_),(1,_)] func32 O ntmps32 O O hG ?_;intro a H;refine kP H (SR fun _ K1=>Ra O (aB K1 O (SQ fun _ K2=>SR fun _ K3=>Rm O (Rm O ?_))));clear H K1;intro a H;refine s_call Vu H wn O (TV _ _ H.ro la lb _ _ hv hu) O ?_;clear H;rintro v12 _ a w ⟨rfl,rfl⟩ - H;rw [hok] at H;refine kH H (aB K3 O (SR fun _ K4=>Rm O (Rc O (Kz K4 (Cd O ?_ ?_))))) <;> clear H K3 K4
 ·intro fF a H
  exact absurd fF Y
 intro fF a H
 try have jY:=dF fF
 refine kP H (Kc K2 (SR fun _ K5=>aB K5 O (SQ fun _ K6=>SR fun _ K7=>Rm O (Rm O ?_))));clear H K2 K5;intro a H;refine eU DV DT [_,_] [_,_] H wn O O O O O (by intro i q h;match i,h with|0,h=>exact h|1,h=>exact h|n+2,h=>simp at h) O O ?_;clear H;intro b18 a w Ox H;obtain ⟨LG,hm18,X7,H⟩:=H.jd;refine s_call Vv H wn O (UM _ _ H.ro [la,lb] _ (aC.mQ (xs:=[.slice vA la.length vc,.slice uA lb.length uc]) X7 O (bD _) Y O (by simpa using ((dK.nil (sz:=1)).snoc (RG (hv.mono hm18)) O).snoc (RG (hu.mono hm18)) O)) (by simp;omega)) rfl ?_;clear H;rintro v19 rV a w Db mP H;rw [show [la,lb].flatten=la++lb by simp] at Db;obtain ⟨cA,cc,rfl,he1,he2,-⟩:=Db.slice;rw [bN] at *;refine kH H (Rl bG O (Rm O (Kz K7 (SB ?_))));clear H K7;intro a H;skip;refine eG (ι:=Nat) (Tc:=[(0,_),(1,_),(19,_),(20,_)]) (Lc:=[]) (fun gh=>[(7,vi (jh ((la++lb).take gh))),(21,vi gh)]) (fun gh=>[]) (fun gh=>rV) (fun gh=>gh<=(la++lb).length) (fun gh=>(la++lb).length - gh) (0) (by exact H.sub ⟨O,O,O,O,O,O,aL⟩) ?_ ?_
 ·exact dU _
 clear H;intro k a w hI H;have hk:=hI;dsimp only [lca,dB] at H;refine kP H (SR fun _ K8=>Rc O (Kz K8 (SQ fun _ K9=>Cd O ?_ ?_))) <;> clear H K8
 ·intro h22 a H
  try have mR:=dT h22
  have hk1:k < (la++lb).length:=by omega
  obtain ⟨b,o,rfl,hrow⟩:=zT Db hk1
  have hsu:jh ((la++lb).take (k+1))=jh ((la++lb).take k)+(la++lb)[k].weight:=by rw [lZ hk1,abR]
  have hin:=FT ((la++lb).take (k+1)) (fun x hx=>(vX.1 (List.mem_of_mem_take hx)).elim (yu x) (hwb x))
  have htk:((la++lb).take (k+1)).length<=(la++lb).length:=by rw [List.length_take];omega
  refine kP H (Kc K9 (SQ fun _ aP=>SB (SR fun _ bH=>Ri bG bO O O ?_)));clear H K9;intro a H;refine dX bO (cs:=[_,_]) H wn O O (fun j v hj=>H.hp.aR (hrow j v hj)) O ?_;clear H;intro a H;refine kE bO H wn O ?_;clear H;intro b9 a w IV H;refine eO bO 0 (vs:=[_,_]) H wn O ?_;clear H;intro w H;refine bH _ _ ?_;clear bH;refine kP H (SC (Rm O (gH Cx aF 0 O O (Rd O ?_))));clear H;intro a H;rw [<- hsu] at H;refine kH H (bS aP O (SC (Rd O (Rm O ?_))));clear H aP;intro a H;refine aj ?_;refine bg ((k+1)) (by exact (H.dR (Pl:=[_]) (dx:=[]) [] Y O).sub ⟨O,O,O,O,O,O,aL⟩) ?_
  omega
 intro h22 a H
 try have mR:=dF h22
 refine dD ?_;refine K6 _ _ ?_;clear K6;refine kP H (SQ fun _ bL=>SR fun _ bI=>Rm O (Rc O (Kz bI (Cd O ?_ ?_)))) <;> clear H bI
 ·intro h31 a H
  try have p31:=dT h31
  refine kP H (SR fun _ cB=>Ra O (aB cB O ?_));clear H cB;intro a H;refine aV ?_;refine (aY H results32 (.cons (aD H O) (.cons (aD H O) .nil)) ?_).1;exact H.rt (by rw [uX,aM (by rw [iU V] at p31;exact p31)])
 intro h31 a H
 try have p31:=dF h31
 refine mh ?_;refine bL _ _ ?_;clear bL;refine iF (fun _ dw=>?_);rw [show (la++lb).take k=la++lb from iU V] at H p31;refine kP H (SC (Rm O (Rm O ?_)));clear H;intro a H;refine s_call Vw H wn O (abA _ _ H.ro la lb _ _ ((hv.mono hm18).mono mP) ((hu.mono hm18).mono mP) ha hb yu hwb) O ?_;clear H;rintro v34 G34 a w ⟨q1,q2,q3,rfl⟩ aer H;refine abg (off:=0) ⟨Z⟩ H wn O O O ?_;clear H;intro a H;refine zM _ H wn O O O V V O ?_;clear H;intro a H;refine kH H (Rm O ?_);clear H;intro a H;have hq1:0<=(2000*dS la lb 0 0).tdiv (jh (la++lb)):=Int.tdiv_nonneg V V
 have hq2:(2000*dS la lb 0 0).tdiv (jh (la++lb))<=2000*dS la lb 0 0:=by
  rw [Int.tdiv_eq_ediv_of_nonneg V];exact Int.ediv_le_self _ V
 refine QG _ H wn O O V O V V O ?_;clear H;intro a H;refine kH H (Ra O (bS dw O ?_));clear H dw;intro a H;refine aV ?_;refine (aY H results32 (.cons (aD H O) (.cons (aD H O) .nil)) ?_).1;exact H.rt (by rw [uX,aX])
end Go.Proofs.YtomebajfpcjoeaaDoor
