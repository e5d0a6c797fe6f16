/-
  What the claim stands on, part 4: Chn Chk Dsv Mq Nck Cid Mt Ehd Hdr Hea Frm Itc Ubf Blw Tbs.
-/
import Derived.Test.YtlnhhlighgaapaaGreatWkc
namespace Go.Proofs.YtlnhhlighgaapaaGreat
open Go.Proofs.Tryz
section
open Go.RowKit
theorem J5:prog.underlying 137=some (.map 3 3):=by kernel_rfl
theorem rT:Ty prog 41 1 24 [.slice none 0 0] false:=⟨by kernel_rfl,by kernel_rfl⟩
theorem Ui:dV prog 100 3 3:=⟨by kernel_rfl⟩
theorem aav:∀ args w,(callFunc 181 args).run prog w=.ok (.enter 181 args) w:=enters func181 rfl (by kernel_rfl)
theorem acJ {x:Int}:∀ {l:List Int} {i n:Nat},xJ x i l=some n→n < i+l.length
 | [],_,_,h=>by cases h
 | k :: r,i,n,h=>by
  rw [xJ] at h;split at h
  ·cases h;simp
  have:=acJ h;simp only [nG];omega
def AJ (l:List cK):Nat→Int→List cK
 | 0,_=>[]
 | f+1,id=>if id=0 then [] else match xJ id 0 (l.map cK.id) with|none=>[]|some i=>match l[i]? with|none=>[]|some s=>s :: AJ l f s.base
def Kt (l:List cK) (id:Int):List cK:=AJ l (l.length+1) id
theorem agK {l:List cK} {f:Nat} {id:Int} (h:id=0):AJ l f id=[]:=by
 cases f with
 | zero=>rfl
 | succ f=>rw [AJ,au h]
theorem agI {l:List cK} {f:Nat} {id:Int} (h0:¬ id=0) (h:xJ id 0 (l.map cK.id)=none):AJ l f id=[]:=by
 cases f with
 | zero=>rfl
 | succ f=>rw [AJ,ah h0,h]
theorem agJ {l:List cK} {f i:Nat} {id:Int} (h0:¬ id=0) (h:xJ id 0 (l.map cK.id)=some i) (hi:i < l.length):AJ l (f+1) id=l[i] :: AJ l f l[i].base:=by
 rw [AJ,ah h0,h];dsimp only;rw [gD hi]
def stP (x:cK):AP:=fun args g=>∃ cs,args=[.agg cs.toArray]∧bH g x.dat cs
theorem aes {A:List cK} {k:Nat} {args:List aj} {g:GH} (h:zu (A.map stP) k args g):∃ (hk:k < A.length) (cs:List aj),args=[.agg cs.toArray]∧bH g A[k].dat cs:=by
 obtain ⟨p,hp,hargs⟩:=h;rw [qY] at hp;obtain ⟨q,hq,rfl⟩:=qC.1 hp;obtain ⟨hk,rfl⟩:=mM.1 hq;obtain ⟨cs,h1,h2⟩:=hargs;exact ⟨hk,cs,h1,h2⟩
abbrev bI (b:Nat) (n:Int):Nat × Obj:=(b,.cells #[vi n] 3 (0,0))
set_option maxHeartbeats 1000000 in
theorem agL {G:GH} {bl bi:Nat} {l:List cK} {id:Int} {v:aj} (hb:aH G bl 0=some v) (hv:aB G (.sl 6 (l.map cK.dat)) v) (hnd:∀ (k:Nat) (h:k < l.length),l[k].id∉(l.take k).map cK.id) :
  Kg prog G [bI bi id] (.func (.func 181) #[] #[(aK bl 0),(aK bi 0)]) ((Kt l id).map stP) (decide ((Kt l id).length≤l.length)):=by
 intro J Jx fv G1 L w0 Ce hGi nk hJx hJ hO hcb hfin;refine mU (caps:=[(aK bl 0),(aK bi 0)]) aav ?_;obtain ⟨A,c,rfl,hc1,hc2,-⟩:=hv.slice;have hml:maxLen=9223372036854775807:=rfl;rw [bZ] at *;replace hb:=aF hGi hb;replace hv:=hv.mono hGi;refine mH (N:=46) (T:=[(0,_),(1,_),(2,_)]) func181 rfl ntmps181 rfl rfl hO ?_;intro a H;refine dz (fun _ K1=>?_);refine LZ H wn rfl ?_;clear H;intro bm a w hbm H;refine kH H (ak K1 rfl (SQ fun _ K2=>SR fun _ K3=>Rg rT rfl (by assumption) ?_));clear H K1;intro a H;refine kH H (Rl oo rfl (Rm rfl (Kz K3 (SB ?_))));clear H K3;intro a H;skip;refine fH (ι:=Nat) (Tc:=[(0,_),(1,_),(2,_),(4,_),(10,_),(11,_)]) (Lc:=[(_,_)]) (fun gh=>[(12,vi gh)]) (fun gh=>[afW bm ((l.take gh).map cK.id)]++L) (fun gh=>G1) (fun gh=>gh≤l.length) (fun gh=>l.length - gh) (0) (by exact (H.dK (Pl:=[_,_]) (dw:=[_,_]) [1,0] (by decide) rfl).sub ⟨rfl,rfl,rfl,rfl,rfl,rfl,rfl,av⟩) ?_ ?_
 ·exact iK _
 clear H;intro gh a w hI H;obtain ⟨k,hgh⟩:∃ x,x=gh:=⟨_,rfl⟩;subst hgh;have hk:=hI;dsimp only [lca,aS] at H;refine kP H (SR fun _ K4=>Rc rfl (Kz K4 (SQ fun _ K5=>Cd rfl ?_ ?_))) <;> clear H K4
 ·intro fP a H
  try have qN:=dT fP
  have hk2:k < l.length:=by omega
  obtain ⟨b,o,pA,pc,rfl,hrow,hp,hrep⟩:=CF hv hk2;have aml:=hnd k hk2
  have hlk:((l.take k).map cK.id).length=k:=by rw [bZ,List.length_take];omega
  have hnx:(l.take k).map cK.id++[l[k].id]=(l.take (k+1)).map cK.id:=by rw [jZ hk2,nP];rfl
  refine kP H (Kc K5 (SQ fun _ K6=>SB (SR fun _ K7=>Rm rfl (Ri oo lU rfl rfl ?_))));clear H K5;intro a H;refine bD lU (cs:=[_,_,_,_,_,_]) H wn rfl rfl (fun j v hj=>H.hp.aH (hrow j v hj)) rfl ?_;clear H;intro a H;refine dR lU H wn rfl ?_;clear H;intro b6 a w hb6 H;refine kH H (Ra rfl ?_);clear H;intro a H;refine bO lU 0 (vs:=[_,_,_,_,_,_]) _ H wn rfl rfl rfl rfl rfl rfl rfl rfl ?_;clear H;intro w H;dsimp only [List.set,setRow] at H;refine K7 _ _ ?_;clear K7;refine kP H (SC (Rm rfl (aW wU aD 0 rfl rfl (Rm rfl ?_))));clear H;intro a H;refine aed (i:=2) (ky:=vi l[k].id) (v:=vi k) J5 qz H wn rfl rfl rfl rfl (by trivial) (by rw [List.toList_toArray,Uu,acK aml];rfl) ?_;clear H;intro w H
  have hpush:((zY 0 ((l.take k).map cK.id)).toArray.push ⟨vi l[k].id,vi k,((l.take k).map cK.id).length⟩)=(zY 0 ((l.take (k+1)).map cK.id)).toArray:=by rw [← hnx,← aoe,hlk]
  rw [hpush,show ((l.take k).map cK.id).length+1=((l.take (k+1)).map cK.id).length by rw [← hnx];simp] at H;refine kH H (Kn K6 (SC (Rd rfl (Rm rfl ?_))));clear H K6;intro a H;refine aI ?_;refine dP ((k+1)) (by exact (H.dK (Pl:=[_,_,_]) (dw:=[_,_]) [1,2] (by decide) rfl).sub ⟨rfl,rfl,rfl,rfl,rfl,rfl,rfl,av⟩) ?_ ?_
  ·exact by omega
  first|omega|(dsimp only;omega)
 intro fP a H
 try have qN:=dF fP
 obtain rfl:k=l.length:=by omega
 rw [Db] at H;refine eD ?_;refine K2 _ _ ?_;clear K2;refine sw ?_;skip;refine fH (ι:=Int × Nat × Nat × OL × GH) (Tc:=[(0,_),(1,_),(2,_),(4,_)]) (Lc:=[(_,_)]) (fun gh=>[]) (fun gh=>[bI bi gh.1]++gh.2.2.2.1) (fun gh=>gh.2.2.2.2) (fun gh=>(∀ b o,G1 b=some o→gh.2.2.2.2 b=some o)∧Now ((Kt l id).map stP) stP J (Kt l id).length gh.2.2.1 (AJ l gh.2.1 gh.1) gh.2.2.2.2 gh.2.2.2.1∧gh.2.2.1+gh.2.1=l.length+1) (fun gh=>gh.2.1) ((id,l.length+1,0,L,G1)) (by exact (H.dK (Pl:=[_,_]) (dw:=[_,_]) [1,0] (by decide) rfl).sub ⟨rfl,rfl,rfl,rfl,av⟩) ?_ ?_
 ·exact ⟨fun _ _ h=>h,⟨hJ,fun i a h=>by rw [pz,qY];rw [show AJ l (l.length+1) id=Kt l id from rfl] at h;rw [h];rfl,pz _⟩,pz _⟩
 clear H;intro gh a w hI H;obtain ⟨i,f,j1,Lt,g⟩:=gh;dsimp only at hI H;obtain ⟨hgm,cO,hjf⟩:=hI;have hbg:=aF hgm hb;dsimp only [lca,aS] at H;refine kP H (SQ fun _ K8=>SR fun _ K9=>Ro aD 1 rfl (Rc rfl (Kz K9 (Cd rfl ?_ ?_)))) <;> clear H K9
 ·intro h23 a H
  try have DU:=dT h23
  have h0:¬ i=0:=by simpa using h23
  obtain ⟨an,han⟩:∃ an,an=xJ i 0 (l.map cK.id):=⟨_,rfl⟩;have hfn:=Uu i 0 0 (l.map cK.id);rw [← han] at hfn;refine kP H (Kc K8 (SB (SR fun _ aZ=>Rm rfl (Ro aD 1 rfl ?_))));clear H K8;intro a H;refine apP (i:=0) (zv:=vi 0) _ J5 qz (by kernel_rfl) H wn rfl rfl rfl (by trivial) (by simpa using hfn) rfl ?_;clear H;intro a H;refine kH H (Rm rfl ?_);clear H;intro a H;(iterate 2 refine lD H wn rfl rfl rfl ?_;clear H;intro a H);refine kH H (Ra rfl (ak aZ rfl (SQ fun _ bN=>SR fun _ bQ=>Rm rfl (Rn rfl (Rm rfl (Sp 32 rfl ?_ ?_)))))) <;> clear H aZ
  ·intro h32 a H
   try have p32:=dT h32
   obtain rfl:an=none:=by
    cases an with
    | none=>rfl
    | some n=>simp [EU] at h32
   rw [agI h0 han.symm] at cO;refine kH H (aT h32 rfl (aP h32 rfl (aP h32 rfl (Pt h32 rfl (Kz bQ (Ct rfl rfl ?_))))));clear H bQ;intro a H;refine dM ?_;refine (leave0 H results181 ?_).1;refine H.hp.dh (L':=Lt) (by repeat (first|exact dx _|apply List.Sublist.cons)) (.inl ?_);have h:=cO.len
   simp only [List.length_nil,ou] at h
   rw [← h];exact cO.now
  intro h32 a H
  try have p32:=dF h32
  obtain ⟨n,rfl⟩:∃ n,an=some n:=by
   cases an with
   | none=>simp [EU] at h32
   | some n=>exact ⟨n,rfl⟩
  have hnl:n < l.length:=by have:=acJ han.symm;simpa using this
  obtain ⟨f',rfl⟩:∃ f',f=f'+1:=by
   cases f with
   | succ f'=>exact ⟨f',rfl⟩
   | zero =>
    exfalso
    have hl:=cO.len
    simp only [AJ,List.length_nil,ou] at hl
    refine hfin (iC (by omega)) g Lt ?_;rw [← hl];exact cO.now
  rw [agJ h0 han.symm hnl] at cO;dsimp only [EU,Option.map_some] at H;obtain ⟨b,o,pA,pc,rfl,hrow,hp,hrep⟩:=CF (hv.mono hgm) hnl;refine kH H (YM h32 rfl (YR rT h32 rfl (by assumption) ?_));clear H;intro a H;refine kH H (YM h32 rfl (YI oo lU h32 rfl rfl ?_));clear H;intro a H;refine bD lU (cs:=[_,_,_,_,_,_]) H (wg H rfl rfl h32) rfl rfl (fun j v hj=>H.hp.aH (hrow j v hj)) rfl ?_;clear H;intro a H;refine xU (Li:=[_,_]) (L:=Lt) H (wg H rfl rfl h32) rfl rfl (hcb j1 _ _ _ _ ⟨_,cO.head,_,rfl,hrep⟩ hgm cO.now (Hp.owns (Li:=[_,_]) H.hp)) rfl ?_;clear H;rintro v38 YG Zn a w ⟨b38,rfl,hb1,hb2⟩ VR H;have hbg:=aF VR hbg;have r3:=aF VR (hrow 3 _ rfl);refine kH H (YN h32 rfl (Pf h32 rfl (Kz bQ (Cd rfl ?_ ?_)))) <;> clear H bQ
  ·intro rF a H
   try have p40:=dT rF
   refine dM ?_;refine (leave0 H results181 ?_).1;exact H.hp.dh (L':=Zn) (by repeat (first|exact dx _|apply List.Sublist.cons)) (.inr (hb2 (by simpa using rF)))
  intro rF a H
  try have p40:=dF rF
  refine kP H (Kc bN (SC (Rg rT rfl (by assumption) ?_)));clear H bN;intro a H;refine kH H (Rm rfl (Ri oo lU rfl rfl (Rf Ui rfl (Rg aD rfl (by assumption) ?_))));clear H;intro a H;refine bO aD 1 (vs:=[_]) _ H wn rfl rfl rfl rfl rfl rfl rfl rfl ?_;clear H;intro w H;dsimp only [List.set,setRow] at H;refine aI ?_;refine dP ((l[n].base,f',j1+1,Zn,YG)) (by exact (H).sub ⟨rfl,rfl,rfl,rfl,av⟩) ?_ ?_
  ·(try dsimp only);exact ⟨fun b o h=>VR b o (hgm b o h),cO.step (hb1 (by simpa using rF)),by omega⟩
  first|omega|(dsimp only;omega)
 intro h23 a H
 try have DU:=dF h23
 refine eD ?_;refine (leave0 H results181 ?_).2;rw [agK (by simpa using h23)] at cO;refine H.hp.dh (L':=Lt) (by repeat (first|exact dx _|apply List.Sublist.cons)) (.inl ?_);have h:=cO.len
 simp only [List.length_nil,ou] at h
 rw [← h];exact cO.now
end
section
open Go.RowKit
theorem ahB:∀ args w,(callFunc 105 args).run prog w=.ok (.enter 105 args) w:=enters func105 rfl (by kernel_rfl)
theorem ahA:∀ args w,(callFunc 103 args).run prog w=.ok (.enter 103 args) w:=enters func103 rfl (by kernel_rfl)
theorem TG:∀ args w,(callFunc 104 args).run prog w=.ok (.enter 104 args) w:=enters func104 rfl (by kernel_rfl)
theorem Qc:dV prog 100 4 4:=⟨by kernel_rfl⟩
theorem agM {G:GH} {w0:World} (hO:jQ G [] w0) (l:List cK) (id:Int) (v:aj) (hv:aB G (.sl 6 (l.map cK.dat)) v) :
  Calls prog 105 #[v,vi id] w0 (jk w0 G [] fun u G' L'=>∃ bl bi,u=.func (.func 181) #[] #[(aK bl 0),(aK bi 0)]∧L'=[bI bi id]∧aH G' bl 0=some v):=by
 obtain ⟨A,c,rfl,hc1,hc2,-⟩:=hv.slice;refine mH (N:=6) (T:=[(0,_),(1,_)]) func105 rfl ntmps105 rfl rfl hO ?_;intro a H;refine dz (fun _ K1=>?_);refine eU (cs:=[_]) H wn rfl rfl rfl ?_;clear H;intro b2 a w hb2 H;refine eU (cs:=[_]) H wn rfl rfl rfl ?_;clear H;intro b3 a w hb3 H;refine kH H (ak K1 rfl (SR fun _ K2=>?_));clear H K1;intro a H;refine qR H wn rfl rfl ?_;clear H;intro a H;refine kH H (ak K2 rfl ?_);clear H K2;intro a H;refine lr H results105 rfl ?_;have H:=H.dK (Pl:=[_,_]) (dw:=[_,_]) [1,0] (by decide) rfl;obtain ⟨Ga,hma,hb2',H⟩:=H.fD;exact H.hp.gL ⟨b2,b3,rfl,rfl,by unfold aH;rw [hb2'];rfl⟩
def uZ (p:Nat→Int):Nat→Nat→Int
 | _,0=>0
 | k,n+1=>if p k=0 then uZ p (k+1) n else p k
theorem ajN {p:Nat→Int} {k m:Nat} (h:k < m):uZ p k (m - k)=if p k=0 then uZ p (k+1) (m - (k+1)) else p k:=by
 obtain ⟨n,hn⟩:∃ n,m - k=n+1:=⟨m - k - 1,by omega⟩;rw [hn,uZ,show m - (k+1)=n by omega]
theorem ajM {p:Nat→Int} {k m:Nat} (h:m≤k):uZ p k (m - k)=0:=by rw [show m - k=0 by omega];rfl
theorem aaP {p:Nat→Int}:∀ {n k:Nat},uZ p k n=0→∀ j,k≤j→j < k+n→p j=0
 | 0,k,_,j,h1,h2=>by omega
 | n+1,k,h,j,h1,h2=>by
  rw [uZ] at h;split at h
  ·rename_i hp
   by_cases e:j=k
   ·rw [e];exact hp
   exact aaP h j (by omega) (by omega)
  rename_i hp;exact absurd h hp
def Cv (l:List cK) (k:Nat):Int:=match l[k]? with|some s=>ko l k s|none=>0
theorem ads {l:List cK} {k:Nat} (h:k < l.length):Cv l k=ko l k l[k]:=by unfold Cv;rw [gD h]
def vU (l:List cK) (s:cK):Bool:=(decide (s.base≠0) && !JE l s.kind s.base) || (decide (s.next≠0) && (decide (s.kind=2) || !JE l 1 s.next))
def Tz (l:List cK) (s:cK):Bool:=decide (l.length < (Kt l s.id).length)
def gU (l:List cK):Int:=if 128 < l.length then 9 else if uZ (Cv l) 0 l.length≠0 then uZ (Cv l) 0 l.length else if l.any (vU l)=true then 25 else if l.any (Tz l)=true then 16 else 0
theorem aox {l:List cK} (h:uZ (Cv l) 0 l.length=0) {k:Nat} (hk:k+1 < l.length):l[k].id < l[k+1].id:=by
 have h1:=aaP h (k+1) (iK _) (by omega);rw [ads hk,ko,nT] at h1
 have hp:Bh l (k+1)=some l[k].id:=by rw [Bh,ah (by omega),Nat.add_sub_cancel,gD (by omega)];rfl
 rw [hp] at h1
 split at h1
 ·cases h1
 split at h1
 ·cases h1
 split at h1
 ·cases h1
 rename_i _ h2 h3
 have h2':¬ l[k].id=l[k+1].id:=fun e=>h2 (by rw [e]);have h3':¬ l[k+1].id < l[k].id:=fun e=>h3 (aJ e)
 omega
theorem adt {l:List cK} (h:uZ (Cv l) 0 l.length=0):∀ {k j:Nat} (hk:k < l.length) (hj:j < k),l[j].id < l[k].id
 | k+1,j,hk,hj=>by
  have h1:=aox h hk
  by_cases e:j=k
  ·subst e;exact h1
  have:=adt h (k:=k) (j:=j) (by omega) (by omega)
  omega
theorem adu {l:List cK} (h:uZ (Cv l) 0 l.length=0) (k:Nat) (hk:k < l.length):l[k].id∉(l.take k).map cK.id:=by
 intro hm;obtain ⟨x,hx1,hx2⟩:=List.mem_map.1 hm;obtain ⟨j,hj,rfl⟩:=List.getElem_of_mem hx1;rw [List.getElem_take] at hx2;rw [List.length_take] at hj;have:=adt h hk (j:=j) (by omega)
 omega
theorem MR {α:Type} {p:α→Bool} {l:List α} {k:Nat} (hk:k < l.length) (h:(l.take k).any p=false) (hp:p l[k]=false):(l.take (k+1)).any p=false:=by
 rw [jZ hk,List.any_append,h];simp [hp]
theorem yB {α:Type} {p:α→Bool} {l:List α} {k:Nat} (hk:k < l.length) (hp:p l[k]=true):l.any p=true:=List.any_eq_true.2 ⟨_,jr hk,hp⟩
theorem Dc {α:Type} {p:α→Bool} {l:List α} {k:Nat} (hk:l.length≤k) (h:(l.take k).any p=false):¬ l.any p=true:=by
 rw [kF hk] at h;rw [h];decide
set_option maxHeartbeats 1000000 in
theorem Z4 (G:GH) (w0:World) (hG:Hold G w0) (l:List cK) (v:aj) (hv:aB G (.sl 6 (l.map cK.dat)) v) (hN:∀ s∈l,s.name.size≤4611686018427387904) :
  Calls prog 43 #[v] w0 (bR w0 G fun u G'=>u=vi (gU l)):=by
 obtain ⟨A,c,rfl,hc1,hc2,-⟩:=hv.slice;have hml:maxLen=9223372036854775807:=rfl;rw [bZ] at *;refine eN [(0,_)] func43 rfl ntmps43 rfl rfl hG ?_;intro a H;refine dz (fun _ K1=>?_);refine eU (cs:=[_]) H wn rfl rfl rfl ?_;clear H;intro b1 a w hb1 H;refine dR jg H wn rfl ?_;clear H;intro b2 a w hb2 H;refine K1 _ _ ?_;clear K1;refine kP H (SQ fun _ K2=>SR fun _ K3=>Ro rT 1 rfl (Rl oo rfl (Rc rfl (Kz K3 (Cd rfl ?_ ?_))))) <;> clear H K3
 ·intro h12 a H
  try have qM:=dT h12
  refine dz (fun _ K4=>?_);refine bO jg 0 (vs:=[_]) _ H wn rfl rfl rfl rfl rfl rfl rfl rfl ?_;clear H;intro w H;dsimp only [List.set,setRow] at H;refine K4 _ _ ?_;clear K4;refine dM ?_;refine (leave1 H results43 (.cons (vJ jg H rfl (H.hp.pQ 0 rfl rfl)) .nil) ?_).1
  first
   | exact H.rt (aC vi (by rw [gU,au (by omega)]))
   | exact H.rt (aC vi (by rw [ah (by simpa using kr)] at heq;rw [gU,ah (by omega),← heq,au (by simpa using kr)]))
   | exact H.rt (aC vi (by rw [gU,ah (by omega),ah (by rw [hok];decide),au hbad]))
   | exact H.rt (aC vi (by rw [gU,ah (by omega),ah (by rw [hok];decide),ah hbad,au (yB hj2 hI)]))
   | exact H.rt (aC vi (by rw [gU,ah (by omega),ah (by rw [hok];decide),ah hbad,ah (Dc (by omega) hnc)]))
 intro h12 a H
 try have qM:=dF h12
 refine kP H (Kc K2 (SQ fun _ K5=>SR fun _ K6=>Ro rT 1 rfl (Rl oo rfl (Rm rfl (Kz K6 (SB ?_))))));clear H K2 K6;intro a H;skip;refine fH (ι:=Nat × GH) (Tc:=[(1,_),(2,_),(14,_)]) (Lc:=[(_,_),(_,_)]) (fun gh=>[(15,vi gh.1)]) (fun gh=>[]) (fun gh=>gh.2) (fun gh=>gh.1≤l.length∧uZ (Cv l) gh.1 (l.length - gh.1)=uZ (Cv l) 0 l.length∧(∀ b o,G b=some o→gh.2 b=some o)) (fun gh=>l.length - gh.1) ((0,G)) (by exact (H).sub ⟨rfl,rfl,rfl,rfl,av⟩) ?_ ?_
 ·exact ⟨iK _,rfl,fun _ _ h=>h⟩
 clear H;intro gh a w hI H;obtain ⟨k,g⟩:=gh;dsimp only at hI H;obtain ⟨hk,heq,hgm⟩:=hI;dsimp only [lca,aS] at H;refine kP H (SR fun _ K7=>Rc rfl (Kz K7 (SQ fun _ K8=>Cd rfl ?_ ?_))) <;> clear H K7
 ·intro h16 a H
  try have p16:=dT h16
  have hk2:k < l.length:=by omega
  rw [ajN hk2,ads hk2] at heq;refine kP H (Kc K8 (SQ fun _ K9=>SB (SR fun _ aZ=>Rm rfl (ak aZ rfl (SR fun _ bN=>Ro rT 1 rfl (Rm rfl ?_))))));clear H K8 aZ;intro a H;refine s_call ahA H wn rfl (aoy _ _ H.ro l k _ (hv.mono hgm) hk2 (hN _ (jr hk2))) rfl ?_;clear H;rintro v20 Ms a w rfl KW H;refine kH H (ak bN rfl (SR fun _ bQ=>Rm rfl (Rc rfl (Kz bQ (Cd rfl ?_ ?_))))) <;> clear H bN bQ
  ·intro h22 a H
   try have kr:=dT h22
   refine kP H (SR fun _ bT=>Rm rfl ?_);clear H;intro a H;refine bO jg 0 (vs:=[_]) _ H wn rfl rfl rfl rfl rfl rfl rfl rfl ?_;clear H;intro w H;dsimp only [List.set,setRow] at H;refine bT _ _ ?_;clear bT;refine dM ?_;refine (leave1 H results43 (.cons (vJ jg H rfl (H.hp.pQ 0 rfl rfl)) .nil) ?_).1
   first
    | exact H.rt (aC vi (by rw [gU,au (by omega)]))
    | exact H.rt (aC vi (by rw [ah (by simpa using kr)] at heq;rw [gU,ah (by omega),← heq,au (by simpa using kr)]))
    | exact H.rt (aC vi (by rw [gU,ah (by omega),ah (by rw [hok];decide),au hbad]))
    | exact H.rt (aC vi (by rw [gU,ah (by omega),ah (by rw [hok];decide),ah hbad,au (yB hj2 hI)]))
    | exact H.rt (aC vi (by rw [gU,ah (by omega),ah (by rw [hok];decide),ah hbad,ah (Dc (by omega) hnc)]))
  intro h22 a H
  try have kr:=dF h22
  refine kP H (Kc K9 (SC (Rd rfl (Rm rfl ?_))));clear H K9;intro a H;refine aI ?_;refine dP ((k+1,Ms)) (by exact (H).sub ⟨rfl,rfl,rfl,rfl,av⟩) ?_ ?_
  ·(try dsimp only);exact ⟨by omega,by rw [au (by simpa using kr)] at heq;exact heq,fun b o h=>KW b o (hgm b o h)⟩
  first|omega|(dsimp only;omega)
 intro h16 a H
 try have p16:=dF h16
 have hok:uZ (Cv l) 0 l.length=0:=by rw [← heq];exact ajM (by omega)
 clear heq;have Jv:=hv.mono hgm;refine eD ?_;refine K5 _ _ ?_;clear K5;refine kP H (SQ fun _ cu=>SR fun _ dL=>Ro rT 1 rfl (Rl oo rfl (Rm rfl (Kz dL (SB ?_)))));clear H dL;intro a H;skip;refine fH (ι:=Nat × GH) (Tc:=[(1,_),(2,_),(25,_),(26,_)]) (Lc:=[(_,_),(_,_)]) (fun gh=>[(27,vi gh.1)]) (fun gh=>[]) (fun gh=>gh.2) (fun gh=>gh.1≤l.length∧(l.take gh.1).any (vU l)=false∧(∀ b o,g b=some o→gh.2 b=some o)) (fun gh=>l.length - gh.1) ((0,g)) (by exact (H).sub ⟨rfl,rfl,rfl,rfl,rfl,av⟩) ?_ ?_
 ·exact ⟨iK _,rfl,fun _ _ h=>h⟩
 clear H;intro gh a w hI H;obtain ⟨k,g2⟩:=gh;dsimp only at hI H;obtain ⟨hk3,hno,jX⟩:=hI;have Cn:=Jv.mono jX;dsimp only [lca,aS] at H;refine kP H (SR fun _ dO=>Rc rfl (Kz dO (SQ fun _ dJ=>Cd rfl ?_ ?_))) <;> clear H dO
 ·intro iE a H
  try have p28:=dT iE
  have hk4:k < l.length:=by omega
  obtain ⟨b,o,pA,pc,rfl,hrow,hp,hrep⟩:=CF Cn hk4;refine kP H (Kc dJ (SQ fun _ dW=>SB (SR fun _ eG=>Ri oo lU rfl rfl ?_)));clear H dJ;intro a H;refine bD lU (cs:=[_,_,_,_,_,_]) H wn rfl rfl (fun j v hj=>H.hp.aH (hrow j v hj)) rfl ?_;clear H;intro a H;refine dR lU H wn rfl ?_;clear H;intro b6 a w hb6 H;refine bO lU 0 (vs:=[_,_,_,_,_,_]) _ H wn rfl rfl rfl rfl rfl rfl rfl rfl ?_;clear H;intro w H;dsimp only [List.set,setRow] at H;refine eG _ _ ?_;clear eG;refine kP H (SR fun _ eB=>aW Ui aD 0 rfl rfl (Rc rfl (Rm rfl (Sp 34 rfl ?_ ?_)))) <;> clear H
  ·intro fQ a H
   try have p34:=dT fQ
   refine kH H (YO rT 2 fQ rfl (YF zK fQ rfl (YO aD 0 fQ rfl (YF Ui fQ rfl (YO aD 0 fQ rfl ?_)))));clear H;intro a H;refine s_call TG H (wg H rfl rfl fQ) rfl (WO _ _ H.ro l l[k].kind l[k].base _ Cn) rfl ?_;clear H;rintro v40 g2 a w rfl KX H;replace jX:=fun b o (h:g b=some o)=>KX b o (jX b o h);replace Cn:=Cn.mono KX;refine kH H (YN fQ rfl (Pt fQ rfl (Rm rfl (Sp 43 rfl ?_ ?_)))) <;> clear H
   ·intro h43 a H
    try have p43:=dT h43
    refine kH H (aP h43 rfl (aP h43 rfl (Ku rfl (Ku rfl (Ku rfl (Ku rfl (Ku rfl (Ku rfl (Ku rfl (Ku rfl (Ku rfl (Ku rfl (Ks h43 rfl (Pt h43 rfl (Kz eB (Ct rfl rfl (SQ fun _ eH=>?_)))))))))))))))));clear H eB;intro a H;have hbad:l.any (vU l)=true:=yB hk4 (by unfold vU;simp_all);refine oD ?_;refine bO jg 1 (vs:=[_]) _ H wn rfl rfl rfl rfl rfl rfl rfl rfl ?_;clear H;intro w H;dsimp only [List.set,setRow] at H;refine aI ?_;refine eH _ _ ?_;clear eH;refine dM ?_;refine (leave1 H results43 (.cons (vJ jg H rfl (H.hp.pQ 1 rfl rfl)) .nil) ?_).1
    first
     | exact H.rt (aC vi (by rw [gU,au (by omega)]))
     | exact H.rt (aC vi (by rw [ah (by simpa using kr)] at heq;rw [gU,ah (by omega),← heq,au (by simpa using kr)]))
     | exact H.rt (aC vi (by rw [gU,ah (by omega),ah (by rw [hok];decide),au hbad]))
     | exact H.rt (aC vi (by rw [gU,ah (by omega),ah (by rw [hok];decide),ah hbad,au (yB hj2 hI)]))
     | exact H.rt (aC vi (by rw [gU,ah (by omega),ah (by rw [hok];decide),ah hbad,ah (Dc (by omega) hnc)]))
   intro h43 a H
   try have p43:=dF h43
   refine kH H (YF Qc h43 rfl (YO aD 0 h43 rfl (YC h43 rfl (YM h43 rfl (Sp 47 rfl ?_ ?_))))) <;> clear H
   ·intro h47 a H
    try have p47:=dT h47
    refine kH H (YF zK h47 rfl (YO aD 0 h47 rfl (YC h47 rfl (YM h47 rfl (Sp 51 rfl ?_ ?_))))) <;> clear H
    ·intro mI a H
     try have p51:=dT mI
     refine kH H (aT mI rfl (aP mI rfl (PT h47 mI rfl (PT h43 h47 rfl (Pf h43 rfl (Kz eB (Ct rfl rfl (SQ fun _ fO=>?_))))))));clear H eB;intro a H;have hbad:l.any (vU l)=true:=yB hk4 (by unfold vU;simp_all);refine oD ?_;refine bO jg 1 (vs:=[_]) _ H wn rfl rfl rfl rfl rfl rfl rfl rfl ?_;clear H;intro w H;dsimp only [List.set,setRow] at H;refine aI ?_;refine fO _ _ ?_;clear fO;refine dM ?_;refine (leave1 H results43 (.cons (vJ jg H rfl (H.hp.pQ 1 rfl rfl)) .nil) ?_).1
     first
      | exact H.rt (aC vi (by rw [gU,au (by omega)]))
      | exact H.rt (aC vi (by rw [ah (by simpa using kr)] at heq;rw [gU,ah (by omega),← heq,au (by simpa using kr)]))
      | exact H.rt (aC vi (by rw [gU,ah (by omega),ah (by rw [hok];decide),au hbad]))
      | exact H.rt (aC vi (by rw [gU,ah (by omega),ah (by rw [hok];decide),ah hbad,au (yB hj2 hI)]))
      | exact H.rt (aC vi (by rw [gU,ah (by omega),ah (by rw [hok];decide),ah hbad,ah (Dc (by omega) hnc)]))
    intro mI a H
    try have p51:=dF mI
    refine kH H (YO rT 2 mI rfl (YF Qc mI rfl (YO aD 0 mI rfl ?_)));clear H;intro a H;refine s_call TG H (wg H rfl rfl mI) rfl (WO _ _ H.ro l 1 l[k].next _ Cn) rfl ?_;clear H;rintro v55 g2 a w rfl zR H;replace jX:=fun b o (h:g b=some o)=>zR b o (jX b o h);replace Cn:=Cn.mono zR;refine kH H (YN mI rfl (PF h47 mI rfl (PT h43 h47 rfl (Pf h43 rfl (Kz eB (Cd rfl ?_ ?_)))))) <;> clear H eB
    ·intro jE a H
     try have p59:=dT jE
     refine aO (fun _ gJ=>?_);have hbad:l.any (vU l)=true:=yB hk4 (by unfold vU;simp_all);refine oD ?_;refine bO jg 1 (vs:=[_]) _ H wn rfl rfl rfl rfl rfl rfl rfl rfl ?_;clear H;intro w H;dsimp only [List.set,setRow] at H;refine aI ?_;refine gJ _ _ ?_;clear gJ;refine dM ?_;refine (leave1 H results43 (.cons (vJ jg H rfl (H.hp.pQ 1 rfl rfl)) .nil) ?_).1
     first
      | exact H.rt (aC vi (by rw [gU,au (by omega)]))
      | exact H.rt (aC vi (by rw [ah (by simpa using kr)] at heq;rw [gU,ah (by omega),← heq,au (by simpa using kr)]))
      | exact H.rt (aC vi (by rw [gU,ah (by omega),ah (by rw [hok];decide),au hbad]))
      | exact H.rt (aC vi (by rw [gU,ah (by omega),ah (by rw [hok];decide),ah hbad,au (yB hj2 hI)]))
      | exact H.rt (aC vi (by rw [gU,ah (by omega),ah (by rw [hok];decide),ah hbad,ah (Dc (by omega) hnc)]))
    intro jE a H
    try have p59:=dF jE
    refine kP H (Kc dW (SC (Rd rfl (Rm rfl ?_))));clear H dW;intro a H;refine aI ?_;refine dP ((k+1,g2)) (by exact (H.dK (Pl:=[_,_,_]) (dw:=[_,_]) [1,2] (by decide) rfl).sub ⟨rfl,rfl,rfl,rfl,rfl,av⟩) ?_ ?_
    ·(try dsimp only);exact ⟨by omega,MR hk4 hno (by unfold vU;simp_all),jX⟩
    first|omega|(dsimp only;omega)
   intro h47 a H
   try have p47:=dF h47
   refine kH H (aP h47 rfl (aP h47 rfl (Ku rfl (Ku rfl (Ku rfl (Ku rfl (Ku rfl (Ks h47 rfl (PF h43 h47 rfl (Pf h43 rfl (Kz eB (Cf rfl rfl (Kc dW (SC (Rd rfl (Rm rfl ?_))))))))))))))));clear H eB dW;intro a H;refine aI ?_;refine dP ((k+1,g2)) (by exact (H.dK (Pl:=[_,_,_]) (dw:=[_,_]) [1,2] (by decide) rfl).sub ⟨rfl,rfl,rfl,rfl,rfl,av⟩) ?_ ?_
   ·(try dsimp only);exact ⟨by omega,MR hk4 hno (by unfold vU;simp_all),jX⟩
   first|omega|(dsimp only;omega)
  intro fQ a H
  try have p34:=dF fQ
  refine kH H (aT fQ rfl (aP fQ rfl (aP fQ rfl (Pf fQ rfl (Rm rfl ?_)))));clear H;intro a H;refine GZ Qc H (wg H rfl rfl rfl) rfl rfl ?_;clear H;intro a H;refine Af aD H (wg H rfl rfl rfl) rfl (H.hp.pQ 0 rfl rfl) rfl ?_;clear H;intro a H;refine GX H (wg H rfl rfl rfl) rfl rfl rfl rfl ?_;clear H;intro a H;refine mE H (wg H rfl rfl rfl) rfl rfl ?_;clear H;intro a H;refine RU H 47 rfl ?_ ?_
  ·intro h47
   try have p47:=dT h47
   refine kH H (YF zK h47 rfl (YO aD 0 h47 rfl (YC h47 rfl (YM h47 rfl (Sp 51 rfl ?_ ?_))))) <;> clear H
   ·intro mI a H
    try have p51:=dT mI
    refine kH H (aT mI rfl (aP mI rfl (PT h47 mI rfl ?_)));clear H;intro a H;refine E8 H (wg H rfl rfl rfl) rfl h47 rfl rfl ?_;clear H;intro a H;refine kH H (Pf rfl rfl (Kz eB (Ct rfl rfl (SQ fun _ gT=>?_))));clear H eB;intro a H;have hbad:l.any (vU l)=true:=yB hk4 (by unfold vU;simp_all);refine oD ?_;refine bO jg 1 (vs:=[_]) _ H wn rfl rfl rfl rfl rfl rfl rfl rfl ?_;clear H;intro w H;dsimp only [List.set,setRow] at H;refine aI ?_;refine gT _ _ ?_;clear gT;refine dM ?_;refine (leave1 H results43 (.cons (vJ jg H rfl (H.hp.pQ 1 rfl rfl)) .nil) ?_).1
    first
     | exact H.rt (aC vi (by rw [gU,au (by omega)]))
     | exact H.rt (aC vi (by rw [ah (by simpa using kr)] at heq;rw [gU,ah (by omega),← heq,au (by simpa using kr)]))
     | exact H.rt (aC vi (by rw [gU,ah (by omega),ah (by rw [hok];decide),au hbad]))
     | exact H.rt (aC vi (by rw [gU,ah (by omega),ah (by rw [hok];decide),ah hbad,au (yB hj2 hI)]))
     | exact H.rt (aC vi (by rw [gU,ah (by omega),ah (by rw [hok];decide),ah hbad,ah (Dc (by omega) hnc)]))
   intro mI a H
   try have p51:=dF mI
   refine kH H (YO rT 2 mI rfl (YF Qc mI rfl (YO aD 0 mI rfl ?_)));clear H;intro a H;refine s_call TG H (wg H rfl rfl mI) rfl (WO _ _ H.ro l 1 l[k].next _ Cn) rfl ?_;clear H;rintro v55 g2 a w rfl zR H;replace jX:=fun b o (h:g b=some o)=>zR b o (jX b o h);replace Cn:=Cn.mono zR;refine kH H (YN mI rfl (PF h47 mI rfl ?_));clear H;intro a H;refine E8 H (wg H rfl rfl rfl) rfl h47 rfl rfl ?_;clear H;intro a H;refine kH H (Pf rfl rfl (Kz eB (Cd rfl ?_ ?_))) <;> clear H eB
   ·intro jE a H
    try have p59:=dT jE
    refine aO (fun _ gM=>?_);have hbad:l.any (vU l)=true:=yB hk4 (by unfold vU;simp_all);refine oD ?_;refine bO jg 1 (vs:=[_]) _ H wn rfl rfl rfl rfl rfl rfl rfl rfl ?_;clear H;intro w H;dsimp only [List.set,setRow] at H;refine aI ?_;refine gM _ _ ?_;clear gM;refine dM ?_;refine (leave1 H results43 (.cons (vJ jg H rfl (H.hp.pQ 1 rfl rfl)) .nil) ?_).1
    first
     | exact H.rt (aC vi (by rw [gU,au (by omega)]))
     | exact H.rt (aC vi (by rw [ah (by simpa using kr)] at heq;rw [gU,ah (by omega),← heq,au (by simpa using kr)]))
     | exact H.rt (aC vi (by rw [gU,ah (by omega),ah (by rw [hok];decide),au hbad]))
     | exact H.rt (aC vi (by rw [gU,ah (by omega),ah (by rw [hok];decide),ah hbad,au (yB hj2 hI)]))
     | exact H.rt (aC vi (by rw [gU,ah (by omega),ah (by rw [hok];decide),ah hbad,ah (Dc (by omega) hnc)]))
   intro jE a H
   try have p59:=dF jE
   refine kP H (Kc dW (SC (Rd rfl (Rm rfl ?_))));clear H dW;intro a H;refine aI ?_;refine dP ((k+1,g2)) (by exact (H.dK (Pl:=[_,_,_]) (dw:=[_,_]) [1,2] (by decide) rfl).sub ⟨rfl,rfl,rfl,rfl,rfl,av⟩) ?_ ?_
   ·(try dsimp only);exact ⟨by omega,MR hk4 hno (by unfold vU;simp_all),jX⟩
   first|omega|(dsimp only;omega)
  intro h47
  try have p47:=dF h47
  refine kH H (aP h47 rfl (aP h47 rfl (Ku rfl (Ku rfl (Ku rfl (Ku rfl (Ku rfl (Ks h47 rfl ?_))))))));clear H;intro a H;refine JY H (wg H rfl rfl rfl) rfl h47 rfl rfl ?_;clear H;intro a H;refine kH H (Pf rfl rfl (Kz eB (Cf rfl rfl (Kc dW (SC (Rd rfl (Rm rfl ?_)))))));clear H eB dW;intro a H;refine aI ?_;refine dP ((k+1,g2)) (by exact (H.dK (Pl:=[_,_,_]) (dw:=[_,_]) [1,2] (by decide) rfl).sub ⟨rfl,rfl,rfl,rfl,rfl,av⟩) ?_ ?_
  ·(try dsimp only);exact ⟨by omega,MR hk4 hno (by unfold vU;simp_all),jX⟩
  first|omega|(dsimp only;omega)
 intro iE a H
 try have p28:=dF iE
 have hbad:=Dc (by omega) hno;refine eD ?_;refine cu _ _ ?_;clear cu;refine kP H (SQ fun _ jh=>SR fun _ jo=>Ro rT 1 rfl (Rl oo rfl (Rm rfl (Kz jo (SB ?_)))));clear H jo;intro a H;skip;refine PN (ι:=Nat × GH × List Nat) (Tc:=[(1,_),(2,_),(61,_),(62,_)]) (Lc:=[(_,_),(_,_)]) (fun gh=>LJ gh.2.2) (fun gh=>[(63,vi gh.1)]) (fun gh=>[]++(nu gh.2.2++[])) (fun gh=>gh.2.1) (fun gh=>gh.1≤l.length∧(l.take gh.1).any (Tz l)=false∧(∀ b o,g2 b=some o→gh.2.1 b=some o)) (fun gh=>l.length - gh.1) ((0,g2,[])) (by exact (H).sub ⟨rfl,rfl,rfl,rfl,rfl,av⟩) ?_ ?_
 ·exact ⟨iK _,rfl,fun _ _ h=>h⟩
 clear H;intro gh a w hI H;obtain ⟨j,g3,ds⟩:=gh;dsimp only at hI H;obtain ⟨hj,hnc,sK⟩:=hI;have Wz:=Cn.mono sK;dsimp only [lca,aS] at H;refine kP H (SR fun _ iU=>Rc rfl (Kz iU (SQ fun _ kX=>Cd rfl ?_ ?_))) <;> clear H iU
 ·intro h64 a H
  try have p64:=dT h64
  have hj2:j < l.length:=by omega
  obtain ⟨b,o,pA,pc,rfl,hrow,hp,hrep⟩:=CF Wz hj2;refine kP H (Kc kX (SQ fun _ kY=>SB (SR fun _ jT=>Ri oo lU rfl rfl ?_)));clear H kX;intro a H;refine bD lU (cs:=[_,_,_,_,_,_]) H wn rfl rfl (fun j v hj=>H.hp.aH (hrow j v hj)) rfl ?_;clear H;intro a H;refine dR lU H wn rfl ?_;clear H;intro b8 a w xE H;refine bO lU 0 (vs:=[_,_,_,_,_,_]) _ H wn rfl rfl rfl rfl rfl rfl rfl rfl ?_;clear H;intro w H;dsimp only [List.set,setRow] at H;refine jT _ _ ?_;clear jT;refine dz (fun _ lG=>?_);refine dR aD H wn rfl ?_;clear H;intro b9 a w uG H;refine bO aD 0 (vs:=[_]) _ H wn rfl rfl rfl rfl rfl rfl rfl rfl ?_;clear H;intro w H;dsimp only [List.set,setRow] at H;refine lG _ _ ?_;clear lG;refine kP H (SR fun _ lH=>Ro rT 3 rfl (aW wU aD 1 rfl rfl ?_));clear H;intro a H;refine iH ahB (Li:=[_,_,_,_]++nu ds) (L:=[]) (St.un (A:=[_,_,_,_]) H) wn rfl (agM (Hp.owns (Li:=[_,_,_,_]++nu ds) (St.un (A:=[_,_,_,_]) H).hp) l l[j].id _ Wz) rfl ?_;clear H;rintro v70 g4 L70 a w ⟨bl,bi,rfl,rfl,hbl⟩ abW H;have H:=(St.Rj (A:=[_,_,_,_,_]) (B:=nu ds) (H.perm Da));dsimp only [lca,aS] at H;have hit:=agL (l:=l) (id:=l[j].id) (bi:=bi) hbl (Wz.mono abW) (adu hok);refine lH _ _ ?_;clear lH;refine sw ?_;skip;refine agu (B:=[(_,_)]) (ι:=Unit) (κ:=Int) (Lc:=[(_,_),(_,_)]) (fun (k:Nat) (gh:Unit)=>[(b9,.cells #[vi k] 3 (0,0)),(b2,.cells #[vi 0] 22 (0,0))]) (fun (k:Nat) (gh:Unit)=>(nu ds++[])) (fun (k:Nat) (gh:Unit) (g:GH)=>k≤l.length) (fun (gx:Int)=>Code.ret) (fun (gx:Int)=>[(b9,.cells #[vi gx] 3 (0,0)),(b2,.cells #[vi 16] 22 (0,0))]) (fun (gx:Int)=>(nu ds++[])) (fun (gx:Int) (g:GH)=>Tz l l[j]=true) (()) (by exact H.dK (Pl:=[_,_,_,_,_]) (dw:=[_,_,_,_,_]) [0,2,4,1,3] (by decide) rfl) rfl aav (hit) (fun _ _ h=>h) (fun e i g h=>absurd (of_decide_eq_false e) (by rw [bZ] at h;omega)) rfl (fun k args g h=>by obtain ⟨_,_,rfl,_⟩:=aes h;rfl) (fun _ _ _ _ _ h=>h) (fun _ _ _ _ h=>h) (iK _) ?_ ?_ ?_
  ·clear H;intro l21 uL sj bk k args gh YD w21 F21 B21 a abN EP hI alp amk amG H;obtain ⟨abN,asn,rfl,atd⟩:=aes abN;dsimp only [ru,List.cons_append,List.nil_append] at H;refine fI ?_;refine alp _ _ _ _ _ _ (by exact H) ?_;clear H;intro w H;refine kP H (SB (SR fun _ kL=>Ro aD 3 rfl (Rd rfl ?_)));clear H;intro a H;refine bO aD 3 (vs:=[_]) _ H wn rfl rfl rfl rfl rfl rfl rfl rfl ?_;clear H;intro w H;dsimp only [List.set,setRow] at H;refine kL _ _ ?_;clear kL;refine kP H (SR fun _ mQ=>Ro aD 3 rfl (Ro rT 2 rfl (Rl oo rfl (Rc rfl (Kz mQ (Cd rfl ?_ ?_)))))) <;> clear H mQ
   ·intro vw a H
    try have DV:=dT vw
    refine dz (fun _ mR=>?_);refine bO jg 4 (vs:=[_]) _ H wn rfl rfl rfl rfl rfl rfl rfl rfl ?_;clear H;intro w H;dsimp only [List.set,setRow] at H;refine mR _ _ ?_;clear mR;refine dM ?_;refine (amG ((k:Int)+1) _ _ _ _ _ (by exact H) ?_).1 rfl;exact gq (by omega)
   intro vw a H
   try have DV:=dF vw
   refine fI ?_;refine amk (()) _ _ _ _ _ (by exact H) ?_
   omega
  ·clear H;intro Yw gh YT a w EP hI H;dsimp only [lca,aS] at H;refine kY _ _ ?_;clear kY;refine kP H (SC (Rd rfl (Rm rfl ?_)));clear H;intro a H;refine aI ?_;refine JJ ((j+1,YT,Yw :: ds)) (by exact (H.dK (Pl:=[_,_,_,_,_]) (dw:=[_,_,_]) [4,2,0] (by decide) rfl).sub ⟨rfl,rfl,rfl,rfl,rfl,av⟩) ?_ ?_
   ·(try dsimp only);exact ⟨by omega,MR hj2 hnc (iC (by rw [bZ] at hI;omega)),fun b o h=>EP b o (abW b o (sK b o h))⟩
   first|omega|(dsimp only;omega)
  clear H;intro Yw gx YT a w EP hI H;obtain ⟨x,hgh⟩:∃ x,x=gx:=⟨_,rfl⟩;subst hgh;dsimp only [lca,aS] at H;refine dM ?_;refine (uK H 0 rfl ?_).1;clear H;intro a w H;dsimp only [List.eraseIdx_cons_succ,List.eraseIdx_cons_zero] at H;refine (Bf (Lh:=[_,_,_,_]) _ H ?_).1;clear H;intro a w H;dsimp only [lca,aS] at H;refine (leave1 H results43 (.cons (vJ jg H rfl (H.hp.pQ 3 rfl rfl)) .nil) ?_).1
  first
   | exact H.rt (aC vi (by rw [gU,au (by omega)]))
   | exact H.rt (aC vi (by rw [ah (by simpa using kr)] at heq;rw [gU,ah (by omega),← heq,au (by simpa using kr)]))
   | exact H.rt (aC vi (by rw [gU,ah (by omega),ah (by rw [hok];decide),au hbad]))
   | exact H.rt (aC vi (by rw [gU,ah (by omega),ah (by rw [hok];decide),ah hbad,au (yB hj2 hI)]))
   | exact H.rt (aC vi (by rw [gU,ah (by omega),ah (by rw [hok];decide),ah hbad,ah (Dc (by omega) hnc)]))
 intro h64 a H
 try have p64:=dF h64
 refine eD ?_;refine jh _ _ ?_;clear jh;refine dz (fun _ nD=>?_);refine bO jg 0 (vs:=[_]) _ H wn rfl rfl rfl rfl rfl rfl rfl rfl ?_;clear H;intro w H;dsimp only [List.set,setRow] at H;refine nD _ _ ?_;clear nD;refine dM ?_;refine (Bf (Lh:=[_,_]) _ H ?_).1;clear H;intro a w H;dsimp only [lca,aS] at H;refine (leave1 H results43 (.cons (vJ jg H rfl (H.hp.pQ 0 rfl rfl)) .nil) ?_).1
 first
  | exact H.rt (aC vi (by rw [gU,au (by omega)]))
  | exact H.rt (aC vi (by rw [ah (by simpa using kr)] at heq;rw [gU,ah (by omega),← heq,au (by simpa using kr)]))
  | exact H.rt (aC vi (by rw [gU,ah (by omega),ah (by rw [hok];decide),au hbad]))
  | exact H.rt (aC vi (by rw [gU,ah (by omega),ah (by rw [hok];decide),ah hbad,au (yB hj2 hI)]))
  | exact H.rt (aC vi (by rw [gU,ah (by omega),ah (by rw [hok];decide),ah hbad,ah (Dc (by omega) hnc)]))
end
section
open Go.RowKit
theorem vO:Ty prog 44 1 24 [.slice none 0 0] false:=⟨by kernel_rfl,by kernel_rfl⟩
theorem wK:prog.underlying 44=some (.slice 109):=by kernel_rfl
theorem zi:Ty prog 109 2 32 [.string ⟨#[]⟩,.string ⟨#[]⟩] true:=⟨by kernel_rfl,by kernel_rfl⟩
theorem BM:dV prog 109 0 0:=⟨by kernel_rfl⟩
theorem Nc:∀ args w,(callFunc 60 args).run prog w=.ok (.enter 60 args) w:=enters func60 rfl (by kernel_rfl)
theorem Um:dV prog 109 1 1:=⟨by kernel_rfl⟩
theorem FY:dV prog 46 0 0:=⟨by kernel_rfl⟩
theorem aaI:∀ args w,(callFunc 43 args).run prog w=.ok (.enter 43 args) w:=enters func43 rfl (by kernel_rfl)
theorem BO:dV prog 46 1 1:=⟨by kernel_rfl⟩
theorem aji:∀ args w,(callFunc 53 args).run prog w=.ok (.enter 53 args) w:=enters func53 rfl (by kernel_rfl)
theorem IQ:dV prog 46 2 2:=⟨by kernel_rfl⟩
theorem ajj:∀ args w,(callFunc 54 args).run prog w=.ok (.enter 54 args) w:=enters func54 rfl (by kernel_rfl)
theorem IU:dV prog 46 3 3:=⟨by kernel_rfl⟩
theorem ajk:∀ args w,(callFunc 55 args).run prog w=.ok (.enter 55 args) w:=enters func55 rfl (by kernel_rfl)
theorem ahM:∀ args w,(callFunc 130 args).run prog w=.ok (.enter 130 args) w:=enters func130 rfl (by kernel_rfl)
theorem Sg {G:GH} {l:List oL} {A:Option Addr} {n c k:Nat} (hv:aB G (.sl 2 (l.map oL.dat)) (.slice A n c)) (hk:k < l.length):∃ b o,A=some ⟨b,o,none⟩∧(∀ j u,l[k].cells[j]?=some u→aH G b (o+k*2+j)=some u):=by
 obtain ⟨A',c',he,_,_,hg⟩:=hv.slice
 injection he with e1 e2 e3
 subst e1;obtain ⟨b,o,cs,h1,h2,h3,h4⟩:=hg k l[k].dat (by simp [hk]);have:=arv h4;subst this;exact ⟨b,o,h1,h3⟩
def Hl (k:Nat) (x:oL) (pn:ByteArray):Int:=bV [bS (!pX x.name) 13,bS (decide (0 < (k:Int)) && (x.name.toList == pn.toList)) 7,bS (decide (0 < (k:Int)) && Op.bytesLess x.name.toList pn.toList) 6,uj x.value]
def xX (l:List oL) (k:Nat):Int:=match l[k]? with|some x=>Hl k x ((l[k - 1]?.map oL.name).getD ⟨#[]⟩)|none=>0
set_option maxHeartbeats 2000000 in
theorem aru {G:GH} {bl:Nat} {l:List oL} {A:Option Addr} {n c:Nat} (hb:aH G bl 0=some (.slice A n c)) (hv:aB G (.sl 2 (l.map oL.dat)) (.slice A n c)) (hl:l.length≤4294967296) (ht:∀ x∈l,x.name.size < 4611686018427387904∧x.value.size < 4611686018427387904):vP (.func (.func 130) #[] #[(aK bl 0)]) G l.length (xX l):=by
 intro k hk G1 w0 hm hG;refine mU (caps:=[(aK bl 0)]) ahM ?_;replace hb:=aF hm hb;replace hv:=hv.mono hm
 obtain rfl:n=l.length:=by have:=hv.len;simpa using this
 obtain ⟨b,o,rfl,hrow⟩:=Sg hv hk
 have hk1:k - 1 < l.length:=by omega
 obtain ⟨b',o',he',hrow'⟩:=Sg hv hk1
 injection he' with he'
 injection he' with e1 e2
 subst e1;subst e2;have hte:=ht _ (jr hk)
 have he:xX l k=Hl k l[k] l[k - 1].name:=by unfold xX;rw [gD hk,gD hk1];rfl
 obtain ⟨x,hx⟩:∃ x,x=l[k]:=⟨_,rfl⟩;obtain ⟨y,hy⟩:∃ y,y=l[k - 1]:=⟨_,rfl⟩;rw [← hx] at hrow hte he;rw [← hy] at hrow' he;refine eN [(0,_),(1,_)] func130 rfl ntmps130 rfl rfl hG ?_;intro a H;refine kP H (SR fun _ K1=>ak K1 rfl (SQ fun _ K2=>?_));clear H K1;intro a H;have H:=H.sub (T':=[(0,_),(1,_)]) ⟨rfl,rfl,av⟩
 by_cases c0:0 < (k:Int)
 ·skip;refine dI hmx [[],[],[0,1],[0,1,2],(ra 0 4),(ra 0 5),(ra 0 6),(ra 0 7),[],[8],(ra 0 10),(ra 0 11),(ra 0 11),(ra 0 13),(ra 0 14),(ra 0 15),(ra 0 11),(ra 0 11),(ra 0 11++[17]),(ra 0 11++[17,18]),(ra 0 11++ra 16 4),(ra 0 11++ra 16 5),(ra 0 11++ra 16 6),(ra 0 23),(ra 0 24),(ra 0 25),[],[26],(ra 0 28),(ra 0 29),(ra 0 29),(ra 0 31),(ra 0 32),(ra 0 33),(ra 0 29),(ra 0 29),(ra 0 29++[35]),(ra 0 29++[35,36]),(ra 0 29++ra 34 4),(ra 0 29++ra 34 5),(ra 0 29++ra 34 6),(ra 0 41),(ra 0 42),(ra 0 43),[],[],[44,45],[44,45,46],(ra 44 4),(ra 0 49),(ra 0 50),(ra 0 51),(ra 0 52)] [50,51,52] (by kernel_rfl) [_,_,_,_,_,.bool (pX x.name),_,vi (bS (!pX x.name) 13),_,_,_,_,_,_,_,_,_,_,vi ((max k 1:Nat):Int),vi ((k - 1:Nat):Int),_,_,_,.bool (x.name.toList == y.name.toList),.bool (decide (0 < (k:Int)) && (x.name.toList == y.name.toList)),vi (bS (decide (0 < (k:Int)) && (x.name.toList == y.name.toList)) 7),_,_,_,_,_,_,_,_,_,_,vi ((max k 1:Nat):Int),vi ((k - 1:Nat):Int),_,_,_,.bool (Op.bytesLess x.name.toList y.name.toList),.bool (decide (0 < (k:Int)) && Op.bytesLess x.name.toList y.name.toList),vi (bS (decide (0 < (k:Int)) && Op.bytesLess x.name.toList y.name.toList) 6),_,_,_,_,_,vi (uj x.value)] H (aG (X0 rfl fun hG=>Rg vO rfl (aF hG hb)) (Z0 rfl (Rm rfl)) (Z2 0 4 1 5 rfl (Ri wK zi rfl rfl)) (Z1 2 6 rfl (Rf BM rfl)) (aG (X1 3 7 rfl fun hG=>Rg gX rfl (aF hG (hrow 0 _ rfl))) ?_ (Z1 5 9 rfl (Rn rfl)) ?_ (aG (Z0 rfl (Rm rfl)) (Z1 8 12 rfl (Rc rfl)) (Z1 9 13 rfl (Rm rfl)) (X1 10 14 rfl fun hG=>YR vO (aJ c0) rfl (aF hG hb)) (aG (Z1 10 14 rfl (YM (aJ c0) rfl)) (Z3 11 15 12 16 10 14 rfl (YI wK zi (aJ c0) rfl rfl)) (Z2 13 17 10 14 rfl (YF BM (aJ c0) rfl)) (X2 14 18 10 14 rfl fun hG=>YR gX (aJ c0) rfl (aF hG (hrow 0 _ rfl))) (aG (X1 10 14 rfl fun hG=>YR vO (aJ c0) rfl (aF hG hb)) (Z1 10 14 rfl (YM (aJ c0) rfl)) ?_ ?_ (aG (Z3 16 20 19 23 10 14 rfl (YI wK zi (aJ c0) rfl rfl)) (Z2 20 24 10 14 rfl (YF BM (aJ c0) rfl)) (X2 21 25 10 14 rfl fun hG=>YR gX (aJ c0) rfl (aF hG (hrow' 0 _ rfl))) ?_ (aG ?_ ?_ (Z0 rfl (Rm rfl)) (Z1 26 30 rfl (Rc rfl)) (aG (Z1 27 31 rfl (Rm rfl)) (X1 28 32 rfl fun hG=>YR vO (aJ c0) rfl (aF hG hb)) (Z1 28 32 rfl (YM (aJ c0) rfl)) (Z3 29 33 30 34 28 32 rfl (YI wK zi (aJ c0) rfl rfl)) (aG (Z2 31 35 28 32 rfl (YF BM (aJ c0) rfl)) (X2 32 36 28 32 rfl fun hG=>YR gX (aJ c0) rfl (aF hG (hrow 0 _ rfl))) (X1 28 32 rfl fun hG=>YR vO (aJ c0) rfl (aF hG hb)) (Z1 28 32 rfl (YM (aJ c0) rfl)) (aG ?_ ?_ (Z3 34 38 37 41 28 32 rfl (YI wK zi (aJ c0) rfl rfl)) (Z2 38 42 28 32 rfl (YF BM (aJ c0) rfl)) (aG (X2 39 43 28 32 rfl fun hG=>YR gX (aJ c0) rfl (aF hG (hrow' 0 _ rfl))) ?_ ?_ ?_ (aG (X0 rfl fun hG=>Rg vO rfl (aF hG hb)) (Z0 rfl (Rm rfl)) (Z2 44 48 45 49 rfl (Ri wK zi rfl rfl)) (Z1 46 50 rfl (Rf Um rfl)) (aG (X1 47 51 rfl fun hG=>Rg gX rfl (aF hG (hrow 1 _ rfl))) ?_ (cZ rfl) (cZ rfl) (bG (cZ rfl) dU)))))))))))))) ?_
  ·refine eF 4 8 rfl rfl fun _ a w G1 hG HT H fin=>?_;refine s_call Nc H wn rfl (MX _ _ H.ro x.name hte.1) rfl ?_;clear H;rintro v9 G9 a w ⟨rfl,-⟩ Gg H;exact fin H Gg (rfl)
  ·refine eF 6 10 rfl rfl fun _ a w G1 hG HT H fin=>?_;refine s_call kS H wn rfl (kW _ _ H.ro _ 13) rfl ?_;clear H;rintro v11 zx a w ⟨rfl,-⟩ xD H;exact fin H xD (rfl)
  ·refine fu 17 21 10 14 rfl rfl fun _ a w G1 hG HT H fin=>?_;refine He H (wg H rfl rfl (aJ c0)) rfl rfl rfl ?_;clear H;intro a H;exact fin H iJ (by show _=_;first|rfl|exact aC vi (by omega))
  ·refine fu 18 22 10 14 rfl rfl fun _ a w G1 hG HT H fin=>?_;refine og _ H (wg H rfl rfl (aJ c0)) rfl rfl rfl (by omega) (by omega) rfl ?_;clear H;intro a H;exact fin H iJ (by show _=_;first|rfl|exact aC vi (by omega))
  ·refine sW 15 19 22 26 10 14 rfl rfl fun _ a w G1 hG HT H fin=>?_;refine GY H (wg H rfl rfl (aJ c0)) rfl rfl rfl ?_;clear H;intro a H;exact fin H iJ rfl
  ·refine fu 10 14 23 27 rfl rfl fun _ a w G1 hG HT H fin=>?_;refine kH H (Pt (aJ c0) rfl ?_);clear H;intro a H;exact fin H iJ (aL (by first|(rw [gq c0,vR];done)|(rw [iC c0,uT];done)))
  ·refine eF 24 28 rfl rfl fun _ a w G1 hG HT H fin=>?_;refine s_call kS H wn rfl (kW _ _ H.ro _ 7) rfl ?_;clear H;rintro v29 Ar a w ⟨rfl,-⟩ I6 H;exact fin H I6 (rfl)
  ·refine fu 35 39 28 32 rfl rfl fun _ a w G1 hG HT H fin=>?_;refine He H (wg H rfl rfl (aJ c0)) rfl rfl rfl ?_;clear H;intro a H;exact fin H iJ (by show _=_;first|rfl|exact aC vi (by omega))
  ·refine fu 36 40 28 32 rfl rfl fun _ a w G1 hG HT H fin=>?_;refine og _ H (wg H rfl rfl (aJ c0)) rfl rfl rfl (by omega) (by omega) rfl ?_;clear H;intro a H;exact fin H iJ (by show _=_;first|rfl|exact aC vi (by omega))
  ·refine sW 33 37 40 44 28 32 rfl rfl fun _ a w G1 hG HT H fin=>?_;refine aec H (wg H rfl rfl (aJ c0)) rfl rfl rfl ?_;clear H;intro a H;exact fin H iJ rfl
  ·refine fu 28 32 41 45 rfl rfl fun _ a w G1 hG HT H fin=>?_;refine kH H (Pt (aJ c0) rfl ?_);clear H;intro a H;exact fin H iJ (aL (by first|(rw [gq c0,vR];done)|(rw [iC c0,uT];done)))
  ·refine eF 42 46 rfl rfl fun _ a w G1 hG HT H fin=>?_;refine s_call kS H wn rfl (kW _ _ H.ro _ 6) rfl ?_;clear H;rintro v47 Sy a w ⟨rfl,-⟩ EL H;exact fin H EL (rfl)
  ·refine eF 48 52 rfl rfl fun _ a w G1 hG HT H fin=>?_;refine s_call TJ H wn rfl (X7 _ _ H.ro x.value hte.2) rfl ?_;clear H;rintro v53 G53 a w rfl U9 H;exact fin H U9 (rfl)
  clear H;intro a w G qK H hv;have H:=H.aU (hv 7 11 rfl rfl) rfl;have H:=H.aU (hv 25 29 rfl rfl) rfl;have H:=H.aU (hv 43 47 rfl rfl) rfl;have H:=H.aU (hv 49 53 rfl rfl) rfl;clear hv;refine jF rU jg [_,_,_,_] [_,_,_,_] H wn rfl rfl rfl rfl rfl (by intro i q h;match i,h with|0,h=>exact h|1,h=>exact h|2,h=>exact h|3,h=>exact h|n+4,h=>simp at h) rfl rfl ?_;clear H;intro b54 a w alm H;obtain ⟨G54,alZ,Vw,H⟩:=H.fD;refine s_call tH H wn rfl (tJ _ _ H.ro _ _ (JD [bS (!pX x.name) 13,bS (decide (0 < (k:Int)) && (x.name.toList == y.name.toList)) 7,bS (decide (0 < (k:Int)) && Op.bytesLess x.name.toList y.name.toList) 6,uj x.value] Vw (show 4≤maxLen by decide))) rfl ?_;clear H;rintro v55 _ a w ⟨rfl,rfl⟩ - H;refine kH H (Ra rfl ?_);clear H;intro a H;refine aI ⟨rfl,?_⟩;refine K2 _ _ ?_;clear K2;refine lr H results130 rfl ?_;exact H.rt (by rw [he];rfl)
 skip;refine dI hmx [[],[],[0,1],[0,1,2],(ra 0 4),(ra 0 5),(ra 0 6),(ra 0 7),[],[8],(ra 0 10),(ra 0 11),(ra 0 11),(ra 0 13),(ra 0 14),(ra 0 15),(ra 0 11),(ra 0 11),(ra 0 11++[17]),(ra 0 11++[17,18]),(ra 0 11++ra 16 4),(ra 0 11++ra 16 5),(ra 0 11++ra 16 6),(ra 0 23),(ra 0 24),(ra 0 25),[],[26],(ra 0 28),(ra 0 29),(ra 0 29),(ra 0 31),(ra 0 32),(ra 0 33),(ra 0 29),(ra 0 29),(ra 0 29++[35]),(ra 0 29++[35,36]),(ra 0 29++ra 34 4),(ra 0 29++ra 34 5),(ra 0 29++ra 34 6),(ra 0 41),(ra 0 42),(ra 0 43),[],[],[44,45],[44,45,46],(ra 44 4),(ra 0 49),(ra 0 50),(ra 0 51),(ra 0 52)] [50,51,52] (by kernel_rfl) [_,_,_,_,_,.bool (pX x.name),_,vi (bS (!pX x.name) 13),_,_,_,undef,undef,undef,undef,undef,undef,undef,undef,undef,undef,undef,undef,undef,.bool (decide (0 < (k:Int)) && (x.name.toList == y.name.toList)),vi (bS (decide (0 < (k:Int)) && (x.name.toList == y.name.toList)) 7),_,_,_,undef,undef,undef,undef,undef,undef,undef,undef,undef,undef,undef,undef,undef,.bool (decide (0 < (k:Int)) && Op.bytesLess x.name.toList y.name.toList),vi (bS (decide (0 < (k:Int)) && Op.bytesLess x.name.toList y.name.toList) 6),_,_,_,_,_,vi (uj x.value)] H (aG (X0 rfl fun hG=>Rg vO rfl (aF hG hb)) (Z0 rfl (Rm rfl)) (Z2 0 4 1 5 rfl (Ri wK zi rfl rfl)) (Z1 2 6 rfl (Rf BM rfl)) (aG (X1 3 7 rfl fun hG=>Rg gX rfl (aF hG (hrow 0 _ rfl))) ?_ (Z1 5 9 rfl (Rn rfl)) ?_ (aG (Z0 rfl (Rm rfl)) (Z1 8 12 rfl (Rc rfl)) (Z1 9 13 rfl (Rm rfl)) (bg (j:=10) (by kernel_rfl) (fun _ _ _ _ _ h=>h) rfl rfl rfl rfl rfl (fun _ _ h=>bq h (aL (aR c0))) rfl (fun _=>rfl)) (aG (bg (j:=10) (by kernel_rfl) (fun _ _ _ _ _ h=>h) rfl rfl rfl rfl rfl (fun _ _ h=>bq h (aL (aR c0))) rfl (fun _=>rfl)) (bg (j:=10) (by kernel_rfl) (fun _ _ _ _ _ h=>h) rfl rfl rfl rfl rfl (fun _ _ h=>bq h (aL (aR c0))) rfl (fun _=>rfl)) (bg (j:=10) (by kernel_rfl) (fun _ _ _ _ _ h=>h) rfl rfl rfl rfl rfl (fun _ _ h=>bq h (aL (aR c0))) rfl (fun _=>rfl)) (bg (j:=10) (by kernel_rfl) (fun _ _ _ _ _ h=>h) rfl rfl rfl rfl rfl (fun _ _ h=>bq h (aL (aR c0))) rfl (fun _=>rfl)) (aG (bg (j:=10) (by kernel_rfl) (fun _ _ _ _ _ h=>h) rfl rfl rfl rfl rfl (fun _ _ h=>bq h (aL (aR c0))) rfl (fun _=>rfl)) (bg (j:=10) (by kernel_rfl) (fun _ _ _ _ _ h=>h) rfl rfl rfl rfl rfl (fun _ _ h=>bq h (aL (aR c0))) rfl (fun _=>rfl)) (bg (j:=10) (by kernel_rfl) (fun _ _ _ _ _ h=>h) rfl rfl rfl rfl rfl (fun _ _ h=>bq h (aL (aR c0))) rfl (fun _=>rfl)) (bg (j:=10) (by kernel_rfl) (fun _ _ _ _ _ h=>h) rfl rfl rfl rfl rfl (fun _ _ h=>bq h (aL (aR c0))) rfl (fun _=>rfl)) (aG (bg (j:=10) (by kernel_rfl) (fun _ _ _ _ _ h=>h) rfl rfl rfl rfl rfl (fun _ _ h=>bq h (aL (aR c0))) rfl (fun _=>rfl)) (bg (j:=10) (by kernel_rfl) (fun _ _ _ _ _ h=>h) rfl rfl rfl rfl rfl (fun _ _ h=>bq h (aL (aR c0))) rfl (fun _=>rfl)) (bg (j:=10) (by kernel_rfl) (fun _ _ _ _ _ h=>h) rfl rfl rfl rfl rfl (fun _ _ h=>bq h (aL (aR c0))) rfl (fun _=>rfl)) (bg (j:=10) (by kernel_rfl) (fun _ _ _ _ _ h=>h) rfl rfl rfl rfl rfl (fun _ _ h=>bq h (aL (aR c0))) rfl (fun _=>rfl)) (aG ?_ ?_ (Z0 rfl (Rm rfl)) (Z1 26 30 rfl (Rc rfl)) (aG (Z1 27 31 rfl (Rm rfl)) (bg (j:=28) (by kernel_rfl) (fun _ _ _ _ _ h=>h) rfl rfl rfl rfl rfl (fun _ _ h=>bq h (aL (aR c0))) rfl (fun _=>rfl)) (bg (j:=28) (by kernel_rfl) (fun _ _ _ _ _ h=>h) rfl rfl rfl rfl rfl (fun _ _ h=>bq h (aL (aR c0))) rfl (fun _=>rfl)) (bg (j:=28) (by kernel_rfl) (fun _ _ _ _ _ h=>h) rfl rfl rfl rfl rfl (fun _ _ h=>bq h (aL (aR c0))) rfl (fun _=>rfl)) (aG (bg (j:=28) (by kernel_rfl) (fun _ _ _ _ _ h=>h) rfl rfl rfl rfl rfl (fun _ _ h=>bq h (aL (aR c0))) rfl (fun _=>rfl)) (bg (j:=28) (by kernel_rfl) (fun _ _ _ _ _ h=>h) rfl rfl rfl rfl rfl (fun _ _ h=>bq h (aL (aR c0))) rfl (fun _=>rfl)) (bg (j:=28) (by kernel_rfl) (fun _ _ _ _ _ h=>h) rfl rfl rfl rfl rfl (fun _ _ h=>bq h (aL (aR c0))) rfl (fun _=>rfl)) (bg (j:=28) (by kernel_rfl) (fun _ _ _ _ _ h=>h) rfl rfl rfl rfl rfl (fun _ _ h=>bq h (aL (aR c0))) rfl (fun _=>rfl)) (aG (bg (j:=28) (by kernel_rfl) (fun _ _ _ _ _ h=>h) rfl rfl rfl rfl rfl (fun _ _ h=>bq h (aL (aR c0))) rfl (fun _=>rfl)) (bg (j:=28) (by kernel_rfl) (fun _ _ _ _ _ h=>h) rfl rfl rfl rfl rfl (fun _ _ h=>bq h (aL (aR c0))) rfl (fun _=>rfl)) (bg (j:=28) (by kernel_rfl) (fun _ _ _ _ _ h=>h) rfl rfl rfl rfl rfl (fun _ _ h=>bq h (aL (aR c0))) rfl (fun _=>rfl)) (bg (j:=28) (by kernel_rfl) (fun _ _ _ _ _ h=>h) rfl rfl rfl rfl rfl (fun _ _ h=>bq h (aL (aR c0))) rfl (fun _=>rfl)) (aG (bg (j:=28) (by kernel_rfl) (fun _ _ _ _ _ h=>h) rfl rfl rfl rfl rfl (fun _ _ h=>bq h (aL (aR c0))) rfl (fun _=>rfl)) (bg (j:=28) (by kernel_rfl) (fun _ _ _ _ _ h=>h) rfl rfl rfl rfl rfl (fun _ _ h=>bq h (aL (aR c0))) rfl (fun _=>rfl)) ?_ ?_ (aG (X0 rfl fun hG=>Rg vO rfl (aF hG hb)) (Z0 rfl (Rm rfl)) (Z2 44 48 45 49 rfl (Ri wK zi rfl rfl)) (Z1 46 50 rfl (Rf Um rfl)) (aG (X1 47 51 rfl fun hG=>Rg gX rfl (aF hG (hrow 1 _ rfl))) ?_ (cZ rfl) (cZ rfl) (bG (cZ rfl) dU)))))))))))))) ?_
 ·refine eF 4 8 rfl rfl fun _ a w G1 hG HT H fin=>?_;refine s_call Nc H wn rfl (MX _ _ H.ro x.name hte.1) rfl ?_;clear H;rintro v9 G9 a w ⟨rfl,-⟩ Gg H;exact fin H Gg (rfl)
 ·refine eF 6 10 rfl rfl fun _ a w G1 hG HT H fin=>?_;refine s_call kS H wn rfl (kW _ _ H.ro _ 13) rfl ?_;clear H;rintro v11 zx a w ⟨rfl,-⟩ xD H;exact fin H xD (rfl)
 ·refine fu 10 14 23 27 rfl rfl fun _ a w G1 hG HT H fin=>?_;refine kH H (Pf (aR c0) rfl ?_);clear H;intro a H;exact fin H iJ (aL (by first|(rw [gq c0,vR];done)|(rw [iC c0,uT];done)))
 ·refine eF 24 28 rfl rfl fun _ a w G1 hG HT H fin=>?_;refine s_call kS H wn rfl (kW _ _ H.ro _ 7) rfl ?_;clear H;rintro v29 Ar a w ⟨rfl,-⟩ I6 H;exact fin H I6 (rfl)
 ·refine fu 28 32 41 45 rfl rfl fun _ a w G1 hG HT H fin=>?_;refine kH H (Pf (aR c0) rfl ?_);clear H;intro a H;exact fin H iJ (aL (by first|(rw [gq c0,vR];done)|(rw [iC c0,uT];done)))
 ·refine eF 42 46 rfl rfl fun _ a w G1 hG HT H fin=>?_;refine s_call kS H wn rfl (kW _ _ H.ro _ 6) rfl ?_;clear H;rintro v47 Sy a w ⟨rfl,-⟩ EL H;exact fin H EL (rfl)
 ·refine eF 48 52 rfl rfl fun _ a w G1 hG HT H fin=>?_;refine s_call TJ H wn rfl (X7 _ _ H.ro x.value hte.2) rfl ?_;clear H;rintro v53 G53 a w rfl U9 H;exact fin H U9 (rfl)
 clear H;intro a w G qK H hv;have H:=H.aU (hv 7 11 rfl rfl) rfl;have H:=H.aU (hv 25 29 rfl rfl) rfl;have H:=H.aU (hv 43 47 rfl rfl) rfl;have H:=H.aU (hv 49 53 rfl rfl) rfl;clear hv;refine jF rU jg [_,_,_,_] [_,_,_,_] H wn rfl rfl rfl rfl rfl (by intro i q h;match i,h with|0,h=>exact h|1,h=>exact h|2,h=>exact h|3,h=>exact h|n+4,h=>simp at h) rfl rfl ?_;clear H;intro b54 a w alm H;obtain ⟨G54,alZ,Vw,H⟩:=H.fD;refine s_call tH H wn rfl (tJ _ _ H.ro _ _ (JD [bS (!pX x.name) 13,bS (decide (0 < (k:Int)) && (x.name.toList == y.name.toList)) 7,bS (decide (0 < (k:Int)) && Op.bytesLess x.name.toList y.name.toList) 6,uj x.value] Vw (show 4≤maxLen by decide))) rfl ?_;clear H;rintro v55 _ a w ⟨rfl,rfl⟩ - H;refine kH H (Ra rfl ?_);clear H;intro a H;refine aI ⟨rfl,?_⟩;refine K2 _ _ ?_;clear K2;refine lr H results130 rfl ?_;exact H.rt (by rw [he];rfl)
def AL (l:List oL):Int:=bV [bS (decide (128 < (l.length:Int))) 9,iQ (xX l) (min l.length 128)]
theorem agS (G:GH) (w0:World) (hG:Hold G w0) (l:List oL) (v:aj) (hv:aB G (.sl 2 (l.map oL.dat)) v) (hl:l.length≤4294967296) (ht:∀ x∈l,x.name.size < 4611686018427387904∧x.value.size < 4611686018427387904) :
  Calls prog 55 #[v] w0 (bR w0 G fun u G'=>u=vi (AL l)):=by
 obtain ⟨A,c,rfl,hc1,hc2,-⟩:=hv.slice;rw [bZ] at *;refine eN [(0,_)] func55 rfl ntmps55 rfl rfl hG ?_;intro a H;refine dz (fun _ K1=>?_);refine eU (cs:=[_]) H wn rfl rfl rfl ?_;clear H;intro b1 a w hb1 H;refine kH H (ak K1 rfl (SQ fun _ K2=>?_));clear H K1;intro a H;have H:=H.sub (T':=[(1,_)]) ⟨rfl,av⟩;obtain ⟨Ga,hma,hb1',H⟩:=H.fD
 have hbl:aH Ga b1 0=some (.slice A l.length c):=by unfold aH;rw [hb1'];rfl
 have hcb:=aru hbl (hv.mono hma) hl ht;refine dI hmx [[],[0],[0,1],[0,1,2],[],[4],[4,5],[],(ra 0 8),(ra 0 9),(ra 0 10),(ra 0 11)] [9,10,11] (by kernel_rfl) [_,_,_,vi (bS (decide (128 < (l.length:Int))) 9),_,_,vi ((min l.length 128:Nat):Int),.func (.func 130) #[] #[(aK b1 0)],vi (iQ (xX l) (min l.length 128))] H (aG (X0 rfl fun hG=>Rg vO rfl (aF hG hbl)) (Z1 0 3 rfl (Rl wK rfl)) (Z1 1 4 rfl (Rc rfl)) ?_ (aG (X0 rfl fun hG=>Rg vO rfl (aF hG hbl)) (Z1 4 7 rfl (Rl wK rfl)) ?_ ?_ (aG ?_ (cZ rfl) (cZ rfl) (cZ rfl) dU))) ?_
 ·refine eF 2 5 rfl rfl fun _ a w G1 hG HT H fin=>?_;refine s_call kS H wn rfl (kW _ _ H.ro _ 9) rfl ?_;clear H;rintro v6 G6 a w ⟨rfl,-⟩ lu H;exact fin H lu (rfl)
 ·refine eF 5 8 rfl rfl fun _ a w G1 hG HT H fin=>?_;refine RP H wn rfl rfl rfl ?_;clear H;intro a H;exact fin H iJ (aC vi (by omega))
 ·refine Ee rfl fun _ a w G1 hG HT H fin=>?_;refine qR H wn rfl rfl ?_;clear H;intro a H;exact fin H iJ rfl
 ·refine fu 6 9 7 10 rfl rfl fun _ a w G1 hG HT H fin=>?_;refine s_call Ky H wn rfl (MP _ _ H.ro (min l.length 128) (xX l) _ (by omega) ((hcb.mono hG).le (Nat.min_le_left _ _))) rfl ?_;clear H;rintro v11 zx a w rfl xD H;exact fin H xD (rfl)
 clear H;intro a w G qK H hv;have H:=H.aU (hv 3 6 rfl rfl) rfl;have H:=H.aU (hv 8 11 rfl rfl) rfl;clear hv;refine jF rU jg [_,_] [_,_] H wn rfl rfl rfl rfl rfl (by intro i q h;match i,h with|0,h=>exact h|1,h=>exact h|n+2,h=>simp at h) rfl rfl ?_;clear H;intro b12 a w Gp H;obtain ⟨Fu,Jj,I9,H⟩:=H.fD;refine s_call tH H wn rfl (tJ _ _ H.ro _ _ (Bo I9)) rfl ?_;clear H;rintro v13 _ a w ⟨rfl,rfl⟩ - H;refine kH H (Ra rfl ?_);clear H;intro a H;refine aI ⟨rfl,?_⟩;refine K2 _ _ ?_;clear K2;refine lr H results55 rfl ?_;exact H.rt rfl
structure wO where
 styles:List cK
 lists:List eT
 comments:List jI
 vars:List oL
structure Ef (G:GH) (s:wO) (a b c d:aj):Prop where
 st:aB G (.sl 6 (s.styles.map cK.dat)) a
 li:aB G (.sl 2 (s.lists.map eT.dat)) b
 cm:aB G (.sl 6 (s.comments.map jI.dat)) c
 va:aB G (.sl 2 (s.vars.map oL.dat)) d
structure MK (s:wO):Prop where
 sn:∀ x∈s.styles,x.name.size≤4611686018427387904
 ln:s.lists.length≤4294967296
 lt:∀ x∈s.lists,∀ y∈x.levels,y.CK.size < 4611686018427387904
 cn:s.comments.length≤4294967296
 ct:∀ x∈s.comments,x.author.size < 4611686018427387904∧x.text.size < 4611686018427387904
 vn:s.vars.length≤4294967296
 vt:∀ x∈s.vars,x.name.size < 4611686018427387904∧x.value.size < 4611686018427387904
def lW (s:wO):Int:=bV [gU s.styles,wS s.lists,uV s.comments,AL s.vars]
theorem agR (G:GH) (w0:World) (hG:Hold G w0) (s:wO) (a b c d:aj) (hR:Ef G s a b c d) (hz:MK s) :
  Calls prog 17 #[.agg #[a,b,c,d]] w0 (bR w0 G fun u G'=>u=vi (lW s)):=by
 obtain ⟨sA,sn,sc,rfl⟩:=hR.st.form;obtain ⟨lA,ln,lc,rfl⟩:=hR.li.form;obtain ⟨cA,cn,cc,rfl⟩:=hR.cm.form;obtain ⟨vA,vn,vc,rfl⟩:=hR.va.form;refine eN [(0,_)] func17 rfl ntmps17 rfl rfl hG ?_;intro a H;refine dz (fun _ K1=>?_);refine eU (cs:=[_,_,_,_]) H wn rfl rfl rfl ?_;clear H;intro b1 a w hb1 H;refine kH H (ak K1 rfl (SQ fun _ K2=>?_));clear H K1;intro a H;have H:=H.sub (T':=[(1,_)]) ⟨rfl,av⟩;obtain ⟨Ga,hma,hb1',H⟩:=H.fD
 have hc0:aH Ga b1 0=some (.slice sA sn sc):=by unfold aH;rw [hb1'];rfl
 have hc1:aH Ga b1 1=some (.slice lA ln lc):=by unfold aH;rw [hb1'];rfl
 have hc2:aH Ga b1 2=some (.slice cA cn cc):=by unfold aH;rw [hb1'];rfl
 have hc3:aH Ga b1 3=some (.slice vA vn vc):=by unfold aH;rw [hb1'];rfl
 refine dI hmx [[],[0],[0,1],[],[3],(ra 0 5),[],[6],(ra 0 8),[],[9],(ra 0 11),(ra 0 12),(ra 0 13),(ra 0 14)] [12,13,14] (by kernel_rfl) [_,_,vi (gU s.styles),_,_,vi (wS s.lists),_,_,vi (uV s.comments),_,_,vi (AL s.vars)] H (aG (Z0 rfl (Rf FY rfl)) (X1 0 3 rfl fun hG=>Rg rT rfl (aF hG hc0)) ?_ (Z0 rfl (Rf BO rfl)) (aG (X1 3 6 rfl fun hG=>Rg xV rfl (aF hG hc1)) ?_ (Z0 rfl (Rf IQ rfl)) (X1 6 9 rfl fun hG=>Rg Br rfl (aF hG hc2)) (aG ?_ (Z0 rfl (Rf IU rfl)) (X1 9 12 rfl fun hG=>Rg vO rfl (aF hG hc3)) ?_ (bG (cZ rfl) (bG (cZ rfl) (bG (cZ rfl) dU)))))) ?_
 ·refine eF 1 4 rfl rfl fun _ a w G1 hG HT H fin=>?_;refine s_call aaI H wn rfl (Z4 _ _ H.ro s.styles _ ((hR.st.mono hma).mono hG) hz.sn) rfl ?_;clear H;rintro v5 G5 a w rfl Gf H;exact fin H Gf (rfl)
 ·refine eF 4 7 rfl rfl fun _ a w G1 hG HT H fin=>?_;refine s_call aji H wn rfl (agP _ _ H.ro s.lists _ ((hR.li.mono hma).mono hG) hz.ln hz.lt) rfl ?_;clear H;rintro v8 G8 a w rfl wu H;exact fin H wu (rfl)
 ·refine eF 7 10 rfl rfl fun _ a w G1 hG HT H fin=>?_;refine s_call ajj H wn rfl (agO _ _ H.ro s.comments _ ((hR.cm.mono hma).mono hG) hz.cn hz.ct) rfl ?_;clear H;rintro v11 zx a w rfl xD H;exact fin H xD (rfl)
 ·refine eF 10 13 rfl rfl fun _ a w G1 hG HT H fin=>?_;refine s_call ajk H wn rfl (agS _ _ H.ro s.vars _ ((hR.va.mono hma).mono hG) hz.vn hz.vt) rfl ?_;clear H;rintro v14 Pb a w rfl Cb H;exact fin H Cb (rfl)
 clear H;intro a w G qK H hv;have H:=H.aU (hv 2 5 rfl rfl) rfl;have H:=H.aU (hv 5 8 rfl rfl) rfl;have H:=H.aU (hv 8 11 rfl rfl) rfl;have H:=H.aU (hv 11 14 rfl rfl) rfl;clear hv;refine jF rU jg [_,_,_,_] [_,_,_,_] H wn rfl rfl rfl rfl rfl (by intro i q h;match i,h with|0,h=>exact h|1,h=>exact h|2,h=>exact h|3,h=>exact h|n+4,h=>simp at h) rfl rfl ?_;clear H;intro b15 a w Vv H;obtain ⟨HY,zQ,ale,H⟩:=H.fD;refine s_call tH H wn rfl (tJ _ _ H.ro _ _ (JD [gU s.styles,wS s.lists,uV s.comments,AL s.vars] ale (show 4≤maxLen by decide))) rfl ?_;clear H;rintro v16 _ a w ⟨rfl,rfl⟩ - H;refine kH H (Ra rfl ?_);clear H;intro a H;refine aI ⟨rfl,?_⟩;refine K2 _ _ ?_;clear K2;refine lr H results17 rfl ?_;exact H.rt rfl
end
section
open Go.RowKit
def yY:Nat→List (Int × aj)→List MapEntry
 | _,[]=>[]
 | i,(k,v) :: r=>⟨.int .i64 k,v,i⟩ :: yY (i+1) r
theorem adl (x:Int × aj):∀ (i:Nat) (l:List (Int × aj)),yY i (l++[x])=yY i l++[⟨.int .i64 x.1,x.2,i+l.length⟩]
 | _,[]=>rfl
 | i,k :: r=>by
  rw [nV,yY,adl x (i+1) r,yY,nV,nG,show i+1+r.length=i+(r.length+1) by omega]
def vG (x:Int):List (Int × aj)→Option aj
 | []=>none
 | (k,v) :: r=>if k=x then some v else vG x r
theorem Q7 {x:Int}:∀ {l:List (Int × aj)},x∉l.map (·.1)→vG x l=none
 | [],_=>rfl
 | (k,v) :: r,h=>by
  rw [vG,ah (fun e=>h (by simp [e])),Q7 (fun hm=>h (lg _ hm))]
theorem Uv (x:Int):∀ (i j:Nat) (l:List (Int × aj)),∃ an,Instr.findNow (.int .i64) (.int .i64 x) (yY i l) j=some an∧an.map (·.2)=vG x l
 | _,_,[]=>⟨none,rfl,rfl⟩
 | i,j,(k,v) :: r=>by
  obtain ⟨an,h1,h2⟩:=Uv x (i+1) (j+1) r
  by_cases e:k=x
  ·subst e
   exact ⟨some (j,v),by simp only [yY,Instr.findNow,Instr.sameNow,au,beq_self_eq_true],by rw [vG,au rfl];rfl⟩
  ·have hb:(x == k)=false:=by simp;exact fun h=>e h.symm
   exact ⟨an,by simpa only [yY,Instr.findNow,Instr.sameNow,au,hb] using h1,by rw [vG,ah e];exact h2⟩
abbrev gW (l:List (Int × aj)):Obj:=.map (yY 0 l).toArray l.length
section
variable {N:Nat} {D:List Deferred} {w0:World} {F:Nat→Prop} {G0 G:GH} {L:OL} {T:List (Nat × aj)}
variable {r:Option Nat} {P:Program} {ops:Array Oper} {Q:Exit→Act→World→Prop} {rest:List Oper} {a:Act} {w:World}
variable {d:Nat} {ty:TypeId} {pos:String} {aV:Array Edge} {g:Option (Nat × Bool)}
theorem CB {t kt et:TypeId} {x y:Operand} {b:Nat} {l:List (Int × aj)} {ky:Int} {zv:aj} (hm:P.underlying t=some (.map kt et)) (hk:P.underlying kt=some (.int .i64)) (hz:(P.info? et).map (fun i=>i.zero)=some (some zv)) (H:St N D w0 F G0 G L T a w)
  (hw:Region.wanted ⟨some d,.lookup t x y false,ty,pos,aV,g⟩ (yielded ops a.tmps)=true) (hx:ev T x=some (.map (some b))) (hy:ev T y=some (.int .i64 ky)) (hb:w.heap[b]?=some (gW l)) (hd:Nat.blt d N=true)
  (k:∀ a',St N D w0 F G0 G L ((d,(vG ky l).getD zv) :: T) a' w→WL r P ops Q rest a' w):WL r P ops Q (⟨some d,.lookup t x y false,ty,pos,aV,g⟩ :: rest) a w:=by
 obtain ⟨an,hf,han⟩:=Uv ky 0 0 l
 obtain ⟨inf,hi1,hi2⟩:=qC.1 hz
 refine iB (v:=(vG ky l).getD zv) (w':=w) hw rfl ?_ (k _ (H.put hd _ H.hp))
 have hkey:MapKept.IsKey (.int .i64) (.int .i64 ky):=by trivial
 have hf2:Instr.findNow (.int .i64) (.int .i64 ky) (yY 0 l).toArray.toList 0=some an:=by simpa using hf
 replace hb:w.heap[b]?=some (.map (yY 0 l).toArray l.length):=hb
 generalize (yY 0 l).toArray=es at hb hf2
 have h1:=MapKept.run_checkKey (P:=P) (w:=w) hk hkey es.isEmpty 9999
 have h2:=MapKept.run_findKey (P:=P) (w:=w) hk hf2
 rw [← han]
 cases an with
 | none=>simp [execOp,Instr.lookup,H.ev hx,H.ev hy,fG,rQ hm,MapKept.run_getObj_map hb,h1,h2,Result.andThen,zeroValue,JV hi1,hi2]
 | some q=>simp [execOp,Instr.lookup,H.ev hx,H.ev hy,fG,rQ hm,MapKept.run_getObj_map hb,h1,h2,Result.andThen]
theorem RQ {t kt et:TypeId} {x y z:Operand} {b i:Nat} {l:List (Int × aj)} {ky:Int} {v:aj} (hm:P.underlying t=some (.map kt et)) (hk:P.underlying kt=some (.int .i64)) (H:St N D w0 F G0 G L T a w)
  (hw:Region.wanted ⟨none,.mapUpdate t x y z,ty,pos,aV,g⟩ (yielded ops a.tmps)=true) (hx:ev T x=some (.map (some b))) (hy:ev T y=some (.int .i64 ky)) (hzv:ev T z=some v) (hi:L[i]?=some (b,gW l)) (hn:vG ky l=none)
  (k:∀ w',St N D w0 F G0 G (L.set i (b,gW (l++[(ky,v)]))) T a w'→WL r P ops Q rest a w'):WL r P ops Q (⟨none,.mapUpdate t x y z,ty,pos,aV,g⟩ :: rest) a w:=by
 obtain ⟨an,hf,han⟩:=Uv ky 0 0 l
 have hnone:an=none:=by
  rw [hn] at han
  cases an with
  | none=>rfl
  | some q=>cases han
 subst hnone
 refine aed (i:=i) hm hk H hw hx hy hzv hi (by trivial) (by simpa using hf) ?_
 intro w' H'
 have e:(yY 0 l).toArray.push ⟨.int .i64 ky,v,l.length⟩=(yY 0 (l++[(ky,v)])).toArray:=by
  rw [adl,List.push_toArray,pz]
 refine k w' ?_
 rw [e] at H'
 rw [gW,lJ]
 exact H'
end
end
section
open Go.RowKit
theorem D7:prog.underlying 138=some (.map 3 4):=by kernel_rfl
theorem Ah:Ty prog 65 3 32 [.int .i64 0,.string ⟨#[]⟩,.int .i64 0] true:=⟨by kernel_rfl,by kernel_rfl⟩
theorem aqz:uP prog 140 [(0,1),(1,1),(2,1),(3,1),(4,1),(5,1)] [.map none,.map none,.map none,.map none,.map none,.int .i64 0]:=⟨by kernel_rfl,by kernel_rfl⟩
theorem Ez:dV prog 50 3 7:=⟨by kernel_rfl⟩
theorem Nl:dV prog 140 0 0:=⟨by kernel_rfl⟩
theorem OP:Ty prog 137 1 8 [.map none] false:=⟨by kernel_rfl,by kernel_rfl⟩
theorem aaX:dV prog 140 1 1:=⟨by kernel_rfl⟩
theorem D6:Ty prog 138 1 8 [.map none] false:=⟨by kernel_rfl,by kernel_rfl⟩
theorem Ey:dV prog 50 2 6:=⟨by kernel_rfl⟩
theorem zk:Ty prog 48 1 24 [.slice none 0 0] false:=⟨by kernel_rfl,by kernel_rfl⟩
theorem zl:prog.underlying 48=some (.slice 65):=by kernel_rfl
theorem Nn:dV prog 140 2 2:=⟨by kernel_rfl⟩
theorem Ns:dV prog 65 0 0:=⟨by kernel_rfl⟩
structure fF where
 id:Int
 author:ByteArray
 time:Int
def fF.dat (x:fF):List Dat:=[li x.id,.lf (.string x.author),li x.time]
abbrev fF.cells (x:fF):List aj:=[vi x.id,.string x.author,vi x.time]
theorem apI {G:GH} {x:fF} {cs:List aj} (h:bH G x.dat cs):cs=x.cells:=by
 simp only [fF.dat,bH,aB] at h
 obtain ⟨_,_,rfl,⟨rfl,_⟩,_,_,rfl,⟨rfl,_⟩,_,_,rfl,⟨rfl,_⟩,rfl⟩:=h
 rfl
theorem LW {G:GH} {l:List fF} {A:Option Addr} {n c k:Nat} (hv:aB G (.sl 3 (l.map fF.dat)) (.slice A n c)) (hk:k < l.length):∃ b o,A=some ⟨b,o,none⟩∧(∀ j u,l[k].cells[j]?=some u→aH G b (o+k*3+j)=some u):=by
 obtain ⟨A',c',he,_,_,hg⟩:=hv.slice
 injection he with e1 e2 e3
 subst e1;obtain ⟨b,o,cs,h1,h2,h3,h4⟩:=hg k l[k].dat (by simp [hk]);have:=apI h4;subst this;exact ⟨b,o,h1,h3⟩
abbrev gY (b ms ml mr mb mu:Nat) (n:Int):Nat × Obj:=(b,.cells #[.map (some ms),.map (some ml),.map (some mr),.map (some mb),.map (some mu),vi n] 140 (0,0))
def DR (l:List cK):List (Int × aj):=l.map fun s=>(s.id,vi s.kind)
def ig (l:List Int):List (Int × aj):=l.map fun k=>(k,.bool true)
structure yh (G:GH) (st:List cK) (li:List eT) (rv:List fF) (ms ml mr mu:Nat):Prop where
 sty:G ms=some (gW (DR st))
 yU:G ml=some (gW (ig (li.map eT.id)))
 rev:G mr=some (gW (ig (rv.map fF.id)))
 use:G mu=some (gW [])
theorem yh.mono {G G':GH} {st:List cK} {li:List eT} {rv:List fF} {ms ml mr mu:Nat} (h:yh G st li rv ms ml mr mu) (hm:∀ b o,G b=some o→G' b=some o):yh G' st li rv ms ml mr mu:=⟨hm _ _ h.sty,hm _ _ h.yU,hm _ _ h.rev,hm _ _ h.use⟩
def Ap (l:List Int):Prop:=∀ (k:Nat) (h:k < l.length),l[k]∉l.take k
theorem aod {l:List cK} {k:Nat} (h:k < l.length):DR (l.take (k+1))=DR (l.take k)++[(l[k].id,vi l[k].kind)]:=by rw [DR,jZ h,nP];rfl
theorem adj {l:List Int} {k:Nat} (h:k < l.length):ig (l.take (k+1))=ig (l.take k)++[(l[k],.bool true)]:=by rw [ig,jZ h,nP];rfl
theorem aoc {l:List cK} {k:Nat} (f:Ap (l.map cK.id)) (h:k < l.length):vG l[k].id (DR (l.take k))=none:=by
 refine Q7 ?_;have:=f k (by simpa using h)
 simpa [DR,List.map_take,List.map_map,Function.comp_def] using this
theorem adi {l:List Int} {k:Nat} (f:Ap l) (h:k < l.length):vG l[k] (ig (l.take k))=none:=by
 refine Q7 ?_;have:=f k h
 simpa [ig,List.map_map,Function.comp_def] using this
theorem aon (G:GH) (w0:World) (hO:jQ G [] w0) (D:kN) (st:List cK) (li:List eT) (rv:List fF) (hst:aB G (.sl 6 (st.map cK.dat)) (dD D.s1)) (xG:aB G (.sl 2 (li.map eT.dat)) (dD D.s2)) (oI:aB G (.sl 3 (rv.map fF.dat)) (dD D.r))
  (f1:Ap (st.map cK.id)) (f2:Ap (li.map eT.id)) (f3:Ap (rv.map fF.id)) (z1:st.length≤4294967296) (z2:li.length≤4294967296) (z3:rv.length≤4294967296) :
  Calls prog 63 #[D.val] w0 (jk w0 G [] fun u G' L'=>∃ b ms ml mr mb mu,u=(aK b 0)∧L'=[gY b ms ml mr mb mu 0,(mb,gW [])]∧yh G' st li rv ms ml mr mu):=by
 obtain ⟨df,dp,dd,dy,⟨rA,rn,rc⟩,⟨sA,sn,sc⟩,⟨lA,ln,lc⟩,d3,d4,ins,mv⟩:=D;dsimp only at hst xG oI
 obtain rfl:sn=st.length:=by have:=hst.len;simpa using this
 obtain rfl:ln=li.length:=by have:=xG.len;simpa using this
 obtain rfl:rn=rv.length:=by have:=oI.len;simpa using this
 have hml:maxLen=9223372036854775807:=rfl;refine mH (N:=64) (T:=[(0,_)]) func63 rfl ntmps63 rfl rfl hO ?_;intro a H;refine dz (fun _ K1=>?_);refine eU (cs:=[_,_,_,_,_,_,_,_,_,_,_]) H wn rfl rfl rfl ?_;clear H;intro b1 a w hb1 H;refine kH H (ak K1 rfl (SQ fun _ K2=>?_));clear H K1;intro a H;obtain ⟨Ga,hma,hb1',H⟩:=H.fD
 have Qx:aH Ga b1 7=some (.slice sA st.length sc):=by unfold aH;rw [hb1'];rfl
 have hc8:aH Ga b1 8=some (.slice lA li.length lc):=by unfold aH;rw [hb1'];rfl
 have hc6:aH Ga b1 6=some (.slice rA rv.length rc):=by unfold aH;rw [hb1'];rfl
 replace hst:=hst.mono hma;replace xG:=xG.mono hma;replace oI:=oI.mono hma;refine oD ?_;refine LZ H wn rfl ?_;clear H;intro b10 a w KP H;refine LZ H wn rfl ?_;clear H;intro b11 a w I8 H;refine LZ H wn rfl ?_;clear H;intro b12 a w Gp H;refine LZ H wn rfl ?_;clear H;intro b13 a w ND H;refine LZ H wn rfl ?_;clear H;intro b14 a w KS H;refine lY aqz [_,_,_,_,_,_] H wn rfl rfl rfl rfl ?_;clear H;intro a H;refine eU (cs:=[_,_,_,_,_,_]) H wn rfl rfl rfl ?_;clear H;intro b16 a w asx H;refine kH H (aM K2 rfl (SQ fun _ K3=>SR fun _ K4=>Rf Ez rfl (Rf FY rfl (Rg rT rfl (by assumption) ?_))));clear H K2;intro a H;refine kH H (Rl oo rfl (Rm rfl (Kz K4 (SB ?_))));clear H K4;intro a H;skip;refine fH (ι:=Nat × GH) (Tc:=[(1,_),(3,_),(19,_),(20,_)]) (Lc:=[(_,_),(_,_),(_,_),(_,_),(_,_)]) (fun gh=>[(21,vi gh.1)]) (fun gh=>[(b10,gW (DR (st.take gh.1)))]) (fun gh=>gh.2) (fun gh=>gh.1≤st.length∧(∀ b o,Ga b=some o→gh.2 b=some o)) (fun gh=>st.length - gh.1) ((0,Ga)) (by exact (H).sub ⟨rfl,rfl,rfl,rfl,rfl,av⟩) ?_ ?_
 ·exact ⟨iK _,fun _ _ h=>h⟩
 clear H;intro gh a w hI H;obtain ⟨k,g1⟩:=gh;dsimp only at hI H;obtain ⟨hk,Le⟩:=hI;dsimp only [lca,aS] at H;refine kP H (SR fun _ K5=>Rc rfl (Kz K5 (SQ fun _ K6=>Cd rfl ?_ ?_))) <;> clear H K5
 ·intro h22 a H
  try have kr:=dT h22
  have hk2:k < st.length:=by omega
  obtain ⟨xb,xo,pA,pc,rfl,hrow,-,-⟩:=CF (hst.mono Le) hk2;have hnew:=aoc f1 hk2;refine kP H (Kc K6 (SQ fun _ K7=>SB (SR fun _ K8=>Ri oo lU rfl rfl ?_)));clear H K6;intro a H;refine bD lU (cs:=_) H wn rfl rfl (fun j v hj=>H.hp.aH (hrow j v hj)) rfl ?_;clear H;intro a H;refine dR lU H wn rfl ?_;clear H;intro b5 a w hb5 H;refine bO lU 0 (vs:=[_,_,_,_,_,_]) _ H wn rfl rfl rfl rfl rfl rfl rfl rfl ?_;clear H;intro w H;dsimp only [List.set,setRow] at H;refine K8 _ _ ?_;clear K8;refine dI hmx [[],[0],[0,1],[0,1,2],[],[4],[],[6],(ra 0 8)] [8] (by kernel_rfl) [_,_,_,.map (some b10),_,vi st[k].id,_,vi st[k].kind] H (aG (Z0 rfl (Rm rfl)) (Z1 0 25 rfl (Rk rfl)) (Z1 1 26 rfl (Rf Nl rfl)) (Z1 2 27 rfl (Ro OP 1 rfl)) (aG (Z0 rfl (Rf wU rfl)) (Z1 4 29 rfl (Ro aD 0 rfl)) (Z0 rfl (Rf zK rfl)) (Z1 6 31 rfl (Ro aD 0 rfl)) (bG (cZ rfl) dU))) ?_
  clear H;intro a w G Gf H hv;have H:=H.aU (hv 3 28 rfl rfl) rfl;have H:=H.aU (hv 5 30 rfl rfl) rfl;have H:=H.aU (hv 7 32 rfl rfl) rfl;clear hv;refine RQ (i:=6) J5 qz H wn rfl rfl rfl rfl hnew ?_;clear H;intro w H;dsimp only [List.set,List.append,lca,aS] at H;rw [← aod hk2] at H;refine aI ⟨rfl,?_⟩;refine K7 _ _ ?_;clear K7;refine kP H (SC (Rd rfl (Rm rfl ?_)));clear H;intro a H;refine aI ?_;refine dP ((k+1,G)) (by exact (H.dK (Pl:=[_,_,_,_,_,_,_]) (dw:=[_,_,_,_,_,_]) [1,2,3,4,5,6] (by decide) rfl).sub ⟨rfl,rfl,rfl,rfl,rfl,av⟩) ?_ ?_
  ·(try dsimp only);exact ⟨by omega,fun b o h=>Gf b o (Le b o h)⟩
  first|omega|(dsimp only;omega)
 intro h22 a H
 try have kr:=dF h22
 obtain rfl:k=st.length:=by omega
 rw [Db] at H;have asO:=aF Le hc8;refine eD ?_;refine K3 _ _ ?_;clear K3;refine kP H (SQ fun _ K9=>SR fun _ aZ=>Rf Ez rfl (Rf BO rfl (Rg xV rfl (by assumption) ?_)));clear H;intro a H;refine kH H (Rl xW rfl (Rm rfl (Kz aZ (SB ?_))));clear H aZ;intro a H;skip;refine fH (ι:=Nat × GH) (Tc:=[(1,_),(3,_),(36,_),(37,_)]) (Lc:=[(_,_),(_,_),(_,_),(_,_),(_,_)]) (fun gh=>[(38,vi gh.1)]) (fun gh=>[(b11,gW (ig ((li.map eT.id).take gh.1)))]) (fun gh=>gh.2) (fun gh=>gh.1≤li.length∧(∀ b o,g1 b=some o→gh.2 b=some o)) (fun gh=>li.length - gh.1) ((0,g1)) (by exact (H.dK (Pl:=[_,_,_,_,_,_]) (dw:=[_,_,_,_,_,_]) [0,1,2,3,5,4] (by decide) rfl).sub ⟨rfl,rfl,rfl,rfl,rfl,av⟩) ?_ ?_
 ·exact ⟨iK _,fun _ _ h=>h⟩
 clear H;intro gh a w hI H;obtain ⟨k,g2⟩:=gh;dsimp only at hI H;obtain ⟨hk,QH⟩:=hI;dsimp only [lca,aS] at H;refine kP H (SR fun _ bN=>Rc rfl (Kz bN (SQ fun _ bQ=>Cd rfl ?_ ?_))) <;> clear H bN
 ·intro kT a H
  try have p39:=dT kT
  have hk2:k < li.length:=by omega
  obtain ⟨xb,xo,B,d,rfl,hrow,-⟩:=JH ((xG.mono Le).mono QH) hk2
  have hk3:k < (li.map eT.id).length:=by simpa using hk2
  have hnew:=adi f2 hk3
  have NM:(li.map eT.id)[k]=li[k].id:=by simp
  rw [NM] at hnew;refine kP H (Kc bQ (SQ fun _ bT=>SB (SR fun _ cu=>Ri xW Ag rfl rfl ?_)));clear H bQ;intro a H;refine bD Ag (cs:=_) H wn rfl rfl (fun j v hj=>H.hp.aH (hrow j v hj)) rfl ?_;clear H;intro a H;refine dR Ag H wn rfl ?_;clear H;intro b7 a w tV H;refine bO Ag 0 (vs:=[_,_]) _ H wn rfl rfl rfl rfl rfl rfl rfl rfl ?_;clear H;intro w H;dsimp only [List.set,setRow] at H;refine cu _ _ ?_;clear cu;refine dI hmx [[],[0],[0,1],[0,1,2],[],[4],(ra 0 6)] [6] (by kernel_rfl) [_,_,_,.map (some b11),_,vi li[k].id] H (aG (Z0 rfl (Rm rfl)) (Z1 0 42 rfl (Rk rfl)) (Z1 1 43 rfl (Rf aaX rfl)) (Z1 2 44 rfl (Ro D6 1 rfl)) (bG (Z0 rfl (Rf Ni rfl)) (bG (Z1 4 46 rfl (Ro aD 0 rfl)) (bG (cZ rfl) dU)))) ?_
  clear H;intro a w G sH H hv;have H:=H.aU (hv 3 45 rfl rfl) rfl;have H:=H.aU (hv 5 47 rfl rfl) rfl;clear hv;refine RQ (i:=6) D7 qz H wn rfl rfl rfl rfl hnew ?_;clear H;intro w H;dsimp only [List.set,List.append,lca,aS] at H;rw [← NM,← adj hk3] at H;refine aI ⟨rfl,?_⟩;refine bT _ _ ?_;clear bT;refine kP H (SC (Rd rfl (Rm rfl ?_)));clear H;intro a H;refine aI ?_;refine dP ((k+1,G)) (by exact (H.dK (Pl:=[_,_,_,_,_,_,_]) (dw:=[_,_,_,_,_,_]) [1,2,3,4,5,6] (by decide) rfl).sub ⟨rfl,rfl,rfl,rfl,rfl,av⟩) ?_ ?_
  ·(try dsimp only);exact ⟨by omega,fun b o h=>sH b o (QH b o h)⟩
  first|omega|(dsimp only;omega)
 intro kT a H
 try have p39:=dF kT
 obtain rfl:k=li.length:=by omega
 rw [kF (by simp)] at H;have asN:=aF QH (aF Le hc6);refine eD ?_;refine K9 _ _ ?_;clear K9;refine kP H (SQ fun _ dL=>SR fun _ dO=>Rf Ey rfl (Rg zk rfl (by assumption) ?_));clear H;intro a H;refine kH H (Rl zl rfl (Rm rfl (Kz dO (SB ?_))));clear H dO;intro a H;skip;refine fH (ι:=Nat × GH) (Tc:=[(3,_),(50,_),(51,_)]) (Lc:=[(_,_),(_,_),(_,_),(_,_),(_,_)]) (fun gh=>[(52,vi gh.1)]) (fun gh=>[(b12,gW (ig ((rv.map fF.id).take gh.1)))]) (fun gh=>gh.2) (fun gh=>gh.1≤rv.length∧(∀ b o,g2 b=some o→gh.2 b=some o)) (fun gh=>rv.length - gh.1) ((0,g2)) (by exact (H.dK (Pl:=[_,_,_,_,_,_]) (dw:=[_,_,_,_,_,_]) [0,1,2,4,5,3] (by decide) rfl).sub ⟨rfl,rfl,rfl,rfl,av⟩) ?_ ?_
 ·exact ⟨iK _,fun _ _ h=>h⟩
 clear H;intro gh a w hI H;obtain ⟨k,g3⟩:=gh;dsimp only at hI H;obtain ⟨hk,abY⟩:=hI;dsimp only [lca,aS] at H;refine kP H (SR fun _ dJ=>Rc rfl (Kz dJ (SQ fun _ dW=>Cd rfl ?_ ?_))) <;> clear H dJ
 ·intro gV a H
  try have p53:=dT gV
  have hk2:k < rv.length:=by omega
  obtain ⟨xb,xo,rfl,hrow⟩:=LW (((oI.mono Le).mono QH).mono abY) hk2
  have hk3:k < (rv.map fF.id).length:=by simpa using hk2
  have hnew:=adi f3 hk3
  have NM:(rv.map fF.id)[k]=rv[k].id:=by simp
  rw [NM] at hnew;refine kP H (Kc dW (SQ fun _ eG=>SB (SR fun _ eB=>Ri zl Ah rfl rfl ?_)));clear H dW;intro a H;refine bD Ah (cs:=_) H wn rfl rfl (fun j v hj=>H.hp.aH (hrow j v hj)) rfl ?_;clear H;intro a H;refine dR Ah H wn rfl ?_;clear H;intro b9 a w uG H;refine bO Ah 0 (vs:=[_,_,_]) _ H wn rfl rfl rfl rfl rfl rfl rfl rfl ?_;clear H;intro w H;dsimp only [List.set,setRow] at H;refine eB _ _ ?_;clear eB;refine dI hmx [[],[0],[0,1],[0,1,2],[],[4],(ra 0 6)] [6] (by kernel_rfl) [_,_,_,.map (some b12),_,vi rv[k].id] H (aG (Z0 rfl (Rm rfl)) (Z1 0 56 rfl (Rk rfl)) (Z1 1 57 rfl (Rf Nn rfl)) (Z1 2 58 rfl (Ro D6 1 rfl)) (bG (Z0 rfl (Rf Ns rfl)) (bG (Z1 4 60 rfl (Ro aD 0 rfl)) (bG (cZ rfl) dU)))) ?_
  clear H;intro a w G I5 H hv;have H:=H.aU (hv 3 59 rfl rfl) rfl;have H:=H.aU (hv 5 61 rfl rfl) rfl;clear hv;refine RQ (i:=6) D7 qz H wn rfl rfl rfl rfl hnew ?_;clear H;intro w H;dsimp only [List.set,List.append,lca,aS] at H;rw [← NM,← adj hk3] at H;refine aI ⟨rfl,?_⟩;refine eG _ _ ?_;clear eG;refine kP H (SC (Rd rfl (Rm rfl ?_)));clear H;intro a H;refine aI ?_;refine dP ((k+1,G)) (by exact (H.dK (Pl:=[_,_,_,_,_,_,_]) (dw:=[_,_,_,_,_,_]) [1,2,3,4,5,6] (by decide) rfl).sub ⟨rfl,rfl,rfl,rfl,av⟩) ?_ ?_
  ·(try dsimp only);exact ⟨by omega,fun b o h=>I5 b o (abY b o h)⟩
  first|omega|(dsimp only;omega)
 intro gV a H
 try have p53:=dF gV
 obtain rfl:k=rv.length:=by omega
 rw [kF (by simp)] at H;refine eD ?_;refine dL _ _ ?_;clear dL;refine kP H (SR fun _ eH=>Rm rfl (ak eH rfl ?_));clear H eH;intro a H;refine dM ?_;have H:=H.dK (Pl:=[_,_,_,_,_,_]) (dw:=[_,_,_,_,_,_]) [3,4,5,1,0,2] (by decide) rfl;obtain ⟨Gs,hms,hs,H⟩:=H.fD;obtain ⟨Gl,Jo,hl,H⟩:=H.fD;obtain ⟨Gr,hmr,hr,H⟩:=H.fD;obtain ⟨Gu,hmu,hu,H⟩:=H.fD;refine lv H results63 rfl ?_;exact H.hp.gL ⟨b16,b10,b11,b12,b13,b14,rfl,rfl,⟨hmu _ _ (hmr _ _ (Jo _ _ hs)),hmu _ _ (hmr _ _ hl),hmu _ _ hr,hu⟩⟩
end
section
open Go.RowKit
theorem ajU:dV prog 140 4 4:=⟨by kernel_rfl⟩
theorem aaY:dV prog 140 3 3:=⟨by kernel_rfl⟩
theorem JI (x:Int):∀ l:List Int,(vG x (ig l)).getD (.bool false)=.bool (decide (x∈l))
 | []=>rfl
 | k :: r=>by
  have ih:=JI x r;rw [ig,fJ,vG]
  by_cases e:k=x
  ·subst e;simp
  rw [ah e,show (r.map fun k=>(k,Value.bool true))=ig r from rfl,ih]
  simp [show x≠k from fun h=>e h.symm]
def Fe (st:List cK) (v:Int):Int:=((st.find? fun s=>decide (s.id=v)).map cK.kind).getD 0
theorem Ov (x:Int):∀ l:List cK,(vG x (DR l)).getD (vi 0)=vi (Fe l x)
 | []=>rfl
 | s :: r=>by
  have ih:=Ov x r;rw [DR,fJ,vG]
  by_cases e:s.id=x
  ·subst e;simp [Fe]
  rw [ah e,show (r.map fun s=>(s.id,vi s.kind))=DR r from rfl,ih]
  simp [Fe,e]
def nZ (bE:List Int) (x:Int):Int:=if ¬ (1≤x∧x≤1073741824) then 18 else if x∈bE then 7 else 0
def kg (bE:List Int) (x:Int):List Int:=if nZ bE x=0 then bE++[x] else bE
theorem aob (l:List Int) (x:Int):ig (l++[x])=ig l++[(x,.bool true)]:=by simp [ig]
theorem Tq (G:GH) (L:OL) (w0:World) (st:List cK) (li:List eT) (rv:List fF) (b ms ml mr mb mu:Nat) (n:Int) (bE:List Int) (x:Int) (hck:yh G st li rv ms ml mr mu) (hO:jQ G (gY b ms ml mr mb mu n :: (mb,gW (ig bE)) :: L) w0) :
  Calls prog 198 #[(aK b 0),vi x] w0 (jk w0 G (gY b ms ml mr mb mu n :: (mb,gW (ig bE)) :: L) fun u G' L'=>u=vi (nZ bE x)∧L'=gY b ms ml mr mb mu n :: (mb,gW (ig (kg bE x))) :: L∧G=G'):=by
 refine mH (N:=29) (T:=[(0,_),(1,_)]) func198 rfl ntmps198 rfl rfl hO ?_;intro a H;refine kP H (SR fun _ K1=>ak K1 rfl (SQ fun _ K2=>SB (SR fun _ K3=>Rm rfl ?_)));clear H K1;intro a H;refine s_call zJ H wn rfl (zX _ _ H.ro x 1 1073741824) rfl ?_;clear H;rintro v7 _ a w ⟨rfl,rfl⟩ - H;refine kH H (Rn rfl (Rm rfl (Sp 9 rfl ?_ ?_))) <;> clear H
 ·intro h9 a H
  try have p9:=dT h9
  refine kH H (aT h9 rfl (aT h9 rfl (Pt h9 rfl (ak K3 rfl (Ct rfl rfl (SQ fun _ K4=>?_))))));clear H K3;intro a H
  have e:nZ bE x=18:=by rw [nZ,au (by first|(simp_all;done)|(simp_all;omega))]
  refine kP H (SC (aM K4 rfl ?_));clear H K4;intro a H;refine lr H results198 rfl ?_
  first
   | exact H.hp.gL ⟨by rw [e],by rw [kg,au e],rfl⟩
   | exact H.hp.gL ⟨by rw [e],by rw [kg,ah (by rw [e];decide)],rfl⟩
 intro h9 a H
 try have p9:=dF h9
 refine kH H (YM h9 rfl ?_);clear H;intro a H;refine vK H (wg H rfl rfl h9) rfl rfl ?_;clear H;intro a H;refine kH H (YF ajU h9 rfl (YO D6 0 h9 rfl (YM h9 rfl ?_)));clear H;intro a H;refine CB (zv:=.bool false) D7 qz (by kernel_rfl) H (wg H rfl rfl h9) rfl rfl (H.ro _ _ hck.use) rfl ?_;clear H;intro a H;rw [show (vG x []).getD (Value.bool false)=.bool false from rfl] at H;refine kH H (Pf h9 rfl (ak K3 rfl (Cd rfl ?_ ?_))) <;> clear H K3
 ·intro h5 a H
  try have p5:=dT h5
  refine aO (fun _ K5=>?_)
  have e:nZ bE x=18:=by rw [nZ,au (by first|(simp_all;done)|(simp_all;omega))]
  refine kP H (SC (aM K5 rfl ?_));clear H K5;intro a H;refine lr H results198 rfl ?_
  first
   | exact H.hp.gL ⟨by rw [e],by rw [kg,au e],rfl⟩
   | exact H.hp.gL ⟨by rw [e],by rw [kg,ah (by rw [e];decide)],rfl⟩
 intro h5 a H
 try have p5:=dF h5
 have hin:decide (1≤x∧x≤1073741824)=true:=by simp_all
 refine kP H (SR fun _ K6=>Rm rfl (Rk rfl (aW aaY D6 0 rfl rfl (Rm rfl ?_))));clear H;intro a H;refine CB (zv:=.bool false) D7 qz (by kernel_rfl) H wn rfl rfl (H.hp.own _ (lg _ jd)) rfl ?_;clear H;intro a H;rw [JI] at H;refine kH H (ak K6 rfl (Cd rfl ?_ ?_)) <;> clear H K6
 ·intro dS a H
  refine aO (fun _ K7=>?_)
  have e:nZ bE x=7:=by rw [nZ,ah (by simpa using hin),au (pE dS)]
  refine kP H (SC (aM K7 rfl ?_));clear H K7;intro a H;refine lr H results198 rfl ?_
  first
   | exact H.hp.gL ⟨by rw [e],by rw [kg,au e],rfl⟩
   | exact H.hp.gL ⟨by rw [e],by rw [kg,ah (by rw [e];decide)],rfl⟩
 intro dS a H
 have hx:x∉bE:=of_decide_eq_false dS;have hnew:vG x (ig bE)=none:=Q7 (by simpa [ig,List.map_map,Function.comp_def] using hx)
 have e:nZ bE x=0:=by rw [nZ,ah (by simpa using hin),ah hx]
 refine kP H (Kc K2 (SR fun _ K8=>Rm rfl (Rk rfl (aW aaY D6 0 rfl rfl (Rm rfl ?_)))));clear H K2;intro a H;refine RQ (i:=1) D7 qz H wn rfl rfl rfl rfl hnew ?_;clear H;intro w H;dsimp only [List.set] at H;rw [← aob] at H;refine K8 _ _ ?_;clear K8;refine kP H (SR fun _ K9=>ak K9 rfl ?_);clear H K9;intro a H;refine lr H results198 rfl ?_
 first
  | exact H.hp.gL ⟨by rw [e],by rw [kg,au e],rfl⟩
  | exact H.hp.gL ⟨by rw [e],by rw [kg,ah (by rw [e];decide)],rfl⟩
def lT (st:List cK) (yU:List Int) (key v:Int):Int :=
 if key=20∨key=1 then bS (decide (v≠0∧Fe st v≠(if key=1 then 2 else 1))) 25 else if key=33 then bS (decide (v≠0∧v∉yU)) 26 else 0
theorem Tt (G:GH) (w0:World) (hG:Hold G w0) (st:List cK) (li:List eT) (rv:List fF) (b ms ml mr mb mu:Nat) (n:Int) (key v:Int) (hck:yh G st li rv ms ml mr mu) (hb:G b=some (gY b ms ml mr mb mu n).2) :
  Calls prog 136 #[(aK b 0),vi key,vi v] w0 (bR w0 G fun u G'=>u=vi (lT st (li.map eT.id) key v)∧G=G'):=by
 have hc0:aH G b 0=some (.map (some ms)):=by unfold aH;rw [hb];rfl
 have hc1:aH G b 1=some (.map (some ml)):=by unfold aH;rw [hb];rfl
 refine eN [(0,_),(1,_),(2,_)] func136 rfl ntmps136 rfl rfl hG ?_;intro a H;refine kP H (SR fun _ K1=>ak K1 rfl (SQ fun _ K2=>SR fun _ K3=>Rm rfl (Kz K3 (SB (SQ fun _ K4=>SR fun _ K5=>Rc rfl (ak K5 rfl (Cd rfl ?_ ?_))))))) <;> clear H K1 K3 K5
 ·intro h9 a H
  try have p9:=dT h9
  refine kP H (Kc K4 (Ct rfl h9 (SR fun _ K6=>ak K6 rfl (SQ fun _ K7=>SR fun _ K8=>Rm rfl (Rc rfl (Kz K8 (Cd rfl ?_ ?_))))))) <;> clear H K4 K6 K8
  ·intro fP a H
   try have qN:=dT fP
   refine kP H (SC (aM K7 rfl (SR fun _ K9=>Rm rfl (Rc rfl (Rm rfl (Sp 16 rfl ?_ ?_)))))) <;> clear H K7
   ·intro h16 a H
    try have p16:=dT h16
    refine kH H (YM h16 rfl ?_);clear H;intro a H;refine vK H (wg H rfl rfl h16) rfl rfl ?_;clear H;intro a H;refine kH H (YF Nl h16 rfl (YR OP h16 rfl (by assumption) ?_));clear H;intro a H;refine kH H (YM h16 rfl ?_);clear H;intro a H;refine CB (zv:=vi 0) J5 qz (by kernel_rfl) H (wg H rfl rfl h16) rfl rfl (H.ro _ _ hck.sty) rfl ?_;clear H;intro a H;rw [Ov] at H;refine kH H (YM h16 rfl (YC h16 rfl (Pt h16 rfl ?_)));clear H;intro a H;refine s_call kS H wn rfl (kW _ _ H.ro _ 25) rfl ?_;clear H;rintro v26 _ a w ⟨rfl,rfl⟩ - H;refine kH H (ak K9 rfl ?_);clear H K9;intro a H;refine lr H results136 rfl ?_
    exact H.rt ⟨aC vi (by unfold lT;(repeat' split) <;> first|rfl|(simp_all;done)|(exfalso;simp_all;done)|(congr 1;rw [rZ];simp only [vS,uq,uS];exact ⟨fun h=>⟨p31,h⟩,fun h=>h.2⟩)),rfl⟩
   intro h16 a H
   try have p16:=dF h16
   refine kH H (aT h16 rfl (aT h16 rfl (aP h16 rfl (Pf h16 rfl ?_))));clear H;intro a H;refine s_call kS H wn rfl (kW _ _ H.ro _ 25) rfl ?_;clear H;rintro v26 _ a w ⟨rfl,rfl⟩ - H;refine kH H (ak K9 rfl ?_);clear H K9;intro a H;refine lr H results136 rfl ?_
   exact H.rt ⟨aC vi (by unfold lT;(repeat' split) <;> first|rfl|(simp_all;done)|(exfalso;simp_all;done)|(congr 1;rw [rZ];simp only [vS,uq,uS];exact ⟨fun h=>⟨p31,h⟩,fun h=>h.2⟩)),rfl⟩
  intro fP a H
  try have qN:=dF fP
  refine kP H (Kc K7 (SR fun _ aZ=>Rm rfl (Rc rfl (Rm rfl (Sp 16 rfl ?_ ?_))))) <;> clear H K7
  ·intro h16 a H
   try have p16:=dT h16
   refine kH H (YM h16 rfl ?_);clear H;intro a H;refine vK H (wg H rfl rfl h16) rfl rfl ?_;clear H;intro a H;refine kH H (YF Nl h16 rfl (YR OP h16 rfl (by assumption) ?_));clear H;intro a H;refine kH H (YM h16 rfl ?_);clear H;intro a H;refine CB (zv:=vi 0) J5 qz (by kernel_rfl) H (wg H rfl rfl h16) rfl rfl (H.ro _ _ hck.sty) rfl ?_;clear H;intro a H;rw [Ov] at H;refine kH H (YM h16 rfl (YC h16 rfl (Pt h16 rfl ?_)));clear H;intro a H;refine s_call kS H wn rfl (kW _ _ H.ro _ 25) rfl ?_;clear H;rintro v26 _ a w ⟨rfl,rfl⟩ - H;refine kH H (ak aZ rfl ?_);clear H aZ;intro a H;refine lr H results136 rfl ?_
   exact H.rt ⟨aC vi (by unfold lT;(repeat' split) <;> first|rfl|(simp_all;done)|(exfalso;simp_all;done)|(congr 1;rw [rZ];simp only [vS,uq,uS];exact ⟨fun h=>⟨p31,h⟩,fun h=>h.2⟩)),rfl⟩
  intro h16 a H
  try have p16:=dF h16
  refine kH H (aT h16 rfl (aT h16 rfl (aP h16 rfl (Pf h16 rfl ?_))));clear H;intro a H;refine s_call kS H wn rfl (kW _ _ H.ro _ 25) rfl ?_;clear H;rintro v26 _ a w ⟨rfl,rfl⟩ - H;refine kH H (ak aZ rfl ?_);clear H aZ;intro a H;refine lr H results136 rfl ?_
  exact H.rt ⟨aC vi (by unfold lT;(repeat' split) <;> first|rfl|(simp_all;done)|(exfalso;simp_all;done)|(congr 1;rw [rZ];simp only [vS,uq,uS];exact ⟨fun h=>⟨p31,h⟩,fun h=>h.2⟩)),rfl⟩
 intro h9 a H
 try have p9:=dF h9
 refine kP H (SC (Rc rfl (aM K4 rfl (Cd rfl ?_ ?_)))) <;> clear H K4
 ·intro h9 a H
  try have p9:=dT h9
  refine kP H (SR fun _ bN=>ak bN rfl (SQ fun _ bQ=>SR fun _ bT=>Rm rfl (Rc rfl (Kz bT (Cd rfl ?_ ?_))))) <;> clear H bN bT
  ·intro fP a H
   try have qN:=dT fP
   refine kP H (SC (aM bQ rfl (SR fun _ cu=>Rm rfl (Rc rfl (Rm rfl (Sp 16 rfl ?_ ?_)))))) <;> clear H bQ
   ·intro h16 a H
    try have p16:=dT h16
    refine kH H (YM h16 rfl ?_);clear H;intro a H;refine vK H (wg H rfl rfl h16) rfl rfl ?_;clear H;intro a H;refine kH H (YF Nl h16 rfl (YR OP h16 rfl (by assumption) ?_));clear H;intro a H;refine kH H (YM h16 rfl ?_);clear H;intro a H;refine CB (zv:=vi 0) J5 qz (by kernel_rfl) H (wg H rfl rfl h16) rfl rfl (H.ro _ _ hck.sty) rfl ?_;clear H;intro a H;rw [Ov] at H;refine kH H (YM h16 rfl (YC h16 rfl (Pt h16 rfl ?_)));clear H;intro a H;refine s_call kS H wn rfl (kW _ _ H.ro _ 25) rfl ?_;clear H;rintro v26 _ a w ⟨rfl,rfl⟩ - H;refine kH H (ak cu rfl ?_);clear H cu;intro a H;refine lr H results136 rfl ?_
    exact H.rt ⟨aC vi (by unfold lT;(repeat' split) <;> first|rfl|(simp_all;done)|(exfalso;simp_all;done)|(congr 1;rw [rZ];simp only [vS,uq,uS];exact ⟨fun h=>⟨p31,h⟩,fun h=>h.2⟩)),rfl⟩
   intro h16 a H
   try have p16:=dF h16
   refine kH H (aT h16 rfl (aT h16 rfl (aP h16 rfl (Pf h16 rfl ?_))));clear H;intro a H;refine s_call kS H wn rfl (kW _ _ H.ro _ 25) rfl ?_;clear H;rintro v26 _ a w ⟨rfl,rfl⟩ - H;refine kH H (ak cu rfl ?_);clear H cu;intro a H;refine lr H results136 rfl ?_
   exact H.rt ⟨aC vi (by unfold lT;(repeat' split) <;> first|rfl|(simp_all;done)|(exfalso;simp_all;done)|(congr 1;rw [rZ];simp only [vS,uq,uS];exact ⟨fun h=>⟨p31,h⟩,fun h=>h.2⟩)),rfl⟩
  intro fP a H
  try have qN:=dF fP
  refine kP H (Kc bQ (SR fun _ dL=>Rm rfl (Rc rfl (Rm rfl (Sp 16 rfl ?_ ?_))))) <;> clear H bQ
  ·intro h16 a H
   try have p16:=dT h16
   refine kH H (YM h16 rfl ?_);clear H;intro a H;refine vK H (wg H rfl rfl h16) rfl rfl ?_;clear H;intro a H;refine kH H (YF Nl h16 rfl (YR OP h16 rfl (by assumption) ?_));clear H;intro a H;refine kH H (YM h16 rfl ?_);clear H;intro a H;refine CB (zv:=vi 0) J5 qz (by kernel_rfl) H (wg H rfl rfl h16) rfl rfl (H.ro _ _ hck.sty) rfl ?_;clear H;intro a H;rw [Ov] at H;refine kH H (YM h16 rfl (YC h16 rfl (Pt h16 rfl ?_)));clear H;intro a H;refine s_call kS H wn rfl (kW _ _ H.ro _ 25) rfl ?_;clear H;rintro v26 _ a w ⟨rfl,rfl⟩ - H;refine kH H (ak dL rfl ?_);clear H dL;intro a H;refine lr H results136 rfl ?_
   exact H.rt ⟨aC vi (by unfold lT;(repeat' split) <;> first|rfl|(simp_all;done)|(exfalso;simp_all;done)|(congr 1;rw [rZ];simp only [vS,uq,uS];exact ⟨fun h=>⟨p31,h⟩,fun h=>h.2⟩)),rfl⟩
  intro h16 a H
  try have p16:=dF h16
  refine kH H (aT h16 rfl (aT h16 rfl (aP h16 rfl (Pf h16 rfl ?_))));clear H;intro a H;refine s_call kS H wn rfl (kW _ _ H.ro _ 25) rfl ?_;clear H;rintro v26 _ a w ⟨rfl,rfl⟩ - H;refine kH H (ak dL rfl ?_);clear H dL;intro a H;refine lr H results136 rfl ?_
  exact H.rt ⟨aC vi (by unfold lT;(repeat' split) <;> first|rfl|(simp_all;done)|(exfalso;simp_all;done)|(congr 1;rw [rZ];simp only [vS,uq,uS];exact ⟨fun h=>⟨p31,h⟩,fun h=>h.2⟩)),rfl⟩
 intro h9 a H
 try have p9:=dF h9
 refine kP H (SR fun _ dO=>Rc rfl (ak dO rfl (Cd rfl ?_ ?_))) <;> clear H dO
 ·intro h27 a H
  try have p27:=dT h27
  refine kP H (SR fun _ dJ=>Rm rfl (Rc rfl (Rm rfl (Sp 31 rfl ?_ ?_)))) <;> clear H
  ·intro h31 a H
   try have p31:=dT h31
   refine kH H (YM h31 rfl ?_);clear H;intro a H;refine vK H (wg H rfl rfl h31) rfl rfl ?_;clear H;intro a H;refine kH H (YF aaX h31 rfl (YR D6 h31 rfl (by assumption) ?_));clear H;intro a H;refine kH H (YM h31 rfl ?_);clear H;intro a H;refine CB (zv:=.bool false) D7 qz (by kernel_rfl) H (wg H rfl rfl h31) rfl rfl (H.ro _ _ hck.yU) rfl ?_;clear H;intro a H;rw [JI] at H;refine kH H (YN h31 rfl (Pt h31 rfl ?_));clear H;intro a H;refine s_call kS H wn rfl (kW _ _ H.ro _ 26) rfl ?_;clear H;rintro v40 _ a w ⟨rfl,rfl⟩ - H;refine kH H (ak dJ rfl ?_);clear H dJ;intro a H;refine lr H results136 rfl ?_
   exact H.rt ⟨aC vi (by unfold lT;(repeat' split) <;> first|rfl|(simp_all;done)|(exfalso;simp_all;done)|(congr 1;rw [rZ];simp only [vS,uq,uS];exact ⟨fun h=>⟨p31,h⟩,fun h=>h.2⟩)),rfl⟩
  intro h31 a H
  try have p31:=dF h31
  refine kH H (aT h31 rfl (aP h31 rfl (aP h31 rfl (Pf h31 rfl ?_))));clear H;intro a H;refine s_call kS H wn rfl (kW _ _ H.ro _ 26) rfl ?_;clear H;rintro v40 _ a w ⟨rfl,rfl⟩ - H;refine kH H (ak dJ rfl ?_);clear H dJ;intro a H;refine lr H results136 rfl ?_
  exact H.rt ⟨aC vi (by unfold lT;(repeat' split) <;> first|rfl|(simp_all;done)|(exfalso;simp_all;done)|(congr 1;rw [rZ];simp only [vS,uq,uS];exact ⟨fun h=>⟨p31,h⟩,fun h=>h.2⟩)),rfl⟩
 intro h27 a H
 try have p27:=dF h27
 refine kP H (Kc K2 (SR fun _ dW=>ak dW rfl ?_));clear H K2 dW;intro a H;refine lr H results136 rfl ?_
 exact H.rt ⟨aC vi (by unfold lT;(repeat' split) <;> first|rfl|(simp_all;done)|(exfalso;simp_all;done)|(congr 1;rw [rZ];simp only [vS,uq,uS];exact ⟨fun h=>⟨p31,h⟩,fun h=>h.2⟩)),rfl⟩
end
section
open Go.RowKit
section
variable {N:Nat} {D:List Deferred} {w0:World} {F:Nat→Prop} {G0 G G':GH} {L L':OL} {T:List (Nat × aj)}
variable {r:Option Nat} {P:Program} {ops:Array Oper} {Q:Exit→Act→World→Prop} {rest:List Oper} {a:Act} {w w':World}
theorem oJ {ι:Type} {Tc:List (Nat × aj)} {l:List Oper} (k:Nat) (Tv:ι→List (Nat × aj)) (Pr:ι→Prop) (_:St N D w0 F G0 G L Tc a w)
  (h1:(∀ i a w,Pr i→St N D w0 F G0 G L (Tv i++Tc) a w→WL r P ops Q (l.drop k) a w)→WL r P ops Q l a w)
  (h2:∀ i a w,Pr i→St N D w0 F G0 G L (Tv i++Tc) a w→WL r P ops Q (l.drop k) a w):WL r P ops Q l a w:=h1 h2
theorem Change.back (h:Change w w' G G' L L'):Change w w' G G L L' :=
 ⟨h.os,h.tape,h.output,h.size,h.fr,fun _ _ h=>h,fun _ _ h=>.inl h,⟨fun k o hk=>h.owns.ro k o (h.gm k o hk),h.owns.own,fun p hp=>(by
  have hs:=h.owns.sep p hp
  cases hg:G p.1 with
  | none=>rfl
  | some o=>have:=h.gm _ _ hg;rw [hs] at this;cases this),h.owns.nd⟩,h.lx⟩
theorem jk.back {R:aj→GH→OL→Prop} {R':aj→OL→Prop} (hR:∀ v G' L',R v G' L'→R' v L') {e:Ending} (h:jk w G L R e w'):jk w G L (fun v G' L'=>G=G'∧R' v L') e w':=by
 obtain ⟨v,G',L',rfl,hc,hr⟩:=h
 exact ⟨v,G,L',rfl,hc.back,rfl,hR _ _ _ hr⟩
theorem Calls.afZ {f:FuncId} {args:Array aj} {R:aj→GH→OL→Prop} {R':aj→OL→Prop} (h:Calls P f args w (jk w G L R)) (hR:∀ v G' L',R v G' L'→R' v L'):Calls P f args w (jk w G L fun v G' L'=>G=G'∧R' v L') :=
 h.mono fun _ _=>jk.back hR
theorem bR.back {R:aj→GH→Prop} {e:Ending} (h:bR w G R e w'):bR w G (fun v G'=>(∃ g,R v g)∧G=G') e w':=by
 obtain ⟨v,G',rfl,hb,hX,hr⟩:=h
 exact ⟨v,G,rfl,hb,⟨fun _ _ h=>h,fun _ _ h=>.inl h,fun k o hk=>hX.2.2 k o (hX.1 k o hk)⟩,⟨G',hr⟩,rfl⟩
theorem FP {f:FuncId} {args:Array aj} {R:aj→GH→Prop} (h:Calls P f args w (bR w G R)):Calls P f args w (bR w G fun v G'=>(∃ g,R v g)∧G=G'):=h.mono fun _ _=>bR.back
theorem jQ.add {b:Nat} {o:Obj} (h:jQ G ((b,o) :: L) w):Hold (G.add b o) w:=fun k o' hk=>by
 unfold GH.add at hk
 split at hk
 ·next e=>cases hk;subst e;exact h.own _ jd
 ·exact h.ro k o' hk
theorem XA {b:Nat} {o:Obj} {R:aj→GH→Prop} {R':aj→Prop} (hO:jQ G ((b,o) :: L) w) (hR:∀ v G',R v G'→R' v) {e:Ending} (h:bR w (G.add b o) R e w'):jk w G ((b,o) :: L) (fun v G' L'=>G=G'∧L'=(b,o) :: L∧R' v) e w':=by
 obtain ⟨v,G',rfl,hb,hX,hr⟩:=h
 exact ⟨v,G,_,rfl,(hO.hp.below hb).aeD,rfl,rfl,hR _ _ hr⟩
end
end
section
open Go.RowKit
theorem ajJ:Mr prog 40 [(0,false),(1,false)]:=⟨by kernel_rfl,by kernel_rfl,by kernel_rfl,by kernel_rfl,by kernel_rfl⟩
theorem ajH:Mr prog 214 [(0,false),(1,false)]:=⟨by kernel_rfl,by kernel_rfl,by kernel_rfl,by kernel_rfl,by kernel_rfl⟩
theorem ajI:Mr prog 217 [(0,false),(1,false),(2,false),(3,true)]:=⟨by kernel_rfl,by kernel_rfl,by kernel_rfl,by kernel_rfl,by kernel_rfl⟩
theorem ahC:∀ args w,(callFunc 115 args).run prog w=.ok (.enter 115 args) w:=enters func115 rfl (by kernel_rfl)
theorem vg:dV prog 29 0 0:=⟨by kernel_rfl⟩
theorem wV:dV prog 29 1 1:=⟨by kernel_rfl⟩
theorem ahD:∀ args w,(callFunc 116 args).run prog w=.ok (.enter 116 args) w:=enters func116 rfl (by kernel_rfl)
theorem ahE:∀ args w,(callFunc 117 args).run prog w=.ok (.enter 117 args) w:=enters func117 rfl (by kernel_rfl)
abbrev kK.cells (x:kK):List aj:=[vi x.rev,vi x.move]
abbrev ku.cells (x:ku):List aj:=[vi x.rev,vi x.key,vi x.before,.bool x.had]
theorem TB {G:GH} {x:kK} {cs:List aj} (h:bH G x.dat cs):cs=x.cells:=by
 simp only [kK.dat,bH,aB] at h
 obtain ⟨_,_,rfl,⟨rfl,_⟩,_,_,rfl,⟨rfl,_⟩,rfl⟩:=h
 rfl
theorem WT {G:GH} {x:ku} {cs:List aj} (h:bH G x.dat cs):cs=x.cells:=by
 simp only [ku.dat,bH,aB] at h
 obtain ⟨_,_,rfl,⟨rfl,_⟩,_,_,rfl,⟨rfl,_⟩,_,_,rfl,⟨rfl,_⟩,_,_,rfl,⟨rfl,_⟩,rfl⟩:=h
 rfl
theorem jq.eq_iff (a b:jq):(a.key=b.key∧a.value=b.value)↔a=b:=by cases a;cases b;simp
theorem kK.eq_iff (a b:kK):(a.rev=b.rev∧a.move=b.move)↔a=b:=by cases a;cases b;simp
theorem ku.eq_iff (a b:ku):(a.rev=b.rev∧a.key=b.key∧a.before=b.before∧a.had=b.had)↔a=b:=by cases a;cases b;simp
instance:DecidableEq jq:=fun a b=>decidable_of_iff _ (jq.eq_iff a b)
instance:DecidableEq kK:=fun a b=>decidable_of_iff _ (kK.eq_iff a b)
instance:DecidableEq ku:=fun a b=>decidable_of_iff _ (ku.eq_iff a b)
theorem aom (a b:jq):(!([(0,false),(1,false)].all fun o=>mW #[vi a.key,vi a.value] o == mW #[vi b.key,vi b.value] o))=!decide (a=b):=by
 have h:=jq.eq_iff a b;rw [rZ]
 simp only [vS,uq]
 rw [← h]
 simp [mW]
theorem aok (a b:kK):(!([(0,false),(1,false)].all fun o=>mW #[vi a.rev,vi a.move] o == mW #[vi b.rev,vi b.move] o))=!decide (a=b):=by
 have h:=kK.eq_iff a b;rw [rZ]
 simp only [vS,uq]
 rw [← h]
 simp [mW]
theorem aol (a b:ku):(!([(0,false),(1,false),(2,false),(3,true)].all fun o=>mW #[vi a.rev,vi a.key,vi a.before,.bool a.had] o == mW #[vi b.rev,vi b.key,vi b.before,.bool b.had] o))=!decide (a=b):=by
 have h:=ku.eq_iff a b;rw [rZ]
 simp only [vS,uq]
 rw [← h]
 simp [mW]
theorem ajD (G:GH) (w0:World) (hG:Hold G w0) (A B:List jq) (v u:aj) (hv:aB G (.sl 2 (A.map jq.dat)) v) (hu:aB G (.sl 2 (B.map jq.dat)) u) :
  Calls prog 115 #[v,u] w0 (bR w0 G fun r G'=>r=.bool (decide (A=B))):=by
 obtain ⟨vA,vc,rfl,hc1,hc2,hg⟩:=hv.slice;obtain ⟨uA,uc,rfl,hd1,hd2,hh⟩:=hu.slice;have hml:maxLen=9223372036854775807:=rfl;(iterate 2 rw [bZ] at *);refine eN [(0,_),(1,_)] func115 rfl ntmps115 rfl rfl hG ?_;intro a H;refine kP H (SR fun _ K1=>ak K1 rfl (SQ fun _ K2=>SR fun _ K3=>Rm rfl (Rl oh rfl (Rm rfl (Rl oh rfl (Rc rfl (Kz K3 (Cd rfl ?_ ?_)))))))) <;> clear H K1 K3
 ·intro h10 a H
  try have mX:=dT h10
  exact kP H (SR fun _ K4=>ak K4 rfl (LR results115 rfl fun H=>H.rt (aL (iC fun e=>absurd (aC List.length e) (by omega)).symm)))
 intro h10 a H
 try have mX:=dF h10
 refine kP H (Kc K2 (SQ fun _ K5=>SR fun _ K6=>Rm rfl (Rl oh rfl (Rm rfl (Kz K6 (SB ?_))))));clear H K2 K6;intro a H;skip;refine fH (ι:=Nat × GH) (Tc:=[(0,_),(1,_),(12,_)]) (Lc:=[]) (fun gh=>[(13,vi gh.1)]) (fun gh=>[]) (fun gh=>gh.2) (fun gh=>gh.1≤A.length∧A.take gh.1=B.take gh.1∧(∀ b o,G b=some o→gh.2 b=some o)) (fun gh=>A.length - gh.1) ((0,G)) (by exact (H).sub ⟨rfl,rfl,rfl,rfl,av⟩) ?_ ?_
 ·exact ⟨by omega,rfl,fun _ _ h=>h⟩
 clear H;intro gh a w hI H;obtain ⟨k,g⟩:=gh;dsimp only at hI H;obtain ⟨hk,hsame,hgm⟩:=hI;dsimp only [lca,aS] at H;refine kP H (SR fun _ K7=>Rc rfl (Kz K7 (SQ fun _ K8=>Cd rfl ?_ ?_))) <;> clear H K7
 ·intro eO a H
  try have ny:=dT eO
  have hk2:k < A.length:=by omega
  have hk3:k < B.length:=by omega
  obtain ⟨b1,o1,cs1,rfl,NI,zU,hr1⟩:=hg k A[k].dat (by simp [hk2]);obtain rfl:=Xx hr1;obtain ⟨b2,o2,cs2,rfl,NJ,hrow2,hr2⟩:=hh k B[k].dat (by simp [hk3]);obtain rfl:=Xx hr2;refine kP H (Kc K8 (SQ fun _ K9=>SB (SR fun _ aZ=>Rm rfl (ak aZ rfl (SQ fun _ bN=>?_)))));clear H K8 aZ;intro a H;refine dI hmx [[],[],[0,1],[0,1,2],[],[],[4,5],[4,5,6],(ra 0 8)] [] (by kernel_rfl) [_,_,_,.agg A[k].cells.toArray,_,_,_,.agg B[k].cells.toArray,.bool (!decide (A[k]=B[k]))] H (aG (Z0 rfl (Rm rfl)) (Z0 rfl (Rm rfl)) (Z2 0 16 1 17 rfl (Ri oh oZ rfl rfl)) ?_ (aG (Z0 rfl (Rm rfl)) (Z0 rfl (Rm rfl)) (Z2 4 20 5 21 rfl (Ri oh oZ rfl rfl)) ?_ (bG ?_ dU))) ?_
  ·refine eF 2 18 rfl rfl fun _ a w G1 hG HT H fin=>?_;refine bD oZ (cs:=A[k].cells) H wn rfl rfl (fun j v hj=>H.hp.aH (aF hG (aF hgm (zU j v hj)))) rfl ?_;clear H;intro a H;exact fin H iJ rfl
  ·refine eF 6 22 rfl rfl fun _ a w G1 hG HT H fin=>?_;refine bD oZ (cs:=B[k].cells) H wn rfl rfl (fun j v hj=>H.hp.aH (aF hG (aF hgm (hrow2 j v hj)))) rfl ?_;clear H;intro a H;exact fin H iJ rfl
  ·refine fu 3 19 7 23 rfl rfl fun _ a w G1 hG HT H fin=>?_;refine LY (.inr rfl) ajJ H wn rfl rfl rfl rfl ?_;clear H;intro a H;exact fin H iJ (aL (aom A[k] B[k]))
  clear H;intro a w G lu H hv;have H:=H.aU (hv 8 24 rfl rfl) rfl;clear hv;refine aI ⟨rfl,?_⟩;refine bN _ _ ?_;clear bN;refine oN H rfl ?_ ?_
  ·intro eP
   exact kP H (SR fun _ bQ=>ak bQ rfl (LR results115 rfl fun H=>H.rt (aL (iC fun e=>absurd eP (by subst e;simp)).symm)))
  intro eP
  try have nA:=dF eP
  have hsm:A[k]=B[k]:=by simpa using eP
  refine kP H (Kc K9 (SC (Rd rfl (Rm rfl ?_))));clear H K9;intro a H;refine aI ?_;refine dP ((k+1,G)) (by exact (H).sub ⟨rfl,rfl,rfl,rfl,av⟩) ?_ ?_
  ·(try dsimp only);exact ⟨by omega,by rw [jZ hk2,jZ hk3,hsame,hsm],fun b o h=>lu b o (hgm b o h)⟩
  first|omega|(dsimp only;omega)
 intro eO a H
 try have ny:=dF eO
 refine eD ?_;refine K5 _ _ ?_;clear K5;exact kP H (SR fun _ bT=>ak bT rfl (LR results115 rfl fun H=>H.rt (aL (gq (by rw [kF (by omega),kF (by omega)] at hsame;exact hsame)).symm)))
theorem ajx (G:GH) (w0:World) (hG:Hold G w0) (A B:List kK) (v u:aj) (hv:aB G (.sl 2 (A.map kK.dat)) v) (hu:aB G (.sl 2 (B.map kK.dat)) u) :
  Calls prog 116 #[v,u] w0 (bR w0 G fun r G'=>r=.bool (decide (A=B))):=by
 obtain ⟨vA,vc,rfl,hc1,hc2,hg⟩:=hv.slice;obtain ⟨uA,uc,rfl,hd1,hd2,hh⟩:=hu.slice;have hml:maxLen=9223372036854775807:=rfl;(iterate 2 rw [bZ] at *);refine eN [(0,_),(1,_)] func116 rfl ntmps116 rfl rfl hG ?_;intro a H;refine kP H (SR fun _ K1=>ak K1 rfl (SQ fun _ K2=>SR fun _ K3=>Rm rfl (Rl lF rfl (Rm rfl (Rl lF rfl (Rc rfl (Kz K3 (Cd rfl ?_ ?_)))))))) <;> clear H K1 K3
 ·intro h10 a H
  try have mX:=dT h10
  exact kP H (SR fun _ K4=>ak K4 rfl (LR results116 rfl fun H=>H.rt (aL (iC fun e=>absurd (aC List.length e) (by omega)).symm)))
 intro h10 a H
 try have mX:=dF h10
 refine kP H (Kc K2 (SQ fun _ K5=>SR fun _ K6=>Rm rfl (Rl lF rfl (Rm rfl (Kz K6 (SB ?_))))));clear H K2 K6;intro a H;skip;refine fH (ι:=Nat × GH) (Tc:=[(0,_),(1,_),(12,_)]) (Lc:=[]) (fun gh=>[(13,vi gh.1)]) (fun gh=>[]) (fun gh=>gh.2) (fun gh=>gh.1≤A.length∧A.take gh.1=B.take gh.1∧(∀ b o,G b=some o→gh.2 b=some o)) (fun gh=>A.length - gh.1) ((0,G)) (by exact (H).sub ⟨rfl,rfl,rfl,rfl,av⟩) ?_ ?_
 ·exact ⟨by omega,rfl,fun _ _ h=>h⟩
 clear H;intro gh a w hI H;obtain ⟨k,g⟩:=gh;dsimp only at hI H;obtain ⟨hk,hsame,hgm⟩:=hI;dsimp only [lca,aS] at H;refine kP H (SR fun _ K7=>Rc rfl (Kz K7 (SQ fun _ K8=>Cd rfl ?_ ?_))) <;> clear H K7
 ·intro eO a H
  try have ny:=dT eO
  have hk2:k < A.length:=by omega
  have hk3:k < B.length:=by omega
  obtain ⟨b1,o1,cs1,rfl,NI,zU,hr1⟩:=hg k A[k].dat (by simp [hk2]);obtain rfl:=TB hr1;obtain ⟨b2,o2,cs2,rfl,NJ,hrow2,hr2⟩:=hh k B[k].dat (by simp [hk3]);obtain rfl:=TB hr2;refine kP H (Kc K8 (SQ fun _ K9=>SB (SR fun _ aZ=>Rm rfl (ak aZ rfl (SQ fun _ bN=>?_)))));clear H K8 aZ;intro a H;refine dI hmx [[],[],[0,1],[0,1,2],[],[],[4,5],[4,5,6],(ra 0 8)] [] (by kernel_rfl) [_,_,_,.agg A[k].cells.toArray,_,_,_,.agg B[k].cells.toArray,.bool (!decide (A[k]=B[k]))] H (aG (Z0 rfl (Rm rfl)) (Z0 rfl (Rm rfl)) (Z2 0 16 1 17 rfl (Ri lF qV rfl rfl)) ?_ (aG (Z0 rfl (Rm rfl)) (Z0 rfl (Rm rfl)) (Z2 4 20 5 21 rfl (Ri lF qV rfl rfl)) ?_ (bG ?_ dU))) ?_
  ·refine eF 2 18 rfl rfl fun _ a w G1 hG HT H fin=>?_;refine bD qV (cs:=A[k].cells) H wn rfl rfl (fun j v hj=>H.hp.aH (aF hG (aF hgm (zU j v hj)))) rfl ?_;clear H;intro a H;exact fin H iJ rfl
  ·refine eF 6 22 rfl rfl fun _ a w G1 hG HT H fin=>?_;refine bD qV (cs:=B[k].cells) H wn rfl rfl (fun j v hj=>H.hp.aH (aF hG (aF hgm (hrow2 j v hj)))) rfl ?_;clear H;intro a H;exact fin H iJ rfl
  ·refine fu 3 19 7 23 rfl rfl fun _ a w G1 hG HT H fin=>?_;refine LY (.inr rfl) ajH H wn rfl rfl rfl rfl ?_;clear H;intro a H;exact fin H iJ (aL (aok A[k] B[k]))
  clear H;intro a w G lu H hv;have H:=H.aU (hv 8 24 rfl rfl) rfl;clear hv;refine aI ⟨rfl,?_⟩;refine bN _ _ ?_;clear bN;refine oN H rfl ?_ ?_
  ·intro eP
   exact kP H (SR fun _ bQ=>ak bQ rfl (LR results116 rfl fun H=>H.rt (aL (iC fun e=>absurd eP (by subst e;simp)).symm)))
  intro eP
  try have nA:=dF eP
  have hsm:A[k]=B[k]:=by simpa using eP
  refine kP H (Kc K9 (SC (Rd rfl (Rm rfl ?_))));clear H K9;intro a H;refine aI ?_;refine dP ((k+1,G)) (by exact (H).sub ⟨rfl,rfl,rfl,rfl,av⟩) ?_ ?_
  ·(try dsimp only);exact ⟨by omega,by rw [jZ hk2,jZ hk3,hsame,hsm],fun b o h=>lu b o (hgm b o h)⟩
  first|omega|(dsimp only;omega)
 intro eO a H
 try have ny:=dF eO
 refine eD ?_;refine K5 _ _ ?_;clear K5;exact kP H (SR fun _ bT=>ak bT rfl (LR results116 rfl fun H=>H.rt (aL (gq (by rw [kF (by omega),kF (by omega)] at hsame;exact hsame)).symm)))
theorem ajC (G:GH) (w0:World) (hG:Hold G w0) (A B:List ku) (v u:aj) (hv:aB G (.sl 4 (A.map ku.dat)) v) (hu:aB G (.sl 4 (B.map ku.dat)) u) :
  Calls prog 117 #[v,u] w0 (bR w0 G fun r G'=>r=.bool (decide (A=B))):=by
 obtain ⟨vA,vc,rfl,hc1,hc2,hg⟩:=hv.slice;obtain ⟨uA,uc,rfl,hd1,hd2,hh⟩:=hu.slice;have hml:maxLen=9223372036854775807:=rfl;(iterate 2 rw [bZ] at *);refine eN [(0,_),(1,_)] func117 rfl ntmps117 rfl rfl hG ?_;intro a H;refine kP H (SR fun _ K1=>ak K1 rfl (SQ fun _ K2=>SR fun _ K3=>Rm rfl (Rl qy rfl (Rm rfl (Rl qy rfl (Rc rfl (Kz K3 (Cd rfl ?_ ?_)))))))) <;> clear H K1 K3
 ·intro h10 a H
  try have mX:=dT h10
  exact kP H (SR fun _ K4=>ak K4 rfl (LR results117 rfl fun H=>H.rt (aL (iC fun e=>absurd (aC List.length e) (by omega)).symm)))
 intro h10 a H
 try have mX:=dF h10
 refine kP H (Kc K2 (SQ fun _ K5=>SR fun _ K6=>Rm rfl (Rl qy rfl (Rm rfl (Kz K6 (SB ?_))))));clear H K2 K6;intro a H;skip;refine fH (ι:=Nat × GH) (Tc:=[(0,_),(1,_),(12,_)]) (Lc:=[]) (fun gh=>[(13,vi gh.1)]) (fun gh=>[]) (fun gh=>gh.2) (fun gh=>gh.1≤A.length∧A.take gh.1=B.take gh.1∧(∀ b o,G b=some o→gh.2 b=some o)) (fun gh=>A.length - gh.1) ((0,G)) (by exact (H).sub ⟨rfl,rfl,rfl,rfl,av⟩) ?_ ?_
 ·exact ⟨by omega,rfl,fun _ _ h=>h⟩
 clear H;intro gh a w hI H;obtain ⟨k,g⟩:=gh;dsimp only at hI H;obtain ⟨hk,hsame,hgm⟩:=hI;dsimp only [lca,aS] at H;refine kP H (SR fun _ K7=>Rc rfl (Kz K7 (SQ fun _ K8=>Cd rfl ?_ ?_))) <;> clear H K7
 ·intro eO a H
  try have ny:=dT eO
  have hk2:k < A.length:=by omega
  have hk3:k < B.length:=by omega
  obtain ⟨b1,o1,cs1,rfl,NI,zU,hr1⟩:=hg k A[k].dat (by simp [hk2]);obtain rfl:=WT hr1;obtain ⟨b2,o2,cs2,rfl,NJ,hrow2,hr2⟩:=hh k B[k].dat (by simp [hk3]);obtain rfl:=WT hr2;refine kP H (Kc K8 (SQ fun _ K9=>SB (SR fun _ aZ=>Rm rfl (ak aZ rfl (SQ fun _ bN=>?_)))));clear H K8 aZ;intro a H;refine dI hmx [[],[],[0,1],[0,1,2],[],[],[4,5],[4,5,6],(ra 0 8)] [] (by kernel_rfl) [_,_,_,.agg A[k].cells.toArray,_,_,_,.agg B[k].cells.toArray,.bool (!decide (A[k]=B[k]))] H (aG (Z0 rfl (Rm rfl)) (Z0 rfl (Rm rfl)) (Z2 0 16 1 17 rfl (Ri qy um rfl rfl)) ?_ (aG (Z0 rfl (Rm rfl)) (Z0 rfl (Rm rfl)) (Z2 4 20 5 21 rfl (Ri qy um rfl rfl)) ?_ (bG ?_ dU))) ?_
  ·refine eF 2 18 rfl rfl fun _ a w G1 hG HT H fin=>?_;refine bD um (cs:=A[k].cells) H wn rfl rfl (fun j v hj=>H.hp.aH (aF hG (aF hgm (zU j v hj)))) rfl ?_;clear H;intro a H;exact fin H iJ rfl
  ·refine eF 6 22 rfl rfl fun _ a w G1 hG HT H fin=>?_;refine bD um (cs:=B[k].cells) H wn rfl rfl (fun j v hj=>H.hp.aH (aF hG (aF hgm (hrow2 j v hj)))) rfl ?_;clear H;intro a H;exact fin H iJ rfl
  ·refine fu 3 19 7 23 rfl rfl fun _ a w G1 hG HT H fin=>?_;refine LY (.inr rfl) ajI H wn rfl rfl rfl rfl ?_;clear H;intro a H;exact fin H iJ (aL (aol A[k] B[k]))
  clear H;intro a w G lu H hv;have H:=H.aU (hv 8 24 rfl rfl) rfl;clear hv;refine aI ⟨rfl,?_⟩;refine bN _ _ ?_;clear bN;refine oN H rfl ?_ ?_
  ·intro eP
   exact kP H (SR fun _ bQ=>ak bQ rfl (LR results117 rfl fun H=>H.rt (aL (iC fun e=>absurd eP (by subst e;simp)).symm)))
  intro eP
  try have nA:=dF eP
  have hsm:A[k]=B[k]:=by simpa using eP
  refine kP H (Kc K9 (SC (Rd rfl (Rm rfl ?_))));clear H K9;intro a H;refine aI ?_;refine dP ((k+1,G)) (by exact (H).sub ⟨rfl,rfl,rfl,rfl,av⟩) ?_ ?_
  ·(try dsimp only);exact ⟨by omega,by rw [jZ hk2,jZ hk3,hsame,hsm],fun b o h=>lu b o (hgm b o h)⟩
  first|omega|(dsimp only;omega)
 intro eO a H
 try have ny:=dF eO
 refine eD ?_;refine K5 _ _ ?_;clear K5;exact kP H (SR fun _ bT=>ak bT rfl (LR results117 rfl fun H=>H.rt (aL (gq (by rw [kF (by omega),kF (by omega)] at hsame;exact hsame)).symm)))
theorem jJ.eq_iff (a b:jJ):(((a.props=b.props∧a.marks.ins=b.marks.ins)∧a.marks.move=b.marks.move)∧a.marks.bU=b.marks.bU)∧a.marks.layers=b.marks.layers↔a=b:=by
 obtain ⟨p,i,m,d,l⟩:=a;obtain ⟨p2,i2,m2,d2,l2⟩:=b
 simp [and_assoc]
instance:DecidableEq jJ:=fun a b=>decidable_of_iff _ (jJ.eq_iff a b)
abbrev Dw (h:jJ) (p d l:aj):aj:=.agg #[p,vi h.marks.ins,vi h.marks.move,d,l]
theorem Uh (G:GH) (w0:World) (hG:Hold G w0) (x y:jJ) (p d l p2 d2 l2:aj) (hx:mF G x p d l) (hy:mF G y p2 d2 l2) :
  Calls prog 48 #[Dw x p d l,Dw y p2 d2 l2] w0 (bR w0 G fun r G'=>r=.bool (decide (x=y))):=by
 obtain ⟨pA,pc,rfl,-,-,-⟩:=hx.props.slice;obtain ⟨dA,dc,rfl,-,-,-⟩:=hx.bU.slice;obtain ⟨lA,lc,rfl,-,-,-⟩:=hx.layers.slice;obtain ⟨EY,pc2,rfl,-,-,-⟩:=hy.props.slice;obtain ⟨Es,Et,rfl,-,-,-⟩:=hy.bU.slice;obtain ⟨lA2,lc2,rfl,-,-,-⟩:=hy.layers.slice;have he:=jJ.eq_iff x y;refine eN [(0,_),(1,_)] func48 rfl ntmps48 rfl rfl hG ?_;intro a H;refine dz (fun _ K1=>?_);refine eU (cs:=[_,_,_,_,_]) H wn rfl rfl rfl ?_;clear H;intro b2 a w hb2 H;refine eU (cs:=[_,_,_,_,_]) H wn rfl rfl rfl ?_;clear H;intro b3 a w hb3 H;refine kH H (ak K1 rfl (SR fun _ K2=>aW yH vN 1 rfl rfl (aW yH vN 0 rfl rfl ?_)));clear H K1;intro a H;refine s_call ahC H wn rfl (ajD _ _ H.ro x.props y.props _ _ hx.props hy.props) rfl ?_;clear H;rintro v9 G9 a w rfl Ba H;refine kH H (Rm rfl (Sp 10 rfl ?_ ?_)) <;> clear H
 ·intro h10 a H
  try have mX:=dT h10
  refine kH H (YF pG h10 rfl (YF vg h10 rfl (YO aD 1 h10 rfl (YF pG h10 rfl (YF vg h10 rfl (YO aD 0 h10 rfl (YC h10 rfl (Pt h10 rfl (Rm rfl (Sp 19 rfl ?_ ?_)))))))))) <;> clear H
  ·intro h19 a H
   try have xM:=dT h19
   refine kH H (YF pG h19 rfl (YF wV h19 rfl (YO aD 1 h19 rfl (YF pG h19 rfl (YF wV h19 rfl (YO aD 0 h19 rfl (YC h19 rfl (Pt h19 rfl (Rm rfl (Sp 28 rfl ?_ ?_)))))))))) <;> clear H
   ·intro iE a H
    try have p28:=dT iE
    refine kH H (YF pG iE rfl (YF mV iE rfl (YO mY 1 iE rfl (YF pG iE rfl (YF mV iE rfl (YO mY 0 iE rfl ?_))))));clear H;intro a H;refine s_call ahD H (wg H rfl rfl iE) rfl (ajx _ _ H.ro x.marks.bU y.marks.bU _ _ (hx.bU.mono Ba) (hy.bU.mono Ba)) rfl ?_;clear H;rintro v35 YE a w rfl abT H;refine kH H (Pt iE rfl (Rm rfl (Sp 37 rfl ?_ ?_))) <;> clear H
    ·intro h37 a H
     try have p37:=dT h37
     refine kH H (YF pG h37 rfl (YF vZ h37 rfl (YO wJ 1 h37 rfl (YF pG h37 rfl (YF vZ h37 rfl (YO wJ 0 h37 rfl ?_))))));clear H;intro a H;refine s_call ahE H (wg H rfl rfl h37) rfl (ajC _ _ H.ro x.marks.layers y.marks.layers _ _ ((hx.layers.mono Ba).mono abT) ((hy.layers.mono Ba).mono abT)) rfl ?_;clear H;rintro v44 G44 a w rfl asY H;exact kH H (Pt h37 rfl (ak K2 rfl (LR results48 rfl fun H=>H.rt (aL (by simp_all)))))
    intro h37 a H
    try have p37:=dF h37
    exact kH H (aT h37 rfl (aP h37 rfl (aP h37 rfl (Pf h37 rfl (ak K2 rfl (LR results48 rfl fun H=>H.rt (aL (by simp_all))))))))
   intro iE a H
   try have p28:=dF iE
   exact kH H (aT iE rfl (aP iE rfl (aP iE rfl (Pf iE rfl (Rm rfl (aT rfl rfl (aP rfl rfl (aP rfl rfl (Pf rfl rfl (ak K2 rfl (LR results48 rfl fun H=>H.rt (aL (by simp_all)))))))))))))
  intro h19 a H
  try have xM:=dF h19
  exact kH H (aT h19 rfl (aP h19 rfl (aP h19 rfl (Pf h19 rfl (Rm rfl (aT rfl rfl (aP rfl rfl (aP rfl rfl (Pf rfl rfl (Rm rfl (aT rfl rfl (aP rfl rfl (aP rfl rfl (Pf rfl rfl (ak K2 rfl (LR results48 rfl fun H=>H.rt (aL (by simp_all))))))))))))))))))
 intro h10 a H
 try have mX:=dF h10
 exact kH H (aT h10 rfl (aP h10 rfl (aP h10 rfl (Pf h10 rfl (Rm rfl (aT rfl rfl (aP rfl rfl (aP rfl rfl (Pf rfl rfl (Rm rfl (aT rfl rfl (aP rfl rfl (aP rfl rfl (Pf rfl rfl (Rm rfl (aT rfl rfl (aP rfl rfl (aP rfl rfl (Pf rfl rfl (ak K2 rfl (LR results48 rfl fun H=>H.rt (aL (by simp_all)))))))))))))))))))))))
end
section
open Go.RowKit
theorem abb:dV prog 217 0 0:=⟨by kernel_rfl⟩
theorem qH:dV prog 217 1 1:=⟨by kernel_rfl⟩
theorem FX:dV prog 217 3 3:=⟨by kernel_rfl⟩
theorem vY:dV prog 217 2 2:=⟨by kernel_rfl⟩
theorem TL:∀ args w,(callFunc 136 args).run prog w=.ok (.enter 136 args) w:=enters func136 rfl (by kernel_rfl)
structure gQ where
 st:List cK
 yU:List Int
 DY:List Int
abbrev aN (st:List cK) (li:List eT) (rv:List fF):gQ:=⟨st,li.map eT.id,rv.map fF.id⟩
theorem QZ {G:GH} {l:List ku} {A:Option Addr} {n c k:Nat} (hv:aB G (.sl 4 (l.map ku.dat)) (.slice A n c)) (hk:k < l.length):∃ b o,A=some ⟨b,o,none⟩∧(∀ j u,l[k].cells[j]?=some u→aH G b (o+k*4+j)=some u):=by
 obtain ⟨A',c',he,_,_,hg⟩:=hv.slice
 injection he with e1 e2 e3
 subst e1;obtain ⟨b,o,cs,h1,h2,h3,h4⟩:=hg k l[k].dat (by simp [hk]);have:=WT h4;subst this;exact ⟨b,o,h1,h3⟩
theorem PW {G:GH} {l:List kK} {A:Option Addr} {n c k:Nat} (hv:aB G (.sl 2 (l.map kK.dat)) (.slice A n c)) (hk:k < l.length):∃ b o,A=some ⟨b,o,none⟩∧(∀ j u,l[k].cells[j]?=some u→aH G b (o+k*2+j)=some u):=by
 obtain ⟨A',c',he,_,_,hg⟩:=hv.slice
 injection he with e1 e2 e3
 subst e1;obtain ⟨b,o,cs,h1,h2,h3,h4⟩:=hg k l[k].dat (by simp [hk]);have:=TB h4;subst this;exact ⟨b,o,h1,h3⟩
def mO (C:gQ) (e:Int) (k:Nat) (x:ku) (pk:Int):Int :=
 if x.rev∉C.DY then 22 else if BQ e x.key=false then 4 else if 0 < k∧x.key < pk then 6 else if x.had=false then bS (decide (x.before≠0)) 21 else bV [uy x.key x.before,lT C.st C.yU x.key x.before]
def Cu (C:gQ) (e:Int) (l:List ku) (k:Nat):Int:=match l[k]? with|some x=>mO C e k x ((l[k - 1]?.map ku.key).getD 0)|none=>0
theorem anK (G:GH) (w0:World) (hG:Hold G w0) (st:List cK) (li:List eT) (rv:List fF) (b ms ml mr mb mu:Nat) (n:Int) (hck:yh G st li rv ms ml mr mu) (hb:G b=some (gY b ms ml mr mb mu n).2)
  (e:Int) (l:List ku) (v:aj) (hv:aB G (.sl 4 (l.map ku.dat)) v) (k:Nat) (hk:k < l.length) :
  Calls prog 138 #[(aK b 0),vi e,v,vi k] w0 (bR w0 G fun u G'=>u=vi (Cu (aN st li rv) e l k)):=by
 have hc2:aH G b 2=some (.map (some mr)):=by unfold aH;rw [hb];rfl
 obtain ⟨A,c,rfl,hl1,hl2,-⟩:=hv.slice;have hml:maxLen=9223372036854775807:=rfl;rw [bZ] at *;obtain ⟨xb,xo,rfl,hrow⟩:=QZ hv hk
 have hk1:k - 1 < l.length:=by omega
 obtain ⟨b',o',he',hrow'⟩:=QZ hv hk1
 injection he' with he'
 injection he' with e1 e2
 subst e1;subst e2
 have he:Cu (aN st li rv) e l k=mO (aN st li rv) e k l[k] l[k - 1].key:=by unfold Cu;rw [gD hk,gD hk1];rfl
 obtain ⟨x,hx⟩:∃ x,x=l[k]:=⟨_,rfl⟩;obtain ⟨y,hy⟩:∃ y,y=l[k - 1]:=⟨_,rfl⟩;rw [← hx] at hrow he;rw [← hy] at hrow' he;have hq:=hrow' 1 _ rfl;refine eN [(0,_),(1,_),(2,_),(3,_)] func138 rfl ntmps138 rfl rfl hG ?_;intro a H;refine kP H (SR fun _ K1=>ak K1 rfl (SR fun _ K2=>Rm rfl (Rm rfl (Ri qy um rfl rfl ?_))));clear H K1;intro a H;refine bD um (cs:=x.cells) H wn rfl rfl (fun j v hj=>H.hp.aH (hrow j v hj)) rfl ?_;clear H;intro a H;refine dR um H wn rfl ?_;clear H;intro b9 a w uG H;refine bO um 0 (vs:=[_,_,_,_]) _ H wn rfl rfl rfl rfl rfl rfl rfl rfl ?_;clear H;intro w H;dsimp only [List.set,setRow] at H;refine K2 _ _ ?_;clear K2;refine kP H (SQ fun _ K3=>SB (SQ fun _ K4=>?_));clear H;intro a H;refine dI hmx [[],[0],[0,1],[0,1,2],[],[4],(ra 0 6),(ra 0 7),(ra 0 8)] [8] (by kernel_rfl) [_,_,_,_,_,vi x.rev,.bool (decide (x.rev∈rv.map fF.id)),_] H (aG (Z0 rfl (Rm rfl)) (Z1 0 15 rfl (Rk rfl)) (Z1 1 16 rfl (Rf Nn rfl)) (X1 2 17 rfl fun hG=>Rg D6 rfl (aF hG hc2)) (aG (Z0 rfl (Rf abb rfl)) (Z1 4 19 rfl (Ro aD 0 rfl)) ?_ (Z1 6 21 rfl (Rn rfl)) (bG (cZ rfl) dU))) ?_
 ·refine fu 3 18 5 20 rfl rfl fun _ a w G1 hG HT H fin=>?_;refine CB (zv:=.bool false) D7 qz (by kernel_rfl) H wn rfl rfl (H.ro _ _ (hG _ _ hck.rev)) rfl ?_;clear H;intro a H;rw [JI] at H;exact fin H iJ rfl
 clear H;intro a w G EK H hv;have H:=H.aU (hv 7 22 rfl rfl) rfl;clear hv;refine kH H (Ra rfl ?_);clear H;intro a H;refine aI ⟨rfl,?_⟩;refine K4 _ _ ?_;clear K4;refine oN H rfl ?_ ?_
 ·intro eO
  try have ny:=dT eO
  refine kP H (SR fun _ K5=>ak K5 rfl ?_);clear H K5;intro a H;refine lr H results138 rfl ?_
  exact H.rt (by rw [he];refine aC vi ?_;clear he hrow hrow' hq hx hy;unfold mO;(repeat' split) <;> first|rfl|(simp_all;done)|(exfalso;simp_all;done))
 intro eO
 try have ny:=dF eO
 refine kP H (SR fun _ K6=>Rm rfl (aW qH aD 0 rfl rfl ?_));clear H;intro a H;refine s_call TH H wn rfl (FP (Uy _ _ H.ro e x.key)) rfl ?_;clear H;rintro v27 _ a w ⟨⟨_,rfl⟩,rfl⟩ - H;refine kH H (Rn rfl (ak K6 rfl (Cd rfl ?_ ?_))) <;> clear H K6
 ·intro h23 a H
  try have DU:=dT h23
  refine kP H (SR fun _ K7=>ak K7 rfl ?_);clear H K7;intro a H;refine lr H results138 rfl ?_
  exact H.rt (by rw [he];refine aC vi ?_;clear he hrow hrow' hq hx hy;unfold mO;(repeat' split) <;> first|rfl|(simp_all;done)|(exfalso;simp_all;done))
 intro h23 a H
 try have DU:=dF h23
 refine aO (fun _ K8=>?_);replace hq:=aF EK hq
 by_cases c0:0 < (k:Int)
 ·skip
  by_cases c1:x.key < y.key
  ·skip;refine dI hmx [[],[0],[0,1],[0,1,2],(ra 0 4),[0,1,2],[0,1,2],[0,1,2,6],[0,1,2,5,6,7],[0,1,2,5,6,7,8],[0,1,2,5,6,7,8,9],(ra 0 11),(ra 0 12),(ra 0 13)] [13] (by kernel_rfl) [_,_,_,_,vi x.key,_,_,vi ((k - 1:Nat):Int),_,_,_,_,_] H (aG (Z0 rfl (Rm rfl)) (Z1 0 30 rfl (Rc rfl)) (Z1 1 31 rfl (Rm rfl)) (Z1 2 32 rfl (YF qH (aJ c0) rfl)) (aG (Z2 3 33 2 32 rfl (YO aD 0 (aJ c0) rfl)) (Z1 2 32 rfl (YM (aJ c0) rfl)) (Z1 2 32 rfl (YM (aJ c0) rfl)) ?_ (aG (Z3 5 35 7 37 2 32 rfl (YI qy um (aJ c0) rfl rfl)) (Z2 8 38 2 32 rfl (YF qH (aJ c0) rfl)) (X2 9 39 2 32 rfl fun hG=>YR aD (aJ c0) rfl (aF hG hq)) (Z3 4 34 10 40 2 32 rfl (YC (aJ c0) rfl)) (bG (Z2 2 32 11 41 rfl (Pt (aJ c0) rfl)) (bG (cZ rfl) dU))))) ?_
   ·refine fu 6 36 2 32 rfl rfl fun _ a w G1 hG HT H fin=>?_;refine og _ H (wg H rfl rfl (aJ c0)) rfl rfl rfl (by omega) (by omega) rfl ?_;clear H;intro a H;exact fin H iJ (by show _=_;first|rfl|exact aC vi (by omega))
   clear H;intro a w G lu H hv;have H:=H.aU (hv 12 42 rfl rfl) rfl;clear hv;refine kH H (Ra rfl ?_);clear H;intro a H;refine aI ⟨rfl,?_⟩;refine K8 _ _ ?_;clear K8;refine BG H rfl (aJ c1) ?_;refine aO (fun _ K9=>?_);have hz:0 < k∧x.key < y.key:=⟨by omega,c1⟩;refine kP H (SC (aM K9 rfl ?_));clear H K9;intro a H;refine lr H results138 rfl ?_
   exact H.rt (by rw [he];refine aC vi ?_;clear he hrow hrow' hq hx hy;unfold mO;(repeat' split) <;> first|rfl|(simp_all;done)|(exfalso;simp_all;done))
  skip;refine dI hmx [[],[0],[0,1],[0,1,2],(ra 0 4),[0,1,2],[0,1,2],[0,1,2,6],[0,1,2,5,6,7],[0,1,2,5,6,7,8],[0,1,2,5,6,7,8,9],(ra 0 11),(ra 0 12),(ra 0 13)] [13] (by kernel_rfl) [_,_,_,_,vi x.key,_,_,vi ((k - 1:Nat):Int),_,_,_,_,_] H (aG (Z0 rfl (Rm rfl)) (Z1 0 30 rfl (Rc rfl)) (Z1 1 31 rfl (Rm rfl)) (Z1 2 32 rfl (YF qH (aJ c0) rfl)) (aG (Z2 3 33 2 32 rfl (YO aD 0 (aJ c0) rfl)) (Z1 2 32 rfl (YM (aJ c0) rfl)) (Z1 2 32 rfl (YM (aJ c0) rfl)) ?_ (aG (Z3 5 35 7 37 2 32 rfl (YI qy um (aJ c0) rfl rfl)) (Z2 8 38 2 32 rfl (YF qH (aJ c0) rfl)) (X2 9 39 2 32 rfl fun hG=>YR aD (aJ c0) rfl (aF hG hq)) (Z3 4 34 10 40 2 32 rfl (YC (aJ c0) rfl)) (bG (Z2 2 32 11 41 rfl (Pt (aJ c0) rfl)) (bG (cZ rfl) dU))))) ?_
  ·refine fu 6 36 2 32 rfl rfl fun _ a w G1 hG HT H fin=>?_;refine og _ H (wg H rfl rfl (aJ c0)) rfl rfl rfl (by omega) (by omega) rfl ?_;clear H;intro a H;exact fin H iJ (by show _=_;first|rfl|exact aC vi (by omega))
  clear H;intro a w G lu H hv;have H:=H.aU (hv 12 42 rfl rfl) rfl;clear hv;refine kH H (Ra rfl ?_);clear H;intro a H;refine aI ⟨rfl,?_⟩;refine K8 _ _ ?_;clear K8;refine nW H rfl (aR c1) ?_;refine aO (fun _ aZ=>?_)
  have hz:¬ (0 < k∧x.key < y.key):=by first|exact fun h=>c1 h.2|exact fun h=>c0 (by omega)
  refine kP H (SC (aW FX nN 0 rfl rfl (Rn rfl (aM aZ rfl (Cd rfl ?_ ?_))))) <;> clear H aZ
  ·intro h43 a H
   try have p43:=dT h43
   refine kP H (SR fun _ bN=>aW vY aD 0 rfl rfl (Rc rfl ?_));clear H;intro a H;refine s_call kS H wn rfl (kW _ _ H.ro _ 21) rfl ?_;clear H;rintro v50 _ a w ⟨rfl,rfl⟩ - H;refine kH H (ak bN rfl ?_);clear H bN;intro a H;refine lr H results138 rfl ?_
   exact H.rt (by rw [he];refine aC vi ?_;clear he hrow hrow' hq hx hy;unfold mO;(repeat' split) <;> first|rfl|(simp_all;done)|(exfalso;simp_all;done))
  intro h43 a H
  try have p43:=dF h43
  refine fI ?_;refine K3 _ _ ?_;clear K3;refine aO (fun _ bQ=>?_);replace hck:=(hck.mono EK).mono lu;replace hb:=lu _ _ (EK _ _ hb);refine dI hmx [[],[0],[],[2],(ra 0 4),[],[],[6],[],[8],(ra 0 10),(ra 0 11),(ra 0 12),(ra 0 13)] [11,12,13] (by kernel_rfl) [_,vi x.key,_,vi x.before,vi (uy x.key x.before),_,_,vi x.key,_,vi x.before,vi (lT st (li.map eT.id) x.key x.before)] H (aG (Z0 rfl (Rf qH rfl)) (Z1 0 51 rfl (Ro aD 0 rfl)) (Z0 rfl (Rf vY rfl)) (Z1 2 53 rfl (Ro aD 0 rfl)) (aG ?_ (Z0 rfl (Rm rfl)) (Z0 rfl (Rf qH rfl)) (Z1 6 57 rfl (Ro aD 0 rfl)) (aG (Z0 rfl (Rf vY rfl)) (Z1 8 59 rfl (Ro aD 0 rfl)) ?_ (cZ rfl) (bG (cZ rfl) (bG (cZ rfl) dU))))) ?_
  ·refine fu 1 52 3 54 rfl rfl fun _ a w G1 hG HT H fin=>?_;refine s_call IG H wn rfl (Ir _ _ H.ro x.key x.before) rfl ?_;clear H;rintro v55 SA a w rfl Va H;exact fin H Va (rfl)
  ·refine sW 5 56 7 58 9 60 rfl rfl fun _ a w G1 hG HT H fin=>?_;refine s_call TL H wn rfl (Tt _ _ H.ro st li rv b ms ml mr mb mu n x.key x.before (hck.mono hG) (hG _ _ hb)) rfl ?_;clear H;rintro v61 G61 a w ⟨rfl,-⟩ Vb H;exact fin H Vb (rfl)
  clear H;intro a w G sH H hv;have H:=H.aU (hv 4 55 rfl rfl) rfl;have H:=H.aU (hv 10 61 rfl rfl) rfl;clear hv;refine jF rU jg [_,_] [_,_] H wn rfl rfl rfl rfl rfl (by intro i q h;match i,h with|0,h=>exact h|1,h=>exact h|n+2,h=>simp at h) rfl rfl ?_;clear H;intro ZB a w alo H;obtain ⟨YP,NW,Vx,H⟩:=H.fD;refine s_call tH H wn rfl (tJ _ _ H.ro _ _ (Bo Vx)) rfl ?_;clear H;rintro v63 _ a w ⟨rfl,rfl⟩ - H;refine kH H (Ra rfl ?_);clear H;intro a H;refine aI ⟨rfl,?_⟩;refine bQ _ _ ?_;clear bQ;refine lr H results138 rfl ?_
  exact H.rt (by rw [he];refine aC vi ?_;clear he hrow hrow' hq hx hy;unfold mO;(repeat' split) <;> first|rfl|(simp_all;done)|(exfalso;simp_all;done))
 skip;refine dI hmx [[],[0],[0,1],[0,1,2],(ra 0 4),[0,1,2],[0,1,2],[0,1,2,6],[0,1,2,5,6,7],[0,1,2,5,6,7,8],[0,1,2,5,6,7,8,9],(ra 0 11),(ra 0 12),(ra 0 13)] [13] (by kernel_rfl) [_,_,_,undef,undef,undef,undef,undef,undef,undef,undef,undef,_] H (aG (Z0 rfl (Rm rfl)) (Z1 0 30 rfl (Rc rfl)) (Z1 1 31 rfl (Rm rfl)) (bg (j:=2) (by kernel_rfl) (fun _ _ _ _ _ h=>h) rfl rfl rfl rfl rfl (fun _ _ h=>bq h (aL (aR c0))) rfl (fun _=>rfl)) (aG (bg (j:=2) (by kernel_rfl) (fun _ _ _ _ _ h=>h) rfl rfl rfl rfl rfl (fun _ _ h=>bq h (aL (aR c0))) rfl (fun _=>rfl)) (bg (j:=2) (by kernel_rfl) (fun _ _ _ _ _ h=>h) rfl rfl rfl rfl rfl (fun _ _ h=>bq h (aL (aR c0))) rfl (fun _=>rfl)) (bg (j:=2) (by kernel_rfl) (fun _ _ _ _ _ h=>h) rfl rfl rfl rfl rfl (fun _ _ h=>bq h (aL (aR c0))) rfl (fun _=>rfl)) (bg (j:=2) (by kernel_rfl) (fun _ _ _ _ _ h=>h) rfl rfl rfl rfl rfl (fun _ _ h=>bq h (aL (aR c0))) rfl (fun _=>rfl)) (aG (bg (j:=2) (by kernel_rfl) (fun _ _ _ _ _ h=>h) rfl rfl rfl rfl rfl (fun _ _ h=>bq h (aL (aR c0))) rfl (fun _=>rfl)) (bg (j:=2) (by kernel_rfl) (fun _ _ _ _ _ h=>h) rfl rfl rfl rfl rfl (fun _ _ h=>bq h (aL (aR c0))) rfl (fun _=>rfl)) (bg (j:=2) (by kernel_rfl) (fun _ _ _ _ _ h=>h) rfl rfl rfl rfl rfl (fun _ _ h=>bq h (aL (aR c0))) rfl (fun _=>rfl)) (bg (j:=2) (by kernel_rfl) (fun _ _ _ _ _ h=>h) rfl rfl rfl rfl rfl (fun _ _ h=>bq h (aL (aR c0))) rfl (fun _=>rfl)) (bG (Z2 2 32 11 41 rfl (Pf (aR c0) rfl)) (bG (cZ rfl) dU))))) ?_
 clear H;intro a w G lu H hv;have H:=H.aU (hv 12 42 rfl rfl) rfl;clear hv;refine kH H (Ra rfl ?_);clear H;intro a H;refine aI ⟨rfl,?_⟩;refine K8 _ _ ?_;clear K8;refine nW H rfl rfl ?_;refine aO (fun _ bT=>?_)
 have hz:¬ (0 < k∧x.key < y.key):=by first|exact fun h=>c1 h.2|exact fun h=>c0 (by omega)
 refine kP H (SC (aW FX nN 0 rfl rfl (Rn rfl (aM bT rfl (Cd rfl ?_ ?_))))) <;> clear H bT
 ·intro h43 a H
  try have p43:=dT h43
  refine kP H (SR fun _ cu=>aW vY aD 0 rfl rfl (Rc rfl ?_));clear H;intro a H;refine s_call kS H wn rfl (kW _ _ H.ro _ 21) rfl ?_;clear H;rintro v50 _ a w ⟨rfl,rfl⟩ - H;refine kH H (ak cu rfl ?_);clear H cu;intro a H;refine lr H results138 rfl ?_
  exact H.rt (by rw [he];refine aC vi ?_;clear he hrow hrow' hq hx hy;unfold mO;(repeat' split) <;> first|rfl|(simp_all;done)|(exfalso;simp_all;done))
 intro h43 a H
 try have p43:=dF h43
 refine fI ?_;refine K3 _ _ ?_;clear K3;refine aO (fun _ dL=>?_);replace hck:=(hck.mono EK).mono lu;replace hb:=lu _ _ (EK _ _ hb);refine dI hmx [[],[0],[],[2],(ra 0 4),[],[],[6],[],[8],(ra 0 10),(ra 0 11),(ra 0 12),(ra 0 13)] [11,12,13] (by kernel_rfl) [_,vi x.key,_,vi x.before,vi (uy x.key x.before),_,_,vi x.key,_,vi x.before,vi (lT st (li.map eT.id) x.key x.before)] H (aG (Z0 rfl (Rf qH rfl)) (Z1 0 51 rfl (Ro aD 0 rfl)) (Z0 rfl (Rf vY rfl)) (Z1 2 53 rfl (Ro aD 0 rfl)) (aG ?_ (Z0 rfl (Rm rfl)) (Z0 rfl (Rf qH rfl)) (Z1 6 57 rfl (Ro aD 0 rfl)) (aG (Z0 rfl (Rf vY rfl)) (Z1 8 59 rfl (Ro aD 0 rfl)) ?_ (cZ rfl) (bG (cZ rfl) (bG (cZ rfl) dU))))) ?_
 ·refine fu 1 52 3 54 rfl rfl fun _ a w G1 hG HT H fin=>?_;refine s_call IG H wn rfl (Ir _ _ H.ro x.key x.before) rfl ?_;clear H;rintro v55 SA a w rfl Va H;exact fin H Va (rfl)
 ·refine sW 5 56 7 58 9 60 rfl rfl fun _ a w G1 hG HT H fin=>?_;refine s_call TL H wn rfl (Tt _ _ H.ro st li rv b ms ml mr mb mu n x.key x.before (hck.mono hG) (hG _ _ hb)) rfl ?_;clear H;rintro v61 G61 a w ⟨rfl,-⟩ Vb H;exact fin H Vb (rfl)
 clear H;intro a w G sH H hv;have H:=H.aU (hv 4 55 rfl rfl) rfl;have H:=H.aU (hv 10 61 rfl rfl) rfl;clear hv;refine jF rU jg [_,_] [_,_] H wn rfl rfl rfl rfl rfl (by intro i q h;match i,h with|0,h=>exact h|1,h=>exact h|n+2,h=>simp at h) rfl rfl ?_;clear H;intro ZB a w alo H;obtain ⟨YP,NW,Vx,H⟩:=H.fD;refine s_call tH H wn rfl (tJ _ _ H.ro _ _ (Bo Vx)) rfl ?_;clear H;rintro v63 _ a w ⟨rfl,rfl⟩ - H;refine kH H (Ra rfl ?_);clear H;intro a H;refine aI ⟨rfl,?_⟩;refine dL _ _ ?_;clear dL;refine lr H results138 rfl ?_
 exact H.rt (by rw [he];refine aC vi ?_;clear he hrow hrow' hq hx hy;unfold mO;(repeat' split) <;> first|rfl|(simp_all;done)|(exfalso;simp_all;done))
end
section
open Go.RowKit
theorem Ma:Ty prog 130 1 8 [.pointer none] false:=⟨by kernel_rfl,by kernel_rfl⟩
theorem ahR:∀ args w,(callFunc 138 args).run prog w=.ok (.enter 138 args) w:=enters func138 rfl (by kernel_rfl)
theorem Bp:Ty prog 29 4 64 [.int .i64 0,.int .i64 0,.slice none 0 0,.slice none 0 0] true:=⟨by kernel_rfl,by kernel_rfl⟩
theorem Dh:dV prog 214 0 0:=⟨by kernel_rfl⟩
theorem KF:dV prog 214 1 1:=⟨by kernel_rfl⟩
theorem ahQ:∀ args w,(callFunc 137 args).run prog w=.ok (.enter 137 args) w:=enters func137 rfl (by kernel_rfl)
theorem anJ {G:GH} {st:List cK} {li:List eT} {rv:List fF} {b ms ml mr mb mu:Nat} {n:Int} (hck:yh G st li rv ms ml mr mu) (hb:G b=some (gY b ms ml mr mb mu n).2)
  {x3 x4 Yj:Nat} {e:Int} {l:List ku} {v:aj} (h3:aH G x3 0=some (aK b 0)) (h4:aH G x4 0=some (vi e)) (h11:aH G Yj 3=some v) (hv:aB G (.sl 4 (l.map ku.dat)) v) :
  vP (.func (.func 137) #[] #[(aK x3 0),(aK x4 0),(aK Yj 0)]) G l.length (Cu (aN st li rv) e l):=by
 intro k hk G1 w0 hm hG;refine mU (caps:=[(aK x3 0),(aK x4 0),(aK Yj 0)]) ahQ ?_;replace h3:=aF hm h3;replace h4:=aF hm h4;replace h11:=aF hm h11;replace hv:=hv.mono hm;obtain ⟨vA,vn,vc,rfl⟩:=hv.form;refine eN [(0,_),(1,_),(2,_),(3,_)] func137 rfl ntmps137 rfl rfl hG ?_;intro a H;refine kP H (SR fun _ K1=>ak K1 rfl (SR fun _ K2=>Rg Ma rfl (by assumption) ?_));clear H K1;intro a H;refine kH H (Rg aD rfl (by assumption) ?_);clear H;intro a H;refine kH H (Rf vZ rfl (Rg wJ rfl (by assumption) ?_));clear H;intro a H;refine kH H (Rm rfl ?_);clear H;intro a H;refine s_call ahR H wn rfl (anK _ _ H.ro st li rv b ms ml mr mb mu n (hck.mono hm) (hm _ _ hb) e l _ hv k hk) rfl ?_;clear H;rintro v11 zx a w rfl Ji H;exact kH H (ak K2 rfl (LR results137 rfl fun H=>H.rt rfl))
def yZ (C:gQ) (l:List jq):Int:=bV (l.map fun p=>lT C.st C.yU p.key p.value)
def gI (C:gQ) (m:Av):Int:=if m.ins≠0∧m.ins∉C.DY then 22 else if ¬ (0≤m.move∧m.move≤1073741824)∨(m.move≠0∧m.ins=0) then 21 else if 16 < (m.bU.length:Int) then 9 else 0
def qb (C:gQ) (k:Nat) (x:kK) (pr:Int):Int:=if x.rev∉C.DY then 22 else if 0 < k∧x.rev≤pr then 6 else if ¬ (0≤x.move∧x.move≤1073741824) then 21 else 0
def uX (C:gQ) (l:List kK) (k:Nat):Int:=match l[k]? with|some x=>qb C k x ((l[k - 1]?.map kK.rev).getD 0)|none=>0
def gB (C:gQ) (e:Int) (h:jJ):Int:=bV [jf e h.props,yZ C h.props,gI C h.marks,iQ (uX C h.marks.bU) h.marks.bU.length,bS (decide (64 < (h.marks.layers.length:Int))) 9,iQ (Cu C e h.marks.layers) h.marks.layers.length]
theorem abH {C:gQ} {e:Int} {h:jJ} (h1:jf e h.props≠0):gB C e h=jf e h.props:=by simp [gB,bV,h1]
theorem abI {C:gQ} {e:Int} {h:jJ} (h1:jf e h.props=0) (h2:yZ C h.props≠0):gB C e h=yZ C h.props:=by simp [gB,bV,h1,h2]
theorem sI {C:gQ} {e:Int} {h:jJ} (h1:jf e h.props=0) (h2:yZ C h.props=0) (h3:gI C h.marks≠0):gB C e h=gI C h.marks:=by simp [gB,bV,h1,h2,h3]
theorem abJ {C:gQ} {e:Int} {h:jJ} (h1:jf e h.props=0) (h2:yZ C h.props=0) (h3:gI C h.marks=0) (h4:iQ (uX C h.marks.bU) h.marks.bU.length≠0):gB C e h=iQ (uX C h.marks.bU) h.marks.bU.length:=by simp [gB,bV,h1,h2,h3,h4]
theorem abK {C:gQ} {e:Int} {h:jJ} (h1:jf e h.props=0) (h2:yZ C h.props=0) (h3:gI C h.marks=0) (h4:iQ (uX C h.marks.bU) h.marks.bU.length=0) (h5:64 < (h.marks.layers.length:Int)):gB C e h=9:=by simp [gB,bV,h1,h2,h3,h4,bS,h5]
theorem abL {C:gQ} {e:Int} {h:jJ} (h1:jf e h.props=0) (h2:yZ C h.props=0) (h3:gI C h.marks=0) (h4:iQ (uX C h.marks.bU) h.marks.bU.length=0) (h5:¬ 64 < (h.marks.layers.length:Int)):gB C e h=iQ (Cu C e h.marks.layers) h.marks.layers.length:=by simp [gB,bV,h1,h2,h3,h4,bS,h5];exact Eq.symm
theorem RI {C:gQ} {l:List jq} {k:Nat} (h:k < l.length):bV ((l.map fun p=>lT C.st C.yU p.key p.value).drop k)=if lT C.st C.yU l[k].key l[k].value≠0 then lT C.st C.yU l[k].key l[k].value else bV ((l.map fun p=>lT C.st C.yU p.key p.value).drop (k+1)):=by
 rw [Qi (by simpa using h)];simp
theorem alM (G:GH) (w0:World) (hG:Hold G w0) (st:List cK) (li:List eT) (rv:List fF) (b ms ml mr mb mu:Nat) (n:Int) (hck:yh G st li rv ms ml mr mu) (hb:G b=some (gY b ms ml mr mb mu n).2)
  (e:Int) (h:jJ) (p d l:aj) (hh:mF G h p d l) (hz:pR h≤4294967296) :
  Calls prog 64 #[(aK b 0),vi e,Dw h p d l] w0 (bR w0 G fun u G'=>u=vi (gB (aN st li rv) e h)):=by
 obtain ⟨pA,pc,rfl,-,-,-⟩:=hh.props.slice;obtain ⟨dA,dc,rfl,-,-,-⟩:=hh.bU.slice;obtain ⟨lA,lc,rfl,-,-,-⟩:=hh.layers.slice;have hml:maxLen=9223372036854775807:=rfl;have hzz:=CP h;have hz1:=nM (h.props.map jq.dat);have hz2:=nM (h.marks.bU.map kK.dat);have hz3:=nM (h.marks.layers.map ku.dat)
 simp only [bZ] at hh hz1 hz2 hz3 ⊢
 generalize pR h=zz at hz hzz
 refine eN [(0,_),(1,_),(2,_)] func64 rfl ntmps64 rfl rfl hG ?_;intro a H;refine dz (fun _ K1=>?_);refine eU (cs:=[_]) H wn rfl rfl rfl ?_;clear H;intro b3 a w hb3 H;refine eU (cs:=[_]) H wn rfl rfl rfl ?_;clear H;intro b4 a w hb4 H;refine eU (cs:=[_,_,_,_,_]) H wn rfl rfl rfl ?_;clear H;intro b5 a w hb5 H;refine kH H (ak K1 rfl (SQ fun _ K2=>SQ fun _ K3=>?_));clear H K1;intro a H;obtain ⟨Ga5,QG,zP,H⟩:=H.fD;obtain ⟨Ga4,Ld,Cc,H⟩:=H.fD;obtain ⟨Ga,Gy,Ja,H⟩:=H.fD;replace zP:=Gy _ _ (Ld _ _ zP);replace Cc:=Gy _ _ Cc;have hma:∀ b o,G b=some o→Ga b=some o:=fun b o h=>Gy _ _ (Ld _ _ (QG _ _ h));clear Gy Ld QG;replace hck:=hck.mono hma;replace hb:=hma _ _ hb;replace hh:=hh.mono hma
 have g3:aH Ga b3 0=some (aK b 0):=by unfold aH;rw [Ja];rfl
 have g4:aH Ga b4 0=some (vi e):=by unfold aH;rw [Cc];rfl
 have UE:aH Ga b5 0=some (.slice pA h.props.length pc):=by unfold aH;rw [zP];rfl
 have UG:∀ (j:Nat) (u:aj),[vi h.marks.ins,vi h.marks.move,.slice dA h.marks.bU.length dc,.slice lA h.marks.layers.length lc][j]?=some u→aH Ga b5 (1+j)=some u:=by
  intro j u hj
  unfold aH;rw [zP]
  match j,hj with
  | 0,hj=>exact hj
  | 1,hj=>exact hj
  | 2,hj=>exact hj
  | 3,hj=>exact hj
  | n+4,hj=>simp at hj
 have hc2:aH Ga b 2=some (.map (some mr)):=by unfold aH;rw [hb];rfl
 refine kP H (SC (Rg aD rfl (by assumption) ?_));clear H;intro a H;refine kH H (Rf yH rfl (Rg vN rfl (by assumption) ?_));clear H;intro a H;refine s_call TW H wn rfl (FP (Xw _ _ H.ro e h.props _ hh.props)) rfl ?_;clear H;rintro v17 _ a w ⟨⟨_,rfl⟩,rfl⟩ - H;refine kH H (aM K3 rfl (SR fun _ K4=>Rm rfl (Rc rfl (Kz K4 (Cd rfl ?_ ?_))))) <;> clear H K3 K4
 ·intro h19 a H
  try have xM:=dT h19
  refine aO (fun _ K5=>?_);have hE:=abH (C:=aN st li rv) (e:=e) (h:=h) xM;exact kP H (SC (Rm rfl (aM K5 rfl (LR results64 rfl fun H=>H.rt (by rw [hE])))))
 intro h19 a H
 try have xM:=dF h19
 have e1:jf e h.props=0:=by simpa using xM
 refine kP H (Kc K2 (SQ fun _ K6=>SR fun _ K7=>Rf yH rfl (Rg vN rfl (by assumption) ?_)));clear H K2;intro a H;refine kH H (Rl oh rfl (Rm rfl (Kz K7 (SB ?_))));clear H K7;intro a H;skip;refine fH (ι:=Nat) (Tc:=[(3,_),(4,_),(5,_),(22,_),(23,_)]) (Lc:=[]) (fun gh=>[(24,vi gh)]) (fun gh=>[]) (fun gh=>Ga) (fun gh=>gh≤h.props.length∧bV ((h.props.map fun p=>lT st (li.map eT.id) p.key p.value).drop gh)=yZ (aN st li rv) h.props) (fun gh=>h.props.length - gh) (0) (by exact (H).sub ⟨rfl,rfl,rfl,rfl,rfl,rfl,av⟩) ?_ ?_
 ·exact ⟨iK _,rfl⟩
 clear H;intro gh a w hI H;obtain ⟨k,hgh⟩:∃ x,x=gh:=⟨_,rfl⟩;subst hgh;obtain ⟨hk,heq⟩:=hI;dsimp only [lca,aS] at H;refine kP H (SR fun _ K8=>Rc rfl (Kz K8 (SQ fun _ K9=>Cd rfl ?_ ?_))) <;> clear H K8
 ·intro gZ a H
  try have p25:=dT gZ
  have hk2:k < h.props.length:=by omega
  obtain ⟨xb,xo,rfl,hrow⟩:=OI hh.props hk2;refine kP H (Kc K9 (SQ fun _ aZ=>SB (SR fun _ bN=>Ri oh oZ rfl rfl ?_)));clear H K9;intro a H;refine bD oZ (cs:=[_,_]) H wn rfl rfl (fun j v hj=>H.hp.aH (hrow j v hj)) rfl ?_;clear H;intro a H;refine dR oZ H wn rfl ?_;clear H;intro b9 a w uG H;refine bO oZ 0 (vs:=[_,_]) _ H wn rfl rfl rfl rfl rfl rfl rfl rfl ?_;clear H;intro w H;dsimp only [List.set,setRow] at H;refine bN _ _ ?_;clear bN;refine kP H (SR fun _ bQ=>Rg Ma rfl (by assumption) ?_);clear H;intro a H;refine kH H (aW yJ aD 0 rfl rfl (aW Us aD 0 rfl rfl ?_));clear H;intro a H;refine s_call TL H wn rfl (Tt _ _ H.ro st li rv b ms ml mr mb mu n h.props[k].key h.props[k].value hck hb) rfl ?_;clear H;rintro v33 _ a w ⟨rfl,rfl⟩ - H;refine kH H (ak bQ rfl (SR fun _ bT=>Rm rfl (Rc rfl (Kz bT (Cd rfl ?_ ?_))))) <;> clear H bQ bT
  ·intro qj a H
   try have p35:=dT qj
   refine aO (fun _ cu=>?_)
   have hr:yZ (aN st li rv) h.props=lT st (li.map eT.id) h.props[k].key h.props[k].value:=by rw [← heq];exact (RI (C:=aN st li rv) hk2).trans (au p35)
   have hE:=(abI (C:=aN st li rv) (e:=e) (h:=h) e1 (by rw [hr];exact p35)).trans hr;exact kP H (SC (Rm rfl (aM cu rfl (LR results64 rfl fun H=>H.rt (by rw [hE])))))
  intro qj a H
  try have p35:=dF qj
  refine kP H (Kc aZ (SC (Rd rfl (Rm rfl ?_))));clear H aZ;intro a H;refine aI ?_;refine dP ((k+1)) (by exact (H.dK (Pl:=[_]) (dw:=[]) [] (by decide) rfl).sub ⟨rfl,rfl,rfl,rfl,rfl,rfl,av⟩) ?_ ?_
  ·exact ⟨by omega,by rw [RI (C:=aN st li rv) hk2,ah (by simpa using p35)] at heq;exact heq⟩
  first|omega|(dsimp only;omega)
 intro gZ a H
 try have p25:=dF gZ
 refine eD ?_;refine K6 _ _ ?_;clear K6;refine aO (fun _ dL=>?_)
 have e2:yZ (aN st li rv) h.props=0:=by rw [← heq,gy (by rw [bZ];omega)];rfl
 refine kP H (SC (Rf pG rfl ?_));clear H;intro a H;refine bD Bp (cs:=[vi h.marks.ins,vi h.marks.move,.slice dA h.marks.bU.length dc,.slice lA h.marks.layers.length lc]) H wn rfl rfl (fun j v hj=>H.hp.aH (UG j v hj)) rfl ?_;clear H;intro a H;refine dR Bp H wn rfl ?_;clear H;intro b11 a w I8 H;refine bO Bp 0 (vs:=[_,_,_,_]) _ H wn rfl rfl rfl rfl rfl rfl rfl rfl ?_;clear H;intro w H;dsimp only [List.set,setRow] at H;obtain ⟨Gb,hmb,KQ,H⟩:=H.fD;replace hck:=hck.mono hmb;replace hb:=hmb _ _ hb;replace hh:=hh.mono hmb;replace g3:=aF hmb g3;replace g4:=aF hmb g4;replace hc2:=aF hmb hc2
 have q0:aH Gb b11 0=some (vi h.marks.ins):=by unfold aH;rw [KQ];rfl
 have q1:aH Gb b11 1=some (vi h.marks.move):=by unfold aH;rw [KQ];rfl
 have q2:aH Gb b11 2=some (.slice dA h.marks.bU.length dc):=by unfold aH;rw [KQ];rfl
 have q3:aH Gb b11 3=some (.slice lA h.marks.layers.length lc):=by unfold aH;rw [KQ];rfl
 have hcb:=anJ hck hb g3 g4 q3 hh.layers;refine aI ?_;refine dL _ _ ?_;clear dL;refine oO (ι:=GH) (Tc:=[(3,_),(4,_),(11,_)]) (Lc:=[]) (fun gh=>[]) (fun gh=>[]) (fun gh=>gh) (fun gh=>gI (aN st li rv) h.marks=0∧(∀ b o,Gb b=some o→gh b=some o)) (by exact (H).sub ⟨rfl,rfl,rfl,av⟩) ?_ ?_
 ·skip;refine sw ?_;refine aO (fun _ dO=>?_)
  by_cases c0:h.marks.ins≠0
  ·skip
   by_cases c1:h.marks.ins∉rv.map fF.id
   ·skip;refine dI hmx [[],[0],[0,1],[0,1,2],(ra 0 4),(ra 0 5),(ra 0 6),(ra 0 7),(ra 0 4),[0,1,2,3,8],(ra 0 10),(ra 0 11),(ra 0 12),(ra 0 13)] [13] (by kernel_rfl) [_,_,_,_,_,(aK b 0),_,_,_,_,.bool (decide (h.marks.ins∈rv.map fF.id)),.bool (decide (h.marks.ins∉rv.map fF.id)),_] H (aG (Z0 rfl (Rf vg rfl)) (X1 0 41 rfl fun hG=>Rg aD rfl (aF hG q0)) (Z1 1 42 rfl (Rc rfl)) (Z1 2 43 rfl (Rm rfl)) (aG (X1 3 44 rfl fun hG=>YR Ma (aJ c0) rfl (aF hG g3)) ?_ (Z2 5 46 3 44 rfl (YF Nn (aJ c0) rfl)) (X2 6 47 3 44 rfl fun hG=>YR D6 (aJ c0) rfl (aF hG hc2)) (aG (Z1 3 44 rfl (YF vg (aJ c0) rfl)) (X2 8 49 3 44 rfl fun hG=>YR aD (aJ c0) rfl (aF hG q0)) ?_ ?_ (bG (Z2 3 44 11 52 rfl (Pt (aJ c0) rfl)) (bG (cZ rfl) dU))))) ?_
    ·refine fu 4 45 3 44 rfl rfl fun _ a w G1 hG HT H fin=>?_;refine vK H (wg H rfl rfl (aJ c0)) rfl rfl ?_;clear H;intro a H;exact fin H iJ rfl
    ·refine sW 7 48 9 50 3 44 rfl rfl fun _ a w G1 hG HT H fin=>?_;refine CB (zv:=.bool false) D7 qz (by kernel_rfl) H (wg H rfl rfl (aJ c0)) rfl rfl (H.ro _ _ (hG _ _ hck.rev)) rfl ?_;clear H;intro a H;rw [JI] at H;exact fin H iJ rfl
    ·refine fu 10 51 3 44 rfl rfl fun _ a w G1 hG HT H fin=>?_;refine kH H (YN (aJ c0) rfl ?_);clear H;intro a H;exact fin H iJ (by show _=_;first|rfl|exact aL decide_not.symm)
    clear H;intro a w G oG H hv;have H:=H.aU (hv 12 53 rfl rfl) rfl;clear hv;refine kH H (Ra rfl ?_);clear H;intro a H;refine aI ⟨rfl,?_⟩;refine dO _ _ ?_;clear dO;refine BG H rfl (aJ c1) ?_;refine aO (fun _ dJ=>?_);have e3:gI (aN st li rv) h.marks=22:=au ⟨c0,c1⟩;have hE:=(sI (C:=aN st li rv) (e:=e) (h:=h) e1 e2 (by rw [e3];decide)).trans e3;exact kP H (SC (aM dJ rfl (LR results64 rfl fun H=>H.rt (by rw [hE]))))
   skip;refine dI hmx [[],[0],[0,1],[0,1,2],(ra 0 4),(ra 0 5),(ra 0 6),(ra 0 7),(ra 0 4),[0,1,2,3,8],(ra 0 10),(ra 0 11),(ra 0 12),(ra 0 13)] [13] (by kernel_rfl) [_,_,_,_,_,(aK b 0),_,_,_,_,.bool (decide (h.marks.ins∈rv.map fF.id)),.bool (decide (h.marks.ins∉rv.map fF.id)),_] H (aG (Z0 rfl (Rf vg rfl)) (X1 0 41 rfl fun hG=>Rg aD rfl (aF hG q0)) (Z1 1 42 rfl (Rc rfl)) (Z1 2 43 rfl (Rm rfl)) (aG (X1 3 44 rfl fun hG=>YR Ma (aJ c0) rfl (aF hG g3)) ?_ (Z2 5 46 3 44 rfl (YF Nn (aJ c0) rfl)) (X2 6 47 3 44 rfl fun hG=>YR D6 (aJ c0) rfl (aF hG hc2)) (aG (Z1 3 44 rfl (YF vg (aJ c0) rfl)) (X2 8 49 3 44 rfl fun hG=>YR aD (aJ c0) rfl (aF hG q0)) ?_ ?_ (bG (Z2 3 44 11 52 rfl (Pt (aJ c0) rfl)) (bG (cZ rfl) dU))))) ?_
   ·refine fu 4 45 3 44 rfl rfl fun _ a w G1 hG HT H fin=>?_;refine vK H (wg H rfl rfl (aJ c0)) rfl rfl ?_;clear H;intro a H;exact fin H iJ rfl
   ·refine sW 7 48 9 50 3 44 rfl rfl fun _ a w G1 hG HT H fin=>?_;refine CB (zv:=.bool false) D7 qz (by kernel_rfl) H (wg H rfl rfl (aJ c0)) rfl rfl (H.ro _ _ (hG _ _ hck.rev)) rfl ?_;clear H;intro a H;rw [JI] at H;exact fin H iJ rfl
   ·refine fu 10 51 3 44 rfl rfl fun _ a w G1 hG HT H fin=>?_;refine kH H (YN (aJ c0) rfl ?_);clear H;intro a H;exact fin H iJ (by show _=_;first|rfl|exact aL decide_not.symm)
   clear H;intro a w G oG H hv;have H:=H.aU (hv 12 53 rfl rfl) rfl;clear hv;refine kH H (Ra rfl ?_);clear H;intro a H;refine aI ⟨rfl,?_⟩;refine dO _ _ ?_;clear dO;refine nW H rfl (aR c1) ?_;refine aO (fun _ dW=>?_)
   have hno:¬ (h.marks.ins≠0∧h.marks.ins∉(aN st li rv).DY):=by first|exact fun h=>c1 h.2|exact fun h=>c0 h.1
   replace q0:=aF oG q0;replace q1:=aF oG q1;replace q2:=aF oG q2;refine kP H (SC (Rf wV rfl (Rg aD rfl (by assumption) ?_)));clear H;intro a H;refine s_call zJ H wn rfl (zX _ _ H.ro h.marks.move 0 1073741824) rfl ?_;clear H;rintro v57 _ a w ⟨rfl,rfl⟩ - H;refine kH H (Rn rfl (Rm rfl (Sp 59 rfl ?_ ?_))) <;> clear H
   ·intro jE a H
    try have p59:=dT jE
    refine kH H (aP jE rfl (aP jE rfl (Ku rfl (Ku rfl (Ku rfl (Ks jE rfl (Pt jE rfl (aM dW rfl (Ct rfl rfl (SQ fun _ eG=>?_))))))))));clear H dW;intro a H
    have e3:gI (aN st li rv) h.marks=21:=by unfold gI;rw [ah hno,au (by first|(simp_all;done)|(simp_all;omega))]
    have hE:=(sI (C:=aN st li rv) (e:=e) (h:=h) e1 e2 (by rw [e3];decide)).trans e3;exact kP H (SC (aM eG rfl (LR results64 rfl fun H=>H.rt (by rw [hE]))))
   intro jE a H
   try have p59:=dF jE
   refine kH H (YF wV jE rfl (YR aD jE rfl (by assumption) ?_));clear H;intro a H;refine kH H (YC jE rfl (YM jE rfl (Sp 63 rfl ?_ ?_))) <;> clear H
   ·intro h63 a H
    try have p63:=dT h63
    refine kH H (YF vg h63 rfl (YR aD h63 rfl (by assumption) ?_));clear H;intro a H;refine kH H (YC h63 rfl (PT jE h63 rfl (Pf jE rfl (aM dW rfl (Cd rfl ?_ ?_))))) <;> clear H dW
    ·intro iV a H
     try have p54:=dT iV
     refine aO (fun _ eB=>?_)
     have e3:gI (aN st li rv) h.marks=21:=by unfold gI;rw [ah hno,au (by first|(simp_all;done)|(simp_all;omega))]
     have hE:=(sI (C:=aN st li rv) (e:=e) (h:=h) e1 e2 (by rw [e3];decide)).trans e3;exact kP H (SC (aM eB rfl (LR results64 rfl fun H=>H.rt (by rw [hE]))))
    intro iV a H
    try have p54:=dF iV
    refine aO (fun _ eH=>?_)
    have hn2:¬ (¬ (0≤h.marks.move∧h.marks.move≤1073741824)∨(h.marks.move≠0∧h.marks.ins=0)):=by first|(simp_all;done)|(simp_all;omega)
    refine kP H (SC (Rf mV rfl (Rg mY rfl (by assumption) ?_)));clear H;intro a H;refine kH H (Rl lF rfl (Rc rfl (aM eH rfl (Cd rfl ?_ ?_)))) <;> clear H eH
    ·intro iq a H
     refine aO (fun _ fO=>?_)
     have e3:gI (aN st li rv) h.marks=9:=by unfold gI;rw [ah hno,ah hn2,au (by simpa using iq)]
     have hE:=(sI (C:=aN st li rv) (e:=e) (h:=h) e1 e2 (by rw [e3];decide)).trans e3;exact kP H (SC (aM fO rfl (LR results64 rfl fun H=>H.rt (by rw [hE]))))
    intro iq a H
    have e3:gI (aN st li rv) h.marks=0:=by unfold gI;rw [ah hno,ah hn2,ah (by simpa using iq)]
    refine fI ?_;refine ⟨_,by exact (H).sub ⟨rfl,rfl,rfl,av⟩,?_⟩;exact ⟨e3,oG⟩
   intro h63 a H
   try have p63:=dF h63
   refine kH H (aT h63 rfl (PF jE h63 rfl (Pf jE rfl (aM dW rfl (Cf rfl rfl (SQ fun _ gJ=>?_))))));clear H dW;intro a H
   have hn2:¬ (¬ (0≤h.marks.move∧h.marks.move≤1073741824)∨(h.marks.move≠0∧h.marks.ins=0)):=by first|(simp_all;done)|(simp_all;omega)
   refine kP H (SC (Rf mV rfl (Rg mY rfl (by assumption) ?_)));clear H;intro a H;refine kH H (Rl lF rfl (Rc rfl (aM gJ rfl (Cd rfl ?_ ?_)))) <;> clear H gJ
   ·intro iq a H
    refine aO (fun _ gT=>?_)
    have e3:gI (aN st li rv) h.marks=9:=by unfold gI;rw [ah hno,ah hn2,au (by simpa using iq)]
    have hE:=(sI (C:=aN st li rv) (e:=e) (h:=h) e1 e2 (by rw [e3];decide)).trans e3;exact kP H (SC (aM gT rfl (LR results64 rfl fun H=>H.rt (by rw [hE]))))
   intro iq a H
   have e3:gI (aN st li rv) h.marks=0:=by unfold gI;rw [ah hno,ah hn2,ah (by simpa using iq)]
   refine fI ?_;refine ⟨_,by exact (H).sub ⟨rfl,rfl,rfl,av⟩,?_⟩;exact ⟨e3,oG⟩
  skip;refine dI hmx [[],[0],[0,1],[0,1,2],(ra 0 4),(ra 0 5),(ra 0 6),(ra 0 7),(ra 0 4),[0,1,2,3,8],(ra 0 10),(ra 0 11),(ra 0 12),(ra 0 13)] [13] (by kernel_rfl) [_,_,_,_,undef,undef,undef,undef,undef,undef,undef,undef,_] H (aG (Z0 rfl (Rf vg rfl)) (X1 0 41 rfl fun hG=>Rg aD rfl (aF hG q0)) (Z1 1 42 rfl (Rc rfl)) (Z1 2 43 rfl (Rm rfl)) (aG (bg (j:=3) (by kernel_rfl) (fun _ _ _ _ _ h=>h) rfl rfl rfl rfl rfl (fun _ _ h=>bq h (aL (aR c0))) rfl (fun _=>rfl)) (bg (j:=3) (by kernel_rfl) (fun _ _ _ _ _ h=>h) rfl rfl rfl rfl rfl (fun _ _ h=>bq h (aL (aR c0))) rfl (fun _=>rfl)) (bg (j:=3) (by kernel_rfl) (fun _ _ _ _ _ h=>h) rfl rfl rfl rfl rfl (fun _ _ h=>bq h (aL (aR c0))) rfl (fun _=>rfl)) (bg (j:=3) (by kernel_rfl) (fun _ _ _ _ _ h=>h) rfl rfl rfl rfl rfl (fun _ _ h=>bq h (aL (aR c0))) rfl (fun _=>rfl)) (aG (bg (j:=3) (by kernel_rfl) (fun _ _ _ _ _ h=>h) rfl rfl rfl rfl rfl (fun _ _ h=>bq h (aL (aR c0))) rfl (fun _=>rfl)) (bg (j:=3) (by kernel_rfl) (fun _ _ _ _ _ h=>h) rfl rfl rfl rfl rfl (fun _ _ h=>bq h (aL (aR c0))) rfl (fun _=>rfl)) (bg (j:=3) (by kernel_rfl) (fun _ _ _ _ _ h=>h) rfl rfl rfl rfl rfl (fun _ _ h=>bq h (aL (aR c0))) rfl (fun _=>rfl)) (bg (j:=3) (by kernel_rfl) (fun _ _ _ _ _ h=>h) rfl rfl rfl rfl rfl (fun _ _ h=>bq h (aL (aR c0))) rfl (fun _=>rfl)) (bG (Z2 3 44 11 52 rfl (Pf (aR c0) rfl)) (bG (cZ rfl) dU))))) ?_
  clear H;intro a w G oG H hv;have H:=H.aU (hv 12 53 rfl rfl) rfl;clear hv;refine kH H (Ra rfl ?_);clear H;intro a H;refine aI ⟨rfl,?_⟩;refine dO _ _ ?_;clear dO;refine nW H rfl rfl ?_;refine aO (fun _ gM=>?_)
  have hno:¬ (h.marks.ins≠0∧h.marks.ins∉(aN st li rv).DY):=by first|exact fun h=>c1 h.2|exact fun h=>c0 h.1
  replace q0:=aF oG q0;replace q1:=aF oG q1;replace q2:=aF oG q2;refine kP H (SC (Rf wV rfl (Rg aD rfl (by assumption) ?_)));clear H;intro a H;refine s_call zJ H wn rfl (zX _ _ H.ro h.marks.move 0 1073741824) rfl ?_;clear H;rintro v57 _ a w ⟨rfl,rfl⟩ - H;refine kH H (Rn rfl (Rm rfl (Sp 59 rfl ?_ ?_))) <;> clear H
  ·intro jE a H
   try have p59:=dT jE
   refine kH H (aP jE rfl (aP jE rfl (Ku rfl (Ku rfl (Ku rfl (Ks jE rfl (Pt jE rfl (aM gM rfl (Ct rfl rfl (SQ fun _ jh=>?_))))))))));clear H gM;intro a H
   have e3:gI (aN st li rv) h.marks=21:=by unfold gI;rw [ah hno,au (by first|(simp_all;done)|(simp_all;omega))]
   have hE:=(sI (C:=aN st li rv) (e:=e) (h:=h) e1 e2 (by rw [e3];decide)).trans e3;exact kP H (SC (aM jh rfl (LR results64 rfl fun H=>H.rt (by rw [hE]))))
  intro jE a H
  try have p59:=dF jE
  refine kH H (YF wV jE rfl (YR aD jE rfl (by assumption) ?_));clear H;intro a H;refine kH H (YC jE rfl (YM jE rfl (Sp 63 rfl ?_ ?_))) <;> clear H
  ·intro h63 a H
   try have p63:=dT h63
   refine kH H (YF vg h63 rfl (YR aD h63 rfl (by assumption) ?_));clear H;intro a H;refine kH H (YC h63 rfl (PT jE h63 rfl (Pf jE rfl (aM gM rfl (Cd rfl ?_ ?_))))) <;> clear H gM
   ·intro iV a H
    try have p54:=dT iV
    refine aO (fun _ jo=>?_)
    have e3:gI (aN st li rv) h.marks=21:=by unfold gI;rw [ah hno,au (by first|(simp_all;done)|(simp_all;omega))]
    have hE:=(sI (C:=aN st li rv) (e:=e) (h:=h) e1 e2 (by rw [e3];decide)).trans e3;exact kP H (SC (aM jo rfl (LR results64 rfl fun H=>H.rt (by rw [hE]))))
   intro iV a H
   try have p54:=dF iV
   refine aO (fun _ iU=>?_)
   have hn2:¬ (¬ (0≤h.marks.move∧h.marks.move≤1073741824)∨(h.marks.move≠0∧h.marks.ins=0)):=by first|(simp_all;done)|(simp_all;omega)
   refine kP H (SC (Rf mV rfl (Rg mY rfl (by assumption) ?_)));clear H;intro a H;refine kH H (Rl lF rfl (Rc rfl (aM iU rfl (Cd rfl ?_ ?_)))) <;> clear H iU
   ·intro iq a H
    refine aO (fun _ kX=>?_)
    have e3:gI (aN st li rv) h.marks=9:=by unfold gI;rw [ah hno,ah hn2,au (by simpa using iq)]
    have hE:=(sI (C:=aN st li rv) (e:=e) (h:=h) e1 e2 (by rw [e3];decide)).trans e3;exact kP H (SC (aM kX rfl (LR results64 rfl fun H=>H.rt (by rw [hE]))))
   intro iq a H
   have e3:gI (aN st li rv) h.marks=0:=by unfold gI;rw [ah hno,ah hn2,ah (by simpa using iq)]
   refine fI ?_;refine ⟨_,by exact (H).sub ⟨rfl,rfl,rfl,av⟩,?_⟩;exact ⟨e3,oG⟩
  intro h63 a H
  try have p63:=dF h63
  refine kH H (aT h63 rfl (PF jE h63 rfl (Pf jE rfl (aM gM rfl (Cf rfl rfl (SQ fun _ kY=>?_))))));clear H gM;intro a H
  have hn2:¬ (¬ (0≤h.marks.move∧h.marks.move≤1073741824)∨(h.marks.move≠0∧h.marks.ins=0)):=by first|(simp_all;done)|(simp_all;omega)
  refine kP H (SC (Rf mV rfl (Rg mY rfl (by assumption) ?_)));clear H;intro a H;refine kH H (Rl lF rfl (Rc rfl (aM kY rfl (Cd rfl ?_ ?_)))) <;> clear H kY
  ·intro iq a H
   refine aO (fun _ jT=>?_)
   have e3:gI (aN st li rv) h.marks=9:=by unfold gI;rw [ah hno,ah hn2,au (by simpa using iq)]
   have hE:=(sI (C:=aN st li rv) (e:=e) (h:=h) e1 e2 (by rw [e3];decide)).trans e3;exact kP H (SC (aM jT rfl (LR results64 rfl fun H=>H.rt (by rw [hE]))))
  intro iq a H
  have e3:gI (aN st li rv) h.marks=0:=by unfold gI;rw [ah hno,ah hn2,ah (by simpa using iq)]
  refine fI ?_;refine ⟨_,by exact (H).sub ⟨rfl,rfl,rfl,av⟩,?_⟩;exact ⟨e3,oG⟩
 clear H;intro gh a w hI H;obtain ⟨g,hgh⟩:∃ x,x=gh:=⟨_,rfl⟩;subst hgh;obtain ⟨e3,zS⟩:=hI;replace hck:=hck.mono zS;replace hb:=zS _ _ hb;replace hh:=hh.mono zS;replace g3:=aF zS g3;replace q2:=aF zS q2;replace q3:=aF zS q3;replace hc2:=aF zS hc2;replace hcb:=hcb.mono zS;dsimp only [lca,aS] at H;refine kP H (SQ fun _ lG=>SR fun _ lH=>Rf mV rfl (Rg mY rfl (by assumption) ?_));clear H;intro a H;refine kH H (Rl lF rfl (Rm rfl (Kz lH (SB ?_))));clear H lH;intro a H;skip;refine fH (ι:=Nat × GH) (Tc:=[(3,_),(4,_),(11,_),(75,_),(76,_)]) (Lc:=[]) (fun gh=>[(77,vi gh.1)]) (fun gh=>[]) (fun gh=>gh.2) (fun gh=>gh.1≤h.marks.bU.length∧bV (((List.range h.marks.bU.length).map (uX (aN st li rv) h.marks.bU)).drop gh.1)=iQ (uX (aN st li rv) h.marks.bU) h.marks.bU.length∧(∀ b o,g b=some o→gh.2 b=some o)) (fun gh=>h.marks.bU.length - gh.1) ((0,g)) (by exact (H).sub ⟨rfl,rfl,rfl,rfl,rfl,rfl,av⟩) ?_ ?_
 ·exact ⟨iK _,rfl,fun _ _ h=>h⟩
 clear H;intro gh a w hI H;obtain ⟨k,g2⟩:=gh;dsimp only at hI H;obtain ⟨hk,heq,hgm⟩:=hI;dsimp only [lca,aS] at H;refine kP H (SR fun _ kL=>Rc rfl (Kz kL (SQ fun _ mQ=>Cd rfl ?_ ?_))) <;> clear H kL
 ·intro rG a H
  try have Xn:=dT rG
  have hk2:k < h.marks.bU.length:=by omega
  have hd2:=hh.bU.mono hgm;obtain ⟨xb,xo,rfl,hrow⟩:=PW hd2 hk2
  have hk1:k - 1 < h.marks.bU.length:=by omega
  obtain ⟨b',o',he',hrow'⟩:=PW hd2 hk1
  injection he' with he'
  injection he' with e1 e2
  subst e1;subst e2
  have hde:uX (aN st li rv) h.marks.bU k=qb (aN st li rv) k h.marks.bU[k] h.marks.bU[k - 1].rev:=by unfold uX;rw [gD hk2,gD hk1];rfl
  have hX:∀ v,qb (aN st li rv) k h.marks.bU[k] h.marks.bU[k - 1].rev=v→v≠0→gB (aN st li rv) e h=v:=fun v h1 h2=>by
   have h4:iQ (uX (aN st li rv) h.marks.bU) h.marks.bU.length=v:=by rw [← heq,qZ hk2,hde,h1,au h2]
   exact (abJ e1 e2 e3 (by rw [h4];exact h2)).trans h4
  have hp:=hrow' 0 _ rfl;have g3':=aF hgm g3;have hc2':=aF hgm hc2;have q2':=aF hgm q2;refine kP H (Kc mQ (SQ fun _ mR=>SB (SR fun _ nD=>Rm rfl (Ri lF qV rfl rfl ?_))));clear H mQ;intro a H;refine bD qV (cs:=h.marks.bU[k].cells) H wn rfl rfl (fun j v hj=>H.hp.aH (hrow j v hj)) rfl ?_;clear H;intro a H;refine dR qV H wn rfl ?_;clear H;intro b13 a w ND H;refine kH H (Ra rfl ?_);clear H;intro a H;refine bO qV 0 (vs:=[_,_]) _ H wn rfl rfl rfl rfl rfl rfl rfl rfl ?_;clear H;intro w H;dsimp only [List.set,setRow] at H;refine nD _ _ ?_;clear nD;refine sw ?_;refine aO (fun _ rX=>?_);refine dI hmx [[],[0],[0,1],[0,1,2],[],[4],(ra 0 6),(ra 0 7),(ra 0 8)] [8] (by kernel_rfl) [_,_,_,_,_,vi h.marks.bU[k].rev,.bool (decide (h.marks.bU[k].rev∈rv.map fF.id)),_] H (aG (X0 rfl fun hG=>Rg Ma rfl (aF hG g3')) (Z1 0 83 rfl (Rk rfl)) (Z1 1 84 rfl (Rf Nn rfl)) (X1 2 85 rfl fun hG=>Rg D6 rfl (aF hG hc2')) (aG (Z0 rfl (Rf Dh rfl)) (Z1 4 87 rfl (Ro aD 0 rfl)) ?_ (Z1 6 89 rfl (Rn rfl)) (bG (cZ rfl) dU))) ?_
  ·refine fu 3 86 5 88 rfl rfl fun _ a w G1 hG HT H fin=>?_;refine CB (zv:=.bool false) D7 qz (by kernel_rfl) H wn rfl rfl (H.ro _ _ (hG _ _ (hgm _ _ hck.rev))) rfl ?_;clear H;intro a H;rw [JI] at H;exact fin H iJ rfl
  clear H;intro a w G KN H hv;have H:=H.aU (hv 7 90 rfl rfl) rfl;clear hv;refine kH H (Ra rfl ?_);clear H;intro a H;refine aI ⟨rfl,?_⟩;refine rX _ _ ?_;clear rX;refine oN H rfl ?_ ?_
  ·intro yM
   refine aO (fun _ wL=>?_);have hE:=hX 22 (by unfold qb;rw [au (by simpa using yM)]) (by decide);exact kP H (SC (aM wL rfl (LR results64 rfl fun H=>H.rt (by rw [hE]))))
  intro yM
  try have p82:=dF yM
  have NY:¬ (h.marks.bU[k].rev∉(aN st li rv).DY):=by simpa using yM
  refine aO (fun _ mg=>?_);replace hp:=aF KN hp;replace q2':=aF KN q2'
  by_cases c3:0 < (k:Int)
  ·skip
   by_cases c4:h.marks.bU[k].rev≤h.marks.bU[k - 1].rev
   ·skip;refine dI hmx [[],[0],[0,1],[0,1,2],(ra 0 4),[0,1,2],[0,1,2,5],[0,1,2],[0,1,2,7],[0,1,2,5,6,7,8],[0,1,2,5,6,7,8,9],([0,1,2]++ra 5 6),(ra 0 12),(ra 0 13),(ra 0 14)] [14] (by kernel_rfl) [_,_,_,_,vi h.marks.bU[k].rev,_,_,_,vi ((k - 1:Nat):Int),_,_,_,_,_] H (aG (Z0 rfl (Rm rfl)) (Z1 0 92 rfl (Rc rfl)) (Z1 1 93 rfl (Rm rfl)) (Z1 2 94 rfl (YF Dh (aJ c3) rfl)) (aG (Z2 3 95 2 94 rfl (YO aD 0 (aJ c3) rfl)) (Z1 2 94 rfl (YF mV (aJ c3) rfl)) (X2 5 97 2 94 rfl fun hG=>YR mY (aJ c3) rfl (aF hG q2')) (Z1 2 94 rfl (YM (aJ c3) rfl)) (aG ?_ (Z3 6 98 8 100 2 94 rfl (YI lF qV (aJ c3) rfl rfl)) (Z2 9 101 2 94 rfl (YF Dh (aJ c3) rfl)) (X2 10 102 2 94 rfl fun hG=>YR aD (aJ c3) rfl (aF hG hp)) (bG (Z3 4 96 11 103 2 94 rfl (YC (aJ c3) rfl)) (bG (Z2 2 94 12 104 rfl (Pt (aJ c3) rfl)) (bG (cZ rfl) dU)))))) ?_
    ·refine fu 7 99 2 94 rfl rfl fun _ a w G1 hG HT H fin=>?_;refine og _ H (wg H rfl rfl (aJ c3)) rfl rfl rfl (by omega) (by omega) rfl ?_;clear H;intro a H;exact fin H iJ (by show _=_;first|rfl|exact aC vi (by omega))
    clear H;intro a w G Qo H hv;have H:=H.aU (hv 13 105 rfl rfl) rfl;clear hv;refine kH H (Ra rfl ?_);clear H;intro a H;refine aI ⟨rfl,?_⟩;refine mg _ _ ?_;clear mg;refine BG H rfl (aJ c4) ?_;refine aO (fun _ zB=>?_);have hz:0 < k∧h.marks.bU[k].rev≤h.marks.bU[k - 1].rev:=⟨by omega,c4⟩;have hE:=hX 6 (by unfold qb;rw [ah NY,au hz]) (by decide);exact kP H (SC (aM zB rfl (LR results64 rfl fun H=>H.rt (by rw [hE]))))
   skip;refine dI hmx [[],[0],[0,1],[0,1,2],(ra 0 4),[0,1,2],[0,1,2,5],[0,1,2],[0,1,2,7],[0,1,2,5,6,7,8],[0,1,2,5,6,7,8,9],([0,1,2]++ra 5 6),(ra 0 12),(ra 0 13),(ra 0 14)] [14] (by kernel_rfl) [_,_,_,_,vi h.marks.bU[k].rev,_,_,_,vi ((k - 1:Nat):Int),_,_,_,_,_] H (aG (Z0 rfl (Rm rfl)) (Z1 0 92 rfl (Rc rfl)) (Z1 1 93 rfl (Rm rfl)) (Z1 2 94 rfl (YF Dh (aJ c3) rfl)) (aG (Z2 3 95 2 94 rfl (YO aD 0 (aJ c3) rfl)) (Z1 2 94 rfl (YF mV (aJ c3) rfl)) (X2 5 97 2 94 rfl fun hG=>YR mY (aJ c3) rfl (aF hG q2')) (Z1 2 94 rfl (YM (aJ c3) rfl)) (aG ?_ (Z3 6 98 8 100 2 94 rfl (YI lF qV (aJ c3) rfl rfl)) (Z2 9 101 2 94 rfl (YF Dh (aJ c3) rfl)) (X2 10 102 2 94 rfl fun hG=>YR aD (aJ c3) rfl (aF hG hp)) (bG (Z3 4 96 11 103 2 94 rfl (YC (aJ c3) rfl)) (bG (Z2 2 94 12 104 rfl (Pt (aJ c3) rfl)) (bG (cZ rfl) dU)))))) ?_
   ·refine fu 7 99 2 94 rfl rfl fun _ a w G1 hG HT H fin=>?_;refine og _ H (wg H rfl rfl (aJ c3)) rfl rfl rfl (by omega) (by omega) rfl ?_;clear H;intro a H;exact fin H iJ (by show _=_;first|rfl|exact aC vi (by omega))
   clear H;intro a w G Qo H hv;have H:=H.aU (hv 13 105 rfl rfl) rfl;clear hv;refine kH H (Ra rfl ?_);clear H;intro a H;refine aI ⟨rfl,?_⟩;refine mg _ _ ?_;clear mg;refine nW H rfl (aR c4) ?_;refine aO (fun _ wM=>?_)
   have hz:¬ (0 < k∧h.marks.bU[k].rev≤h.marks.bU[k - 1].rev):=by first|exact fun h=>c4 h.2|exact fun h=>c3 (by omega)
   refine kP H (SC (aW KF aD 0 rfl rfl ?_));clear H;intro a H;refine s_call zJ H wn rfl (zX _ _ H.ro h.marks.bU[k].move 0 1073741824) rfl ?_;clear H;rintro v109 _ a w ⟨rfl,rfl⟩ - H;refine kH H (Rn rfl (aM wM rfl (Cd rfl ?_ ?_))) <;> clear H wM
   ·intro BU a H
    try have Xb:=dT BU
    refine aO (fun _ Fx=>?_);have hE:=hX 21 (by unfold qb;rw [ah NY,ah hz,au (by have h0:=BU;simp at h0;omega)]) (by decide);exact kP H (SC (aM Fx rfl (LR results64 rfl fun H=>H.rt (by rw [hE]))))
   intro BU a H
   try have Xb:=dF BU
   have Jf:qb (aN st li rv) k h.marks.bU[k] h.marks.bU[k - 1].rev=0:=by unfold qb;rw [ah NY,ah hz,ah (by have h0:=BU;simp at h0;omega)]
   have tT:=fun b o h=>Qo b o (KN b o (hgm b o h));refine kP H (Kc mR (SC (Rd rfl (Rm rfl ?_))));clear H mR;intro a H;refine aI ?_;refine dP ((k+1,G)) (by exact (H.dK (Pl:=[_]) (dw:=[]) [] (by decide) rfl).sub ⟨rfl,rfl,rfl,rfl,rfl,rfl,av⟩) ?_ ?_
   ·(try dsimp only);exact ⟨by omega,by rw [qZ hk2,ah (by rw [hde];simpa using Jf)] at heq;exact heq,tT⟩
   first|omega|(dsimp only;omega)
  skip;refine dI hmx [[],[0],[0,1],[0,1,2],(ra 0 4),[0,1,2],[0,1,2,5],[0,1,2],[0,1,2,7],[0,1,2,5,6,7,8],[0,1,2,5,6,7,8,9],([0,1,2]++ra 5 6),(ra 0 12),(ra 0 13),(ra 0 14)] [14] (by kernel_rfl) [_,_,_,undef,undef,undef,undef,undef,undef,undef,undef,undef,undef,_] H (aG (Z0 rfl (Rm rfl)) (Z1 0 92 rfl (Rc rfl)) (Z1 1 93 rfl (Rm rfl)) (bg (j:=2) (by kernel_rfl) (fun _ _ _ _ _ h=>h) rfl rfl rfl rfl rfl (fun _ _ h=>bq h (aL (aR c3))) rfl (fun _=>rfl)) (aG (bg (j:=2) (by kernel_rfl) (fun _ _ _ _ _ h=>h) rfl rfl rfl rfl rfl (fun _ _ h=>bq h (aL (aR c3))) rfl (fun _=>rfl)) (bg (j:=2) (by kernel_rfl) (fun _ _ _ _ _ h=>h) rfl rfl rfl rfl rfl (fun _ _ h=>bq h (aL (aR c3))) rfl (fun _=>rfl)) (bg (j:=2) (by kernel_rfl) (fun _ _ _ _ _ h=>h) rfl rfl rfl rfl rfl (fun _ _ h=>bq h (aL (aR c3))) rfl (fun _=>rfl)) (bg (j:=2) (by kernel_rfl) (fun _ _ _ _ _ h=>h) rfl rfl rfl rfl rfl (fun _ _ h=>bq h (aL (aR c3))) rfl (fun _=>rfl)) (aG (bg (j:=2) (by kernel_rfl) (fun _ _ _ _ _ h=>h) rfl rfl rfl rfl rfl (fun _ _ h=>bq h (aL (aR c3))) rfl (fun _=>rfl)) (bg (j:=2) (by kernel_rfl) (fun _ _ _ _ _ h=>h) rfl rfl rfl rfl rfl (fun _ _ h=>bq h (aL (aR c3))) rfl (fun _=>rfl)) (bg (j:=2) (by kernel_rfl) (fun _ _ _ _ _ h=>h) rfl rfl rfl rfl rfl (fun _ _ h=>bq h (aL (aR c3))) rfl (fun _=>rfl)) (bg (j:=2) (by kernel_rfl) (fun _ _ _ _ _ h=>h) rfl rfl rfl rfl rfl (fun _ _ h=>bq h (aL (aR c3))) rfl (fun _=>rfl)) (bG (bg (j:=2) (by kernel_rfl) (fun _ _ _ _ _ h=>h) rfl rfl rfl rfl rfl (fun _ _ h=>bq h (aL (aR c3))) rfl (fun _=>rfl)) (bG (Z2 2 94 12 104 rfl (Pf (aR c3) rfl)) (bG (cZ rfl) dU)))))) ?_
  clear H;intro a w G Qo H hv;have H:=H.aU (hv 13 105 rfl rfl) rfl;clear hv;refine kH H (Ra rfl ?_);clear H;intro a H;refine aI ⟨rfl,?_⟩;refine mg _ _ ?_;clear mg;refine nW H rfl rfl ?_;refine aO (fun _ CW=>?_)
  have hz:¬ (0 < k∧h.marks.bU[k].rev≤h.marks.bU[k - 1].rev):=by first|exact fun h=>c4 h.2|exact fun h=>c3 (by omega)
  refine kP H (SC (aW KF aD 0 rfl rfl ?_));clear H;intro a H;refine s_call zJ H wn rfl (zX _ _ H.ro h.marks.bU[k].move 0 1073741824) rfl ?_;clear H;rintro v109 _ a w ⟨rfl,rfl⟩ - H;refine kH H (Rn rfl (aM CW rfl (Cd rfl ?_ ?_))) <;> clear H CW
  ·intro BU a H
   try have Xb:=dT BU
   refine aO (fun _ Bw=>?_);have hE:=hX 21 (by unfold qb;rw [ah NY,ah hz,au (by have h0:=BU;simp at h0;omega)]) (by decide);exact kP H (SC (aM Bw rfl (LR results64 rfl fun H=>H.rt (by rw [hE]))))
  intro BU a H
  try have Xb:=dF BU
  have Jf:qb (aN st li rv) k h.marks.bU[k] h.marks.bU[k - 1].rev=0:=by unfold qb;rw [ah NY,ah hz,ah (by have h0:=BU;simp at h0;omega)]
  have tT:=fun b o h=>Qo b o (KN b o (hgm b o h));refine kP H (Kc mR (SC (Rd rfl (Rm rfl ?_))));clear H mR;intro a H;refine aI ?_;refine dP ((k+1,G)) (by exact (H.dK (Pl:=[_]) (dw:=[]) [] (by decide) rfl).sub ⟨rfl,rfl,rfl,rfl,rfl,rfl,av⟩) ?_ ?_
  ·(try dsimp only);exact ⟨by omega,by rw [qZ hk2,ah (by rw [hde];simpa using Jf)] at heq;exact heq,tT⟩
  first|omega|(dsimp only;omega)
 intro rG a H
 try have Xn:=dF rG
 refine eD ?_;refine lG _ _ ?_;clear lG;refine aO (fun _ Au=>?_);refine aO (fun _ Ea=>?_)
 have e4:iQ (uX (aN st li rv) h.marks.bU) h.marks.bU.length=0:=by rw [← heq,gy (by simp;omega)];rfl
 replace q3:=aF hgm q3;refine kP H (SC (Rf vZ rfl (Rg wJ rfl (by assumption) ?_)));clear H;intro a H;refine kH H (Rl qy rfl (Rc rfl (Kn Ea (Cd rfl ?_ ?_)))) <;> clear H Ea
 ·intro UJ a H
  try have Xd:=dT UJ
  refine aO (fun _ Eb=>?_);have hE:=abK (C:=aN st li rv) (e:=e) (h:=h) e1 e2 e3 e4 Xd;exact kP H (SC (aM Eb rfl (LR results64 rfl fun H=>H.rt (by rw [hE]))))
 intro UJ a H
 try have Xd:=dF UJ
 refine fI ?_;refine Au _ _ ?_;clear Au;refine aO (fun _ CX=>?_);have hE:=abL (C:=aN st li rv) (e:=e) (h:=h) e1 e2 e3 e4 Xd;refine kP H (SC (Rf vZ rfl (Rg wJ rfl (by assumption) ?_)));clear H;intro a H;refine kH H (Rl qy rfl ?_);clear H;intro a H;refine qR H wn rfl rfl ?_;clear H;intro a H;refine s_call Ky H wn rfl (MP _ _ H.ro h.marks.layers.length (Cu (aN st li rv) e h.marks.layers) _ (by omega) (hcb.mono hgm)) rfl ?_;clear H;rintro atH arW a w rfl asu H;exact kH H (aM CX rfl (LR results64 rfl fun H=>H.rt (by rw [hE])))
end
section
open Go.RowKit
theorem BN:dV prog 35 1 1:=⟨by kernel_rfl⟩
def codeOk (x:ay):Bool:=if x.kind=4 then decide (1≤x.code∧x.code≤3) else if x.kind=6 then decide (1≤x.code∧x.code≤2) else if x.kind=8 then decide (1≤x.code∧x.code≤4) else true
def Bn (x:ay):Bool:=decide (x.kind=8∧x.code=1)
def Ao (x:ay):Bool:=decide (x.kind=1∨x.kind=5) || Bn x
def zZ (x:ay):Bool:=decide (x.kind=6∨x.kind=7∨x.kind=8)
def BJ (x:ay):Bool:=decide (x.kind=4∨x.kind=6∨x.kind=8)
def qF (s:ByteArray):Bool:=s.toList == (⟨#[]⟩:ByteArray).toList
def wY (x:ay):Bool:=!BJ x && decide (x.code≠0) || !zZ x && decide (x.id≠0) || !Ao x && !qF x.text || decide (x.kind≠6) && decide (0 < (x.flow.length:Int)) || decide (x.kind≠7) && decide (0 < (x.rows.length:Int))
def jW (x:ay):Int :=
 if (!decide (1≤x.kind∧x.kind≤8) || !codeOk x)=true then 3 else if wY x=true then 15 else if rV x.text=false then 12 else if (decide (x.kind=1∨x.kind=5) && qF x.text)=true then 11
 else if (decide (x.kind=5) && decide (1024 < (x.text.size:Int)))=true then 10 else if (Bn x && !pX x.text)=true then 13 else 0
theorem akt (G:GH) (w0:World) (hG:Hold G w0) (x:ay) (p d l:aj) (fA rA:Option Addr) (fc rc:Nat) (hs:x.text.size < 4611686018427387904) :
  Calls prog 197 #[.agg #[vi x.kind,vi x.code,vi x.id,.string x.text,p,vi x.head.marks.ins,vi x.head.marks.move,d,l,.slice fA x.flow.length fc,.slice rA x.rows.length rc]] w0 (bR w0 G fun u G'=>u=vi (jW x)∧G=G'):=by
 refine eN [(0,_)] func197 rfl ntmps197 rfl rfl hG ?_;intro a H;refine dz (fun _ K1=>?_);refine eU (cs:=[_,_,_,_,_,_,_,_,_,_,_]) H wn rfl rfl rfl ?_;clear H;intro b1 a w hb1 H;refine kH H (ak K1 rfl ?_);clear H K1;intro a H;refine oO (ι:=Bool) (Tc:=[(1,_)]) (Lc:=[(_,_)]) (fun gh=>[(3,.bool gh)]) (fun gh=>[]) (fun gh=>G) (fun gh=>gh=Bn x) (by exact (H).sub ⟨rfl,av⟩) ?_ ?_
 ·skip;refine kP H (SC (aW gG aD 0 rfl rfl (Rc rfl (Rm rfl (Sp 11 rfl ?_ ?_))))) <;> clear H
  ·intro h11 a H
   try have sN:=dT h11
   refine kH H (YF BN h11 rfl (YO aD 0 h11 rfl (YC h11 rfl (Pt h11 rfl (Ra rfl ?_)))));clear H;intro a H;refine aI ?_;refine ⟨_,by exact (H).sub ⟨rfl,rfl,av⟩,?_⟩
   unfold Bn;first|(simp_all;done)
  intro h11 a H
  try have sN:=dF h11
  refine kH H (aT h11 rfl (Pf h11 rfl (Ra rfl ?_)));clear H;intro a H;refine aI ?_;refine ⟨_,by exact (H).sub ⟨rfl,rfl,av⟩,?_⟩
  unfold Bn;first|(simp_all;done)
 clear H;intro gh a w hI H;obtain ⟨st,hgh⟩:∃ x,x=gh:=⟨_,rfl⟩;subst hgh;have hst:=hI;dsimp only [lca,aS] at H;refine oO (ι:=Bool) (Tc:=[(1,_),(3,_)]) (Lc:=[(_,_)]) (fun gh=>[(4,.bool gh)]) (fun gh=>[]) (fun gh=>G) (fun gh=>gh=Ao x) (by exact (H).sub ⟨rfl,rfl,av⟩) ?_ ?_
 ·skip;refine kP H (SC (aW gG aD 0 rfl rfl (Rc rfl (Rm rfl (Sp 19 rfl ?_ ?_))))) <;> clear H
  ·intro h19 a H
   try have xM:=dT h19
   refine kH H (aT h19 rfl (Pt h19 rfl (Rm rfl (Ks rfl rfl (Pt rfl rfl (Ra rfl ?_))))));clear H;intro a H;refine aI ?_;refine ⟨_,by exact (H).sub ⟨rfl,rfl,rfl,av⟩,?_⟩
   unfold Ao;first|(simp_all;done)
  intro h19 a H
  try have xM:=dF h19
  refine kH H (YF gG h19 rfl (YO aD 0 h19 rfl (YC h19 rfl (Pf h19 rfl (Rm rfl (Sp 24 rfl ?_ ?_)))))) <;> clear H
  ·intro eP a H
   try have nA:=dT eP
   refine kH H (Ks eP rfl (Pt eP rfl (Ra rfl ?_)));clear H;intro a H;refine aI ?_;refine ⟨_,by exact (H).sub ⟨rfl,rfl,rfl,av⟩,?_⟩
   unfold Ao;first|(simp_all;done)
  intro eP a H
  try have nA:=dF eP
  refine kH H (YM eP rfl (Pf eP rfl (Ra rfl ?_)));clear H;intro a H;refine aI ?_;refine ⟨_,by exact (H).sub ⟨rfl,rfl,rfl,av⟩,?_⟩
  unfold Ao;first|(simp_all;done)
 clear H;intro gh a w hI H;obtain ⟨wd,hgh⟩:∃ x,x=gh:=⟨_,rfl⟩;subst hgh;have hwd:=hI;dsimp only [lca,aS] at H;refine oO (ι:=Bool) (Tc:=[(1,_),(3,_),(4,_)]) (Lc:=[(_,_)]) (fun gh=>[(5,.bool gh)]) (fun gh=>[]) (fun gh=>G) (fun gh=>gh=zZ x) (by exact (H).sub ⟨rfl,rfl,rfl,av⟩) ?_ ?_
 ·skip;refine kP H (SC (aW gG aD 0 rfl rfl (Rc rfl (Rm rfl (Sp 30 rfl ?_ ?_))))) <;> clear H
  ·intro kG a H
   try have p30:=dT kG
   refine kH H (aT kG rfl (Pt kG rfl (Rm rfl (aT rfl rfl (Pt rfl rfl (Ra rfl ?_))))));clear H;intro a H;refine aI ?_;refine ⟨_,by exact (H).sub ⟨rfl,rfl,rfl,rfl,av⟩,?_⟩
   unfold zZ;first|(simp_all;done)
  intro kG a H
  try have p30:=dF kG
  refine kH H (YF gG kG rfl (YO aD 0 kG rfl (YC kG rfl (Pf kG rfl (Rm rfl (Sp 35 rfl ?_ ?_)))))) <;> clear H
  ·intro qj a H
   try have p35:=dT qj
   refine kH H (aT qj rfl (Pt qj rfl (Ra rfl ?_)));clear H;intro a H;refine aI ?_;refine ⟨_,by exact (H).sub ⟨rfl,rfl,rfl,rfl,av⟩,?_⟩
   unfold zZ;first|(simp_all;done)
  intro qj a H
  try have p35:=dF qj
  refine kH H (YF gG qj rfl (YO aD 0 qj rfl (YC qj rfl (Pf qj rfl (Ra rfl ?_)))));clear H;intro a H;refine aI ?_;refine ⟨_,by exact (H).sub ⟨rfl,rfl,rfl,rfl,av⟩,?_⟩
  unfold zZ;first|(simp_all;done)
 clear H;intro gh a w hI H;obtain ⟨nm,hgh⟩:∃ x,x=gh:=⟨_,rfl⟩;subst hgh;have hnm:=hI;dsimp only [lca,aS] at H;refine kP H (SR fun _ K2=>ak K2 rfl ?_);clear H K2;intro a H;refine oO (ι:=Bool) (Tc:=[(1,_),(3,_),(4,_),(5,_)]) (Lc:=[(_,_)]) (fun gh=>[(6,.bool gh)]) (fun gh=>[]) (fun gh=>G) (fun gh=>gh=codeOk x) (by exact (H).sub ⟨rfl,rfl,rfl,rfl,av⟩) ?_ ?_
 ·skip;refine kP H (SR fun _ K3=>aW gG aD 0 rfl rfl (Kz K3 (SB (SR fun _ K4=>Rc rfl (ak K4 rfl (Cd rfl ?_ ?_)))))) <;> clear H K3 K4
  ·intro Ca a H
   try have p42:=dT Ca
   refine kP H (SC (aW BN aD 0 rfl rfl ?_));clear H;intro a H;refine s_call zJ H wn rfl (zX _ _ H.ro x.code 1 3) rfl ?_;clear H;rintro v46 _ a w ⟨rfl,rfl⟩ - H;refine kH H (Ra rfl ?_);clear H;intro a H;refine aI ?_;refine ⟨_,by exact (H).sub ⟨rfl,rfl,rfl,rfl,rfl,av⟩,?_⟩
   unfold codeOk;first|(simp_all;done)
  intro Ca a H
  try have p42:=dF Ca
  refine kP H (SR fun _ K5=>Rc rfl (ak K5 rfl (Cd rfl ?_ ?_))) <;> clear H K5
  ·intro h47 a H
   try have p47:=dT h47
   refine kP H (SC (aW BN aD 0 rfl rfl ?_));clear H;intro a H;refine s_call zJ H wn rfl (zX _ _ H.ro x.code 1 2) rfl ?_;clear H;rintro v51 _ a w ⟨rfl,rfl⟩ - H;refine kH H (Ra rfl ?_);clear H;intro a H;refine aI ?_;refine ⟨_,by exact (H).sub ⟨rfl,rfl,rfl,rfl,rfl,av⟩,?_⟩
   unfold codeOk;first|(simp_all;done)
  intro h47 a H
  try have p47:=dF h47
  refine kP H (SR fun _ K6=>Rc rfl (ak K6 rfl (Cd rfl ?_ ?_))) <;> clear H K6
  ·intro tN a H
   try have p52:=dT tN
   refine kP H (SC (aW BN aD 0 rfl rfl ?_));clear H;intro a H;refine s_call zJ H wn rfl (zX _ _ H.ro x.code 1 4) rfl ?_;clear H;rintro v56 _ a w ⟨rfl,rfl⟩ - H;refine kH H (Ra rfl ?_);clear H;intro a H;refine aI ?_;refine ⟨_,by exact (H).sub ⟨rfl,rfl,rfl,rfl,rfl,av⟩,?_⟩
   unfold codeOk;first|(simp_all;done)
  intro tN a H
  try have p52:=dF tN
  refine fI ?_;refine ⟨_,by exact (H).sub ⟨rfl,rfl,rfl,rfl,rfl,av⟩,?_⟩
  unfold codeOk;first|(simp_all;done)
 clear H;intro gh a w hI H;obtain ⟨ck,hgh⟩:∃ x,x=gh:=⟨_,rfl⟩;subst hgh;have hck:=hI;dsimp only [lca,aS] at H;refine oO (ι:=Bool) (Tc:=[(1,_),(3,_),(4,_),(5,_),(6,_)]) (Lc:=[(_,_)]) (fun gh=>[(7,.bool gh)]) (fun gh=>[]) (fun gh=>G) (fun gh=>gh=BJ x) (by exact (H).sub ⟨rfl,rfl,rfl,rfl,rfl,av⟩) ?_ ?_
 ·skip;refine kP H (SC (aW gG aD 0 rfl rfl (Rc rfl (Rm rfl (Sp 60 rfl ?_ ?_))))) <;> clear H
  ·intro fU a H
   try have p60:=dT fU
   refine kH H (aT fU rfl (Pt fU rfl (Rm rfl (aT rfl rfl (Pt rfl rfl (Ra rfl ?_))))));clear H;intro a H;refine aI ?_;refine ⟨_,by exact (H).sub ⟨rfl,rfl,rfl,rfl,rfl,rfl,av⟩,?_⟩
   unfold BJ;first|(simp_all;done)
  intro fU a H
  try have p60:=dF fU
  refine kH H (YF gG fU rfl (YO aD 0 fU rfl (YC fU rfl (Pf fU rfl (Rm rfl (Sp 65 rfl ?_ ?_)))))) <;> clear H
  ·intro lq a H
   try have p65:=dT lq
   refine kH H (aT lq rfl (Pt lq rfl (Ra rfl ?_)));clear H;intro a H;refine aI ?_;refine ⟨_,by exact (H).sub ⟨rfl,rfl,rfl,rfl,rfl,rfl,av⟩,?_⟩
   unfold BJ;first|(simp_all;done)
  intro lq a H
  try have p65:=dF lq
  refine kH H (YF gG lq rfl (YO aD 0 lq rfl (YC lq rfl (Pf lq rfl (Ra rfl ?_)))));clear H;intro a H;refine aI ?_;refine ⟨_,by exact (H).sub ⟨rfl,rfl,rfl,rfl,rfl,rfl,av⟩,?_⟩
  unfold BJ;first|(simp_all;done)
 clear H;intro gh a w hI H;obtain ⟨cd,hgh⟩:∃ x,x=gh:=⟨_,rfl⟩;subst hgh;have hcd:=hI;dsimp only [lca,aS] at H;refine kP H (SQ fun _ K7=>SB (SR fun _ K8=>?_));clear H;intro a H;refine oJ (ι:=Bool) (Tc:=[(1,_),(3,_),(4,_),(5,_),(7,_)]) 8 (fun (q0:Bool)=>[(78,.bool q0)]) (fun (q0:Bool)=>q0=(!decide (1≤x.kind∧x.kind≤8) || !codeOk x)) (by exact H.sub ⟨rfl,rfl,rfl,rfl,rfl,av⟩) ?_ ?_
 ·intro abq;refine kH H (aW gG aD 0 rfl rfl ?_);clear H;intro a H;refine s_call zJ H wn rfl (zX _ _ H.ro x.kind 1 8) rfl ?_;clear H;rintro v73 _ a w ⟨rfl,rfl⟩ - H;refine kH H (Rn rfl (Rm rfl (Sp 75 rfl ?_ ?_))) <;> clear H
  ·intro F7 a H
   try have p75:=dT F7
   refine kH H (aP F7 rfl (Pt F7 rfl ?_));clear H;intro a H;refine abq (_) _ _ ?_ (by exact H.sub ⟨rfl,rfl,rfl,rfl,rfl,rfl,av⟩);rw [← hck];clear hst hwd hnm hck hcd;(try clear hq1);(try clear hq2);(try clear hq3);(try clear hq0);(try clear hq4);(try clear iF);(try clear iR);(try clear iT);simp_all
  intro F7 a H
  try have p75:=dF F7
  refine kH H (YM F7 rfl (YN F7 rfl (Pf F7 rfl ?_)));clear H;intro a H;refine abq (_) _ _ ?_ (by exact H.sub ⟨rfl,rfl,rfl,rfl,rfl,rfl,av⟩);rw [← hck];clear hst hwd hnm hck hcd;(try clear hq1);(try clear hq2);(try clear hq3);(try clear hq0);(try clear hq4);(try clear iF);(try clear iR);(try clear iT);simp_all
 clear H;intro q0 a w hI H;dsimp only [lca,aS] at H;simp only [ow,lK];have hq0:=hI;refine kH H (ak K8 rfl (Cd rfl ?_ ?_)) <;> clear H K8
 ·intro pI a H
  refine aO (fun _ K9=>?_)
  have e:jW x=3:=by unfold jW;rw [au (by rw [← hq0];exact pI)]
  exact kP H (SC (aM K9 rfl (LR results197 rfl fun H=>H.rt ⟨by rw [e],rfl⟩)))
 intro pI a H
 try have p70:=dF pI
 have f0:¬ (!decide (1≤x.kind∧x.kind≤8) || !codeOk x)=true:=by rw [← hq0,pI];decide
 refine dz (fun _ aZ=>?_);refine oJ (ι:=Bool) (Tc:=[(1,_),(3,_),(4,_),(5,_)]) 7 (fun (q1:Bool)=>[(86,.bool q1)]) (fun (q1:Bool)=>q1=(!BJ x && decide (x.code≠0))) (by exact H.sub ⟨rfl,rfl,rfl,rfl,av⟩) ?_ ?_
 ·intro abr;refine kH H (Rm rfl (Rn rfl (Rm rfl (Sp 82 rfl ?_ ?_)))) <;> clear H
  ·intro yM a H
   try have p82:=dT yM
   refine kH H (YF BN yM rfl (YO aD 0 yM rfl (YC yM rfl (Pt yM rfl ?_))));clear H;intro a H;refine abr (_) _ _ ?_ (by exact H.sub ⟨rfl,rfl,rfl,rfl,rfl,av⟩);rw [← hcd];clear hst hwd hnm hck hcd;(try clear hq1);(try clear hq2);(try clear hq3);(try clear hq0);(try clear hq4);(try clear iF);(try clear iR);(try clear iT);simp_all
  intro yM a H
  try have p82:=dF yM
  refine kH H (aT yM rfl (Pf yM rfl ?_));clear H;intro a H;refine abr (_) _ _ ?_ (by exact H.sub ⟨rfl,rfl,rfl,rfl,rfl,av⟩);rw [← hcd];clear hst hwd hnm hck hcd;(try clear hq1);(try clear hq2);(try clear hq3);(try clear hq0);(try clear hq4);(try clear iF);(try clear iR);(try clear iT);simp_all
 clear H;intro q1 a w hI H;dsimp only [lca,aS] at H;simp only [ow,lK];have hq1:=hI;refine oJ (ι:=Bool) (Tc:=[(1,_),(3,_),(4,_)]) 9 (fun (q2:Bool)=>[(95,.bool q2)]) (fun (q2:Bool)=>q2=(q1 || !zZ x && decide (x.id≠0))) (by exact H.sub ⟨rfl,rfl,rfl,av⟩) ?_ ?_
 ·intro Vl;refine kH H (Rm rfl (Sp 87 rfl ?_ ?_)) <;> clear H
  ·intro h87 a H
   try have Xq:=dT h87
   refine kH H (aT h87 rfl (Ku rfl (Ku rfl (Ku rfl (Ks h87 rfl (Pt h87 rfl ?_))))));clear H;intro a H;refine Vl (_) _ _ ?_ (by exact H.sub ⟨rfl,rfl,rfl,rfl,av⟩);rw [← hnm];clear hst hwd hnm hck hcd;(try clear hq1);(try clear hq2);(try clear hq3);(try clear hq0);(try clear hq4);(try clear iF);(try clear iR);(try clear iT);simp_all
  intro h87 a H
  try have Xq:=dF h87
  refine kH H (YM h87 rfl (YN h87 rfl (YM h87 rfl (Sp 90 rfl ?_ ?_)))) <;> clear H
  ·intro EH a H
   try have p90:=dT EH
   refine kH H (YF qg EH rfl (YO aD 0 EH rfl (YC EH rfl (PT h87 EH rfl (Pf h87 rfl ?_)))));clear H;intro a H;refine Vl (_) _ _ ?_ (by exact H.sub ⟨rfl,rfl,rfl,rfl,av⟩);rw [← hnm];clear hst hwd hnm hck hcd;(try clear hq1);(try clear hq2);(try clear hq3);(try clear hq0);(try clear hq4);(try clear iF);(try clear iR);(try clear iT);simp_all
  intro EH a H
  try have p90:=dF EH
  refine kH H (aT EH rfl (PF h87 EH rfl (Pf h87 rfl ?_)));clear H;intro a H;refine Vl (_) _ _ ?_ (by exact H.sub ⟨rfl,rfl,rfl,rfl,av⟩);rw [← hnm];clear hst hwd hnm hck hcd;(try clear hq1);(try clear hq2);(try clear hq3);(try clear hq0);(try clear hq4);(try clear iF);(try clear iR);(try clear iT);simp_all
 clear H;intro q2 a w hI H;dsimp only [lca,aS] at H;simp only [ow,lK];have hq2:=hI;refine oJ (ι:=Bool) (Tc:=[(1,_),(3,_)]) 9 (fun (q3:Bool)=>[(104,.bool q3)]) (fun (q3:Bool)=>q3=(q2 || !Ao x && !qF x.text)) (by exact H.sub ⟨rfl,rfl,av⟩) ?_ ?_
 ·intro Vi;refine kH H (Rm rfl (Sp 96 rfl ?_ ?_)) <;> clear H
  ·intro vB a H
   try have OE:=dT vB
   refine kH H (aT vB rfl (Ku rfl (Ku rfl (Ku rfl (Ks vB rfl (Pt vB rfl ?_))))));clear H;intro a H;refine Vi (_) _ _ ?_ (by exact H.sub ⟨rfl,rfl,rfl,av⟩);rw [← hwd];clear hst hwd hnm hck hcd;(try clear hq1);(try clear hq2);(try clear hq3);(try clear hq0);(try clear hq4);(try clear iF);(try clear iR);(try clear iT);simp_all [qF]
  intro vB a H
  try have OE:=dF vB
  refine kH H (YM vB rfl (YN vB rfl (YM vB rfl (Sp 99 rfl ?_ ?_)))) <;> clear H
  ·intro EJ a H
   try have p99:=dT EJ
   refine kH H (YF uz EJ rfl (YO gX 0 EJ rfl ?_));clear H;intro a H;refine aee H (wg H rfl rfl EJ) rfl rfl rfl ?_;clear H;intro a H;refine kH H (PT vB EJ rfl (Pf vB rfl ?_));clear H;intro a H;refine Vi (_) _ _ ?_ (by exact H.sub ⟨rfl,rfl,rfl,av⟩);rw [← hwd];clear hst hwd hnm hck hcd;(try clear hq1);(try clear hq2);(try clear hq3);(try clear hq0);(try clear hq4);(try clear iF);(try clear iR);(try clear iT);simp_all [qF]
  intro EJ a H
  try have p99:=dF EJ
  refine kH H (aT EJ rfl (PF vB EJ rfl (Pf vB rfl ?_)));clear H;intro a H;refine Vi (_) _ _ ?_ (by exact H.sub ⟨rfl,rfl,rfl,av⟩);rw [← hwd];clear hst hwd hnm hck hcd;(try clear hq1);(try clear hq2);(try clear hq3);(try clear hq0);(try clear hq4);(try clear iF);(try clear iR);(try clear iT);simp_all [qF]
 clear H;intro q3 a w hI H;dsimp only [lca,aS] at H;simp only [ow,lK];have hq3:=hI;refine oJ (ι:=Bool) (Tc:=[(1,_),(3,_)]) 11 (fun (q4:Bool)=>[(115,.bool q4)]) (fun (q4:Bool)=>q4=(q3 || decide (x.kind≠6) && decide (0 < (x.flow.length:Int)))) (by exact H.sub ⟨rfl,rfl,av⟩) ?_ ?_
 ·intro Vj;refine kH H (Rm rfl (Sp 105 rfl ?_ ?_)) <;> clear H
  ·intro tK a H
   try have LK:=dT tK
   refine kH H (aP tK rfl (aP tK rfl (Ku rfl (Ku rfl (Ku rfl (Ku rfl (Ks tK rfl (Pt tK rfl ?_))))))));clear H;intro a H;refine Vj (_) _ _ ?_ (by exact H.sub ⟨rfl,rfl,rfl,av⟩);clear hst hwd hnm hck hcd;(try clear hq1);(try clear hq2);(try clear hq3);(try clear hq0);(try clear hq4);(try clear iF);(try clear iR);(try clear iT);simp_all
  intro tK a H
  try have LK:=dF tK
  refine kH H (YF gG tK rfl (YO aD 0 tK rfl (YC tK rfl (YM tK rfl (Sp 109 rfl ?_ ?_))))) <;> clear H
  ·intro nX a H
   try have Xc:=dT nX
   refine kH H (YF yI nX rfl (YO iM 0 nX rfl (YL iN nX rfl (YC nX rfl (PT tK nX rfl (Pf tK rfl ?_))))));clear H;intro a H;refine Vj (_) _ _ ?_ (by exact H.sub ⟨rfl,rfl,rfl,av⟩);clear hst hwd hnm hck hcd;(try clear hq1);(try clear hq2);(try clear hq3);(try clear hq0);(try clear hq4);(try clear iF);(try clear iR);(try clear iT);simp_all
  intro nX a H
  try have Xc:=dF nX
  refine kH H (aP nX rfl (aP nX rfl (PF tK nX rfl (Pf tK rfl ?_))));clear H;intro a H;refine Vj (_) _ _ ?_ (by exact H.sub ⟨rfl,rfl,rfl,av⟩);clear hst hwd hnm hck hcd;(try clear hq1);(try clear hq2);(try clear hq3);(try clear hq0);(try clear hq4);(try clear iF);(try clear iR);(try clear iT);simp_all
 clear H;intro q4 a w hI H;dsimp only [lca,aS] at H;simp only [ow,lK];have hq4:=hI;refine oJ (ι:=Bool) (Tc:=[(1,_),(3,_)]) 11 (fun (q5:Bool)=>[(126,.bool q5)]) (fun (q5:Bool)=>q5=wY x) (by exact H.sub ⟨rfl,rfl,av⟩) ?_ ?_
 ·intro Vk;refine kH H (Rm rfl (Sp 116 rfl ?_ ?_)) <;> clear H
  ·intro h116 a H
   try have Rq:=dT h116
   refine kH H (aP h116 rfl (aP h116 rfl (Ku rfl (Ku rfl (Ku rfl (Ku rfl (Ks h116 rfl (Pt h116 rfl ?_))))))));clear H;intro a H;refine Vk (_) _ _ ?_ (by exact H.sub ⟨rfl,rfl,rfl,av⟩);rw [show wY x=(q4 || decide (x.kind≠7) && decide (0 < (x.rows.length:Int))) by rw [hq4,hq3,hq2,hq1];rfl];clear hq4;clear hst hwd hnm hck hcd;(try clear hq1);(try clear hq2);(try clear hq3);(try clear hq0);(try clear hq4);(try clear iF);(try clear iR);(try clear iT);simp_all
  intro h116 a H
  try have Rq:=dF h116
  refine kH H (YF gG h116 rfl (YO aD 0 h116 rfl (YC h116 rfl (YM h116 rfl (Sp 120 rfl ?_ ?_))))) <;> clear H
  ·intro nS a H
   try have GQ:=dT nS
   refine kH H (YF rC nS rfl (YO rR 0 nS rfl (YL jH nS rfl (YC nS rfl (PT h116 nS rfl (Pf h116 rfl ?_))))));clear H;intro a H;refine Vk (_) _ _ ?_ (by exact H.sub ⟨rfl,rfl,rfl,av⟩);rw [show wY x=(q4 || decide (x.kind≠7) && decide (0 < (x.rows.length:Int))) by rw [hq4,hq3,hq2,hq1];rfl];clear hq4;clear hst hwd hnm hck hcd;(try clear hq1);(try clear hq2);(try clear hq3);(try clear hq0);(try clear hq4);(try clear iF);(try clear iR);(try clear iT);simp_all
  intro nS a H
  try have GQ:=dF nS
  refine kH H (aP nS rfl (aP nS rfl (PF h116 nS rfl (Pf h116 rfl ?_))));clear H;intro a H;refine Vk (_) _ _ ?_ (by exact H.sub ⟨rfl,rfl,rfl,av⟩);rw [show wY x=(q4 || decide (x.kind≠7) && decide (0 < (x.rows.length:Int))) by rw [hq4,hq3,hq2,hq1];rfl];clear hq4;clear hst hwd hnm hck hcd;(try clear hq1);(try clear hq2);(try clear hq3);(try clear hq0);(try clear hq4);(try clear iF);(try clear iR);(try clear iT);simp_all
 clear H;intro q5 a w hI H;dsimp only [lca,aS] at H;simp only [ow,lK];have iF:=hI;refine kH H (ak aZ rfl (Cd rfl ?_ ?_)) <;> clear H aZ
 ·intro jw a H
  refine aO (fun _ bN=>?_)
  have e:jW x=15:=by unfold jW;rw [ah f0,au (by rw [← iF];exact jw)]
  exact kP H (SC (aM bN rfl (LR results197 rfl fun H=>H.rt ⟨by rw [e],rfl⟩)))
 intro jw a H
 try have Ab:=dF jw
 have f1:¬ wY x=true:=by rw [← iF,jw];decide
 refine kP H (SR fun _ bQ=>aW uz gX 0 rfl rfl ?_);clear H;intro a H;refine s_call FU H wn rfl (Ho _ _ H.ro x.text hs) rfl ?_;clear H;rintro v130 _ a w ⟨rfl,rfl⟩ - H;refine kH H (Rn rfl (ak bQ rfl (Cd rfl ?_ ?_))) <;> clear H bQ
 ·intro h127 a H
  refine aO (fun _ bT=>?_)
  have e:jW x=12:=by unfold jW;rw [ah f0,ah f1,au (by simpa using h127)]
  exact kP H (SC (aM bT rfl (LR results197 rfl fun H=>H.rt ⟨by rw [e],rfl⟩)))
 intro h127 a H
 try have adx:=dF h127
 have f2:¬ rV x.text=false:=by simpa using h127
 refine dz (fun _ cu=>?_);refine oJ (ι:=Bool) (Tc:=[(1,_),(3,_)]) 13 (fun (q6:Bool)=>[(145,.bool q6)]) (fun (q6:Bool)=>q6=(decide (x.kind=1∨x.kind=5) && qF x.text)) (by exact H.sub ⟨rfl,rfl,av⟩) ?_ ?_
 ·intro Vn;refine kH H (aW gG aD 0 rfl rfl (Rc rfl (Rm rfl (Sp 136 rfl ?_ ?_)))) <;> clear H
  ·intro rD a H
   try have Xf:=dT rD
   refine kH H (aT rD rfl (Pt rD rfl (Rm rfl ?_)));clear H;intro a H;refine GZ uz H (wg H rfl rfl rfl) rfl rfl ?_;clear H;intro a H;refine Af gX H (wg H rfl rfl rfl) rfl (H.hp.pQ 0 rfl rfl) rfl ?_;clear H;intro a H;refine GY H (wg H rfl rfl rfl) rfl rfl rfl ?_;clear H;intro a H;refine kH H (Pt rfl rfl ?_);clear H;intro a H;refine Vn (_) _ _ ?_ (by exact H.sub ⟨rfl,rfl,rfl,av⟩);clear hst hwd hnm hck hcd;(try clear hq1);(try clear hq2);(try clear hq3);(try clear hq0);(try clear hq4);(try clear iF);(try clear iR);(try clear iT);simp_all [qF]
  intro rD a H
  try have Xf:=dF rD
  refine kH H (YF gG rD rfl (YO aD 0 rD rfl (YC rD rfl (Pf rD rfl (Rm rfl (Sp 141 rfl ?_ ?_)))))) <;> clear H
  ·intro ED a H
   try have aoD:=dT ED
   refine kH H (YF uz ED rfl (YO gX 0 ED rfl ?_));clear H;intro a H;refine GY H (wg H rfl rfl ED) rfl rfl rfl ?_;clear H;intro a H;refine kH H (Pt ED rfl ?_);clear H;intro a H;refine Vn (_) _ _ ?_ (by exact H.sub ⟨rfl,rfl,rfl,av⟩);clear hst hwd hnm hck hcd;(try clear hq1);(try clear hq2);(try clear hq3);(try clear hq0);(try clear hq4);(try clear iF);(try clear iR);(try clear iT);simp_all [qF]
  intro ED a H
  try have aoD:=dF ED
  refine kH H (aT ED rfl (Pf ED rfl ?_));clear H;intro a H;refine Vn (_) _ _ ?_ (by exact H.sub ⟨rfl,rfl,rfl,av⟩);clear hst hwd hnm hck hcd;(try clear hq1);(try clear hq2);(try clear hq3);(try clear hq0);(try clear hq4);(try clear iF);(try clear iR);(try clear iT);simp_all [qF]
 clear H;intro q6 a w hI H;dsimp only [lca,aS] at H;simp only [ow,lK];have iR:=hI;refine kH H (ak cu rfl (Cd rfl ?_ ?_)) <;> clear H cu
 ·intro EC a H
  refine aO (fun _ dL=>?_)
  have e:jW x=11:=by unfold jW;rw [ah f0,ah f1,ah f2,au (by rw [← iR];exact EC)]
  exact kP H (SC (aM dL rfl (LR results197 rfl fun H=>H.rt ⟨by rw [e],rfl⟩)))
 intro EC a H
 try have aoB:=dF EC
 have f3:¬ (decide (x.kind=1∨x.kind=5) && qF x.text)=true:=by rw [← iR,EC];decide
 refine dz (fun _ dO=>?_);refine oJ (ι:=Bool) (Tc:=[(1,_),(3,_)]) 9 (fun (q7:Bool)=>[(155,.bool q7)]) (fun (q7:Bool)=>q7=(decide (x.kind=5) && decide (1024 < (x.text.size:Int)))) (by exact H.sub ⟨rfl,rfl,av⟩) ?_ ?_
 ·intro abu;refine kH H (aW gG aD 0 rfl rfl (Rc rfl (Rm rfl (Sp 150 rfl ?_ ?_)))) <;> clear H
  ·intro BX a H
   try have aoG:=dT BX
   refine kH H (YF uz BX rfl (YO gX 0 BX rfl ?_));clear H;intro a H;refine Cz iO H (wg H rfl rfl BX) rfl rfl ?_;clear H;intro a H;refine kH H (YC BX rfl (Pt BX rfl ?_));clear H;intro a H;refine abu (_) _ _ ?_ (by exact H.sub ⟨rfl,rfl,rfl,av⟩);clear hst hwd hnm hck hcd;(try clear hq1);(try clear hq2);(try clear hq3);(try clear hq0);(try clear hq4);(try clear iF);(try clear iR);(try clear iT);simp_all
  intro BX a H
  try have aoG:=dF BX
  refine kH H (aP BX rfl (aP BX rfl (Pf BX rfl ?_)));clear H;intro a H;refine abu (_) _ _ ?_ (by exact H.sub ⟨rfl,rfl,rfl,av⟩);clear hst hwd hnm hck hcd;(try clear hq1);(try clear hq2);(try clear hq3);(try clear hq0);(try clear hq4);(try clear iF);(try clear iR);(try clear iT);simp_all
 clear H;intro q7 a w hI H;dsimp only [lca,aS] at H;simp only [ow,lK];have iT:=hI;refine kH H (ak dO rfl (Cd rfl ?_ ?_)) <;> clear H dO
 ·intro Qj a H
  refine aO (fun _ dJ=>?_)
  have e:jW x=10:=by unfold jW;rw [ah f0,ah f1,ah f2,ah f3,au (by rw [← iT];exact Qj)]
  exact kP H (SC (aM dJ rfl (LR results197 rfl fun H=>H.rt ⟨by rw [e],rfl⟩)))
 intro Qj a H
 try have atj:=dF Qj
 have f4:¬ (decide (x.kind=5) && decide (1024 < (x.text.size:Int)))=true:=by rw [← iT,Qj];decide
 refine dz (fun _ dW=>?_);refine oJ (ι:=Bool) (Tc:=[]) 7 (fun (q8:Bool)=>[(163,.bool q8)]) (fun (q8:Bool)=>q8=(Bn x && !pX x.text)) (by exact H.sub trivial) ?_ ?_
 ·intro abw;refine kH H (Rm rfl (Rm rfl (Sp 158 rfl ?_ ?_))) <;> clear H
  ·intro BZ a H
   try have aoH:=dT BZ
   refine kH H (YF uz BZ rfl (YO gX 0 BZ rfl ?_));clear H;intro a H;refine s_call Nc H (wg H rfl rfl BZ) rfl (MX _ _ H.ro x.text hs) rfl ?_;clear H;rintro atV _ a w ⟨rfl,rfl⟩ - H;refine kH H (YN BZ rfl (Pt BZ rfl ?_));clear H;intro a H;refine abw (_) _ _ ?_ (by exact H.sub ⟨rfl,av⟩);rw [← hst];clear hst hwd hnm hck hcd;(try clear hq1);(try clear hq2);(try clear hq3);(try clear hq0);(try clear hq4);(try clear iF);(try clear iR);(try clear iT);simp_all
  intro BZ a H
  try have aoH:=dF BZ
  refine kH H (aP BZ rfl (aP BZ rfl (Pf BZ rfl ?_)));clear H;intro a H;refine abw (_) _ _ ?_ (by exact H.sub ⟨rfl,av⟩);rw [← hst];clear hst hwd hnm hck hcd;(try clear hq1);(try clear hq2);(try clear hq3);(try clear hq0);(try clear hq4);(try clear iF);(try clear iR);(try clear iT);simp_all
 clear H;intro q8 a w hI H;dsimp only [lca,aS] at H;simp only [ow,lK];have hq8:=hI;refine kH H (ak dW rfl (Cd rfl ?_ ?_)) <;> clear H dW
 ·intro UW a H
  refine aO (fun _ eG=>?_)
  have e:jW x=13:=by unfold jW;rw [ah f0,ah f1,ah f2,ah f3,ah f4,au (by rw [← hq8];exact UW)]
  exact kP H (SC (aM eG rfl (LR results197 rfl fun H=>H.rt ⟨by rw [e],rfl⟩)))
 intro UW a H
 refine fI ?_;refine K7 _ _ ?_;clear K7;refine aO (fun _ eB=>?_)
 have e:jW x=0:=by unfold jW;rw [ah f0,ah f1,ah f2,ah f3,ah f4,ah (by rw [← hq8,UW];decide)]
 exact kP H (SC (aM eB rfl (LR results197 rfl fun H=>H.rt ⟨by rw [e],rfl⟩)))
end
section
open Go.RowKit
structure CS where
 n:Int
 bE:List Int
abbrev CR:=Int × CS
def gK (r:CR) (f:CS→CR):CR:=if r.1≠0 then r else f r.2
theorem uw {r:CR} {f:CS→CR} (h:r.1=0):gK r f=f r.2:=by rw [gK,ah (fun h'=>h' h)]
theorem uU {r:CR} {f:CS→CR} (h:r.1≠0):gK r f=r:=by rw [gK,au h]
def jL (s:CS) (x:Int):CR:=(nZ s.bE x,⟨s.n,kg s.bE x⟩)
def kU (body note:Bool) (t k i:Int) (s:CS):CR :=
 if k=3 then (bS (!body) 19,s) else if k=6 then gK (bS note 19,s) fun s=>jL s i else if k=7 then gK (bS (decide (4≤t)) 17,s) fun s=>jL s i else if k=8 then (bS (!decide (1≤i∧i≤1073741824)) 18,s) else (0,s)
def uh (C:gQ) (h:jJ) (n:Nat):Int:=bV [gB C 9 h,bS (decide ((n:Int)=0)) 11,bS (decide (32 < (n:Int))) 9]
def lC (n:Nat) (f:CS→CR) (s:CS):CR:=if n=0 then (11,s) else if 256 < n then (9,s) else f s
mutual
def fK (C:gQ) (body note:Bool) (t:Int):ay→CS→CR
 | .mk k c i tx h f r,s =>
  gK (jW (.mk k c i tx h f r),s) fun s=>gK (kU body note t k i ⟨s.n+(if k=1 then yE tx else 1:Nat),s.bE⟩) fun s=>gK (gB C k h,s) fun s =>
   if k=6 then iG C false true t f s else if k=7 then lC r.length (fun s=>iw C note (t+1) r s) s else (0,s)
def DW (C:gQ) (note:Bool) (t:Int):bJ→CS→CR
 | .mk h cs,s=>gK (uh C h cs.length,s) fun s=>nQ C note t cs s
def cellC (C:gQ) (note:Bool) (t:Int):bB→CS→CR
 | .mk i h f,s=>gK (jL s i) fun s=>gK (gB C 10 h,s) fun s=>iG C false note t f s
def iG (C:gQ) (body note:Bool) (t:Int):List ay→CS→CR
 | [],s=>(0,s)
 | x :: r,s=>gK (fK C body note t x s) fun s=>iG C body note t r s
def iw (C:gQ) (note:Bool) (t:Int):List bJ→CS→CR
 | [],s=>(0,s)
 | x :: r,s=>gK (DW C note t x s) fun s=>iw C note t r s
def nQ (C:gQ) (note:Bool) (t:Int):List bB→CS→CR
 | [],s=>(0,s)
 | x :: r,s=>gK (cellC C note t x s) fun s=>nQ C note t r s
end
theorem Oq (C:gQ) (body note:Bool) (t:Int) (x:ay) (s:CS):fK C body note t x s=gK (jW x,s) fun s=>gK (kU body note t x.kind x.id ⟨s.n+(gP x:Nat),s.bE⟩) fun s=>gK (gB C x.kind x.head,s) fun s =>
  if x.kind=6 then iG C false true t x.flow s else if x.kind=7 then lC x.rows.length (fun s=>iw C note (t+1) x.rows s) s else (0,s):=by cases x;rw [fK];rfl
theorem JU (C:gQ) (note:Bool) (t:Int) (x:bJ) (s:CS):DW C note t x s=gK (uh C x.head x.cells.length,s) fun s=>nQ C note t x.cells s:=by cases x;rw [DW];rfl
theorem AB (C:gQ) (note:Bool) (t:Int) (x:bB) (s:CS):cellC C note t x s=gK (jL s x.id) fun s=>gK (gB C 10 x.head,s) fun s=>iG C false note t x.flow s:=by cases x;rw [cellC];rfl
def Up (s:CS) (z:Nat) (r:CR):Prop:=s.n≤r.2.n∧r.2.n≤s.n+z
theorem Up.and {s:CS} {z y q:Nat} {r:CR} {f:CS→CR} (h:Up s z r) (hq:z+y≤q) (hf:∀ s,Up s y (f s)):Up s q (gK r f):=by
 obtain ⟨h1,h2⟩:=h
 unfold gK
 split
 ·exact ⟨h1,by omega⟩
 obtain ⟨h3,h4⟩:=hf r.2;exact ⟨by omega,by omega⟩
theorem Up.zero (s:CS) (e:Int) (q:Nat):Up s q (e,s):=⟨Int.le_refl _,by dsimp only;omega⟩
theorem Up.le {s:CS} {z y:Nat} {r:CR} (h:Up s z r) (hq:z≤y):Up s y r:=⟨h.1,by have:=h.2;omega⟩
theorem aeQ (s:CS) (x:Int) (q:Nat):Up s q (jL s x):=⟨Int.le_refl _,by dsimp only [jL];omega⟩
theorem ard (body note:Bool) (t k i:Int) (s:CS) (q:Nat):Up s q (kU body note t k i s):=by
 unfold kU
 (repeat' split) <;> first|exact Up.zero _ _ _|exact (Up.zero _ _ 0).and (y:=0) (by omega) fun s=>aeQ _ _ _
mutual
theorem Ye (C:gQ) (body note:Bool) (t:Int):∀ (x:ay) (s:CS),Up s (dG x.dat) (fK C body note t x s)
 | .mk k c i tx h f r,s=>by
  have hz:=oK (.mk k c i tx h f r);have hf:=Sc C false true t f;have hr:=aeR C note (t+1) r;rw [fK];obtain ⟨u,hu'⟩:∃ u,u=(if k=1 then yE tx else 1:Nat):=⟨_,rfl⟩
  have hu:u≤tx.size+1:=by
   have:=FR tx
   rw [hu'];split <;> omega
  rw [← hu'];dsimp only [ay.text,ay.flow,ay.rows,ay.head] at hz;refine (Up.zero s _ 0).and (Nat.le_of_eq (pz _)) fun s=>?_
  have h2:Up s (u) (kU body note t k i ⟨s.n+(u:Nat),s.bE⟩):=by
   obtain ⟨h3,h4⟩:=ard body note t k i ⟨s.n+(u:Nat),s.bE⟩ 0;dsimp only at h3 h4;exact ⟨by omega,by omega⟩
  refine h2.and (y:=bM f+fq r) (by omega) fun s=>(Up.zero s _ 0).and (Nat.le_of_eq (pz _)) fun s=>?_
  by_cases h6:k=6
  ·rw [au h6];exact (hf s).le (by omega)
  rw [ah h6]
  by_cases h7:k=7
  ·rw [au h7]
   unfold lC
   by_cases c1:r.length=0
   ·rw [au c1];exact Up.zero _ _ _
   rw [ah c1]
   by_cases c2:256 < r.length
   ·rw [au c2];exact Up.zero _ _ _
   rw [ah c2];exact (hr s).le (by omega)
  rw [ah h7];exact Up.zero _ _ _
theorem arf (C:gQ) (note:Bool) (t:Int):∀ (x:bJ) (s:CS),Up s (dG x.dat) (DW C note t x s)
 | .mk h cs,s=>by
  have hz:=uN (.mk h cs);have hc:=aeP C note t cs;rw [JU];dsimp only [bJ.cells,bJ.head] at hz ⊢;exact (Up.zero s _ 0).and (y:=iD cs) (by omega) fun s=>hc s
theorem aeO (C:gQ) (note:Bool) (t:Int):∀ (x:bB) (s:CS),Up s (dG x.dat) (cellC C note t x s)
 | .mk i h f,s=>by
  have hz:=uM (.mk i h f);have hf:=Sc C false note t f;rw [AB];dsimp only [bB.flow,bB.head,bB.id] at hz ⊢;exact (aeQ s _ 0).and (y:=bM f) (by omega) fun s=>(Up.zero s _ 0).and (Nat.le_of_eq (pz _)) fun s=>hf s
theorem Sc (C:gQ) (body note:Bool) (t:Int):∀ (l:List ay) (s:CS),Up s (bM l) (iG C body note t l s)
 | [],s=>by rw [iG];exact Up.zero _ _ _
 | x :: r,s=>by
  rw [iG];exact (Ye C body note t x s).and (y:=bM r) (by simp only [bM,fJ,fB];omega) fun s=>Sc C body note t r s
theorem aeR (C:gQ) (note:Bool) (t:Int):∀ (l:List bJ) (s:CS),Up s (fq l) (iw C note t l s)
 | [],s=>by rw [iw];exact Up.zero _ _ _
 | x :: r,s=>by
  rw [iw];exact (arf C note t x s).and (y:=fq r) (by simp only [fq,fJ,fB];omega) fun s=>aeR C note t r s
theorem aeP (C:gQ) (note:Bool) (t:Int):∀ (l:List bB) (s:CS),Up s (iD l) (nQ C note t l s)
 | [],s=>by rw [nQ];exact Up.zero _ _ _
 | x :: r,s=>by
  rw [nQ];exact (aeO C note t x s).and (y:=iD r) (by simp only [iD,fJ,fB];omega) fun s=>aeP C note t r s
end
def sQ {α:Type} (f:α→CS→CR) (l:List α) (s:CS):Nat→CS
 | 0=>s
 | i+1=>match l[i]? with|some x=>(f x (sQ f l s i)).2|none=>sQ f l s i
def Ev {α:Type} (f:α→CS→CR) (l:List α) (s:CS) (i:Nat):Int:=match l[i]? with|some x=>(f x (sQ f l s i)).1|none=>0
theorem XP {α:Type} (f:α→CS→CR) (x:α) (l:List α) (s:CS):∀ i,sQ f (x :: l) s (i+1)=sQ f l (f x s).2 i
 | 0=>rfl
 | i+1=>by
  have ih:=XP f x l s i
  simp only [sQ,List.getElem?_cons_succ] at ih ⊢
  rw [ih]
theorem ajL {α:Type} (f:α→CS→CR) (x:α) (l:List α) (s:CS) (i:Nat):Ev f (x :: l) s (i+1)=Ev f l (f x s).2 i:=by
 unfold Ev
 simp only [List.getElem?_cons_succ,XP]
theorem afP (E:Nat→Int) (n:Nat):iQ E (n+1)=if E 0≠0 then E 0 else iQ (fun i=>E (i+1)) n:=by
 unfold iQ
 rw [List.range_succ_eq_map,fJ,bV,List.map_map]
 rfl
theorem acT (C:gQ) (body note:Bool) (t:Int):∀ (l:List ay) (s:CS),(iG C body note t l s).1=iQ (Ev (fK C body note t) l s) l.length∧((iG C body note t l s).1=0→(iG C body note t l s).2=sQ (fK C body note t) l s l.length)
 | [],s=>by rw [iG];exact ⟨rfl,fun _=>rfl⟩
 | x :: r,s=>by
  obtain ⟨h1,h2⟩:=acT C body note t r (fK C body note t x s).2;have e0:Ev (fK C body note t) (x :: r) s 0=(fK C body note t x s).1:=rfl;rw [iG,nG,afP,e0,XP]
  simp only [ajL]
  unfold gK
  split
  ·next h=>exact ⟨rfl,fun h0=>absurd h0 h⟩
  exact ⟨h1,h2⟩
theorem aeS (C:gQ) (body note:Bool) (t:Int) (l:List ay) (s:CS):∀ i,i≤l.length→s.n≤(sQ (fK C body note t) l s i).n∧(sQ (fK C body note t) l s i).n+(bM (l.drop i):Nat)≤s.n+(bM l:Nat)
 | 0,_=>⟨Int.le_refl _,Int.le_refl _⟩
 | i+1,hi=>by
  have hi':i < l.length:=hi;obtain ⟨h1,h2⟩:=aeS C body note t l s i (by omega)
  have hs:sQ (fK C body note t) l s (i+1)=(fK C body note t l[i] (sQ (fK C body note t) l s i)).2:=by rw [sQ,gD hi']
  have hd:bM (l.drop i)=1+dG l[i].dat+bM (l.drop (i+1)):=by
   simp only [bM];rw [kR hi',fJ,fB]
  obtain ⟨h3,h4⟩:=Ye C body note t l[i] (sQ (fK C body note t) l s i);rw [hs];exact ⟨by omega,by omega⟩
end
section
open Go.RowKit
def lV (s:CS) (z:Nat) (r:CR):Prop:=r.2.bE.length≤s.bE.length+z
theorem lV.and {s:CS} {z y q:Nat} {r:CR} {f:CS→CR} (h:lV s z r) (hq:z+y≤q) (hf:∀ s,lV s y (f s)):lV s q (gK r f):=by
 unfold lV at *
 unfold gK
 split
 ·omega
 have:=hf r.2
 omega
theorem lV.zero (s:CS) (e:Int) (q:Nat):lV s q (e,s):=by unfold lV;dsimp only;omega
theorem lV.le {s:CS} {z y:Nat} {r:CR} (h:lV s z r) (hq:z≤y):lV s y r:=by unfold lV at *;omega
theorem ang (l:List Int) (x:Int):(kg l x).length≤l.length+1:=by
 unfold kg
 split
 ·simp
 omega
theorem Sb (s:CS) (x:Int):lV s 1 (jL s x):=ang _ _
theorem aqX (body note:Bool) (t k i:Int) (s:CS):lV s 1 (kU body note t k i s):=by
 unfold kU
 (repeat' split) <;> first|exact lV.zero _ _ _|exact (lV.zero _ _ 0).and (y:=1) (by omega) fun s=>Sb _ _
mutual
theorem aeJ (C:gQ) (body note:Bool) (t:Int):∀ (x:ay) (s:CS),lV s (dG x.dat) (fK C body note t x s)
 | .mk k c i tx h f r,s=>by
  have hz:=oK (.mk k c i tx h f r);have hf:=Yd C false true t f;have hr:=aeK C note (t+1) r;rw [fK];dsimp only [ay.text,ay.flow,ay.rows,ay.head] at hz;refine (lV.zero s _ 0).and (Nat.le_of_eq (pz _)) fun s=>?_;refine lV.and (z:=1) (s:=s) (aqX body note t k i ⟨_,s.bE⟩) (y:=bM f+fq r) (by omega) fun s=>(lV.zero s _ 0).and (Nat.le_of_eq (pz _)) fun s=>?_
  by_cases h6:k=6
  ·rw [au h6];exact (hf s).le (by omega)
  rw [ah h6]
  by_cases h7:k=7
  ·rw [au h7]
   unfold lC
   by_cases c1:r.length=0
   ·rw [au c1];exact lV.zero _ _ _
   rw [ah c1]
   by_cases c2:256 < r.length
   ·rw [au c2];exact lV.zero _ _ _
   rw [ah c2];exact (hr s).le (by omega)
  rw [ah h7];exact lV.zero _ _ _
theorem aqY (C:gQ) (note:Bool) (t:Int):∀ (x:bJ) (s:CS),lV s (dG x.dat) (DW C note t x s)
 | .mk h cs,s=>by
  have hz:=uN (.mk h cs);have hc:=aeI C note t cs;rw [JU];dsimp only [bJ.cells,bJ.head] at hz ⊢;exact (lV.zero s _ 0).and (y:=iD cs) (by omega) fun s=>hc s
theorem aeH (C:gQ) (note:Bool) (t:Int):∀ (x:bB) (s:CS),lV s (dG x.dat) (cellC C note t x s)
 | .mk i h f,s=>by
  have hz:=uM (.mk i h f);have hf:=Yd C false note t f;rw [AB];dsimp only [bB.flow,bB.head,bB.id] at hz ⊢;exact (Sb s _).and (y:=bM f) (by omega) fun s=>(lV.zero s _ 0).and (Nat.le_of_eq (pz _)) fun s=>hf s
theorem Yd (C:gQ) (body note:Bool) (t:Int):∀ (l:List ay) (s:CS),lV s (bM l) (iG C body note t l s)
 | [],s=>by rw [iG];exact lV.zero _ _ _
 | x :: r,s=>by
  rw [iG];exact (aeJ C body note t x s).and (y:=bM r) (by simp only [bM,fJ,fB];omega) fun s=>Yd C body note t r s
theorem aeK (C:gQ) (note:Bool) (t:Int):∀ (l:List bJ) (s:CS),lV s (fq l) (iw C note t l s)
 | [],s=>by rw [iw];exact lV.zero _ _ _
 | x :: r,s=>by
  rw [iw];exact (aqY C note t x s).and (y:=fq r) (by simp only [fq,fJ,fB];omega) fun s=>aeK C note t r s
theorem aeI (C:gQ) (note:Bool) (t:Int):∀ (l:List bB) (s:CS),lV s (iD l) (nQ C note t l s)
 | [],s=>by rw [nQ];exact lV.zero _ _ _
 | x :: r,s=>by
  rw [nQ];exact (aeH C note t x s).and (y:=iD r) (by simp only [iD,fJ,fB];omega) fun s=>aeI C note t r s
end
theorem Kq {C:gQ} {body note:Bool} {t:Int} {x:ay} {s s':CS} {e:Int} (h:fK C body note t x s=(e,s')):s.n≤s'.n∧s'.n≤s.n+dG x.dat∧s'.bE.length≤s.bE.length+dG x.dat:=by
 have h1:=Ye C body note t x s;have h2:=aeJ C body note t x s;rw [h] at h1 h2;exact ⟨h1.1,h1.2,h2⟩
theorem agc {C:gQ} {note:Bool} {t:Int} {x:bB} {s s':CS} {e:Int} (h:cellC C note t x s=(e,s')):s.n≤s'.n∧s'.n≤s.n+dG x.dat∧s'.bE.length≤s.bE.length+dG x.dat:=by
 have h1:=aeO C note t x s;have h2:=aeH C note t x s;rw [h] at h1 h2;exact ⟨h1.1,h1.2,h2⟩
theorem anD {C:gQ} {body note:Bool} {t:Int} {l:List ay} {k:Nat} (hk:k < l.length) (s:CS):iG C body note t (l.drop k) s=gK (fK C body note t l[k] s) fun s=>iG C body note t (l.drop (k+1)) s:=by rw [kR hk,iG]
theorem apD {C:gQ} {note:Bool} {t:Int} {l:List bJ} {k:Nat} (hk:k < l.length) (s:CS):iw C note t (l.drop k) s=gK (DW C note t l[k] s) fun s=>iw C note t (l.drop (k+1)) s:=by rw [kR hk,iw]
theorem agw {C:gQ} {note:Bool} {t:Int} {l:List bB} {k:Nat} (hk:k < l.length) (s:CS):nQ C note t (l.drop k) s=gK (cellC C note t l[k] s) fun s=>nQ C note t (l.drop (k+1)) s:=by rw [kR hk,nQ]
theorem Yp {l:List ay} {k:Nat} (hk:k < l.length):bM (l.drop k)=1+dG l[k].dat+bM (l.drop (k+1)):=by
 simp only [bM];rw [kR hk,fJ,fB]
theorem Yr {l:List bJ} {k:Nat} (hk:k < l.length):fq (l.drop k)=1+dG l[k].dat+fq (l.drop (k+1)):=by
 simp only [fq];rw [kR hk,fJ,fB]
theorem Yn {l:List bB} {k:Nat} (hk:k < l.length):iD (l.drop k)=1+dG l[k].dat+iD (l.drop (k+1)):=by
 simp only [iD];rw [kR hk,fJ,fB]
end
section
open Go.RowKit
theorem Bt:Ty prog 75 6 64 [.int .i64 0,.slice none 0 0,.int .i64 0,.int .i64 0,.bool false,.int .i64 0] true:=⟨by kernel_rfl,by kernel_rfl⟩
theorem Aj:prog.underlying 67=some (.slice 75):=by kernel_rfl
theorem KI:dV prog 75 1 1:=⟨by kernel_rfl⟩
theorem KH:dV prog 75 0 0:=⟨by kernel_rfl⟩
theorem abe:dV prog 75 4 5:=⟨by kernel_rfl⟩
theorem XO:uP prog 75 [(0,1),(1,1),(2,2),(4,1),(5,1)] [.int .i64 0,.slice none 0 0,.int .i64 0,.int .i64 0,.bool false,.int .i64 0]:=⟨by kernel_rfl,by kernel_rfl⟩
theorem Ud:∀ args w,(callFunc 83 args).run prog w=.ok (.enter 83 args) w:=enters func83 rfl (by kernel_rfl)
theorem akd:dV prog 75 3 4:=⟨by kernel_rfl⟩
theorem Ng:∀ args w,(callFunc 8 args).run prog w=.ok (.enter 8 args) w:=enters func8 rfl (by kernel_rfl)
structure jN where
 id:Int
 items:List ay
 flow:Int
 at_:Int
 note:Bool
 depth:Int
def jN.dat (p:jN):List Dat:=[li p.id,.sl 11 (p.items.map ay.dat),li p.flow,li p.at_,.lf (.bool p.note),li p.depth]
abbrev jN.cells (p:jN) (v:aj):List aj:=[vi p.id,v,vi p.flow,vi p.at_,.bool p.note,vi p.depth]
theorem jN.rep {G:GH} {p:jN} {v:aj} (h:aB G (.sl 11 (p.items.map ay.dat)) v):bH G p.dat (p.cells v) :=
 ⟨_,_,rfl,⟨rfl,rfl⟩,_,_,rfl,h,_,_,rfl,⟨rfl,rfl⟩,_,_,rfl,⟨rfl,rfl⟩,_,_,rfl,⟨rfl,rfl⟩,_,_,rfl,⟨rfl,rfl⟩,rfl⟩
theorem jN.of {G:GH} {p:jN} {cs:List aj} (h:bH G p.dat cs):∃ v,cs=p.cells v∧aB G (.sl 11 (p.items.map ay.dat)) v:=by
 simp only [jN.dat,bH] at h
 obtain ⟨_,_,rfl,⟨rfl,-⟩,v,_,rfl,hv,_,_,rfl,⟨rfl,-⟩,_,_,rfl,⟨rfl,-⟩,_,_,rfl,⟨rfl,-⟩,_,_,rfl,⟨rfl,-⟩,rfl⟩:=h;exact ⟨v,rfl,hv⟩
mutual
def Em (f:Int) (at_:Nat) (note:Bool) (t:Int):ay→List jN
 | .mk k _ i _ _ fl r=>if k=6 then ⟨i,fl,f,at_,true,t⟩ :: rz i true t 0 fl else if k=7 then tC f at_ note (t+1) r else []
/-- The flows that are contained in a flow, with where they stand. -/
def rz (f:Int) (note:Bool) (t:Int):Nat→List ay→List jN
 | _,[]=>[]
 | at_,x :: l=>Em f at_ note t x++rz f note t (at_+n1 x) l
def tC (f:Int) (at_:Nat) (note:Bool) (t:Int):List bJ→List jN
 | []=>[]
 | x :: l=>En f at_ note t x++tC f at_ note t l
def En (f:Int) (at_:Nat) (note:Bool) (t:Int):bJ→List jN
 | .mk _ cs=>vT f at_ note t cs
def vT (f:Int) (at_:Nat) (note:Bool) (t:Int):List bB→List jN
 | []=>[]
 | x :: l=>El f at_ note t x++vT f at_ note t l
def El (f:Int) (at_:Nat) (note:Bool) (t:Int):bB→List jN
 | .mk i _ fl=>⟨i,fl,f,at_,note,t⟩ :: rz i note t 0 fl
end
theorem PG (f:Int) (at_:Nat) (note:Bool) (t:Int) (x:ay):Em f at_ note t x=if x.kind=6 then ⟨x.id,x.flow,f,at_,true,t⟩ :: rz x.id true t 0 x.flow else if x.kind=7 then tC f at_ note (t+1) x.rows else []:=by cases x;rw [Em];rfl
theorem afX (f:Int) (at_:Nat) (note:Bool) (t:Int) (x:bJ):En f at_ note t x=vT f at_ note t x.cells:=by cases x;rw [En];rfl
theorem afT (f:Int) (at_:Nat) (note:Bool) (t:Int) (x:bB):El f at_ note t x=⟨x.id,x.flow,f,at_,note,t⟩ :: rz x.id note t 0 x.flow:=by cases x;rw [El];rfl
mutual
theorem afV (f:Int) (at_:Nat) (note:Bool) (t:Int):∀ x:ay,(Em f at_ note t x).length < dG x.dat
 | .mk k c i tx h fl r=>by
  have h4:=oK (.mk k c i tx h fl r);have hf:=Km i true t 0 fl;have hr:=ZE f at_ note (t+1) r;dsimp only [ay.text,ay.head,ay.flow,ay.rows] at h4;rw [Em]
  split
  ·rw [nG];omega
  split <;> first|omega|(simp only [List.length_nil];omega)
theorem Km (f:Int) (note:Bool) (t:Int):∀ (at_:Nat) (l:List ay),(rz f note t at_ l).length≤bM l
 | _,[]=>by simp [rz]
 | at_,x :: l=>by
  have h1:=afV f at_ note t x;have h2:=Km f note t (at_+n1 x) l;rw [rz,lJ]
  simp only [bM,fJ,fB] at *;omega
theorem afY (f:Int) (at_:Nat) (note:Bool) (t:Int):∀ x:bJ,(En f at_ note t x).length≤dG x.dat
 | .mk h cs=>by
  have h4:=uN (.mk h cs);have hc:=ZC f at_ note t cs;dsimp only [bJ.head,bJ.cells] at h4;rw [En];omega
theorem ZE (f:Int) (at_:Nat) (note:Bool) (t:Int):∀ l:List bJ,(tC f at_ note t l).length≤fq l
 | []=>by simp [tC]
 | x :: l=>by
  have h1:=afY f at_ note t x;have h2:=ZE f at_ note t l;rw [tC,lJ]
  simp only [fq,fJ,fB] at *;omega
theorem afU (f:Int) (at_:Nat) (note:Bool) (t:Int):∀ x:bB,(El f at_ note t x).length≤dG x.dat
 | .mk i h fl=>by
  have h4:=uM (.mk i h fl);have hf:=Km i note t 0 fl;dsimp only [bB.head,bB.flow] at h4;rw [El,nG];omega
theorem ZC (f:Int) (at_:Nat) (note:Bool) (t:Int):∀ l:List bB,(vT f at_ note t l).length≤iD l
 | []=>by simp [vT]
 | x :: l=>by
  have h1:=afU f at_ note t x;have h2:=ZC f at_ note t l;rw [vT,lJ]
  simp only [iD,fJ,fB] at *;omega
end
def yC (p:jN):List jN:=p :: rz p.id p.note p.depth 0 p.items
def Sq (m:Nat):Prop:=∀ (G:GH) (w0:World),Hold G w0→∀ (p:jN) (v:aj),aB G (.sl 11 (p.items.map ay.dat)) v→bM p.items < m→0≤p.depth→p.depth+bM p.items≤4294967296 →
 Calls prog 83 #[.agg (p.cells v).toArray] w0 (bR w0 G fun u G'=>aB G' (.sl 6 ((yC p).map jN.dat)) u)
structure FJ (g:GH) (v:aj) (R:List jN) (xs:List aj) (Lo:OL):Prop where
 row:iP 75 6 v R.length xs Lo
 cat:ji g 6 (R.map jN.dat) xs
theorem FJ.mono {g g':GH} {v:aj} {R:List jN} {xs:List aj} {Lo:OL} (h:FJ g v R xs Lo) (hm:∀ b o,g b=some o→g' b=some o):FJ g' v R xs Lo:=⟨h.row,h.cat.mono hm⟩
theorem row_one {e b:Nat} {xs:List aj} (h:xs.length=6):iP e 6 (.slice (some ⟨b,0,none⟩) 1 1) 1 xs [(b,.cells xs.toArray e (0,0))]:=⟨by rw [h],.inr ⟨b,1,xs.toArray,rfl,rfl,dQ _,(by decide),by simp [h],by simp [← h]⟩⟩
theorem aoh (x:ay):n1 x+bM x.flow+fq x.rows < dG x.dat:=by
 have h1:=oK x;have h2:=FR x.text
 unfold n1 gP;split <;> (try split) <;> omega
set_option maxHeartbeats 4000000 in
theorem agb {m:Nat} (ih:Sq m) (hm:m≤4294967296):Sq (m+1):=by
 intro G w0 hG p v hu hz hd0 hdz;obtain ⟨pid,l,pf,pa,oW,pd⟩:=p;dsimp only at hu hz hd0 hdz;obtain ⟨A,c,rfl,hc1,hc2,hg⟩:=hu.slice;rw [bZ] at *;have hll:=Fj l;have hml:maxLen=9223372036854775807:=rfl;obtain ⟨p,hp⟩:∃ p:jN,p=⟨pid,l,pf,pa,oW,pd⟩:=⟨_,rfl⟩;have hbn:=Km pid oW pd 0 l;refine eN [(0,_)] func83 rfl ntmps83 rfl rfl hG ?_;intro a H;refine dz (fun _ K1=>?_);refine eU (cs:=[_,_,_,_,_,_]) H wn rfl rfl rfl ?_;clear H;intro b1 a w hb1 H;refine kH H (ak K1 rfl (SQ fun _ K2=>?_));clear H K1;intro a H;obtain ⟨Ga,hma,hb1',H⟩:=H.fD
 have q0:aH Ga b1 0=some (vi pid):=by unfold aH;rw [hb1'];rfl
 have q1:aH Ga b1 1=some (.slice A l.length c):=by unfold aH;rw [hb1'];rfl
 have q3:aH Ga b1 4=some (.bool oW):=by unfold aH;rw [hb1'];rfl
 have q4:aH Ga b1 5=some (vi pd):=by unfold aH;rw [hb1'];rfl
 have mq:∀ (j:Nat) (v:aj),[vi pid,.slice A l.length c,vi pf,vi pa,.bool oW,vi pd][j]?=some v→aH Ga b1 (0+j)=some v:=fun j v hj=>by
  unfold aH;rw [hb1',pz];simpa using hj
 replace hu:=hu.mono hma;refine oD ?_;refine bD Bt (cs:=[vi pid,.slice A l.length c,vi pf,vi pa,.bool oW,vi pd]) H wn rfl rfl (fun j v hj=>H.hp.aH (mq j v hj)) rfl ?_;clear H;intro a H;refine jF Aj Bt [_,_,_,_,_,_] [_,_,_,_,_,_] H wn rfl rfl rfl rfl rfl (by intro i q h;match i,h with|0,h=>exact h|n+1,h=>simp at h) rfl rfl ?_;clear H;intro b14 a w KS H;refine kH H (aM K2 rfl (SQ fun _ K3=>?_));clear H K2;intro a H;have hr0:FJ Ga (.slice (some ⟨b14,0,none⟩) 1 1) [p] [vi pid,.slice A l.length c,vi pf,vi pa,.bool oW,vi pd] [(b14,.cells [vi pid,.slice A l.length c,vi pf,vi pa,.bool oW,vi pd].toArray 75 (0,0))]:=⟨row_one rfl,by simpa using (ji.nil (G:=Ga) (sz:=6)).snoc (by rw [hp];exact jN.rep (p:=⟨pid,l,pf,pa,oW,pd⟩) hu) rfl⟩;refine kP H (SC (aM K3 rfl (SQ fun _ K4=>SR fun _ K5=>ak K5 rfl (SB ?_))));clear H K3 K5;intro a H;skip;refine fH (ι:=Nat × Nat × List jN × aj × List aj × OL × GH) (Tc:=[(1,_)]) (Lc:=[]) (fun gh=>[(3,gh.2.2.2.1),(4,vi gh.2.1),(5,vi gh.1)]) (fun gh=>[]++gh.2.2.2.2.2.1) (fun gh=>gh.2.2.2.2.2.2) (fun gh=>gh.1≤l.length∧FJ gh.2.2.2.2.2.2 gh.2.2.2.1 gh.2.2.1 gh.2.2.2.2.1 gh.2.2.2.2.2.1∧gh.2.2.1++rz pid oW pd gh.2.1 (l.drop gh.1)=p :: rz pid oW pd 0 l∧(∀ b o,Ga b=some o→gh.2.2.2.2.2.2 b=some o)∧gh.2.1+bM (l.drop gh.1)≤4294967296) (fun gh=>l.length - gh.1) ((0,0,[p],.slice (some ⟨b14,0,none⟩) 1 1,[vi pid,.slice A l.length c,vi pf,vi pa,.bool oW,vi pd],[(b14,.cells [vi pid,.slice A l.length c,vi pf,vi pa,.bool oW,vi pd].toArray 75 (0,0))],Ga)) (by exact (H).sub ⟨rfl,rfl,rfl,rfl,av⟩) ?_ ?_
 ·exact ⟨iK _,hr0,rfl,fun _ _ h=>h,by dsimp only;rw [lK];omega⟩
 clear H;intro gh a w hI H;obtain ⟨k,at_,R,v3,xs,Lo,g⟩:=gh;dsimp only at hI H;obtain ⟨hk,hr1,hX,hgm,hat⟩:=hI;obtain ⟨v3A,v3c,rfl,-,-⟩:=hr1.row.shape
 have hRl:R.length≤bM l+1:=by
  have:=aC List.length hX;rw [lJ,nG] at this;omega
 have RF:=aF hgm q1;dsimp only [lca,aS] at H;refine kP H (SQ fun _ K6=>SR fun _ K7=>Rm rfl (Rf KI rfl (Rg iM rfl RF (Rl iN rfl (Rc rfl (Kz K7 (Cd rfl ?_ ?_))))))) <;> clear H K7
 ·intro h19 a H
  try have xM:=dT h19
  have hk2:k < l.length:=by omega
  obtain ⟨b,o,pA,pn,pc,dA,dn,dc,yA,yn,yc,fA,fn,fc,rA,rn,rc,rfl,hrow,hhd,hfl,hrw⟩:=EB hk2 hg;replace hrow:=fun j u hj=>aF hgm (aF hma (hrow j u hj));replace hfl:=(hfl.mono hma).mono hgm;replace hrw:=(hrw.mono hma).mono hgm;have hrn:=hrw.len;rw [bZ] at hrn;subst hrn;have hzs:=Yp hk2;have hzi:=oK l[k];have Jy:=Mj (jr hk2);have hna:=aoh l[k];have hpart:=hu.part k (k+1) (by omega) (by rw [bZ];omega);rw [kR hk2,rz] at hX
  have he1:((l.map ay.dat).drop k).take 1=[l[k]].map ay.dat:=by rw [kR (by simpa using hk2)];simp
  obtain ⟨x,hx⟩:∃ x,x=l[k]:=⟨_,rfl⟩;rw [← hx] at hX hrow hhd hfl hrw hzs hzi Jy hna he1;have q0g:=aF hgm q0;have q4g:=aF hgm q4;have hrl:=Fp x.rows;have hb6:=Km x.id true pd 0 x.flow
  have hc3:¬ c=k:=by omega
  refine kP H (Kc K6 (SQ fun _ K8=>SB (SR fun _ K9=>Rf KI rfl (Rg iM rfl RF (Rm rfl (Ri iN dB rfl rfl ?_))))));clear H K6;intro a H;refine bD dB (cs:=[vi x.kind,vi x.code,vi x.id,.string x.text,.slice pA pn pc,vi x.head.marks.ins,vi x.head.marks.move,.slice dA dn dc,.slice yA yn yc,.slice fA fn fc,.slice rA x.rows.length rc]) H wn rfl rfl (fun j v hj=>H.hp.aH (hrow j v hj)) rfl ?_;clear H;intro a H;refine dR dB H wn rfl ?_;clear H;intro b6 a w hb6 H;refine bO dB 0 (vs:=[_,_,_,_,_,_,_,_,_,_,_]) _ H wn rfl rfl rfl rfl rfl rfl rfl rfl ?_;clear H;intro w H;dsimp only [List.set,setRow] at H;refine K9 _ _ ?_;clear K9;refine kP H (SR fun _ aZ=>Rf KH rfl (Rg aD rfl (by assumption) ?_));clear H;intro a H;refine kH H (Rm rfl ?_);clear H;intro a H;refine lY JZ [_,_] H wn rfl rfl rfl rfl ?_;clear H;intro a H;refine dR iW H wn rfl ?_;clear H;intro b7 a w tV H;refine bO iW 0 (vs:=[_,_]) _ H wn rfl rfl rfl rfl rfl rfl rfl rfl ?_;clear H;intro w H;dsimp only [List.set,setRow] at H;refine aZ _ _ ?_;clear aZ;refine oO (ι:=List jN × aj × List aj × OL × GH) (Tc:=[(1,_),(4,_),(5,_),(6,_),(7,_)]) (Lc:=[(_,_),(_,_)]) (fun gh=>[(3,gh.2.1)]) (fun gh=>[]++gh.2.2.2.1) (fun gh=>gh.2.2.2.2) (fun gh=>FJ gh.2.2.2.2 gh.2.1 gh.1 gh.2.2.1 gh.2.2.2.1∧gh.1=R++(if x.kind=6 then yC ⟨x.id,x.flow,pid,at_,true,pd⟩ else [])∧gh.1.length≤R.length+bM x.flow+1∧(∀ b o,g b=some o→gh.2.2.2.2 b=some o)) (by exact (H).sub ⟨rfl,rfl,rfl,rfl,rfl,av⟩) ?_ ?_
  ·skip;refine kP H (SR fun _ bN=>aW gG aD 1 rfl rfl (Rc rfl (Kz bN (Cd rfl ?_ ?_)))) <;> clear H bN
   ·intro qh a H
    try have p33:=dT qh
    refine kP H (SC (Rm rfl (aW qg aD 1 rfl rfl (aW yI iM 1 rfl rfl ?_))));clear H;intro a H;refine bD iW (cs:=[_,_]) H wn rfl rfl (H.hp.eu 0 rfl rfl) rfl ?_;clear H;intro a H;refine kH H (Rf abe rfl (Rg aD rfl (by assumption) ?_));clear H;intro a H;refine lY XO [_,_,_,_,_,_] H wn rfl rfl rfl rfl ?_;clear H;intro a H;refine s_call Ud H wn rfl (ih _ _ H.ro ⟨x.id,x.flow,pid,at_,true,pd⟩ _ hfl (by dsimp only;omega) hd0 (by dsimp only;omega)) rfl ?_;clear H;rintro v43 CV a w V9 oU H;obtain ⟨O5,n43,PL,rfl⟩:=V9.form
    obtain rfl:n43=(yC ⟨x.id,x.flow,pid,at_,true,pd⟩).length:=by simpa using V9.len
    have hbl:(yC ⟨x.id,x.flow,pid,at_,true,pd⟩).length≤bM x.flow+1:=by unfold yC;rw [nG];dsimp only;omega
    refine JW (Li:=[_,_]) (Lo:=Lo) Aj Bt rfl rfl H wn rfl rfl hr1.row V9 (by omega) (by omega) rfl ?_;clear H;intro v44 afH news a w amB alD H;refine kH H (Ra rfl ?_);clear H;intro a H;refine aI ?_;refine ⟨(R++yC ⟨x.id,x.flow,pid,at_,true,pd⟩,v44,xs++news,afH,CV),by exact (H).sub ⟨rfl,rfl,rfl,rfl,rfl,rfl,av⟩,?_⟩;(try dsimp only);exact ⟨⟨by rw [lJ];exact amB,by rw [nP];exact (hr1.cat.mono oU).append alD⟩,by rw [au p33],by rw [lJ];omega,oU⟩
   intro qh a H
   try have p33:=dF qh
   refine fI ?_;refine ⟨(R,_,xs,Lo,g),by exact (H).sub ⟨rfl,rfl,rfl,rfl,rfl,rfl,av⟩,?_⟩;(try dsimp only);exact ⟨hr1,by rw [ah p33,pW],by omega,fun _ _ h=>h⟩
  clear H;intro gh a w hI H;obtain ⟨R2,v5,xs2,Lo2,g2⟩:=gh;dsimp only at hI H;obtain ⟨hr2,hR2,akV,hg2⟩:=hI;obtain ⟨v5A,v5c,rfl,-,-⟩:=hr2.row.shape;dsimp only [lca,aS] at H;refine kP H (SQ fun _ bQ=>SR fun _ bT=>ak bT rfl (SB ?_));clear H bT;intro a H;skip;refine fH (ι:=Nat × List jN × aj × List aj × OL × GH) (Tc:=[(1,_),(4,_),(5,_),(6,_),(7,_)]) (Lc:=[(_,_),(_,_)]) (fun gh=>[(3,gh.2.2.1),(8,vi gh.1)]) (fun gh=>[]++gh.2.2.2.2.1) (fun gh=>gh.2.2.2.2.2) (fun gh=>gh.1≤x.rows.length∧FJ gh.2.2.2.2.2 gh.2.2.1 gh.2.1 gh.2.2.2.1 gh.2.2.2.2.1∧(x.kind=7→gh.2.1++tC pid at_ oW (pd+1) (x.rows.drop gh.1)=R2++tC pid at_ oW (pd+1) x.rows)∧(x.kind≠7→gh.2.1=R2)∧(∀ b o,g2 b=some o→gh.2.2.2.2.2 b=some o)∧gh.2.1.length+fq (x.rows.drop gh.1)≤R2.length+fq x.rows) (fun gh=>x.rows.length - gh.1) ((0,R2,_,xs2,Lo2,g2)) (by exact (H).sub ⟨rfl,rfl,rfl,rfl,rfl,rfl,rfl,av⟩) ?_ ?_
  ·exact ⟨iK _,hr2,fun _=>rfl,fun _=>rfl,fun _ _ h=>h,by dsimp only;rw [lK];omega⟩
  clear H;intro gh a w hI H;obtain ⟨rk,R3,v6,O4,SS,g3⟩:=gh;dsimp only at hI H;obtain ⟨QT,hr3,Vp,Qt,hg3,akW⟩:=hI;obtain ⟨v6A,v6c,rfl,-,-⟩:=hr3.row.shape;dsimp only [lca,aS] at H;refine kP H (SQ fun _ cu=>SR fun _ dL=>aW gG aD 1 rfl rfl (Rc rfl (Rm rfl (Sp 48 rfl ?_ ?_)))) <;> clear H
  ·intro h48 a H
   try have p48:=dT h48
   refine kH H (YM h48 rfl (YF rC h48 rfl (YO rR 1 h48 rfl (YL jH h48 rfl (YC h48 rfl (Pt h48 rfl (Kz dL (Cd rfl ?_ ?_)))))))) <;> clear H dL
   ·intro iV a H
    try have p54:=dT iV
    have hk3:rk < x.rows.length:=by omega
    have VP:x.kind=7:=by first|assumption|omega
    obtain ⟨b2,o2,qA,qn,qc,eA,en,ec,zA,zn,zc,cA,cn,cc,rfl,hrow2,DJ,hcl⟩:=GV hk3 ((hrw.mono hg2).mono hg3).at_;have hcn:=hcl.len;rw [bZ] at hcn;subst hcn;have hcs:=Fh x.rows[rk].cells;have WE:=Yr hk3;have WG:=uN x.rows[rk];have hsz2:=Mk hk3;obtain ⟨y,hy⟩:∃ y,y=x.rows[rk]:=⟨_,rfl⟩;rw [← hy] at hrow2 DJ hcl hcs WE WG hsz2;refine kP H (Kc cu (SQ fun _ dO=>SB (SR fun _ dJ=>ak dJ rfl (SB ?_))));clear H cu dJ;intro a H;skip;refine fH (ι:=Nat × List jN × aj × List aj × OL × GH) (Tc:=[(1,_),(4,_),(5,_),(6,_),(7,_),(8,_)]) (Lc:=[(_,_),(_,_)]) (fun gh=>[(3,gh.2.2.1),(9,vi gh.1)]) (fun gh=>[]++gh.2.2.2.2.1) (fun gh=>gh.2.2.2.2.2) (fun gh=>gh.1≤y.cells.length∧FJ gh.2.2.2.2.2 gh.2.2.1 gh.2.1 gh.2.2.2.1 gh.2.2.2.2.1∧gh.2.1++(vT pid at_ oW (pd+1) (y.cells.drop gh.1)++tC pid at_ oW (pd+1) (x.rows.drop (rk+1)))=R3++(vT pid at_ oW (pd+1) y.cells++tC pid at_ oW (pd+1) (x.rows.drop (rk+1)))∧(∀ b o,g3 b=some o→gh.2.2.2.2.2 b=some o)∧gh.2.1.length+iD (y.cells.drop gh.1)+fq (x.rows.drop (rk+1))≤R2.length+fq x.rows) (fun gh=>y.cells.length - gh.1) ((0,R3,_,O4,SS,g3)) (by exact (H).sub ⟨rfl,rfl,rfl,rfl,rfl,rfl,rfl,rfl,av⟩) ?_ ?_
    ·exact ⟨iK _,hr3,rfl,fun _ _ h=>h,by dsimp only;rw [lK];omega⟩
    clear H;intro gh a w hI H;obtain ⟨ck,R4,v7,Mh,Zk,g4⟩:=gh;dsimp only at hI H;obtain ⟨hck,hr4,hx4,hg4,Vr⟩:=hI;obtain ⟨v7A,v7c,rfl,-,-⟩:=hr4.row.shape;have r5:aH g4 b2 (o2+rk*6+5)=some (.slice cA y.cells.length cc):=aF hg4 (hrow2 5 _ rfl);have q3h:=aF hg4 (aF hg3 (aF hg2 (aF hgm q3)));have q4h:=aF hg4 (aF hg3 (aF hg2 q4g));dsimp only [lca,aS] at H;refine kP H (SQ fun _ dW=>SR fun _ eG=>Rm rfl (aW rC rR 1 rfl rfl (Rm rfl (Ri jH iI rfl rfl (Rf qG rfl (Rg qU rfl (by assumption) ?_))))));clear H;intro a H;refine kH H (Rl kV rfl (Rc rfl (Kz eG (Cd rfl ?_ ?_)))) <;> clear H eG
    ·intro lq a H
     try have p65:=dT lq
     have hk4:ck < y.cells.length:=by omega
     obtain ⟨b3,o3,sA,sn,sc,tA,tn,tc,uA,un,uc,gA,gn,gc,rfl,hrow3,hch,hcf⟩:=Eo hk4 (hcl.mono hg4).at_;have hzc:=Yn hk4;have hzz:=uM y.cells[ck];have Ju:=Mi hk4;rw [kR hk4,vT,afT,mG] at hx4;obtain ⟨z,hzy⟩:∃ z,z=y.cells[ck]:=⟨_,rfl⟩;rw [← hzy] at hx4 hrow3 hch hcf hzc hzz Ju;have tV:=Km z.id oW (pd+1) 0 z.flow;refine kP H (Kc dW (SQ fun _ eB=>SB (SR fun _ eH=>aW rC rR 1 rfl rfl (Rm rfl (Ri jH iI rfl rfl (Rf qG rfl (Rg qU rfl (by assumption) ?_)))))));clear H dW;intro a H;refine kH H (Rm rfl (Ri kV iy rfl rfl ?_));clear H;intro a H;refine bD iy (cs:=[vi z.id,.slice sA sn sc,vi z.head.marks.ins,vi z.head.marks.move,.slice tA tn tc,.slice uA un uc,.slice gA gn gc]) H wn rfl rfl (fun j v hj=>H.hp.aH (hrow3 j v hj)) rfl ?_;clear H;intro a H;refine dR iy H wn rfl ?_;clear H;intro b10 a w KP H;refine bO iy 0 (vs:=[_,_,_,_,_,_,_]) _ H wn rfl rfl rfl rfl rfl rfl rfl rfl ?_;clear H;intro w H;dsimp only [List.set,setRow] at H;refine eH _ _ ?_;clear eH;refine kP H (SC (Rm rfl (aW AO aD 0 rfl rfl (aW AQ iM 0 rfl rfl ?_))));clear H;intro a H;refine bD iW (cs:=[_,_]) H wn rfl rfl (H.hp.eu 1 rfl rfl) rfl ?_;clear H;intro a H;refine kH H (Rf akd rfl (Rg nN rfl (by assumption) ?_));clear H;intro a H;refine kH H (Rf abe rfl (Rg aD rfl (by assumption) ?_));clear H;intro a H;refine kH H (Rd rfl ?_);clear H;intro a H;refine lY XO [_,_,_,_,_,_] H wn rfl rfl rfl rfl ?_;clear H;intro a H;refine s_call Ud H wn rfl (ih _ _ H.ro ⟨z.id,z.flow,pid,at_,oW,pd+1⟩ _ hcf (by dsimp only;omega) (by dsimp only;omega) (by dsimp only;omega)) rfl ?_;clear H;rintro v89 YQ a w Wh abX H;obtain ⟨A89,n89,c89,rfl⟩:=Wh.form
     obtain rfl:n89=(yC ⟨z.id,z.flow,pid,at_,oW,pd+1⟩).length:=by simpa using Wh.len
     have hbl:(yC ⟨z.id,z.flow,pid,at_,oW,pd+1⟩).length≤bM z.flow+1:=by unfold yC;rw [nG];dsimp only;omega
     refine JW (Li:=[_,_,_]) (Lo:=Zk) Aj Bt rfl rfl H wn rfl rfl hr4.row Wh (by omega) (by omega) rfl ?_;clear H;intro v90 afJ news a w amE alG H;refine kH H (aM eB rfl (SC (Rm rfl (Rd rfl (Ra rfl ?_)))));clear H eB;intro a H;refine aI ?_;refine dP ((ck+1,R4++yC ⟨z.id,z.flow,pid,at_,oW,pd+1⟩,v90,Mh++news,afJ,YQ)) (by exact (H.dK (Pl:=[_,_,_]) (dw:=[_,_]) [1,2] (by decide) rfl).sub ⟨rfl,rfl,rfl,rfl,rfl,rfl,rfl,rfl,av⟩) ?_ ?_
     ·(try dsimp only);exact ⟨by omega,⟨by rw [lJ];exact amE,by rw [nP];exact (hr4.cat.mono abX).append alG⟩,by rw [← hx4,mG];rfl,fun b o h=>abX b o (hg4 b o h),by rw [lJ];omega⟩
     first|omega|(dsimp only;omega)
    intro lq a H
    try have p65:=dF lq
    have NH:y.cells.drop ck=[]:=gy (by omega);refine eD ?_;refine dO _ _ ?_;clear dO;refine kP H (SC (Rm rfl (Rd rfl (Ra rfl ?_))));clear H;intro a H;refine aI ?_;refine dP ((rk+1,R4,_,Mh,Zk,g4)) (by exact (H).sub ⟨rfl,rfl,rfl,rfl,rfl,rfl,rfl,av⟩) ?_ ?_
    ·(try dsimp only);exact ⟨by omega,hr4,fun h7=>by rw [← Vp h7,kR hk3,tC,afX,← hy,← hx4,NH,vT,mo],fun h7=>absurd VP h7,fun b o h=>hg4 b o (hg3 b o h),by rw [NH] at Vr;simp only [iD,wR,fB] at Vr;omega⟩
    first|omega|(dsimp only;omega)
   intro iV a H
   try have p54:=dF iV
   refine eD ?_;refine bQ _ _ ?_;clear bQ;refine aO (fun _ fO=>?_);have Xz:=aF hg3 (aF hg2 RF);refine kP H (SC (Rf KI rfl (Rg iM rfl Xz (Rm rfl (Rm rfl (Rd rfl ?_))))));clear H;intro a H;refine RS iN dB k (k+1) H wn rfl rfl rfl rfl (by omega) (by omega) (by omega) rfl ?_;clear H;intro a H;rw [ah hc3,zD,add_lit,Ej] at H;refine s_call Ng H wn rfl (Ou _ _ H.ro [x] _ (by have h:=hpart;rw [ah hc3,zD,add_lit,Ej,he1] at h;exact ((h.mono hgm).mono hg2).mono hg3) (by show 1+dG x.dat+0≤_;omega)) rfl ?_;clear H;rintro v98 YS a w ⟨rfl,akz⟩ KZ H;rw [Q0] at H;refine kH H (Rm rfl ?_);clear H;intro a H;(iterate 2 refine lD H wn rfl rfl rfl ?_;clear H;intro a H);refine kH H (Ra rfl (aM fO rfl (SC (Rm rfl (Rm rfl (Rd rfl (aM K8 rfl (SC (Rm rfl (Rd rfl (Ra rfl ?_)))))))))));clear H fO K8;intro a H;refine aI ?_;refine dP ((k+1,at_+n1 x,R3,_,O4,SS,_)) (by exact (H.dK (Pl:=[_,_]) (dw:=[]) [] (by decide) rfl).sub ⟨rfl,rfl,rfl,rfl,av⟩) ?_ ?_
   ·try dsimp only
    exact ⟨by omega,hr3.mono KZ,by
    rw [← hX]
    by_cases h6:x.kind=6
    ·rw [Qt (by omega),hR2,au h6,PG,au h6,mG];rfl
    rw [ah h6,pW] at hR2;rw [PG,ah h6]
    by_cases h7:x.kind=7
    ·have e:=Vp h7;rw [gy (by first|omega|(exfalso;simp_all;done)),tC,pW] at e;rw [au h7,e,hR2,mG]
    rw [ah h7,mo,Qt h7,hR2],fun b o h=>KZ b o (hg3 b o (hg2 b o (hgm b o h))),by push_cast;omega⟩
   first|omega|(dsimp only;omega)
  intro h48 a H
  try have p48:=dF h48
  refine kH H (aT h48 rfl (aP h48 rfl (Pf h48 rfl (Kz dL (Cf rfl rfl ?_)))));clear H dL;intro a H;refine eD ?_;refine bQ _ _ ?_;clear bQ;refine aO (fun _ gJ=>?_);have Xz:=aF hg3 (aF hg2 RF);refine kP H (SC (Rf KI rfl (Rg iM rfl Xz (Rm rfl (Rm rfl (Rd rfl ?_))))));clear H;intro a H;refine RS iN dB k (k+1) H wn rfl rfl rfl rfl (by omega) (by omega) (by omega) rfl ?_;clear H;intro a H;rw [ah hc3,zD,add_lit,Ej] at H;refine s_call Ng H wn rfl (Ou _ _ H.ro [x] _ (by have h:=hpart;rw [ah hc3,zD,add_lit,Ej,he1] at h;exact ((h.mono hgm).mono hg2).mono hg3) (by show 1+dG x.dat+0≤_;omega)) rfl ?_;clear H;rintro v98 YS a w ⟨rfl,akz⟩ KZ H;rw [Q0] at H;refine kH H (Rm rfl ?_);clear H;intro a H;(iterate 2 refine lD H wn rfl rfl rfl ?_;clear H;intro a H);refine kH H (Ra rfl (aM gJ rfl (SC (Rm rfl (Rm rfl (Rd rfl (aM K8 rfl (SC (Rm rfl (Rd rfl (Ra rfl ?_)))))))))));clear H gJ K8;intro a H;refine aI ?_;refine dP ((k+1,at_+n1 x,R3,_,O4,SS,_)) (by exact (H.dK (Pl:=[_,_]) (dw:=[]) [] (by decide) rfl).sub ⟨rfl,rfl,rfl,rfl,av⟩) ?_ ?_
  ·try dsimp only
   exact ⟨by omega,hr3.mono KZ,by
   rw [← hX]
   by_cases h6:x.kind=6
   ·rw [Qt (by omega),hR2,au h6,PG,au h6,mG];rfl
   rw [ah h6,pW] at hR2;rw [PG,ah h6]
   by_cases h7:x.kind=7
   ·have e:=Vp h7;rw [gy (by first|omega|(exfalso;simp_all;done)),tC,pW] at e;rw [au h7,e,hR2,mG]
   rw [ah h7,mo,Qt h7,hR2],fun b o h=>KZ b o (hg3 b o (hg2 b o (hgm b o h))),by push_cast;omega⟩
  first|omega|(dsimp only;omega)
 intro h19 a H
 try have xM:=dF h19
 refine eD ?_;refine K4 _ _ ?_;clear K4;refine kP H (SR fun _ gT=>Rm rfl (ak gT rfl ?_));clear H gT;intro a H;refine lr H results83 rfl ?_;rw [gy (by omega),rz,pW] at hX;obtain ⟨Gr,hmr,hrep,H⟩:=St.zM (Li:=[]) H hr1.row (rows:=R.map jN.dat) (by simp) hr1.cat;exact H.rt (by show aB Gr (.sl 6 ((⟨pid,l,pf,pa,oW,pd⟩ :: rz pid oW pd 0 l).map jN.dat)) _;rw [← hp,← hX];exact hrep)
theorem ZI:∀ m:Nat,m≤4294967297→Sq m
 | 0,_=>fun _ _ _ _ _ _ h=>absurd h (by omega)
 | m+1,hm=>agb (ZI m (by omega)) (by omega)
theorem ako (G:GH) (w0:World) (hG:Hold G w0) (D:kN) (l:List ay) (hv:aB G (.sl 11 (l.map ay.dat)) (dD D.f)) (hz:bM l≤4294967295) :
  Calls prog 27 #[D.val] w0 (bR w0 G fun u G'=>aB G' (.sl 6 ((yC ⟨0,l,-1,0,false,0⟩).map jN.dat)) u):=by
 refine eN [(0,_)] func27 rfl ntmps27 rfl rfl hG ?_;intro a H;refine dz (fun _ K1=>?_);refine eU (cs:=[_,_,_,_,_,_,_,_,_,_,_]) H wn rfl rfl rfl ?_;clear H;intro b1 a w hb1 H;refine kH H (ak K1 rfl (SR fun _ K2=>aW BP iM 0 rfl rfl ?_));clear H K1;intro a H;refine lY JZ [_,_] H wn rfl rfl rfl rfl ?_;clear H;intro a H;refine lY XO [_,_,_,_,_,_] H wn rfl rfl rfl rfl ?_;clear H;intro a H;refine s_call Ud H wn rfl (ZI 4294967297 (by omega) _ _ H.ro ⟨0,l,-1,0,false,0⟩ _ hv (by dsimp only;omega) (Int.le_refl _) (by dsimp only;omega)) rfl ?_;clear H;rintro v7 G7 a w Wd uJ H;exact kH H (ak K2 rfl (LR results27 rfl fun H=>H.rt Wd))
end
section
open Go.RowKit
theorem Bq:Ty prog 38 1 24 [.slice none 0 0] false:=⟨by kernel_rfl,by kernel_rfl⟩
theorem aaM:∀ args w,(callFunc 82 args).run prog w=.ok (.enter 82 args) w:=enters func82 rfl (by kernel_rfl)
theorem TP:∀ args w,(callFunc 161 args).run prog w=.ok (.enter 161 args) w:=enters func161 rfl (by kernel_rfl)
theorem XM:uP prog 35 [(0,1),(1,1),(2,1),(3,1),(4,5),(9,1),(10,1)] [.int .i64 0,.int .i64 0,.int .i64 0,.string ⟨#[]⟩,.slice none 0 0,.int .i64 0,.int .i64 0,.slice none 0 0,.slice none 0 0,.slice none 0 0,.slice none 0 0]:=⟨by kernel_rfl,by kernel_rfl⟩
theorem abg {α:Type} {A:List α} {p:α→Bool} {k:Nat} (hk:k < A.length):((A.take (k+1)).filter p).length=((A.take k).filter p).length+if p A[k]=true then 1 else 0:=by
 rw [jZ hk,List.filter_append,lJ]
 by_cases h:p A[k]=true
 ·simp [h]
 simp [h]
theorem ake {α:Type} {A:List α} {p:α→Bool} {k:Nat} (hk:k < A.length) (h:p A[k]=true):(A.filter p)[((A.take k).filter p).length]?=some A[k]:=by
 have e:A.filter p=(A.take k).filter p++(A.drop k).filter p:=by rw [← List.filter_append,List.take_append_drop]
 rw [e,BF (dQ _),Nat.sub_self,kR hk,List.filter_cons,au h]
 rfl
def ET (a:(Int × Int) × ay):Bool:=decide (a.2.kind=7)
def jG (l:List ay):List ((Int × Int) × ay):=(eZ 0 0 l).filter ET
set_option maxHeartbeats 1000000 in
theorem aqN {G:GH} {bd:Nat} {D:kN} {l:List ay} (hb:G bd=some (.cells D.cells.toArray 50 (0,0))) (hv:aB G (.sl 11 (l.map ay.dat)) (dD D.f)) (hz:bM l≤4294967296) :
  Iter prog G (.func (.func 161) #[] #[(aK bd 0)]) ((jG l).map xQ):=by
 intro J Jx fv G1 L w0 Ce hGi nk hJx hJ hO hcb;refine mU (caps:=[(aK bd 0)]) TP ?_;have hfl:aH G1 bd 0=some (dD D.f):=aF hGi (by unfold aH;rw [hb];rfl);refine mH (N:=20) (T:=[(0,_),(1,_)]) func161 rfl ntmps161 rfl rfl hO ?_;intro a H;refine dz (fun _ K1=>?_);refine eU (cs:=[fv]) H wn rfl Ce rfl ?_;clear H;intro b2 a w hb2 H;refine K1 _ _ ?_;clear K1;refine kP H (SR fun _ K2=>Rf BP rfl (Rg iM rfl (by assumption) ?_));clear H;intro a H;refine s_call P9 H wn rfl (adO _ _ H.ro l 0 _ hz (hv.mono hGi)) rfl ?_;clear H;rintro v7 G7 a w ⟨bl,bi,rfl,hit⟩ uJ H;refine K2 _ _ ?_;clear K2;refine sw ?_;skip;refine AA (ι:=OL) (κ:=OL) (Lc:=[(_,_)]) (fun (k:Nat) (gh:OL)=>[]) (fun (k:Nat) (gh:OL)=>gh) (fun (k:Nat) (gh:OL) (g:GH)=>J ((((eZ 0 0 l).take k).filter ET).length) g gh) (fun (gx:OL)=>Code.ret) (fun (gx:OL)=>[]) (fun (gx:OL)=>gx) (fun (gx:OL) (g:GH)=>Jx g gx) (L) (by exact H) rfl Nb (hit) (fun _ _ h=>h) rfl (fun k args g h=>by obtain ⟨_,_,rfl,_⟩:=wD h;rfl) (fun k i G G' hm h=>nk _ _ _ _ hm h) (fun x G G' hm h=>hJx _ _ _ hm h) (nk _ _ _ _ uJ hJ) ?_ ?_ ?_
 ·clear H;intro l2 uL sj bk k args gh G2 w2 F2 B2 a hk2 hm2 hI Jb GD GJ H;obtain ⟨qX,hgh⟩:∃ x,x=gh:=⟨_,rfl⟩;subst hgh;obtain ⟨hk,Iw,rfl,rM⟩:=wD hk2;obtain ⟨aA,an,ac,bA,bn,bc,Iy,IB,Iz,IC,II,IE,Jz,JC,JA,rfl,-⟩:=rM.item;dsimp only [ru,List.cons_append,List.nil_append] at H;refine dz (fun _ K3=>?_);refine dR iW H wn rfl ?_;clear H;intro b3 a w hb3 H;refine bO iW 0 (vs:=[_,_]) _ H wn rfl rfl rfl rfl rfl rfl rfl rfl ?_;clear H;intro w H;dsimp only [List.set,setRow] at H;refine K3 _ _ ?_;clear K3;refine oD ?_;refine dR dB H wn rfl ?_;clear H;intro b4 a w hb4 H;refine bO dB 0 (vs:=[_,_,_,_,_,_,_,_,_,_,_]) _ H wn rfl rfl rfl rfl rfl rfl rfl rfl ?_;clear H;intro w H;dsimp only [List.set,setRow] at H;refine aI ?_;refine Jb _ _ _ _ _ _ (by exact H.dK (Pl:=[_,_,_,_]) (dw:=[_,_,_,_]) [2,0,1,3] (by decide) rfl) ?_;clear H;intro w H;refine kP H (SB (SR fun _ K4=>aW gG aD 1 rfl rfl (Rc rfl (Rm rfl (Sp 13 rfl ?_ ?_))))) <;> clear H
  ·intro fP a H
   refine kH H (YO J4 3 fP rfl ?_);clear H;intro a H;refine bD iW (cs:=[_,_]) H (wg H rfl rfl fP) rfl rfl (H.hp.eu 2 rfl rfl) rfl ?_;clear H;intro a H;refine bD dB (cs:=[_,_,_,_,_,_,_,_,_,_,_]) H (wg H rfl rfl fP) rfl rfl (H.hp.eu 1 rfl rfl) rfl ?_;clear H;intro a H;refine xU (Li:=[_,_,_,_]++bk) (L:=qX) (St.un (A:=[_,_,_,_]) H) (wg H rfl rfl fP) rfl rfl (hcb ((((eZ 0 0 l).take k).filter ET).length) _ _ _ _ ⟨xQ (eZ 0 0 l)[k],by unfold jG;rw [qY,ake hk (show ET _=true from gq (by simpa using fP))];rfl,_,rfl,rM⟩ (fun b o h=>hm2 b o (uJ b o h)) hI (Hp.owns (Li:=[_,_,_,_]++bk) (St.un (A:=[_,_,_,_]) H).hp)) rfl ?_;clear H;rintro v17 CU Zm a w ⟨b17,rfl,hb1,hb2⟩ tY H
   simp only [mG,nV,mo] at H
   refine kH H (YN fP rfl (Pt fP rfl (Kz K4 (Cd rfl ?_ ?_)))) <;> clear H K4
   ·intro h19 a H
    refine dM ?_;refine (GJ (Zm) _ _ _ _ _ (by exact H.dK (Pl:=[_,_,_,_]) (dw:=[_,_]) [0,3] (by decide) rfl) ?_).1 rfl;exact hb2 (by simpa using h19)
   intro h19 a H
   refine fI ?_;refine GD (Zm) _ _ _ _ _ (by exact H.dK (Pl:=[_,_,_,_]) (dw:=[_,_]) [0,3] (by decide) rfl) ?_;rw [abg hk,au (show ET _=true from gq (by simpa using fP))];exact hb1 (by simpa using h19)
  intro fP a H
  try have qN:=dF fP
  refine kH H (aT fP rfl (aP fP rfl (Pf fP rfl (Kz K4 (Cf rfl rfl ?_)))));clear H K4;intro a H;refine fI ?_;refine GD (qX) _ _ _ _ _ (by exact H.dK (Pl:=[_,_,_,_]) (dw:=[_,_]) [0,3] (by decide) rfl) ?_;rw [abg hk,ah (show ¬ ET _=true from fun h=>qN (pE h)),ou];exact hI
 ·clear H;intro Hz gh H6 a w hm2 hI H;obtain ⟨qX,hgh⟩:∃ x,x=gh:=⟨_,rfl⟩;subst hgh;dsimp only [lca,aS] at H;refine (uK H 0 rfl ?_).2;clear H;intro a w H;dsimp only [List.eraseIdx_cons_succ,List.eraseIdx_cons_zero] at H;refine (leave0 H results161 ?_).1
  first
   | exact H.hp.dh (L':=Lx) (by repeat (first|exact dx _|apply List.Sublist.cons)) (.inr hI)
   | exact H.hp.dh (L':=qX) (by repeat (first|exact dx _|apply List.Sublist.cons)) (.inl (by rw [bZ,Db] at hI;rw [bZ,jG];exact hI))
 clear H;intro Hz gx H6 a w hm2 hI H;obtain ⟨Lx,hgh⟩:∃ x,x=gx:=⟨_,rfl⟩;subst hgh;dsimp only [lca,aS] at H;refine dM ?_;refine (uK H 0 rfl ?_).1;clear H;intro a w H;dsimp only [List.eraseIdx_cons_succ,List.eraseIdx_cons_zero] at H;refine (leave0 H results161 ?_).1
 first
  | exact H.hp.dh (L':=Lx) (by repeat (first|exact dx _|apply List.Sublist.cons)) (.inr hI)
  | exact H.hp.dh (L':=qX) (by repeat (first|exact dx _|apply List.Sublist.cons)) (.inl (by rw [bZ,Db] at hI;rw [bZ,jG];exact hI))
theorem aeB (G:GH) (w0:World) (hG:Hold G w0) (D:kN) (l:List ay) (hv:aB G (.sl 11 (l.map ay.dat)) (dD D.f)) (hz:bM l≤4294967296) :
  Calls prog 82 #[D.val] w0 (bR w0 G fun v G'=>∃ bd,v=.func (.func 161) #[] #[(aK bd 0)]∧Iter prog G' v ((jG l).map xQ)):=by
 refine eN [(0,_)] func82 rfl ntmps82 rfl rfl hG ?_;intro a H;refine dz (fun _ K1=>?_);refine eU (cs:=[_,_,_,_,_,_,_,_,_,_,_]) H wn rfl rfl rfl ?_;clear H;intro b1 a w hb1 H;refine kH H (ak K1 rfl (SR fun _ K2=>?_));clear H K1;intro a H;refine qR H wn rfl rfl ?_;clear H;intro a H;refine kH H (ak K2 rfl ?_);clear H K2;intro a H;refine dM ?_;obtain ⟨G2,hm2,hb2,H⟩:=H.fD;refine lv H results82 rfl ?_;exact H.rt ⟨b1,rfl,aqN hb2 (hv.mono hm2) hz⟩
mutual
theorem aoN (f t:Int):∀ x:ay,(vI f t x).length≤dG x.dat
 | .mk k c i tx h fl r=>by
  have h4:=oK (.mk k c i tx h fl r);have hf:=OH i 0 fl;have hr:=adF r;dsimp only [ay.text,ay.head,ay.flow,ay.rows] at h4;rw [vI]
  split
  ·rw [nG];omega
  split
  ·rw [nG];omega
  simp
theorem OH (f:Int):∀ (t:Int) (l:List ay),(eZ f t l).length≤bM l
 | _,[]=>by simp [eZ]
 | t,x :: l=>by
  have h1:=aoN f t x;have h2:=OH f (t+sZ x) l;rw [eZ,lJ]
  simp only [bM,fJ,fB] at *;omega
theorem aoO:∀ x:bJ,(xP x).length≤dG x.dat
 | .mk h cs=>by
  have h4:=uN (.mk h cs);have hc:=adB cs;dsimp only [bJ.head,bJ.cells] at h4;rw [xP];omega
theorem adF:∀ l:List bJ,(nL l).length≤fq l
 | []=>by simp [nL]
 | x :: l=>by
  have h1:=aoO x;have h2:=adF l;rw [nL,lJ]
  simp only [fq,fJ,fB] at *;omega
theorem aoM:∀ x:bB,(wC x).length≤dG x.dat
 | .mk i h f=>by
  have h4:=uM (.mk i h f);have hf:=OH i 0 f;dsimp only [bB.head,bB.flow] at h4;rw [wC];omega
theorem adB:∀ l:List bB,(jm l).length≤iD l
 | []=>by simp [jm]
 | x :: l=>by
  have h1:=aoM x;have h2:=adB l;rw [jm,lJ]
  simp only [iD,fJ,fB] at *;omega
end
theorem aey (l:List ay):(jG l).length≤bM l:=Nat.le_trans (List.length_filter_le _ _) (OH 0 0 l)
theorem anA (G:GH) (n:Int):bH G [li n] [vi n]:=by simp [bH,aB,Value.oneCell']
theorem ahu (G:GH) (w0:World) (hG:Hold G w0) (D:kN) (l:List ay) (hv:aB G (.sl 11 (l.map ay.dat)) (dD D.f)) (hz:bM l≤4294967296) :
  Calls prog 26 #[D.val] w0 (bR w0 G fun u G'=>aB G' (.sl 1 ((jG l).map fun a:(Int × Int) × ay=>[li a.2.id])) u):=by
 have hml:4294967299≤maxLen:=by decide
 have hn:=aey l;refine eN [(0,_)] func26 rfl ntmps26 rfl rfl hG ?_;intro a H;refine dz (fun _ K1=>?_);refine eU (cs:=[_,_,_,_,_,_,_,_,_,_,_]) H wn rfl rfl rfl ?_;clear H;intro b1 a w hb1 H;refine kH H (ak K1 rfl (SR fun _ K2=>?_));clear H K1;intro a H;refine dR Bq H wn rfl ?_;clear H;intro b3 a w hb3 H;refine K2 _ _ ?_;clear K2;refine aO (fun _ K3=>?_);refine aO (fun _ K4=>?_);have H:=H.dK (Pl:=[_,_]) (dw:=[_,_]) [1,0] (by decide) rfl;refine oD ?_;refine bD mZ (cs:=[_,_,_,_,_,_,_,_,_,_,_]) H wn rfl rfl (H.hp.eu 0 rfl rfl) rfl ?_;clear H;intro a H;refine s_call aaM H wn rfl (aeB _ _ H.ro D l hv hz) rfl ?_;clear H;rintro v7 G7 a w ⟨bd,rfl,hit⟩ uJ H;refine aI ?_;refine K4 _ _ ?_;clear K4;refine sw ?_;skip;refine AA (ι:=aj × List aj × OL) (κ:=Empty) (Lc:=[(_,_)]) (fun (k:Nat) (gh:aj × List aj × OL)=>[(b3,.cells #[gh.1] 38 (0,0))]) (fun (k:Nat) (gh:aj × List aj × OL)=>gh.2.2) (fun (k:Nat) (gh:aj × List aj × OL) (g:GH)=>iP 3 1 gh.1 k gh.2.1 gh.2.2∧ji g 1 (((jG l).take k).map fun a:(Int × Int) × ay=>[li a.2.id]) gh.2.1) (fun x=>x.elim) (fun x=>x.elim) (fun x=>x.elim) (fun x=>x.elim) ((.slice none 0 0,[],[])) (by exact H.Rj (A:=[_,_])) rfl TP (hit) (fun _ _ h=>h) rfl (fun k args g h=>by obtain ⟨_,_,rfl,_⟩:=wD h;rfl) (fun k i G G' hm h=>⟨h.1,h.2.mono hm⟩) (fun x=>x.elim) (⟨iP.nil,ji.nil⟩) ?_ ?_ ?_
 ·clear H;intro l3 uL sj bk k args gh G3 w3 F3 B3 a hk3 sM hI Jc Jp Wo H;obtain ⟨v,xs,Lo⟩:=gh;dsimp only at hI H;obtain ⟨hk,Iw,rfl,rM⟩:=wD hk3;obtain ⟨aA,an,ac,bA,bn,bc,Iy,IB,Iz,IC,II,IE,Jz,JC,JA,rfl,-⟩:=rM.item;dsimp only [ru,List.cons_append,List.nil_append] at H;obtain ⟨hrw,kD⟩:=hI;refine oD ?_;refine dR dB H wn rfl ?_;clear H;intro b5 a w hb5 H;refine bO dB 0 (vs:=[_,_,_,_,_,_,_,_,_,_,_]) _ H wn rfl rfl rfl rfl rfl rfl rfl rfl ?_;clear H;intro w H;dsimp only [List.set,setRow] at H;refine aI ?_;refine Jc _ _ _ _ _ _ (by exact H.dK (Pl:=[_,_,_,_]) (dw:=[_,_,_,_]) [1,0,2,3] (by decide) rfl) ?_;clear H;intro w H;refine kP H (SB (SC (Ro Bq 3 rfl (aW qg aD 1 rfl rfl ?_))));clear H;intro a H;refine jF om aD [_] [_] H wn rfl rfl rfl rfl rfl (by intro i q h;match i,h with|0,h=>exact h|n+1,h=>simp at h) rfl rfl ?_;clear H;intro b13 a w ND H;refine xS (Li:=[_,_,_,_,_]++bk) (Lo:=Lo) (news:=[vi (jG l)[k].2.id]) om aD rfl rfl (St.un (A:=[_,_,_,_,_]) H) wn rfl rfl hrw rfl (H.hp.eu 0 rfl rfl) rfl (by omega) (by omega) rfl ?_;clear H;intro v14 SN a w Oj H;obtain ⟨Sn,c14,rfl,-,-⟩:=Oj.shape
  simp only [mG,nV,mo] at H
  refine bO Bq 4 (vs:=[_]) _ H wn rfl rfl rfl rfl rfl rfl rfl rfl ?_;clear H;intro w H;dsimp only [List.set,setRow] at H;refine aI ?_;refine Jp ((.slice Sn (k+1) c14,xs++[vi (jG l)[k].2.id],SN)) _ _ _ _ _ (by exact H.dK (Pl:=[_,_,_,_,_]) (dw:=[_,_,_]) [1,3,4] (by decide) rfl) ?_;exact ⟨Oj,by rw [jZ hk,nP];exact kD.snoc (anA _ _) rfl⟩
 ·clear H;intro Sr gh SE a w sM hI H;obtain ⟨v,xs,Lo⟩:=gh;dsimp only at hI H;dsimp only [lca,aS] at H;obtain ⟨hrw,kD⟩:=hI;rw [bZ] at hrw kD;rw [Db] at kD;refine K3 _ _ ?_;clear K3;refine kP H (SR fun _ K5=>Ro Bq 2 rfl (ak K5 rfl ?_));clear H K5;intro a H;refine dM ?_;refine (uK H 0 rfl ?_).1;clear H;intro a w H;dsimp only [List.eraseIdx_cons_succ,List.eraseIdx_cons_zero] at H;refine lv H results26 rfl ?_;obtain ⟨Gr,hmr,hrep,H⟩:=St.zM (Li:=[_,_]) H hrw (rows:=(jG l).map fun a:(Int × Int) × ay=>[li a.2.id]) (by simp) kD;exact H.rt hrep
 intro Dk x;exact x.elim
def Sm:ay:=.mk 0 0 0 ⟨#[]⟩ ⟨[],⟨0,0,[],[]⟩⟩ [] []
def CG (l:List ay) (id:Int):Option ay:=((jG l).find? fun a=>decide (a.2.id=id)).map (·.2)
theorem X5 {l:List ay} {a:(Int × Int) × ay} (h:a∈jG l):a∈eZ 0 0 l:=(List.mem_filter.1 h).1
set_option maxHeartbeats 1000000 in
theorem aap (G:GH) (w0:World) (hG:Hold G w0) (D:kN) (l:List ay) (id:Int) (hv:aB G (.sl 11 (l.map ay.dat)) (dD D.f)) (hz:bM l≤4294967296) (hsz:∀ a∈jG l,dG a.2.dat≤4294967290) :
  Calls prog 32 #[D.val,vi id] w0 (bR w0 G fun u G'=>∃ cs,u=.tuple #[.agg cs.toArray,.bool (CG l id).isSome]∧bH G' ((CG l id).getD Sm).dat cs):=by
 refine eN [(0,_),(1,_)] func32 rfl ntmps32 rfl rfl hG ?_;intro a H;refine dz (fun _ K1=>?_);refine eU (cs:=[_,_,_,_,_,_,_,_,_,_,_]) H wn rfl rfl rfl ?_;clear H;intro b2 a w hb2 H;refine eU (cs:=[_]) H wn rfl rfl rfl ?_;clear H;intro b3 a w hb3 H;refine dR dB H wn rfl ?_;clear H;intro b4 a w hb4 H;refine dR nN H wn rfl ?_;clear H;intro b5 a w hb5 H;refine K1 _ _ ?_;clear K1;refine aO (fun _ K2=>?_);refine dz (fun _ K3=>?_);refine bD mZ (cs:=[_,_,_,_,_,_,_,_,_,_,_]) H wn rfl rfl (H.hp.eu 3 rfl rfl) rfl ?_;clear H;intro a H;refine s_call aaM H wn rfl (aeB _ _ H.ro D l hv hz) rfl ?_;clear H;rintro v9 G9 a w ⟨bd,rfl,hit⟩ Ba H;refine K3 _ _ ?_;clear K3;refine sw ?_;skip;refine AA (ι:=Unit) (κ:=List aj) (Lc:=[(_,_),(_,_)]) (fun (k:Nat) (gh:Unit)=>[(b4,.cells #[vi 0,vi 0,vi 0,.string ⟨#[]⟩,.slice none 0 0,vi 0,vi 0,.slice none 0 0,.slice none 0 0,.slice none 0 0,.slice none 0 0] 35 (0,0)),(b5,.cells #[.bool false] 4 (0,0))]) (fun (k:Nat) (gh:Unit)=>[]) (fun (k:Nat) (gh:Unit) (g:GH)=>((jG l).take k).find? (fun a=>decide (a.2.id=id))=none) (fun (gx:List aj)=>Code.ret) (fun (gx:List aj)=>[(b4,.cells gx.toArray 35 (0,0)),(b5,.cells #[.bool true] 4 (0,0))]) (fun (gx:List aj)=>[]) (fun (gx:List aj) (g:GH)=>∃ x,CG l id=some x∧bH g x.dat gx) (()) (by exact H.dK (Pl:=[_,_,_,_]) (dw:=[_,_,_,_]) [2,3,1,0] (by decide) rfl) rfl TP (hit) (fun _ _ h=>h) rfl (fun k args g h=>by obtain ⟨_,_,rfl,_⟩:=wD h;rfl) (fun _ _ _ _ _ h=>h) (fun x G G' hm h=>let ⟨f,h1,h2⟩:=h;⟨f,h1,h2.mono hm⟩) (rfl) ?_ ?_ ?_
 ·clear H;intro l2 uL sj bk k args gh G2 w2 F2 B2 a hk2 hm2 hI Jb GD GJ H;obtain ⟨hk,Iw,rfl,rM⟩:=wD hk2;obtain ⟨aA,an,ac,bA,bn,bc,Iy,IB,Iz,IC,II,IE,Jz,JC,JA,rfl,-⟩:=rM.item;dsimp only [ru,List.cons_append,List.nil_append] at H;refine oD ?_;refine dR dB H wn rfl ?_;clear H;intro b7 a w tV H;refine bO dB 0 (vs:=[_,_,_,_,_,_,_,_,_,_,_]) _ H wn rfl rfl rfl rfl rfl rfl rfl rfl ?_;clear H;intro w H;dsimp only [List.set,setRow] at H;refine aI ?_;refine Jb _ _ _ _ _ _ (by exact H.dK (Pl:=[_,_,_,_,_,_]) (dw:=[_,_,_,_,_,_]) [1,0,2,3,4,5] (by decide) rfl) ?_;clear H;intro w H;refine kP H (SB (SR fun _ K4=>aW qg aD 1 rfl rfl (Ro aD 2 rfl (Rc rfl (Kz K4 (Cd rfl ?_ ?_)))))) <;> clear H K4
  ·intro jO a H
   try have qw:=dT jO
   refine dz (fun _ K5=>?_);refine bD dB (cs:=[_,_,_,_,_,_,_,_,_,_,_]) H wn rfl rfl (H.hp.eu 1 rfl rfl) rfl ?_;clear H;intro a H;refine jF iN dB [_,_,_,_,_,_,_,_,_,_,_] [_,_,_,_,_,_,_,_,_,_,_] H wn rfl rfl rfl rfl rfl (by intro i q h;match i,h with|0,h=>exact h|n+1,h=>simp at h) rfl rfl ?_;clear H;intro b17 a w alf H;obtain ⟨CU,tY,amr,H⟩:=H.Nt (sz:=11) (d:=(jG l)[k].2.dat) rfl rM;refine s_call P8 H wn rfl (Z9 _ _ H.ro [(jG l)[k].2] _ amr (by have h1:=hsz _ (jr hk);show 1+dG (jG l)[k].2.dat+0≤_;omega)) rfl ?_;clear H;rintro v18 YA a w Lf hm18 H;obtain ⟨Yu,n18,c18,rfl⟩:=Lf.form;obtain rfl:n18=1:=Lf.len;obtain ⟨b,o,ahp,rfl,asQ,amu,aco⟩:=Lf.at_ 0 (jG l)[k].2.dat rfl;obtain ⟨pA,pn,pc,dA,dn,dc,yA,yn,yc,fA,fn,fc,rA,rn,rc,VD,-⟩:=aco.item;refine E5 iN dB 0 H wn rfl rfl rfl (by omega) rfl ?_;clear H;intro a H;refine bD dB (cs:=ahp) H wn rfl (by rw [VD];rfl) (fun j v hj=>H.hp.aH (amu j v hj)) rfl ?_;clear H;intro a H;rw [VD] at H;refine bO dB 4 (vs:=[_,_,_,_,_,_,_,_,_,_,_]) _ H wn rfl rfl rfl rfl rfl rfl rfl rfl ?_;clear H;intro w H;dsimp only [List.set,setRow] at H;refine bO nN 5 (vs:=[_]) _ H wn rfl rfl rfl rfl rfl rfl rfl rfl ?_;clear H;intro w H;dsimp only [List.set,setRow] at H;refine K5 _ _ ?_;clear K5;refine dM ?_;refine (GJ ([vi (jG l)[k].2.kind,vi (jG l)[k].2.code,vi (jG l)[k].2.id,.string (jG l)[k].2.text,.slice pA pn pc,vi (jG l)[k].2.head.marks.ins,vi (jG l)[k].2.head.marks.move,.slice dA dn dc,.slice yA yn yc,.slice fA fn fc,.slice rA rn rc]) _ _ _ _ _ (by exact H.dK (Pl:=[_,_,_,_,_,_]) (dw:=[_,_,_,_,_]) [0,2,3,4,5] (by decide) rfl) ?_).1 rfl;exact ⟨_,by unfold CG;rw [Qh hk hI jO];rfl,VD ▸ aco⟩
  intro jO a H
  refine fI ?_;refine GD (()) _ _ _ _ _ (by exact H.dK (Pl:=[_,_,_,_,_,_]) (dw:=[_,_,_,_,_]) [0,2,3,4,5] (by decide) rfl) ?_;exact Ux hk hI jO
 ·clear H;intro Hz gh H6 a w hm2 hI H;dsimp only [lca,aS] at H;refine K2 _ _ ?_;clear K2;refine dz (fun _ K6=>?_);refine lY XM [_,_,_,_,_,_,_,_,_,_,_] H wn rfl rfl rfl rfl ?_;clear H;intro a H;refine bO dB 3 (vs:=[_,_,_,_,_,_,_,_,_,_,_]) _ H wn rfl rfl rfl rfl rfl rfl rfl rfl ?_;clear H;intro w H;dsimp only [List.set,setRow] at H;refine bO nN 4 (vs:=[_]) _ H wn rfl rfl rfl rfl rfl rfl rfl rfl ?_;clear H;intro w H;dsimp only [List.set,setRow] at H;refine K6 _ _ ?_;clear K6;refine dM ?_;refine (uK H 0 rfl ?_).1;clear H;intro a w H;dsimp only [List.eraseIdx_cons_succ,List.eraseIdx_cons_zero] at H;refine (gN H results32 (.cons (Cy dB (cs:=[_,_,_,_,_,_,_,_,_,_,_]) H rfl rfl (H.hp.eu 2 rfl rfl)) (.cons (vJ nN H rfl (H.hp.pQ 3 rfl rfl)) .nil)) ?_).1
  have hn:CG l id=none:=by unfold CG;rw [Qg (by simpa using hI)];rfl
  exact H.rt ⟨_,by rw [hn];rfl,by rw [hn];exact bH.mkItem (x:=Sm) ⟨aB.jP rfl (by decide),aB.jP rfl (by decide),aB.jP rfl (by decide)⟩ (aB.jP rfl (by decide)) (aB.jP rfl (by decide))⟩
 clear H;intro Hz gx H6 a w hm2 hI H;obtain ⟨cs,hgh⟩:∃ x,x=gx:=⟨_,rfl⟩;subst hgh;dsimp only [lca,aS] at H;obtain ⟨x,hx,hrep⟩:=hI;obtain ⟨pA,pn,pc,dA,dn,dc,yA,yn,yc,fA,fn,fc,rA,rn,rc,rfl,-⟩:=hrep.item;refine dM ?_;refine (uK H 0 rfl ?_).1;clear H;intro a w H;dsimp only [List.eraseIdx_cons_succ,List.eraseIdx_cons_zero] at H;refine (gN H results32 (.cons (Cy dB (cs:=[_,_,_,_,_,_,_,_,_,_,_]) H rfl rfl (H.hp.eu 2 rfl rfl)) (.cons (vJ nN H rfl (H.hp.pQ 3 rfl rfl)) .nil)) ?_).1;exact H.rt ⟨_,by rw [hx];rfl,by rw [hx];exact hrep⟩
end
end Go.Proofs.YtlnhhlighgaapaaGreat
