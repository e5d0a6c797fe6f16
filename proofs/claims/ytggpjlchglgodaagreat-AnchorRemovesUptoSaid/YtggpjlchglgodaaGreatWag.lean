/-
  What the claim stands on, part 7: Brd Brs.
-/
import Derived.Test.YtggpjlchglgodaaGreatWaf
import Derived.ProofKit
import Derived.Deep.Slices
import Derived.Laws.StructEq
namespace Go.Proofs.YtggpjlchglgodaaGreat
set_option linter.all false
open Go.Proofs.Tryz
open Go.RowKit
section
open Go.ChangeShapes Go.RowKit Go.Deep
abbrev qG (W:World):GH:=fun k=>W.heap[k]?
theorem atK {W:World} {b o:Nat} {v:ah} (h:W.cell? ⟨b,o,none⟩=some v):aI (qG W) b o=some v:=by
 unfold World.cell? at h
 unfold aI qG
 split at h
 ·rename_i c e f hh
  simp only at hh
  rw [hh];simpa using h
 cases h
theorem aiF {α:Type} {p:Nat->α->Prop}:∀ n:Nat,(∀ i,i < n->∃ x,p i x)->∃ l:List α,l.length=n∧∀ i x,l[i]?=some x->p i x
 | 0,_=>⟨[],O,fun i x h=>by simp at h⟩
 | n+1,h=>by
  obtain ⟨l,hl,hp⟩:=aiF n (fun i hi=>h i V);obtain ⟨x,hx⟩:=h n V;refine ⟨l++[x],by simp [hl],fun i y hy=>?_⟩
  by_cases hi:i < l.length
  ·exact hp i y (by rwa [sZ hi] at hy)
  rw [qj V] at hy
  have hin:i - l.length=0:=by
   have:=(ji.1 hy).1
   simp at this;omega
  rw [hin] at hy
  simp only [AO,ou] at hy
  subst hy;rw [show i=n by omega];exact hx
theorem anU {H:Type} (d:DataW H):1<=Rows.uptoBulk d:=by
 cases d <;> (try simp only [Rows.uptoBulk]) <;> (try omega)
 rename_i x;cases x <;> simp only [Rows.uptoBulk] <;> omega
theorem adD {H ρ:Type} {dat:ρ->List Dat}:∀ (rs:List ρ) (D:Nat->DataW H),(∀ i r,rs[i]?=some r->bY (dat r)+1<=8*Rows.uptoBulk (D i))->eZ (rs.map dat)<=8*Rows.uptoBulkAll ((List.range rs.length).map D)
 | [],D,_=>jL _
 | r :: rs,D,h=>by
  have h0:=h 0 r O;have hp:=anU (D 0);have ih:=adD rs (fun i=>D (i+1)) (fun i r hr=>h (i+1) r (by simpa using hr));rw [lD,List.range_succ_eq_map]
  simp only [eP,List.map_map,eZ,Rows.uptoBulkAll]
  have e:(List.map (D ∘ Nat.succ) (List.range rs.length))=(List.map (fun i=>D (i+1)) (List.range rs.length)):=rfl;rw [e];omega
theorem adC {H:Type} {D:Nat->DataW H}:∀ {n i:Nat},i < n->Rows.uptoBulk (D i)<=Rows.uptoBulkAll ((List.range n).map D)
 | 0,i,h=>absurd h V
 | n+1,i,h=>by
  have key:∀ (l m:List (DataW H)),Rows.uptoBulkAll (l++m)=Rows.uptoBulkAll l+Rows.uptoBulkAll m:=by
   intro l m
   induction l with
   | nil=>simp [Rows.uptoBulkAll]
   | cons x l ih=>simp only [iT,Rows.uptoBulkAll,ih];omega
  rw [List.range_succ,jM,key]
  by_cases hi:i < n
  ·have:=adC (D:=D) hi;omega
  have:i=n:=by omega
  subst this
  simp only [eP,tq,Rows.uptoBulkAll];omega
section
variable {H:Type} {enc:TypeId × ah->H} {P:Program} {W:World} {base:Nat} {spare:Nat->Bool} {held:Bool}
theorem wU {ρ:Type} {dat:ρ->List Dat} {t e:TypeId} {sz:Nat} (hsz:0 < sz) {fuel:Nat} {cs:List ah} {x:DataW H × List MemPlace} (ht:P.underlying t=some (.slice e)) (hc:P.cellsOf e=sz) (h:DataW.trod enc P W base spare held fuel t cs=some x)
  (row:∀ n cs' D Pl,DataW.trod enc P W base spare held n e cs'=some (D,Pl)->Rows.uptoBulk D < Rows.uptoBulk x.1->∃ r:ρ,aX (qG W) (dat r) cs'∧bY (dat r)+1<=8*Rows.uptoBulk D) :
  ∃ (rs:List ρ) (v:ah),cs=[v]∧av (qG W) (.sl sz (rs.map dat)) v∧eZ (rs.map dat)+8<=8*Rows.uptoBulk x.1:=by
 rcases open_slice ht h with ⟨rfl,rfl⟩|⟨a,len,cap,m,n,D,Pl,rfl,hb,hl,hm,hmm,rfl,hx⟩
 ·exact ⟨[],_,O,av.og O Q1,by simp [eZ,Rows.uptoBulk]⟩
 obtain ⟨rs,hrl,hrs⟩:=aiF (p:=fun i (r:ρ)=>∃ cs',W.cells? base (a.add (i*sz)) sz=some cs'∧aX (qG W) (dat r) cs'∧bY (dat r)+1<=8*Rows.uptoBulk (D i)) len (fun i hi=>by
  have him:i < m:=by rw [hmm];split <;> omega
  obtain ⟨cs',h1,h2⟩:=hx i him;rw [hc] at h1;have hb1:=adC (D:=D) hi;obtain ⟨r,hr1,hr2⟩:=row n cs' (D i) (Pl i) h2 (by simp only [Rows.uptoBulk];omega)
  exact ⟨r,cs',h1,hr1,hr2⟩)
 refine ⟨rs,_,O,?_,?_⟩
 ·simp only [av,bR]
  refine ⟨some a,cap,by rw [hrl],V,hm,fun hne=>?_⟩;obtain ⟨b,off,spot⟩:=a
  have hlen:0 < rs.length:=by cases rs with|nil=>simp at hne|cons _ _=>simp
  obtain ⟨cs0,h1,-,-⟩:=hrs 0 rs[0] (fF hlen);obtain ⟨-,hl0,hg0⟩:=World.cells?_some h1
  have hspot:spot=none:=by
   have h3:=hg0 0 hsz;rw [fF V] at h3
   simpa [Addr.add] using World.cell?_spot h3
  subst hspot;refine ⟨b,off,O,nE.mk fun k r hk=>?_⟩;rw [pJ] at hk;obtain ⟨y,hy,rfl⟩:=nG.1 hk;obtain ⟨cs',h2,h3,-⟩:=hrs k y hy;obtain ⟨-,hl1,hg1⟩:=World.cells?_some h2;refine ⟨cs',hl1,fun j u hj=>atK ?_,h3⟩
  have hj2:j < sz:=by rw [<- hl1];exact (ji.1 hj).1
  have:=hg1 j hj2;rw [add_add,Go.WideShapes.add_plain] at this;rw [show off+k*sz+j=off+(k*sz+j) by omega,this];exact hj
 have:=adD rs D (fun i r hr=>(hrs i r hr).choose_spec.2.2);rw [hrl] at this
 simp only [Rows.uptoBulk];omega
end
structure uj (P:Program) (t:TypeId) (sz:Nat) (fs:List (TypeId × Nat × Nat)):Prop where
 und:P.underlying t=some (.struct (P.fieldsOf t))
 cells:P.cellsOf t=sz
 xI:(P.fieldsOf t).toList.map (fun f=>(f.type,f.offset,P.cellsOf f.type))=fs
theorem vV {P:Program} {H:Type} {enc:TypeId × ah->H} {W:World} {base:Nat} {spare:Nat->Bool} {held:Bool} {t:TypeId} {sz fuel:Nat} {fs:List (TypeId × Nat × Nat)} {cs:List ah} {x:DataW H × List MemPlace} (hs:uj P t sz fs) (h:DataW.trod enc P W base spare held fuel t cs=some x) :
  ∃ (xs:List (DataW H × List MemPlace)) (n:Nat),x.1=.agg (xs.map (·.1))∧cs.length=sz∧xs.length=fs.length∧∀ (i:Nat) (ti:TypeId) (off k:Nat),fs[i]?=some (ti,off,k)->DataW.trod enc P W base spare held n ti ((cs.drop off).take k)=xs[i]?:=by
 obtain ⟨xs,n,-,rfl,hl,hxl,hf⟩:=DataW.trod_struct hs.und h;refine ⟨xs,n,O,by rw [hl,hs.cells],by rw [hxl,<- hs.xI];simp,fun i ti off k hi=>?_⟩;rw [<- hs.xI,pJ] at hi;obtain ⟨f,hf1,hf2⟩:=nG.1 hi
 simp only [iE] at hf2
 obtain ⟨rfl,rfl,rfl⟩:=hf2;exact hf i f (by simpa using hf1)
section
variable {H:Type} {enc:TypeId × ah->H} {W:World} {base:Nat} {spare:Nat->Bool} {held:Bool}
theorem aBx:uj prog 197 2 [(3,0,1),(3,1,1)]:=⟨Z,Z,Z⟩
theorem ajN {n:Nat} {cs:List ah} {D:DataW H} {Pl:List MemPlace} (h:DataW.trod enc prog W base spare held n 197 cs=some (D,Pl)):∃ r:jf,aX (qG W) r.dat cs∧bY r.dat+1<=8*Rows.uptoBulk D:=by
 obtain ⟨xs,m,hx,hl,hxl,hf⟩:=vV aBx h
 match cs,hl,xs,hxl with
 | [c0,c1],_,[y0,y1],_ =>
  have h0:=hf 0 _ _ _ O;have h1:=hf 1 _ _ _ O;obtain ⟨k0,e0,d0,-⟩:=DataW.trod_int underlying3 h0;obtain ⟨k1,e1,d1,-⟩:=DataW.trod_int underlying3 h1
  simp at e0 e1
  subst e0 e1
  simp only at hx
  refine ⟨⟨k0,k1⟩,?_,?_⟩
  ·simp [aX,jf.dat,av,Value.oneCell']
  rw [hx];simp [d0,d1,jf.dat,bY,om,Rows.uptoBulk,Rows.uptoBulkAll]
theorem aBq:uj prog 200 2 [(3,0,1),(3,1,1)]:=⟨Z,Z,Z⟩
theorem azD {n:Nat} {cs:List ah} {D:DataW H} {Pl:List MemPlace} (h:DataW.trod enc prog W base spare held n 200 cs=some (D,Pl)):∃ r:ku,aX (qG W) r.dat cs∧bY r.dat+1<=8*Rows.uptoBulk D:=by
 obtain ⟨xs,m,hx,hl,hxl,hf⟩:=vV aBq h
 match cs,hl,xs,hxl with
 | [c0,c1],_,[y0,y1],_ =>
  have h0:=hf 0 _ _ _ O;have h1:=hf 1 _ _ _ O;obtain ⟨k0,e0,d0,-⟩:=DataW.trod_int underlying3 h0;obtain ⟨k1,e1,d1,-⟩:=DataW.trod_int underlying3 h1
  simp at e0 e1
  subst e0 e1
  simp only at hx
  refine ⟨⟨k0,k1⟩,?_,?_⟩
  ·simp [aX,ku.dat,av,Value.oneCell']
  rw [hx];simp [d0,d1,ku.dat,bY,om,Rows.uptoBulk,Rows.uptoBulkAll]
theorem aBt:uj prog 202 4 [(3,0,1),(3,1,1),(3,2,1),(4,3,1)]:=⟨Z,Z,Z⟩
theorem azH {n:Nat} {cs:List ah} {D:DataW H} {Pl:List MemPlace} (h:DataW.trod enc prog W base spare held n 202 cs=some (D,Pl)):∃ r:jK,aX (qG W) r.dat cs∧bY r.dat+1<=8*Rows.uptoBulk D:=by
 obtain ⟨xs,m,hx,hl,hxl,hf⟩:=vV aBt h
 match cs,hl,xs,hxl with
 | [c0,c1,c2,c3],_,[y0,y1,y2,y3],_ =>
  have h0:=hf 0 _ _ _ O;have h1:=hf 1 _ _ _ O;have h2:=hf 2 _ _ _ O;have h3:=hf 3 _ _ _ O;obtain ⟨k0,e0,d0,-⟩:=DataW.trod_int underlying3 h0;obtain ⟨k1,e1,d1,-⟩:=DataW.trod_int underlying3 h1;obtain ⟨k2,e2,d2,-⟩:=DataW.trod_int underlying3 h2;obtain ⟨k3,e3,d3⟩:=DataW.trod_bool underlying4 h3
  simp at e0 e1 e2 e3
  subst e0 e1 e2 e3
  simp only at hx
  refine ⟨⟨k0,k1,k2,k3⟩,?_,?_⟩
  ·simp [aX,jK.dat,av,Value.oneCell']
  rw [hx];simp [d0,d1,d2,d3,jK.dat,bY,om,Rows.uptoBulk,Rows.uptoBulkAll]
theorem aBw:uj prog 27 4 [(3,0,1),(3,1,1),(24,2,1),(25,3,1)]:=⟨Z,Z,Z⟩
theorem aBr:uj prog 29 5 [(23,0,1),(27,1,4)]:=⟨Z,Z,Z⟩
theorem adM:prog.cellsOf 197=2:=by kernel_rfl
theorem aol:prog.cellsOf 200=2:=by kernel_rfl
theorem aom:prog.cellsOf 202=4:=by kernel_rfl
theorem SE {n:Nat} {cs:List ah} {x:DataW H × List MemPlace} (h:DataW.trod enc prog W base spare held n 29 cs=some x):∃ (r:fH) (p d l:ah),cs=[p,vi r.marks.ins,vi r.marks.move,d,l]∧jI (qG W) r p d l∧oN r+15<=8*Rows.uptoBulk x.1:=by
 obtain ⟨xs,m,hx,hl,hxl,hf⟩:=vV aBr h
 match cs,hl,xs,hxl with
 | [c0,c1,c2,c3,c4],_,[y0,y1],_ =>
  have h0:=hf 0 _ _ _ O;have h1:=hf 1 _ _ _ O;obtain ⟨ps,pv,e0,rp,sp⟩:=wU (dat:=jf.dat) (sz:=2) V underlying23 adM h0 (fun n cs' D Pl hh _=>ajN hh);obtain ⟨zs,m2,hz,hzl,hzx,Ei⟩:=vV aBw h1
  match zs,hzx with
  | [z0,z1,z2,z3],_ =>
   have g0:=Ei 0 _ _ _ O;have g1:=Ei 1 _ _ _ O;have g2:=Ei 2 _ _ _ O;have g3:=Ei 3 _ _ _ O;obtain ⟨k0,e1,d0,-⟩:=DataW.trod_int underlying3 g0;obtain ⟨k1,e2,d1,-⟩:=DataW.trod_int underlying3 g1;obtain ⟨ds,dv,e3,rd,sd⟩:=wU (dat:=ku.dat) (sz:=2) V underlying24 aol g2 (fun n cs' D Pl hh _=>azD hh);obtain ⟨ls,lv,e4,rl,sl⟩:=wU (dat:=jK.dat) (sz:=4) V underlying25 aom g3 (fun n cs' D Pl hh _=>azH hh)
   simp at e0 e1 e2 e3 e4
   subst e0 e1 e2 e3 e4;refine ⟨⟨ps,⟨k0,k1,ds,ls⟩⟩,_,_,_,O,⟨rp,rd,rl⟩,?_⟩;have hzh:=OT ⟨ps,⟨k0,k1,ds,ls⟩⟩
   simp only at hzh
   rw [hx]
   simp only [eP,tq,Rows.uptoBulk,Rows.uptoBulkAll,hz,d0,d1]
   omega
theorem aBs:uj prog 128 11 [(3,0,1),(3,1,1),(3,2,1),(9,3,1),(29,4,5),(22,9,1),(60,10,1)]:=⟨Z,Z,Z⟩
theorem aBy:uj prog 131 6 [(29,0,5),(61,5,1)]:=⟨Z,Z,Z⟩
theorem aBo:uj prog 134 7 [(3,0,1),(29,1,5),(22,6,1)]:=⟨Z,Z,Z⟩
theorem VP:prog.cellsOf 128=11:=by kernel_rfl
theorem aop:prog.cellsOf 131=6:=by kernel_rfl
theorem aoj:prog.cellsOf 134=7:=by kernel_rfl
theorem VF {p:Prop} (h:p:=by
 simp only [eP,tq,Rows.uptoBulk,Rows.uptoBulkAll]):p:=h
theorem ajM:∀ (N:Nat) (n:Nat) (cs:List ah) (D:DataW H) (Pl:List MemPlace),DataW.trod enc prog W base spare held n 128 cs=some (D,Pl)->Rows.uptoBulk D < N->∃ r:ak,aX (qG W) r.dat cs∧bY r.dat+1<=8*Rows.uptoBulk D
 | 0,_,_,_,_,_,hN=>absurd hN V
 | N+1,n,cs,D,Pl,h,hN=>by
  have ih:=ajM N;obtain ⟨xs,m,hx,hl,hxl,hf⟩:=vV aBs h
  match cs,hl,xs,hxl with
  | [c0,c1,c2,c3,c4,c5,c6,c7,c8,c9,c10],_,[y0,y1,y2,y3,y4,y5,y6],_ =>
   have h0:=hf 0 _ _ _ O;have h1:=hf 1 _ _ _ O;have h2:=hf 2 _ _ _ O;have h3:=hf 3 _ _ _ O;have h4:=hf 4 _ _ _ O;have h5:=hf 5 _ _ _ O;have h6:=hf 6 _ _ _ O
   simp only at hx
   have hD:Rows.uptoBulk D=Rows.uptoBulk y0.1+(Rows.uptoBulk y1.1+(Rows.uptoBulk y2.1+(Rows.uptoBulk y3.1+(Rows.uptoBulk y4.1+(Rows.uptoBulk y5.1+(Rows.uptoBulk y6.1+0))))))+1:=by
    rw [hx];exact VF
   obtain ⟨k0,e0,d0,-⟩:=DataW.trod_int underlying3 h0;obtain ⟨k1,e1,d1,-⟩:=DataW.trod_int underlying3 h1;obtain ⟨k2,e2,d2,-⟩:=DataW.trod_int underlying3 h2;obtain ⟨s,e3,d3,-⟩:=DataW.trod_string underlying9 h3;obtain ⟨hd,p,d,l,e4,rh,sh⟩:=SE h4;obtain ⟨fl,fv,e5,rf,sf⟩:=wU (dat:=ak.dat) (sz:=11) V underlying22 VP h5 (fun n cs' D' dL hh hlt=>ih n cs' D' dL hh V)
   obtain ⟨rs,rv,e6,rr,sr⟩:=wU (dat:=aM.dat) (sz:=6) V underlying60 aop h6 (fun n cs' D' dL hh hlt=>by
    obtain ⟨xs,m,hx,hl,hxl,hf⟩:=vV aBy hh
    match cs',hl,xs,hxl with
    | [a0,a1,a2,a3,a4,a5],_,[w0,w1],_ =>
     have g0:=hf 0 _ _ _ O;have g1:=hf 1 _ _ _ O
     simp only at hx
     have hD':Rows.uptoBulk D'=Rows.uptoBulk w0.1+(Rows.uptoBulk w1.1+0)+1:=by
      rw [hx];exact VF
     obtain ⟨hd2,p2,d2',l2,q0,rh2,sh2⟩:=SE g0
     obtain ⟨cl,cv,q1,rc,sc⟩:=wU (dat:=aN.dat) (sz:=7) V underlying61 aoj g1 (fun n cs'' D'' aDb H6 hlt2=>by
      obtain ⟨xs,m,hx2,hl2,axe,hf2⟩:=vV aBo H6
      match cs'',hl2,xs,axe with
      | [b0,b1,b2,b3,b4,b5,b6],_,[v0,v1,v2],_ =>
       have u0:=hf2 0 _ _ _ O;have u1:=hf2 1 _ _ _ O;have u2:=hf2 2 _ _ _ O
       simp only at hx2
       have aDj:Rows.uptoBulk D''=Rows.uptoBulk v0.1+(Rows.uptoBulk v1.1+(Rows.uptoBulk v2.1+0))+1:=by
        rw [hx2];exact VF
       obtain ⟨j0,t0,z0,-⟩:=DataW.trod_int underlying3 u0;obtain ⟨hd3,p3,d3',l3,t1,rh3,sh3⟩:=SE u1;obtain ⟨WQ,fv3,t2,rf3,sf3⟩:=wU (dat:=ak.dat) (sz:=11) V underlying22 VP u2 (fun n cs3 D3 Pl3 hh3 hlt3=>ih n cs3 D3 Pl3 hh3 V)
       simp at t0 t1 t2
       obtain ⟨rfl,rfl,rfl,rfl,rfl⟩:=t1;subst t0 t2;have hz:=Ar (aN.mk j0 hd3 WQ)
       simp only [aN.head,aN.flow] at hz
       have bz:Rows.uptoBulk v0.1=1:=by rw [z0];rfl
       exact ⟨aN.mk j0 hd3 WQ,aX.RY (x:=aN.mk j0 hd3 WQ) rh3 rf3,by simp only [aP] at hz;omega⟩)
     simp at q0 q1
     obtain ⟨rfl,rfl,rfl,rfl,rfl⟩:=q0;subst q1;have hz:=Av (aM.mk hd2 cl)
     simp only [aM.head,aM.cells] at hz
     exact ⟨aM.mk hd2 cl,aX.RZ (x:=aM.mk hd2 cl) rh2 rc,by simp only [iA] at hz;omega⟩)
   simp at e0 e1 e2 e3 e4 e5 e6
   obtain ⟨rfl,rfl,rfl,rfl,rfl⟩:=e4;subst e0 e1 e2 e3 e5 e6;have hz:=pG (ak.mk k0 k1 k2 s hd fl rs)
   simp only [ak.text,ak.head,ak.flow,ak.rows] at hz
   have b0:Rows.uptoBulk y0.1=1:=by rw [d0];rfl
   have b1:Rows.uptoBulk y1.1=1:=by rw [d1];rfl
   have b2:Rows.uptoBulk y2.1=1:=by rw [d2];rfl
   have b3:Rows.uptoBulk y3.1=s.size+1:=by rw [d3];show s.data.toList.length+1=s.data.size+1;rw [uZ]
   exact ⟨ak.mk k0 k1 k2 s hd fl rs,aX.mkItem (x:=ak.mk k0 k1 k2 s hd fl rs) rh rf rr,by simp only [aP,gq] at hz;omega⟩
theorem azG {n:Nat} {cs:List ah} {x:DataW H × List MemPlace} (h:DataW.trod enc prog W base spare held n 22 cs=some x):∃ (l:List ak) (v:ah),cs=[v]∧av (qG W) (.sl 11 (l.map ak.dat)) v∧aP l+8<=8*Rows.uptoBulk x.1 :=
 wU (dat:=ak.dat) (sz:=11) V underlying22 VP h (fun n cs' D' dL hh _=>ajM _ n cs' D' dL hh (Nat.lt_succ_self _))
end
end
section
open Go.ChangeShapes Go.RowKit Go.Deep
theorem Eu {ρ:Type} {dat:ρ->List Dat}:∀ {l:List ρ} {x:ρ},x∈l->bY (dat x)+1<=eZ (l.map dat)
 | y :: l,x,h=>by
  rw [eP,eZ]
  rcases iD.1 h with rfl|h
  ·omega
  have:=Eu (dat:=dat) h;omega
section
variable {H:Type} {enc:TypeId × ah->H} {W:World} {base:Nat} {spare:Nat->Bool} {held:Bool}
theorem aBB:uj prog 183 6 [(3,0,1),(3,1,1),(9,2,1),(3,3,1),(3,4,1),(23,5,1)]:=⟨Z,Z,Z⟩
theorem aor:prog.cellsOf 183=6:=by kernel_rfl
theorem azM {n:Nat} {cs:List ah} {D:DataW H} {Pl:List MemPlace} (h:DataW.trod enc prog W base spare held n 183 cs=some (D,Pl)):∃ r:cB,aX (qG W) r.dat cs∧bY r.dat+1<=8*Rows.uptoBulk D:=by
 obtain ⟨xs,m,hx,hl,hxl,hf⟩:=vV aBB h
 match cs,hl,xs,hxl with
 | [c0,c1,c2,c3,c4,c5],_,[y0,y1,y2,y3,y4,y5],_ =>
  have h0:=hf 0 _ _ _ O;have h1:=hf 1 _ _ _ O;have h2:=hf 2 _ _ _ O;have h3:=hf 3 _ _ _ O;have h4:=hf 4 _ _ _ O;have h5:=hf 5 _ _ _ O
  simp only at hx
  have hD:Rows.uptoBulk D=Rows.uptoBulk y0.1+(Rows.uptoBulk y1.1+(Rows.uptoBulk y2.1+(Rows.uptoBulk y3.1+(Rows.uptoBulk y4.1+(Rows.uptoBulk y5.1+0)))))+1:=by rw [hx];simp only [eP,tq,Rows.uptoBulk,Rows.uptoBulkAll]
  obtain ⟨k0,e0,d0,-⟩:=DataW.trod_int underlying3 h0;obtain ⟨k1,e1,d1,-⟩:=DataW.trod_int underlying3 h1;obtain ⟨k2,e2,d2,-⟩:=DataW.trod_string underlying9 h2;obtain ⟨k3,e3,d3,-⟩:=DataW.trod_int underlying3 h3;obtain ⟨k4,e4,d4,-⟩:=DataW.trod_int underlying3 h4;obtain ⟨k5,q5,e5,r5,d5⟩:=wU (dat:=jf.dat) (sz:=2) V underlying23 adM h5 (fun n cs' D Pl hh _=>ajN hh)
  simp at e0 e1 e2 e3 e4 e5
  subst e0 e1 e2 e3 e4 e5
  have b0:Rows.uptoBulk y0.1=1:=by rw [d0];rfl
  have b1:Rows.uptoBulk y1.1=1:=by rw [d1];rfl
  have b2:Rows.uptoBulk y2.1=k2.size+1:=by rw [d2];show k2.data.toList.length+1=k2.data.size+1;rw [uZ]
  have b3:Rows.uptoBulk y3.1=1:=by rw [d3];rfl
  have b4:Rows.uptoBulk y4.1=1:=by rw [d4];rfl
  refine ⟨⟨k0,k1,k2,k3,k4,k5⟩,?_,?_⟩
  ·exact ⟨_,_,O,(by simp [av,Value.oneCell']),⟨_,_,O,(by simp [av,Value.oneCell']),⟨_,_,O,(by simp [av,Value.oneCell']),⟨_,_,O,(by simp [av,Value.oneCell']),⟨_,_,O,(by simp [av,Value.oneCell']),⟨_,_,O,r5,O⟩⟩⟩⟩⟩⟩
  simp only [cB.dat,bY,om];omega
theorem aBv:uj prog 220 4 [(3,0,1),(3,1,1),(9,2,1),(3,3,1)]:=⟨Z,Z,Z⟩
theorem aoo:prog.cellsOf 220=4:=by kernel_rfl
theorem azI {n:Nat} {cs:List ah} {D:DataW H} {Pl:List MemPlace} (h:DataW.trod enc prog W base spare held n 220 cs=some (D,Pl)):∃ r:pI,aX (qG W) r.dat cs∧bY r.dat+1<=8*Rows.uptoBulk D:=by
 obtain ⟨xs,m,hx,hl,hxl,hf⟩:=vV aBv h
 match cs,hl,xs,hxl with
 | [c0,c1,c2,c3],_,[y0,y1,y2,y3],_ =>
  have h0:=hf 0 _ _ _ O;have h1:=hf 1 _ _ _ O;have h2:=hf 2 _ _ _ O;have h3:=hf 3 _ _ _ O
  simp only at hx
  have hD:Rows.uptoBulk D=Rows.uptoBulk y0.1+(Rows.uptoBulk y1.1+(Rows.uptoBulk y2.1+(Rows.uptoBulk y3.1+0)))+1:=by rw [hx];simp only [eP,tq,Rows.uptoBulk,Rows.uptoBulkAll]
  obtain ⟨k0,e0,d0,-⟩:=DataW.trod_int underlying3 h0;obtain ⟨k1,e1,d1,-⟩:=DataW.trod_int underlying3 h1;obtain ⟨k2,e2,d2,-⟩:=DataW.trod_string underlying9 h2;obtain ⟨k3,e3,d3,-⟩:=DataW.trod_int underlying3 h3
  simp at e0 e1 e2 e3
  subst e0 e1 e2 e3
  have b0:Rows.uptoBulk y0.1=1:=by rw [d0];rfl
  have b1:Rows.uptoBulk y1.1=1:=by rw [d1];rfl
  have b2:Rows.uptoBulk y2.1=k2.size+1:=by rw [d2];show k2.data.toList.length+1=k2.data.size+1;rw [uZ]
  have b3:Rows.uptoBulk y3.1=1:=by rw [d3];rfl
  refine ⟨⟨k0,k1,k2,k3⟩,?_,?_⟩
  ·exact ⟨_,_,O,(by simp [av,Value.oneCell']),⟨_,_,O,(by simp [av,Value.oneCell']),⟨_,_,O,(by simp [av,Value.oneCell']),⟨_,_,O,(by simp [av,Value.oneCell']),O⟩⟩⟩⟩
  simp only [pI.dat,bY,om];omega
theorem aBu:uj prog 186 2 [(3,0,1),(184,1,1)]:=⟨Z,Z,Z⟩
theorem aon:prog.cellsOf 186=2:=by kernel_rfl
theorem azJ {n:Nat} {cs:List ah} {D:DataW H} {Pl:List MemPlace} (h:DataW.trod enc prog W base spare held n 186 cs=some (D,Pl)):∃ r:fK,aX (qG W) r.dat cs∧bY r.dat+1<=8*Rows.uptoBulk D:=by
 obtain ⟨xs,m,hx,hl,hxl,hf⟩:=vV aBu h
 match cs,hl,xs,hxl with
 | [c0,c1],_,[y0,y1],_ =>
  have h0:=hf 0 _ _ _ O;have h1:=hf 1 _ _ _ O
  simp only at hx
  have hD:Rows.uptoBulk D=Rows.uptoBulk y0.1+(Rows.uptoBulk y1.1+0)+1:=by rw [hx];simp only [eP,tq,Rows.uptoBulk,Rows.uptoBulkAll]
  obtain ⟨k0,e0,d0,-⟩:=DataW.trod_int underlying3 h0;obtain ⟨k1,q1,e1,r1,d1⟩:=wU (dat:=pI.dat) (sz:=4) V underlying184 aoo h1 (fun n cs' D Pl hh _=>azI hh)
  simp at e0 e1
  subst e0 e1
  have b0:Rows.uptoBulk y0.1=1:=by rw [d0];rfl
  refine ⟨⟨k0,k1⟩,?_,?_⟩
  ·exact ⟨_,_,O,(by simp [av,Value.oneCell']),⟨_,_,O,r1,O⟩⟩
  simp only [fK.dat,bY,om];omega
theorem aBp:uj prog 190 6 [(3,0,1),(3,1,1),(9,2,1),(3,3,1),(9,4,1),(4,5,1)]:=⟨Z,Z,Z⟩
theorem aok:prog.cellsOf 190=6:=by kernel_rfl
theorem azC {n:Nat} {cs:List ah} {D:DataW H} {Pl:List MemPlace} (h:DataW.trod enc prog W base spare held n 190 cs=some (D,Pl)):∃ r:jc,aX (qG W) r.dat cs∧bY r.dat+1<=8*Rows.uptoBulk D:=by
 obtain ⟨xs,m,hx,hl,hxl,hf⟩:=vV aBp h
 match cs,hl,xs,hxl with
 | [c0,c1,c2,c3,c4,c5],_,[y0,y1,y2,y3,y4,y5],_ =>
  have h0:=hf 0 _ _ _ O;have h1:=hf 1 _ _ _ O;have h2:=hf 2 _ _ _ O;have h3:=hf 3 _ _ _ O;have h4:=hf 4 _ _ _ O;have h5:=hf 5 _ _ _ O
  simp only at hx
  have hD:Rows.uptoBulk D=Rows.uptoBulk y0.1+(Rows.uptoBulk y1.1+(Rows.uptoBulk y2.1+(Rows.uptoBulk y3.1+(Rows.uptoBulk y4.1+(Rows.uptoBulk y5.1+0)))))+1:=by rw [hx];simp only [eP,tq,Rows.uptoBulk,Rows.uptoBulkAll]
  obtain ⟨k0,e0,d0,-⟩:=DataW.trod_int underlying3 h0;obtain ⟨k1,e1,d1,-⟩:=DataW.trod_int underlying3 h1;obtain ⟨k2,e2,d2,-⟩:=DataW.trod_string underlying9 h2;obtain ⟨k3,e3,d3,-⟩:=DataW.trod_int underlying3 h3;obtain ⟨k4,e4,d4,-⟩:=DataW.trod_string underlying9 h4;obtain ⟨k5,e5,d5⟩:=DataW.trod_bool underlying4 h5
  simp at e0 e1 e2 e3 e4 e5
  subst e0 e1 e2 e3 e4 e5
  have b0:Rows.uptoBulk y0.1=1:=by rw [d0];rfl
  have b1:Rows.uptoBulk y1.1=1:=by rw [d1];rfl
  have b2:Rows.uptoBulk y2.1=k2.size+1:=by rw [d2];show k2.data.toList.length+1=k2.data.size+1;rw [uZ]
  have b3:Rows.uptoBulk y3.1=1:=by rw [d3];rfl
  have b4:Rows.uptoBulk y4.1=k4.size+1:=by rw [d4];show k4.data.toList.length+1=k4.data.size+1;rw [uZ]
  have b5:Rows.uptoBulk y5.1=1:=by rw [d5];rfl
  refine ⟨⟨k0,k1,k2,k3,k4,k5⟩,?_,?_⟩
  ·exact ⟨_,_,O,(by simp [av,Value.oneCell']),⟨_,_,O,(by simp [av,Value.oneCell']),⟨_,_,O,(by simp [av,Value.oneCell']),⟨_,_,O,(by simp [av,Value.oneCell']),⟨_,_,O,(by simp [av,Value.oneCell']),⟨_,_,O,(by simp [av,Value.oneCell']),O⟩⟩⟩⟩⟩⟩
  simp only [jc.dat,bY,om];omega
theorem aBC:uj prog 193 2 [(9,0,1),(9,1,1)]:=⟨Z,Z,Z⟩
theorem aos:prog.cellsOf 193=2:=by kernel_rfl
theorem azN {n:Nat} {cs:List ah} {D:DataW H} {Pl:List MemPlace} (h:DataW.trod enc prog W base spare held n 193 cs=some (D,Pl)):∃ r:mF,aX (qG W) r.dat cs∧bY r.dat+1<=8*Rows.uptoBulk D:=by
 obtain ⟨xs,m,hx,hl,hxl,hf⟩:=vV aBC h
 match cs,hl,xs,hxl with
 | [c0,c1],_,[y0,y1],_ =>
  have h0:=hf 0 _ _ _ O;have h1:=hf 1 _ _ _ O
  simp only at hx
  have hD:Rows.uptoBulk D=Rows.uptoBulk y0.1+(Rows.uptoBulk y1.1+0)+1:=by rw [hx];simp only [eP,tq,Rows.uptoBulk,Rows.uptoBulkAll]
  obtain ⟨k0,e0,d0,-⟩:=DataW.trod_string underlying9 h0;obtain ⟨k1,e1,d1,-⟩:=DataW.trod_string underlying9 h1
  simp at e0 e1
  subst e0 e1
  have b0:Rows.uptoBulk y0.1=k0.size+1:=by rw [d0];show k0.data.toList.length+1=k0.data.size+1;rw [uZ]
  have b1:Rows.uptoBulk y1.1=k1.size+1:=by rw [d1];show k1.data.toList.length+1=k1.data.size+1;rw [uZ]
  refine ⟨⟨k0,k1⟩,?_,?_⟩
  ·exact ⟨_,_,O,(by simp [av,Value.oneCell']),⟨_,_,O,(by simp [av,Value.oneCell']),O⟩⟩
  simp only [mF.dat,bY,om];omega
theorem aBz:uj prog 91 3 [(3,0,1),(9,1,1),(3,2,1)]:=⟨Z,Z,Z⟩
theorem aoq:prog.cellsOf 91=3:=by kernel_rfl
theorem azK {n:Nat} {cs:List ah} {D:DataW H} {Pl:List MemPlace} (h:DataW.trod enc prog W base spare held n 91 cs=some (D,Pl)):∃ r:dw,aX (qG W) r.dat cs∧bY r.dat+1<=8*Rows.uptoBulk D:=by
 obtain ⟨xs,m,hx,hl,hxl,hf⟩:=vV aBz h
 match cs,hl,xs,hxl with
 | [c0,c1,c2],_,[y0,y1,y2],_ =>
  have h0:=hf 0 _ _ _ O;have h1:=hf 1 _ _ _ O;have h2:=hf 2 _ _ _ O
  simp only at hx
  have hD:Rows.uptoBulk D=Rows.uptoBulk y0.1+(Rows.uptoBulk y1.1+(Rows.uptoBulk y2.1+0))+1:=by rw [hx];simp only [eP,tq,Rows.uptoBulk,Rows.uptoBulkAll]
  obtain ⟨k0,e0,d0,-⟩:=DataW.trod_int underlying3 h0;obtain ⟨k1,e1,d1,-⟩:=DataW.trod_string underlying9 h1;obtain ⟨k2,e2,d2,-⟩:=DataW.trod_int underlying3 h2
  simp at e0 e1 e2
  subst e0 e1 e2
  have b0:Rows.uptoBulk y0.1=1:=by rw [d0];rfl
  have b1:Rows.uptoBulk y1.1=k1.size+1:=by rw [d1];show k1.data.toList.length+1=k1.data.size+1;rw [uZ]
  have b2:Rows.uptoBulk y2.1=1:=by rw [d2];rfl
  refine ⟨⟨k0,k1,k2⟩,?_,?_⟩
  ·exact ⟨_,_,O,(by simp [av,Value.oneCell']),⟨_,_,O,(by simp [av,Value.oneCell']),⟨_,_,O,(by simp [av,Value.oneCell']),O⟩⟩⟩
  simp only [dw.dat,bY,om];omega
theorem aBA:uj prog 36 4 [(31,0,1),(32,1,1),(33,2,1),(34,3,1)]:=⟨Z,Z,Z⟩
structure Ut (s:Ch) (n:Nat):Prop where
 st:eZ (s.styles.map cB.dat)<=n
 li:eZ (s.lists.map fK.dat)<=n
 cm:eZ (s.comments.map jc.dat)<=n
 va:eZ (s.vars.map mF.dat)<=n
theorem Ut.zn {s:Ch} {n:Nat} (h:Ut s n) (hn:n<=4294967296):Uu s∧s.styles.length<=4294967296:=by
 obtain ⟨h1,h2,h3,h4⟩:=h;have l1:=tT (s.styles.map cB.dat);have l2:=tT (s.lists.map fK.dat);have l3:=tT (s.comments.map jc.dat);have l4:=tT (s.vars.map mF.dat);rw [bR] at l1 l2 l3 l4;refine ⟨⟨fun x hx=>?_,V,fun x hx y hy=>?_,V,fun x hx=>?_,V,fun x hx=>?_,fun x hx=>?_,fun x hx=>?_⟩,V⟩
 ·have:=Eu (dat:=cB.dat) hx
  simp only [cB.dat,bY,om] at this;omega
 ·have:=Eu (dat:=fK.dat) hx
  simp only [fK.dat,bY,om] at this
  have h5:=Eu (dat:=pI.dat) hy
  simp only [pI.dat,bY,om] at h5;omega
 ·have:=Eu (dat:=jc.dat) hx
  simp only [jc.dat,bY,om] at this;omega
 ·have:=Eu (dat:=mF.dat) hx
  simp only [mF.dat,bY,om] at this;omega
 ·have:=Eu (dat:=cB.dat) hx;have h5:=tT (x.props.map jf.dat);rw [bR] at h5
  simp only [cB.dat,bY,om] at this;omega
 have:=Eu (dat:=fK.dat) hx;have h5:=tT (x.levels.map pI.dat);rw [bR] at h5
 simp only [fK.dat,bY,om] at this;omega
theorem azL {n:Nat} {cs:List ah} {x:DataW H × List MemPlace} (h:DataW.trod enc prog W base spare held n 36 cs=some x):∃ (s:Ch) (a b c d:ah),cs=[a,b,c,d]∧AB (qG W) s a b c d∧Ut s (8*Rows.uptoBulk x.1):=by
 obtain ⟨xs,m,hx,hl,hxl,hf⟩:=vV aBA h
 match cs,hl,xs,hxl with
 | [c0,c1,c2,c3],_,[y0,y1,y2,y3],_ =>
  have h0:=hf 0 _ _ _ O;have h1:=hf 1 _ _ _ O;have h2:=hf 2 _ _ _ O;have h3:=hf 3 _ _ _ O;obtain ⟨k0,q0,e0,r0,d0⟩:=wU (dat:=cB.dat) (sz:=6) V underlying31 aor h0 (fun n cs' D Pl hh _=>azM hh);obtain ⟨k1,q1,e1,r1,d1⟩:=wU (dat:=fK.dat) (sz:=2) V underlying32 aon h1 (fun n cs' D Pl hh _=>azJ hh);obtain ⟨k2,q2,e2,r2,d2⟩:=wU (dat:=jc.dat) (sz:=6) V underlying33 aok h2 (fun n cs' D Pl hh _=>azC hh);obtain ⟨k3,q3,e3,r3,d3⟩:=wU (dat:=mF.dat) (sz:=2) V underlying34 aos h3 (fun n cs' D Pl hh _=>azN hh)
  simp at e0 e1 e2 e3
  subst e0 e1 e2 e3
  have hD:Rows.uptoBulk x.1=Rows.uptoBulk y0.1+(Rows.uptoBulk y1.1+(Rows.uptoBulk y2.1+(Rows.uptoBulk y3.1+0)))+1:=by rw [hx];simp only [eP,tq,Rows.uptoBulk,Rows.uptoBulkAll]
  exact ⟨⟨k0,k1,k2,k3⟩,_,_,_,_,O,⟨r0,r1,r2,r3⟩,⟨by show eZ (k0.map _)<=_;omega,by show eZ (k1.map _)<=_;omega,by show eZ (k2.map _)<=_;omega,by show eZ (k3.map _)<=_;omega⟩⟩
theorem akE:uj prog 38 11 [(22,0,1),(29,1,5),(30,6,1),(36,7,4)]:=⟨Z,Z,Z⟩
theorem Er {G:GH} {sz:Nat} {rs:List (List Dat)} {v:ah} (h:av G (.sl sz rs) v):∃ x,v=bX x:=by
 obtain ⟨a,n,c,rfl⟩:=h.form;exact ⟨(a,n,c),O⟩
theorem azF {n:Nat} {cs:List ah} {x:DataW H × List MemPlace} (h:DataW.trod enc prog W base spare held n 38 cs=some x) (hb:Rows.uptoBulk x.1<=1048576):∃ (D:jd) (d:jD),cs=D.cells∧mU (qG W) D d∧sP d∧aP d.flow<=8388608∧oN d.fin<=8388608:=by
 obtain ⟨xs,m,hx,hl,hxl,hf⟩:=vV akE h
 match cs,hl,xs,hxl with
 | [c0,c1,c2,c3,c4,c5,c6,c7,c8,c9,c10],_,[y0,y1,y2,y3],_ =>
  have h0:=hf 0 _ _ _ O;have h1:=hf 1 _ _ _ O;have h2:=hf 2 _ _ _ O;have h3:=hf 3 _ _ _ O;obtain ⟨l,q0,e0,r0,d0⟩:=azG h0;obtain ⟨hd,p,dd,ll,e1,r1,d1⟩:=SE h1;obtain ⟨rv,q2,e2,r2,d2⟩:=wU (dat:=dw.dat) (sz:=3) V underlying30 aoq h2 (fun n cs' D Pl hh _=>azK hh);obtain ⟨s,a,b,c,d,e3,r3,d3⟩:=azL h3
  simp at e0 e1 e2 e3
  obtain ⟨rfl,rfl,rfl,rfl,rfl⟩:=e1;obtain ⟨rfl,rfl,rfl,rfl⟩:=e3;subst e0 e2
  have hD:Rows.uptoBulk x.1=Rows.uptoBulk y0.1+(Rows.uptoBulk y1.1+(Rows.uptoBulk y2.1+(Rows.uptoBulk y3.1+0)))+1:=by rw [hx];simp only [eP,tq,Rows.uptoBulk,Rows.uptoBulkAll]
  obtain ⟨x0,rfl⟩:=Er r0;obtain ⟨x1,rfl⟩:=Er r1.props;obtain ⟨x2,rfl⟩:=Er r1.dJ;obtain ⟨x3,rfl⟩:=Er r1.layers;obtain ⟨x4,rfl⟩:=Er r2;obtain ⟨x5,rfl⟩:=Er r3.st;obtain ⟨x6,rfl⟩:=Er r3.li;obtain ⟨x7,rfl⟩:=Er r3.cm;obtain ⟨x8,rfl⟩:=Er r3.va;obtain ⟨hz1,hz2⟩:=d3.zn V;have l2:=tT (rv.map dw.dat);rw [bR] at l2;refine ⟨⟨x0,x1,x2,x3,x4,x5,x6,x7,x8,hd.marks.ins,hd.marks.move⟩,⟨l,hd,rv,s⟩,O,⟨r0,r1,O,O,r2,r3⟩,⟨by show aP l<=_;omega,by show oN hd<=_;omega,by show rv.length<=_;omega,fun x hx=>?_,hz2,hz1⟩,by show aP l<=_;omega,by show oN hd<=_;omega⟩;have:=Eu (dat:=dw.dat) hx
  simp only [dw.dat,bY,om] at this
  omega
theorem azE {n:Nat} {cs:List ah} {x:DataW H × List MemPlace} (h:DataW.trod enc prog W base spare held n 38 cs=some x) (hb:Rows.uptoBulk x.1<=1048576):∃ (D:jd) (d:jD),cs=D.cells∧mU (qG W) D d∧sP d:=by
 obtain ⟨D,d,h1,h2,h3,-⟩:=azF h hb;exact ⟨D,d,h1,h2,h3⟩
end
end
end Go.Proofs.YtggpjlchglgodaaGreat
