/-
  What the claim stands on, part 5: Brd Ins Uq13 Lf13 Fz13 Bi13 Dlr Ccl Dnn Gco Cst Dcl Nm Mn Lay Srt Ms Ids Usd Nml Mst Mck Dnc Mis Pm13 Mus Mud Rf13 Mnm Nd13 Ne13 Sb13 Rb13 Kt.
-/
import Derived.Test.YthmanofbmnfemaaGreatWed
import Derived.ProofKit
import Derived.Deep.Slices
import Derived.Laws.StructEq
import Derived.Shelf.SlIterI.Nil
import Derived.Shelf.SortM.Plain
import Derived.Shelf.SortM.SortNone
namespace Go.Proofs.YthmanofbmnfemaaGreat
set_option linter.all false
open Go.Proofs.Tryz
set_option maxRecDepth 20000
set_option maxHeartbeats 4000000
section
open Go.ChangeShapes Go.RowKit Go.Deep
abbrev oJ (W:World):GH:=fun k=>W.heap[k]?
theorem ahF {W:World} {b o:Nat} {v:aj} (h:W.cell? ⟨b,o,none⟩=some v):aF (oJ W) b o=some v:=by
 unfold World.cell? at h
 unfold aF oJ
 split at h
 ·rename_i c e f hh
  simp only at hh
  rw [hh];simpa using h
 cases h
theorem Zl {α:Type} {p:Nat→α→Prop}:∀ n:Nat,(∀ i,i < n→∃ x,p i x)→∃ l:List α,l.length=n∧∀ i x,l[i]?=some x→p i x
 | 0,_=>⟨[],rfl,fun i x h=>by simp at h⟩
 | n+1,h=>by
  obtain ⟨l,hl,hp⟩:=Zl n (fun i hi=>h i (by omega));obtain ⟨x,hx⟩:=h n (by omega);refine ⟨l++[x],by simp [hl],fun i y hy=>?_⟩
  by_cases hi:i < l.length
  ·exact hp i y (by rwa [wV hi] at hy)
  rw [qF (by omega)] at hy
  have hin:i - l.length=0:=by
   have:=(iL.1 hy).1
   simp at this;omega
  rw [hin] at hy
  simp only [yg,lS] at hy
  subst hy;rw [show i=n by omega];exact hx
theorem acN {H:Type} (d:DataW H):1≤Rows.uptoBulk d:=by
 cases d <;> (try simp only [Rows.uptoBulk]) <;> (try omega)
 rename_i x;cases x <;> simp only [Rows.uptoBulk] <;> omega
theorem VN {H ρ:Type} {dat:ρ→List Dat}:∀ (rs:List ρ) (D:Nat→DataW H),(∀ i r,rs[i]?=some r→bJ (dat r)+1≤8*Rows.uptoBulk (D i))→dX (rs.map dat)≤8*Rows.uptoBulkAll ((List.range rs.length).map D)
 | [],D,_=>gV _
 | r :: rs,D,h=>by
  have h0:=h 0 r rfl;have hp:=acN (D 0);have ih:=VN rs (fun i=>D (i+1)) (fun i r hr=>h (i+1) r (by simpa using hr));rw [kG,List.range_succ_eq_map]
  simp only [eu,List.map_map,dX,Rows.uptoBulkAll]
  have e:(List.map (D ∘ Nat.succ) (List.range rs.length))=(List.map (fun i=>D (i+1)) (List.range rs.length)):=rfl;rw [e];omega
theorem VL {H:Type} {D:Nat→DataW H}:∀ {n i:Nat},i < n→Rows.uptoBulk (D i)≤Rows.uptoBulkAll ((List.range n).map D)
 | 0,i,h=>absurd h (by omega)
 | n+1,i,h=>by
  have key:∀ (l m:List (DataW H)),Rows.uptoBulkAll (l++m)=Rows.uptoBulkAll l+Rows.uptoBulkAll m:=by
   intro l m
   induction l with
   | nil=>simp [Rows.uptoBulkAll]
   | cons x l ih=>simp only [jg,Rows.uptoBulkAll,ih];omega
  rw [List.range_succ,nG,key]
  by_cases hi:i < n
  ·have:=VL (D:=D) hi;omega
  have:i=n:=by omega
  subst this
  simp only [eu,uK,Rows.uptoBulkAll];omega
section
variable {H:Type} {enc:TypeId × aj→H} {P:Program} {W:World} {base:Nat} {spare:Nat→Bool} {held:Bool}
theorem tO {ρ:Type} {dat:ρ→List Dat} {t e:TypeId} {sz:Nat} (hsz:0 < sz) {fuel:Nat} {cs:List aj} {x:DataW H × List MemPlace} (ht:P.underlying t=some (.slice e)) (hc:P.cellsOf e=sz) (h:DataW.trod enc P W base spare held fuel t cs=some x)
  (row:∀ n cs' D Pl,DataW.trod enc P W base spare held n e cs'=some (D,Pl)→Rows.uptoBulk D < Rows.uptoBulk x.1→∃ r:ρ,aN (oJ W) (dat r) cs'∧bJ (dat r)+1≤8*Rows.uptoBulk D) :
  ∃ (rs:List ρ) (v:aj),cs=[v]∧av (oJ W) (.sl sz (rs.map dat)) v∧dX (rs.map dat)+8≤8*Rows.uptoBulk x.1:=by
 rcases open_slice ht h with ⟨rfl,rfl⟩|⟨a,len,cap,m,n,D,Pl,rfl,hb,hl,hm,hmm,rfl,hx⟩
 ·exact ⟨[],_,rfl,av.iT rfl (by decide),by simp [dX,Rows.uptoBulk]⟩
 obtain ⟨rs,hrl,hrs⟩:=Zl (p:=fun i (r:ρ)=>∃ cs',W.cells? base (a.add (i*sz)) sz=some cs'∧aN (oJ W) (dat r) cs'∧bJ (dat r)+1≤8*Rows.uptoBulk (D i)) len (fun i hi=>by
  have him:i < m:=by rw [hmm];split <;> omega
  obtain ⟨cs',h1,h2⟩:=hx i him;rw [hc] at h1;have hb1:=VL (D:=D) hi;obtain ⟨r,hr1,hr2⟩:=row n cs' (D i) (Pl i) h2 (by simp only [Rows.uptoBulk];omega)
  exact ⟨r,cs',h1,hr1,hr2⟩)
 refine ⟨rs,_,rfl,?_,?_⟩
 ·simp only [av,bO]
  refine ⟨some a,cap,by rw [hrl],by omega,hm,fun hne=>?_⟩;obtain ⟨b,off,spot⟩:=a
  have hlen:0 < rs.length:=by cases rs with|nil=>simp at hne|cons _ _=>simp
  obtain ⟨cs0,h1,-,-⟩:=hrs 0 rs[0] (dY hlen);obtain ⟨-,hl0,hg0⟩:=World.cells?_some h1
  have hspot:spot=none:=by
   have h3:=hg0 0 hsz;rw [dY (by omega)] at h3
   simpa [Addr.add] using World.cell?_spot h3
  subst hspot;refine ⟨b,off,rfl,kS.mk fun k r hk=>?_⟩;rw [nE] at hk;obtain ⟨y,hy,rfl⟩:=mV.1 hk;obtain ⟨cs',h2,h3,-⟩:=hrs k y hy;obtain ⟨-,hl1,hg1⟩:=World.cells?_some h2;refine ⟨cs',hl1,fun j u hj=>ahF ?_,h3⟩
  have hj2:j < sz:=by rw [← hl1];exact (iL.1 hj).1
  have:=hg1 j hj2;rw [add_add,Go.WideShapes.add_plain] at this;rw [show off+k*sz+j=off+(k*sz+j) by omega,this];exact hj
 have:=VN rs D (fun i r hr=>(hrs i r hr).choose_spec.2.2);rw [hrl] at this
 simp only [Rows.uptoBulk];omega
end
structure qD (P:Program) (t:TypeId) (sz:Nat) (fs:List (TypeId × Nat × Nat)):Prop where
 und:P.underlying t=some (.struct (P.fieldsOf t))
 cells:P.cellsOf t=sz
 Co:(P.fieldsOf t).toList.map (fun f=>(f.type,f.offset,P.cellsOf f.type))=fs
theorem rQ {P:Program} {H:Type} {enc:TypeId × aj→H} {W:World} {base:Nat} {spare:Nat→Bool} {held:Bool} {t:TypeId} {sz fuel:Nat} {fs:List (TypeId × Nat × Nat)} {cs:List aj} {x:DataW H × List MemPlace} (hs:qD P t sz fs) (h:DataW.trod enc P W base spare held fuel t cs=some x) :
  ∃ (xs:List (DataW H × List MemPlace)) (n:Nat),x.1=.agg (xs.map (·.1))∧cs.length=sz∧xs.length=fs.length∧∀ (i:Nat) (ti:TypeId) (off k:Nat),fs[i]?=some (ti,off,k)→DataW.trod enc P W base spare held n ti ((cs.drop off).take k)=xs[i]?:=by
 obtain ⟨xs,n,-,rfl,hl,hxl,hf⟩:=DataW.trod_struct hs.und h;refine ⟨xs,n,rfl,by rw [hl,hs.cells],by rw [hxl,← hs.Co];simp,fun i ti off k hi=>?_⟩;rw [← hs.Co,nE] at hi;obtain ⟨f,hf1,hf2⟩:=mV.1 hi
 simp only [fZ] at hf2
 obtain ⟨rfl,rfl,rfl⟩:=hf2;exact hf i f (by simpa using hf1)
section
variable {H:Type} {enc:TypeId × aj→H} {W:World} {base:Nat} {spare:Nat→Bool} {held:Bool}
theorem aok:qD prog 171 2 [(3,0,1),(3,1,1)]:=⟨by kernel_rfl,by kernel_rfl,by kernel_rfl⟩
theorem aae {n:Nat} {cs:List aj} {D:DataW H} {Pl:List MemPlace} (h:DataW.trod enc prog W base spare held n 171 cs=some (D,Pl)):∃ r:fK,aN (oJ W) r.dat cs∧bJ r.dat+1≤8*Rows.uptoBulk D:=by
 obtain ⟨xs,m,hx,hl,hxl,hf⟩:=rQ aok h
 match cs,hl,xs,hxl with
 | [c0,c1],_,[y0,y1],_ =>
  have h0:=hf 0 _ _ _ rfl;have h1:=hf 1 _ _ _ rfl;obtain ⟨k0,e0,d0,-⟩:=DataW.trod_int underlying3 h0;obtain ⟨k1,e1,d1,-⟩:=DataW.trod_int underlying3 h1
  simp at e0 e1
  subst e0 e1
  simp only at hx
  refine ⟨⟨k0,k1⟩,?_,?_⟩
  ·simp [aN,fK.dat,av,Value.oneCell']
  rw [hx];simp [d0,d1,fK.dat,bJ,lM,Rows.uptoBulk,Rows.uptoBulkAll]
theorem aod:qD prog 115 2 [(3,0,1),(3,1,1)]:=⟨by kernel_rfl,by kernel_rfl,by kernel_rfl⟩
theorem amw {n:Nat} {cs:List aj} {D:DataW H} {Pl:List MemPlace} (h:DataW.trod enc prog W base spare held n 115 cs=some (D,Pl)):∃ r:iB,aN (oJ W) r.dat cs∧bJ r.dat+1≤8*Rows.uptoBulk D:=by
 obtain ⟨xs,m,hx,hl,hxl,hf⟩:=rQ aod h
 match cs,hl,xs,hxl with
 | [c0,c1],_,[y0,y1],_ =>
  have h0:=hf 0 _ _ _ rfl;have h1:=hf 1 _ _ _ rfl;obtain ⟨k0,e0,d0,-⟩:=DataW.trod_int underlying3 h0;obtain ⟨k1,e1,d1,-⟩:=DataW.trod_int underlying3 h1
  simp at e0 e1
  subst e0 e1
  simp only at hx
  refine ⟨⟨k0,k1⟩,?_,?_⟩
  ·simp [aN,iB.dat,av,Value.oneCell']
  rw [hx];simp [d0,d1,iB.dat,bJ,lM,Rows.uptoBulk,Rows.uptoBulkAll]
theorem aog:qD prog 117 4 [(3,0,1),(3,1,1),(3,2,1),(4,3,1)]:=⟨by kernel_rfl,by kernel_rfl,by kernel_rfl⟩
theorem amA {n:Nat} {cs:List aj} {D:DataW H} {Pl:List MemPlace} (h:DataW.trod enc prog W base spare held n 117 cs=some (D,Pl)):∃ r:gU,aN (oJ W) r.dat cs∧bJ r.dat+1≤8*Rows.uptoBulk D:=by
 obtain ⟨xs,m,hx,hl,hxl,hf⟩:=rQ aog h
 match cs,hl,xs,hxl with
 | [c0,c1,c2,c3],_,[y0,y1,y2,y3],_ =>
  have h0:=hf 0 _ _ _ rfl;have h1:=hf 1 _ _ _ rfl;have h2:=hf 2 _ _ _ rfl;have h3:=hf 3 _ _ _ rfl;obtain ⟨k0,e0,d0,-⟩:=DataW.trod_int underlying3 h0;obtain ⟨k1,e1,d1,-⟩:=DataW.trod_int underlying3 h1;obtain ⟨k2,e2,d2,-⟩:=DataW.trod_int underlying3 h2;obtain ⟨k3,e3,d3⟩:=DataW.trod_bool underlying4 h3
  simp at e0 e1 e2 e3
  subst e0 e1 e2 e3
  simp only at hx
  refine ⟨⟨k0,k1,k2,k3⟩,?_,?_⟩
  ·simp [aN,gU.dat,av,Value.oneCell']
  rw [hx];simp [d0,d1,d2,d3,gU.dat,bJ,lM,Rows.uptoBulk,Rows.uptoBulkAll]
theorem aoj:qD prog 27 4 [(3,0,1),(3,1,1),(24,2,1),(25,3,1)]:=⟨by kernel_rfl,by kernel_rfl,by kernel_rfl⟩
theorem aoe:qD prog 29 5 [(23,0,1),(27,1,4)]:=⟨by kernel_rfl,by kernel_rfl,by kernel_rfl⟩
theorem VZ:prog.cellsOf 171=2:=by kernel_rfl
theorem acZ:prog.cellsOf 115=2:=by kernel_rfl
theorem ada:prog.cellsOf 117=4:=by kernel_rfl
theorem Nc {n:Nat} {cs:List aj} {x:DataW H × List MemPlace} (h:DataW.trod enc prog W base spare held n 29 cs=some x):∃ (r:dh) (p d l:aj),cs=[p,vi r.marks.ins,vi r.marks.move,d,l]∧gG (oJ W) r p d l∧kZ r+15≤8*Rows.uptoBulk x.1:=by
 obtain ⟨xs,m,hx,hl,hxl,hf⟩:=rQ aoe h
 match cs,hl,xs,hxl with
 | [c0,c1,c2,c3,c4],_,[y0,y1],_ =>
  have h0:=hf 0 _ _ _ rfl;have h1:=hf 1 _ _ _ rfl;obtain ⟨ps,pv,e0,rp,sp⟩:=tO (dat:=fK.dat) (sz:=2) (by omega) underlying23 VZ h0 (fun n cs' D Pl hh _=>aae hh);obtain ⟨zs,m2,hz,hzl,hzx,FZ⟩:=rQ aoj h1
  match zs,hzx with
  | [z0,z1,z2,z3],_ =>
   have g0:=FZ 0 _ _ _ rfl;have g1:=FZ 1 _ _ _ rfl;have g2:=FZ 2 _ _ _ rfl;have g3:=FZ 3 _ _ _ rfl;obtain ⟨k0,e1,d0,-⟩:=DataW.trod_int underlying3 g0;obtain ⟨k1,e2,d1,-⟩:=DataW.trod_int underlying3 g1;obtain ⟨ds,dv,e3,rd,sd⟩:=tO (dat:=iB.dat) (sz:=2) (by omega) underlying24 acZ g2 (fun n cs' D Pl hh _=>amw hh);obtain ⟨ls,lv,e4,rl,sl⟩:=tO (dat:=gU.dat) (sz:=4) (by omega) underlying25 ada g3 (fun n cs' D Pl hh _=>amA hh)
   simp at e0 e1 e2 e3 e4
   subst e0 e1 e2 e3 e4;refine ⟨⟨ps,⟨k0,k1,ds,ls⟩⟩,_,_,_,rfl,⟨rp,rd,rl⟩,?_⟩;have Sg:=BI ⟨ps,⟨k0,k1,ds,ls⟩⟩
   simp only at Sg
   rw [hx]
   simp only [eu,uK,Rows.uptoBulk,Rows.uptoBulkAll,hz,d0,d1]
   omega
theorem aof:qD prog 68 11 [(3,0,1),(3,1,1),(3,2,1),(9,3,1),(29,4,5),(22,9,1),(66,10,1)]:=⟨by kernel_rfl,by kernel_rfl,by kernel_rfl⟩
theorem aol:qD prog 144 6 [(29,0,5),(142,5,1)]:=⟨by kernel_rfl,by kernel_rfl,by kernel_rfl⟩
theorem aob:qD prog 147 7 [(3,0,1),(29,1,5),(22,6,1)]:=⟨by kernel_rfl,by kernel_rfl,by kernel_rfl⟩
theorem OW:prog.cellsOf 68=11:=by kernel_rfl
theorem adf:prog.cellsOf 144=6:=by kernel_rfl
theorem acX:prog.cellsOf 147=7:=by kernel_rfl
theorem aad:∀ (N:Nat) (n:Nat) (cs:List aj) (D:DataW H) (Pl:List MemPlace),DataW.trod enc prog W base spare held n 68 cs=some (D,Pl)→Rows.uptoBulk D < N→∃ r:au,aN (oJ W) r.dat cs∧bJ r.dat+1≤8*Rows.uptoBulk D
 | 0,_,_,_,_,_,hN=>absurd hN (by omega)
 | N+1,n,cs,D,Pl,h,hN=>by
  have ih:=aad N;obtain ⟨xs,m,hx,hl,hxl,hf⟩:=rQ aof h
  match cs,hl,xs,hxl with
  | [c0,c1,c2,c3,c4,c5,c6,c7,c8,c9,c10],_,[y0,y1,y2,y3,y4,y5,y6],_ =>
   have h0:=hf 0 _ _ _ rfl;have h1:=hf 1 _ _ _ rfl;have h2:=hf 2 _ _ _ rfl;have h3:=hf 3 _ _ _ rfl;have h4:=hf 4 _ _ _ rfl;have h5:=hf 5 _ _ _ rfl;have h6:=hf 6 _ _ _ rfl
   simp only at hx
   have hD:Rows.uptoBulk D=Rows.uptoBulk y0.1+(Rows.uptoBulk y1.1+(Rows.uptoBulk y2.1+(Rows.uptoBulk y3.1+(Rows.uptoBulk y4.1+(Rows.uptoBulk y5.1+(Rows.uptoBulk y6.1+0))))))+1:=by
    rw [hx];simp only [eu,uK,Rows.uptoBulk,Rows.uptoBulkAll]
   obtain ⟨k0,e0,d0,-⟩:=DataW.trod_int underlying3 h0;obtain ⟨k1,e1,d1,-⟩:=DataW.trod_int underlying3 h1;obtain ⟨k2,e2,d2,-⟩:=DataW.trod_int underlying3 h2;obtain ⟨s,e3,d3,-⟩:=DataW.trod_string underlying9 h3;obtain ⟨hd,p,d,l,e4,rh,sh⟩:=Nc h4;obtain ⟨fl,fv,e5,rf,sf⟩:=tO (dat:=au.dat) (sz:=11) (by omega) underlying22 OW h5 (fun n cs' D' bS hh hlt=>ih n cs' D' bS hh (by omega))
   obtain ⟨rs,rv,e6,rr,sr⟩:=tO (dat:=aM.dat) (sz:=6) (by omega) underlying66 adf h6 (fun n cs' D' bS hh hlt=>by
    obtain ⟨xs,m,hx,hl,hxl,hf⟩:=rQ aol hh
    match cs',hl,xs,hxl with
    | [a0,a1,a2,a3,a4,a5],_,[w0,w1],_ =>
     have g0:=hf 0 _ _ _ rfl;have g1:=hf 1 _ _ _ rfl
     simp only at hx
     have hD':Rows.uptoBulk D'=Rows.uptoBulk w0.1+(Rows.uptoBulk w1.1+0)+1:=by
      rw [hx];simp only [eu,uK,Rows.uptoBulk,Rows.uptoBulkAll]
     obtain ⟨hd2,p2,d2',l2,q0,rh2,sh2⟩:=Nc g0
     obtain ⟨cl,cv,q1,rc,sc⟩:=tO (dat:=aL.dat) (sz:=7) (by omega) underlying142 acX g1 (fun n cs'' D'' aqa hh2 hlt2=>by
      obtain ⟨xs,m,hx2,hl2,akn,hf2⟩:=rQ aob hh2
      match cs'',hl2,xs,akn with
      | [b0,b1,b2,b3,b4,b5,b6],_,[v0,v1,v2],_ =>
       have u0:=hf2 0 _ _ _ rfl;have u1:=hf2 1 _ _ _ rfl;have u2:=hf2 2 _ _ _ rfl
       simp only at hx2
       have aqe:Rows.uptoBulk D''=Rows.uptoBulk v0.1+(Rows.uptoBulk v1.1+(Rows.uptoBulk v2.1+0))+1:=by
        rw [hx2];simp only [eu,uK,Rows.uptoBulk,Rows.uptoBulkAll]
       obtain ⟨j0,t0,z0,-⟩:=DataW.trod_int underlying3 u0;obtain ⟨hd3,p3,d3',l3,t1,rh3,sh3⟩:=Nc u1;obtain ⟨Qm,fv3,t2,rf3,sf3⟩:=tO (dat:=au.dat) (sz:=11) (by omega) underlying22 OW u2 (fun n cs3 D3 Pl3 hh3 hlt3=>ih n cs3 D3 Pl3 hh3 (by omega))
       simp at t0 t1 t2
       obtain ⟨rfl,rfl,rfl,rfl,rfl⟩:=t1;subst t0 t2;have hz:=vO (aL.mk j0 hd3 Qm)
       simp only [aL.head,aL.flow] at hz
       have bz:Rows.uptoBulk v0.1=1:=by rw [z0];rfl
       exact ⟨aL.mk j0 hd3 Qm,aN.Ev (x:=aL.mk j0 hd3 Qm) rh3 rf3,by simp only [aZ] at hz;omega⟩)
     simp at q0 q1
     obtain ⟨rfl,rfl,rfl,rfl,rfl⟩:=q0;subst q1;have hz:=vP (aM.mk hd2 cl)
     simp only [aM.head,aM.cells] at hz
     exact ⟨aM.mk hd2 cl,aN.Jl (x:=aM.mk hd2 cl) rh2 rc,by simp only [gZ] at hz;omega⟩)
   simp at e0 e1 e2 e3 e4 e5 e6
   obtain ⟨rfl,rfl,rfl,rfl,rfl⟩:=e4;subst e0 e1 e2 e3 e5 e6;have hz:=qC (au.mk k0 k1 k2 s hd fl rs)
   simp only [au.text,au.head,au.flow,au.rows] at hz
   have b0:Rows.uptoBulk y0.1=1:=by rw [d0];rfl
   have b1:Rows.uptoBulk y1.1=1:=by rw [d1];rfl
   have b2:Rows.uptoBulk y2.1=1:=by rw [d2];rfl
   have b3:Rows.uptoBulk y3.1=s.size+1:=by rw [d3];show s.data.toList.length+1=s.data.size+1;rw [sG]
   exact ⟨au.mk k0 k1 k2 s hd fl rs,aN.mkItem (x:=au.mk k0 k1 k2 s hd fl rs) rh rf rr,by simp only [aZ,fE] at hz;omega⟩
theorem amy {n:Nat} {cs:List aj} {x:DataW H × List MemPlace} (h:DataW.trod enc prog W base spare held n 22 cs=some x):∃ (l:List au) (v:aj),cs=[v]∧av (oJ W) (.sl 11 (l.map au.dat)) v∧aZ l+8≤8*Rows.uptoBulk x.1 :=
 tO (dat:=au.dat) (sz:=11) (by omega) underlying22 OW h (fun n cs' D' bS hh _=>aad _ n cs' D' bS hh (Nat.lt_succ_self _))
end
end
section
open Go.RowKit
section
variable {N:Nat} {D:List Deferred} {w0:World} {F:Nat→Prop} {G0 G:GH} {A B C:OL} {T:List (Nat × aj)} {a:Act} {w:World}
end
def psD (p:Int × Int):List Dat:=[li p.1,li p.2]
structure Oy (g:GH) (v u:aj) (R:List ((Int × Int) × au)) (xs ys:List aj) (La Lb:OL):Prop where
 it:bR 68 11 v R.length xs La
 ic:bE g 11 (R.map fun q=>q.2.dat) xs
 ps:bR 48 2 u R.length ys Lb
 pc:bE g 2 (R.map fun q=>psD q.1) ys
theorem Oy.mono {g g':GH} {v u:aj} {R:List ((Int × Int) × au)} {xs ys:List aj} {La Lb:OL} (h:Oy g v u R xs ys La Lb) (hm:∀ b o,g b=some o→g' b=some o):Oy g' v u R xs ys La Lb:=⟨h.it,h.ic.mono hm,h.ps,h.pc.mono hm⟩
def Oi (T:List ((Int × Int) × au)) (u:aj) (G':GH):Prop:=∃ a b,u=.tuple #[a,b]∧av G' (.sl 11 (T.map fun q=>q.2.dat)) a∧av G' (.sl 2 (T.map fun q=>psD q.1)) b
theorem Oi.mono {T:List ((Int × Int) × au)} {u:aj} {G G':GH} (hm:∀ b o,G b=some o→G' b=some o) (h:Oi T u G):Oi T u G':=let ⟨a,b,h1,h2,h3⟩:=h;⟨a,b,h1,h2.mono hm,h3.mono hm⟩
end
section
open Go.RowKit
end
section
open Go.RowKit
abbrev acI (l:List au):List oC:=acJ ⟨0,l,-1,0,false,0⟩
end
section
open Go.RowKit
abbrev wS (n:Nat) (L:List ((Int × Int) × au)):Prop:=∀ a∈L,bJ a.2.dat≤n
theorem wS.nil (n:Nat):wS n []:=fun _ h=>by cases h
theorem wS.mono {n m:Nat} {L:List ((Int × Int) × au)} (h:wS n L) (hn:n≤m):wS m L:=fun a ha=>Nat.le_trans (h a ha) hn
theorem wS.append {n:Nat} {A B:List ((Int × Int) × au)} (h:wS n A) (g:wS n B):wS n (A++B):=fun a ha=>(lT.1 ha).elim (h a) (g a)
theorem wS.cons {n:Nat} {x:(Int × Int) × au} {B:List ((Int × Int) × au)} (h:bJ x.2.dat≤n) (g:wS n B):wS n (x :: B):=fun a ha=>by
 rcases iQ.1 ha with rfl|ha
 ·exact h
 exact g a ha
theorem ZO {d:iO} (h:iG d=0):Ak d.flow:=by
 have h1:=jM h _ (gL _ (gL _ fH));exact Ak.of (Kv h1)
theorem Y4 {G:GH} {α:Type} {f:α→Int} {A:List α} {B:Option Addr} {n c k:Nat} (hv:av G (.sl 1 (A.map fun q=>[li (f q)])) (.slice B n c)) (hk:k < A.length):∃ b o,B=some ⟨b,o,none⟩∧aF G b (o+k)=some (vi (f A[k])):=by
 obtain ⟨b,o,cs,h1,h2,h3,h4⟩:=hv.at_ k [li (f A[k])] (by simp [hk])
 simp only [aN] at h4
 obtain ⟨_,_,rfl,⟨rfl,-⟩,rfl⟩:=h4;exact ⟨b,o,h1,by simpa using h3 0 _ rfl⟩
end
section
open Go.RowKit
theorem aeL:∀ args w,(callFunc 118 args).run prog w=.ok (.enter 118 args) w:=enters func118 rfl (by kernel_rfl)
theorem aeM:∀ args w,(callFunc 119 args).run prog w=.ok (.enter 119 args) w:=enters func119 rfl (by kernel_rfl)
theorem Sb {p:Nat→Bool} (hp:∀ h,p h=true→p (h+1)=true):∀ (f i j:Nat),i≤j→j - i≤f→(∀ h,i≤h→h < kM p f i j→p h=false)∧(kM p f i j < j→p (kM p f i j)=true)
 | 0,i,j,h1,h2=>⟨fun h a b=>by simp only [kM] at b;omega,fun h=>by simp only [kM] at h;omega⟩
 | f+1,i,j,h1,h2=>by
  have up:∀ a b,a≤b→p a=true→p b=true:=fun a b hab=>by
   induction hab with
   | refl=>exact fun h=>h
   | step _ ih=>exact fun h=>hp _ (ih h)
  rw [kM]
  by_cases h:i < j
  ·rw [ay h]
   cases hm:p ((i+j) / 2)
   ·rw [ah (by simp)];obtain ⟨r1,r2⟩:=Sb hp f ((i+j) / 2+1) j (by omega) (by omega);refine ⟨fun q a b=>?_,r2⟩
    by_cases hq:(i+j) / 2+1≤q
    ·exact r1 q hq b
    cases hpq:p q
    ·rfl
    rw [up q _ (by omega) hpq] at hm;cases hm
   rw [ay rfl];obtain ⟨r1,r2⟩:=Sb hp f i ((i+j) / 2) (by omega) (by omega);refine ⟨r1,fun _=>?_⟩
   by_cases hq:kM p f i ((i+j) / 2) < (i+j) / 2
   ·exact r2 hq
   have:=Mv (p:=p) f i ((i+j) / 2) (by omega);rw [show kM p f i ((i+j) / 2)=(i+j) / 2 by omega];exact hm
  rw [ah h];exact ⟨fun q a b=>by omega,fun q=>absurd q h⟩
theorem aio {l:List Int} (hs:l.Pairwise (·≤·)) (t:Int):uY l t=decide (t∈l):=by
 have hlt:∀ i j (hi:i < l.length) (hj:j < l.length),i≤j→l[i]≤l[j]:=fun i j hi hj hij=>by
  rcases Nat.lt_or_eq_of_le hij with h|rfl
  ·exact List.pairwise_iff_getElem.1 hs i j hi hj h
  exact Int.le_refl _
 rw [qG,lV]
 constructor
 ·intro h;exact kr (lX h)
 intro h;obtain ⟨k,hk,rfl⟩:=List.getElem_of_mem h
 -- the test,as if the list went on with its last number
 let p:Nat→Bool:=fun h=>decide (¬ l.getD h 0 < l[k])
 let p':Nat→Bool:=fun h=>decide (l.length≤h∨¬ l.getD h 0 < l[k])
 have hpp:∀ (f i j:Nat),j≤l.length→i≤j→kM p f i j=kM p' f i j:=by
  intro f
  induction f with
  | zero=>intro i j _ _;rfl
  | succ f ih =>
   intro i j hj hij;rw [kM,kM]
   by_cases h:i < j
   ·rw [ay h,ay h]
    have e:p ((i+j) / 2)=p' ((i+j) / 2):=by
     show decide _=decide _
     exact decide_eq_decide.2 ⟨.inr,fun h=>h.resolve_left (by omega)⟩
    rw [e,ih _ _ (by omega) (by omega),ih _ _ hj (by omega)]
   rw [ah h,ah h]
 have hmono:∀ h,p' h=true→p' (h+1)=true:=fun h e=>by
  have e:=lX e;refine iE ?_
  by_cases h1:l.length≤h+1
  ·exact .inl h1
  refine .inr ?_;have e2:=e.resolve_left (by omega);have h3:=hlt h (h+1) (by omega) (by omega) (Nat.le_succ _);rw [List.getD_eq_getElem?_getD,dY (show h < l.length by omega)] at e2;rw [List.getD_eq_getElem?_getD,dY (show h+1 < l.length by omega)]
  simp only [Option.getD_some] at e2 ⊢
  omega
 obtain ⟨r1,r2⟩:=Sb hmono l.length 0 l.length (gV _) (by omega);have hn:pU l l[k]=kM p' l.length 0 l.length:=hpp _ _ _ (bN _) (gV _);rw [← hn] at r1 r2;have hle:=acL l l[k]
 have hkn:pU l l[k]≤k:=by
  by_cases h:pU l l[k]≤k
  ·exact h
  have h2:=of_decide_eq_false (r1 k (gV _) (by omega));refine absurd (.inr ?_) h2;rw [List.getD_eq_getElem?_getD,dY hk]
  simp
 have hnl:pU l l[k] < l.length:=by omega
 have h2:=(lX (r2 hnl)).resolve_left (by omega);rw [List.getD_eq_getElem?_getD,dY hnl] at h2
 simp only [Option.getD_some] at h2
 have h3:=hlt _ _ hnl hk hkn;exact iE (by rw [dY hnl];exact aB some (by omega))
theorem akT (G:GH) (w0:World) (hG:Hold G w0) (x y:Int):Calls prog 118 #[vi x,vi y] w0 (bD w0 G fun u G'=>u=.bool (decide (x < y))∧G=G'):=by
 refine eN [(0,_),(1,_)] func118 rfl ntmps118 rfl rfl hG ?_;refine ak 5 ?_;intro a H;refine s_call Pz H wn rfl (Sq _ _ H.ro x) rfl ?_;clear H;rintro v6 G6 a w ⟨rfl,rfl⟩ zJ H;refine nJ 1 7 H ?_ ?_ <;> clear H
 ·intro h7
  intro a H
  cases h7
 intro h7
 refine ak 5 ?_;intro a H;(iterate 2 refine C8 H (wg H rfl rfl rfl) rfl rfl ?_;clear H;intro a H);refine CY H (wg H rfl rfl rfl) rfl rfl rfl rfl ?_;clear H;refine aP 3 ?_;exact ⟨rfl,rfl⟩
theorem akE (G:GH) (w0:World) (hG:Hold G w0) (x:Int):Calls prog 119 #[vi x] w0 (bD w0 G fun u G'=>u=.bool false∧G=G'):=by
 refine eN [(0,_)] func119 rfl ntmps119 rfl rfl hG ?_;refine aP 9 ?_;exact ⟨by simp,rfl⟩
theorem acK (G:GH) (w0:World) (hG:Hold G w0) (l:List Int) (t:Int) (v:aj) (hv:av G (.sl 1 (l.map fun k=>[li k])) v) (hl:l.length≤4294967296) :
  Calls prog 66 #[v,vi t] w0 (bD w0 G fun u G'=>u=.tuple #[vi (pU l t),.bool (uY l t)]∧G=G'):=by
 obtain ⟨A,c,rfl,hc1,hc2,-⟩:=hv.slice;rw [bO] at *;obtain ⟨p,hp⟩:∃ p:Nat→Bool,p=fun h=>decide (¬ l.getD h 0 < t):=⟨_,rfl⟩
 have hbs:pU l t=kM p l.length 0 l.length:=by rw [hp,pU]
 refine eN [(0,_),(1,_)] func66 rfl ntmps66 rfl rfl hG ?_;refine ak 16 ?_;intro a H;refine eO (ι:=Nat × Nat × Nat) (Tc:=[(0,_),(1,_),(6,_)]) (Lc:=[]) (fun gh=>[(7,vi gh.1),(8,vi gh.2.1)]) (fun gh=>[]) (fun gh=>G) (fun gh=>gh.1≤gh.2.1∧gh.2.1≤l.length∧gh.2.1 - gh.1≤gh.2.2∧kM p gh.2.2 gh.1 gh.2.1=pU l t) (fun gh=>gh.2.1 - gh.1) ((0,l.length,l.length)) sB ?_ ?_
 ·exact ⟨gV _,bN _,Nat.sub_le _ _,hbs.symm⟩
 clear H;rintro ⟨i,j,f⟩ a w hI H;dsimp only at hI H;obtain ⟨hij,hj,hf1,heq⟩:=hI;dsimp only [lca,aR] at H;refine dN 6 H ?_ ?_ <;> clear H
 ·intro oZ
  have hlt:i < j:=by omega
  rw [YT hf1 hlt] at heq;obtain ⟨m,hm⟩:∃ m,m=(i+j) / 2:=⟨_,rfl⟩;rw [← hm] at heq
  have hml:m < l.length:=by omega
  obtain ⟨b,o,rfl,hrow⟩:=Y4 (f:=fun q=>q) hv hml
  replace hrow:aF G b (o+m*1)=some (vi l[m]):=by rw [Nat.mul_one];exact hrow
  have hpm:p m=decide (¬ l[m] < t):=by rw [hp];simp [List.getD,hml]
  rw [hpm] at heq;refine ak 6 ?_;intro a H;rw [show ((i:Int)+(j:Int))=((i+j:Nat):Int) by push_cast;rfl] at H;refine zU ((i+j:Nat):Int) GI jJ H wn rfl (YU (by omega) (by omega)) rfl ?_;clear H;intro a H;refine Nn _ H wn rfl rfl rfl (by decide) rfl ?_;clear H;intro a H;rw [YS,← hm] at H;refine zU (m:Int) jJ GI H wn rfl (CK (by omega) (by omega)) rfl ?_;clear H;refine ak 8 ?_;intro a H;refine s_call aeL H wn rfl (akT _ _ H.ro l[m] t) rfl ?_;clear H;rintro v27 JW a w ⟨rfl,rfl⟩ LY H;refine gW 1 H ?_ ?_ <;> clear H
  ·intro p27
   rw [ah (by simpa using p27)] at heq;refine ak 4 ?_;intro a H;refine aG ?_;refine dH ((m+1,j,f - 1)) sB ?_ ?_
   ·(try dsimp only);exact ⟨by omega,hj,by omega,heq⟩
   first|omega|(dsimp only;omega)
  intro p27
  rw [ay (by simpa using p27)] at heq;refine ak 3 ?_;intro a H;refine aG ?_;refine dH ((i,m,f - 1)) sB ?_ ?_
  ·(try dsimp only);exact ⟨by omega,by omega,by omega,heq⟩
  first|omega|(dsimp only;omega)
 intro oZ
 refine ak 1 ?_;rw [YQ (by omega)] at heq;refine kT 6 35 ?_ ?_
 ·intro p35
  have hil:i < l.length:=by omega
  obtain ⟨b,o,rfl,hrow⟩:=Y4 (f:=fun q=>q) hv hil
  replace hrow:aF G b (o+i*1)=some (vi l[i]):=by rw [Nat.mul_one];exact hrow
  refine jE 7 42 ?_ ?_
  ·intro Lg
   try have p42:=dT Lg
   refine ak 14 ?_;intro a H;refine bV ?_;refine (eU H results66 (.cons (aW H rfl) (.cons (aW H rfl) .nil)) ?_).1
   first
    | exact H.rt ⟨by rw [LG heq.symm (by omega),← heq];simp_all [Kt],rfl⟩
    | exact H.rt ⟨by rw [LH heq.symm (by omega),← heq],rfl⟩
  intro Lg
  try have p42:=dF Lg
  refine ak 4 ?_;intro a H;refine s_call aeM H (wg H rfl rfl Lg) rfl (akE _ _ H.ro l[i]) rfl ?_;clear H;rintro v47 JZ a w ⟨rfl,rfl⟩ Yb H;refine nJ 1 48 H ?_ ?_ <;> clear H
  ·intro h48
   intro a H
   cases h48
  intro h48
  try have p48:=dF h48
  refine ak 8 ?_;intro a H;refine bV ?_;refine (eU H results66 (.cons (aW H rfl) (.cons (aW H rfl) .nil)) ?_).1
  first
   | exact H.rt ⟨by rw [LG heq.symm (by omega),← heq];simp_all [Kt],rfl⟩
   | exact H.rt ⟨by rw [LH heq.symm (by omega),← heq],rfl⟩
 intro p35
 refine ak 21 ?_;intro a H;refine bV ?_;refine (eU H results66 (.cons (aW H rfl) (.cons (aW H rfl) .nil)) ?_).1
 first
  | exact H.rt ⟨by rw [LG heq.symm (by omega),← heq];simp_all [Kt],rfl⟩
  | exact H.rt ⟨by rw [LH heq.symm (by omega),← heq],rfl⟩
end
section
open Go.RowKit
theorem aeK:∀ args w,(callFunc 117 args).run prog w=.ok (.enter 117 args) w:=enters func117 rfl (by kernel_rfl)
theorem TL (G:GH) (x:bQ):aN G x.dat x.cells:=by
 simp only [bQ.dat,bQ.cells,aN]
 exact ⟨_,_,rfl,by simp [av,Value.oneCell'],_,_,rfl,by simp [av,Value.oneCell'],_,_,rfl,by simp [av,Value.oneCell'],rfl⟩
def mF (l:List bQ):List aj:=(l.map bQ.cells).flatten
theorem Nh:∀ l:List bQ,(mF l).length=l.length*3
 | []=>rfl
 | p :: l=>by
  have:=Nh l
  simp only [mF,eu,List.flatten_cons,jH] at this ⊢
  rw [this,show p.cells.length=3 from rfl,kG];omega
theorem TI:∀ {l:List bQ} {k:Nat} (h:k < l.length) (j:Nat),j < 3→(mF l)[k*3+j]?=l[k].cells[j]?
 | p :: l,0,_,j,hj=>by
  simp only [mF,eu,List.flatten_cons,Nat.zero_mul,fQ,List.getElem_cons_zero]
  rw [wV (by rw [show p.cells.length=3 from rfl];exact hj)]
 | p :: l,k+1,h,j,hj=>by
  have ih:=TI (l:=l) (k:=k) (by simpa using h) j hj
  simp only [mF,eu,List.flatten_cons,List.getElem_cons_succ] at ih ⊢
  rw [qF (by rw [show p.cells.length=3 from rfl];omega),show p.cells.length=3 from rfl,show (k+1)*3+j - 3=k*3+j by omega];exact ih
theorem TH (l m:List bQ):mF (l++m)=mF l++mF m:=by simp [mF]
theorem amU {w0 w:World} {F:Nat→Prop} {G0 G:GH} {L Lo:OL} {e c n:Nat} {A:Option Addr} {l:List bQ} (h:bR e 3 (.slice A n c) n (mF l) Lo) (hn:n=l.length) (H:Hp w0 F G0 G L w) (hsub:∀ x∈Lo,x∈L) {k:Nat} (hk:k < l.length) :
  ∃ b,A=some ⟨b,0,none⟩∧∀ j u,[vi l[k].id,.string l[k].author,vi l[k].time][j]?=some u→w.cell? ⟨b,0+k*3+j,none⟩=some u:=by
 rcases h.2 with ⟨_,h0,_⟩|⟨b,cap,cur,he,hl,h1,h2,h3,h4⟩
 ·omega
 injection he with e1 e2 e3
 refine ⟨b,e1,fun j u hu=>?_⟩
 have hj:j < 3:=by have:=(iL.1 hu).1;simpa using this
 refine H.MR (c:=cur) (e:=e) (fz:=(0,0)) (hsub _ (by rw [hl];exact List.mem_singleton_self _)) ?_;have h5:=TI hk j hj;rw [← h4,uG,ay (by omega),Array.getElem?_toList] at h5;rw [show 0+k*3+j=k*3+j by omega,h5];exact hu
theorem akA {G:GH} {w0:World} {Lo:OL} {v fv:aj} (l:List bQ) (p:bQ→Bool) (hO:fC G Lo w0) (hrw:bR 82 3 v l.length (mF l) Lo) (hf:∀ x∈l,pO fv G x.dat (p x)) :
  Calls prog 117 #[v,fv] w0 (eP w0 G Lo fun u G' L'=>L'=Lo∧u=vi (lG (l.findIdx? p))):=by
 obtain ⟨A,c,rfl,hc1,hc2⟩:=hrw.shape;have hml:maxLen=9223372036854775807:=rfl;refine gB (N:=19) (T:=[(0,_),(1,_)]) func117 rfl ntmps117 rfl rfl hO ?_;refine ak 10 ?_;intro a H;refine eO (ι:=Nat × GH) (Tc:=[(0,_),(1,_),(7,_)]) (Lc:=[]) (fun gh=>[(8,vi gh.1)]) (fun gh=>[]++Lo) (fun gh=>gh.2) (fun gh=>gh.1≤l.length∧(l.take gh.1).findIdx? p=none∧(∀ b o,G b=some o→gh.2 b=some o)) (fun gh=>l.length - gh.1) ((0,G)) sB ?_ ?_
 ·exact ⟨by omega,rfl,fun _ _ h=>h⟩
 clear H;rintro ⟨k,g⟩ a w hI H;dsimp only at hI H;obtain ⟨hk,hno,hgm⟩:=hI;dsimp only [lca,aR] at H;refine dN 4 H ?_ ?_ <;> clear H
 ·intro p9
  have hk2:k < l.length:=by omega
  intro a H;obtain ⟨b,rfl,hrow⟩:=amU hrw rfl H.hp (fun x hx=>by first|exact hx|exact gL _ hx|simpa using hx) hk2;refine eB 12 H ?_;clear H;intro a H;refine bg qz (cs:=[vi l[k].id,.string l[k].author,vi l[k].time]) H wn rfl rfl hrow rfl ?_;clear H;intro a H;refine nV H wn rfl rfl (hf _ (iF hk2) _ _ _ hgm H.ro (TL _ l[k])) rfl ?_;clear H;rintro v16 uy a w rfl vv H;refine gX 1 H ?_ ?_ <;> clear H
  ·intro h16
   try have p16:=dT h16
   refine ak 4 ?_;intro a H;refine lr H results117 rfl ?_
   first
    | exact H.hp.cZ ⟨rfl,by rw [tC hk2 hno h16];rfl⟩
    | exact H.hp.cZ ⟨rfl,by rw [show l.take k=l from jh (by omega)] at hno;rw [hno];rfl⟩
  intro h16
  try have p16:=dF h16
  refine ak 4 ?_;intro a H;refine aG ?_;refine dH ((k+1,uy)) sB ?_ ?_
  ·(try dsimp only);exact ⟨by omega,CO hk2 hno h16,fun b o h=>vv b o (hgm b o h)⟩
  first|omega|(dsimp only;omega)
 intro p9
 refine ak 4 ?_;intro a H;refine lr H results117 rfl ?_
 first
  | exact H.hp.cZ ⟨rfl,by rw [tC hk2 hno h16];rfl⟩
  | exact H.hp.cZ ⟨rfl,by rw [show l.take k=l from jh (by omega)] at hno;rw [hno];rfl⟩
theorem amS {G:GH} {l:List bQ} {xs:List aj} (h:bE G 3 (l.map bQ.dat) xs):xs=mF l:=by
 obtain ⟨css,rfl,h2,h3⟩:=h;rw [bO] at h2
 have e:css=l.map bQ.cells:=by
  apply List.ext_getElem?
  intro j;rw [nE]
  by_cases hj:j < l.length
  ·have h4:=(h3 j l[j].dat css[j] (by simp [hj]) (dY (by omega))).1;rw [dY hj,dY (by omega),TK h4];rfl
  rw [List.getElem?_eq_none (by omega),List.getElem?_eq_none (by omega)];rfl
 rw [e];rfl
theorem amI {l:List bQ} {p:bQ→Bool} {i:Nat} (h:l.findIdx? p=some i):∃ hi:i < l.length,(l.take (i+1)).filter (fun x=>!p x)=l.take i:=by
 obtain ⟨hi,h1,h2⟩:=List.findIdx?_eq_some_iff_getElem.1 h;refine ⟨hi,?_⟩;rw [gN hi,List.filter_append,List.filter_eq_self.2]
 ·simp [h1]
 intro x hx;obtain ⟨j,hj,rfl⟩:=List.getElem_of_mem hx;rw [List.getElem_take]
 have hj2:j < i:=by rw [List.length_take] at hj;omega
 have:=h2 j hj2
 simpa using this
theorem amJ {l:List bQ} {p:bQ→Bool} (h:l.findIdx? p=none):l.filter (fun x=>!p x)=l:=by
 rw [List.findIdx?_eq_none_iff] at h
 exact List.filter_eq_self.2 fun x hx=>by rw [h x hx];rfl
theorem amK {cl:List aj} {i:Nat} {x y z:aj} (h:i*3+3≤cl.length):(setRow cl (0+i*3) [x,y,z]).length=cl.length∧(setRow cl (0+i*3) [x,y,z]).take ((i+1)*3)=cl.take (i*3)++[x,y,z]∧∀ m,(i+1)*3≤m→(setRow cl (0+i*3) [x,y,z])[m]?=cl[m]?:=by
 have e:setRow cl (0+i*3) [x,y,z]=cl.take (i*3)++[x,y,z]++cl.drop (i*3+3):=by
  rw [fQ,Nr _ _ _ (by simpa using h)];rfl
 have hl:(cl.take (i*3)++[x,y,z]).length=(i+1)*3:=by rw [jH,List.length_take];simp;omega
 refine ⟨Ub ..,?_,fun m hm=>?_⟩
 ·rw [e,← hl,List.take_left]
 rw [e,qF (by omega),hl,List.getElem?_drop];congr 1;omega
theorem amH {l:List bQ} {cl:List aj} {i:Nat} (hi:i < l.length) (h:cl.take (l.length*3)=mF l):cl.take (i*3)=mF (l.take i):=by
 have e:cl.take (i*3)=(cl.take (l.length*3)).take (i*3):=by rw [List.take_take,Nat.min_eq_left (by omega)]
 have h2:mF l=mF (l.take i)++mF (l.drop i):=by rw [← TH,List.take_append_drop]
 have h3:(mF (l.take i)).length=i*3:=by rw [Nh,List.length_take];omega
 rw [e,h,h2,← h3,List.take_left]
theorem amL {l:List bQ} {p:bQ→Bool} {j:Nat} (hj:j < l.length):(l.take (j+1)).filter (fun x=>!p x)=(l.take j).filter (fun x=>!p x)++if p l[j] then [] else [l[j]]:=by
 rw [gN hj,List.filter_append]
 cases h:p l[j] <;> simp [h]
theorem aek {G:GH} {w0:World} {Lo:OL} {v fv:aj} (l:List bQ) (p:bQ→Bool) (hO:fC G Lo w0) (hrw:bR 82 3 v l.length (mF l) Lo) (hf:∀ x∈l,pO fv G x.dat (p x)) :
  Calls prog 63 #[v,fv] w0 (eP w0 G Lo fun u G' L'=>bR 82 3 u (l.filter fun x=>!p x).length (mF (l.filter fun x=>!p x)) L'):=by
 obtain ⟨A,c,rfl,hc1,hc2⟩:=hrw.shape;have hml:maxLen=9223372036854775807:=rfl;have hdl:=Nh l;refine gB (N:=42) (T:=[(0,_),(1,_)]) func63 rfl ntmps63 rfl rfl hO ?_;refine ak 6 ?_;intro a H;refine fB aeK (Li:=[]) (L:=Lo) H wn rfl (akA l p (Hp.owns (Li:=[]) H.hp) hrw hf) rfl ?_;clear H;rintro v10 yX L10 a w ⟨rfl,rfl⟩ xq H;dsimp only [List.nil_append] at H;obtain ⟨o,ho⟩:∃ o,o=l.findIdx? p:=⟨_,rfl⟩;rw [← ho] at H;refine gW 7 H ?_ ?_ <;> clear H
 ·intro nu
  obtain rfl:o=none:=by cases o with|none=>rfl|some i=>first|(simp [lG] at nu;done)|(simp [lG] at nu;omega)
  refine ak 4 ?_;intro a H;refine lr H results63 rfl ?_;exact H.hp.cZ (by rw [amJ ho.symm];exact hrw)
 intro nu
 obtain ⟨i0,rfl⟩:∃ i,o=some i:=by cases o with|none=>simp [lG] at nu|some i=>exact ⟨i,rfl⟩
 obtain ⟨hi0,hinit⟩:=amI ho.symm
 rcases hrw.2 with ⟨_,h0,_⟩|⟨b,cap,cur,he,rfl,hcap1,hcap2,hsz,htk⟩
 ·intro a H;omega
 intro a H;injection he with e1 e2 e3
 subst e1;subst e3;obtain ⟨O4,rfl⟩:∃ cl:List aj,cur=cl.toArray:=⟨cur.toList,by simp⟩;rw [List.size_toArray] at hsz;dsimp only [lG] at H;refine eB 8 H ?_;clear H;intro a H;refine eO (ι:=Nat × Nat × List aj × GH) (Tc:=[(0,_),(1,_)]) (Lc:=[]) (fun gh=>[(5,vi gh.2.1),(6,vi gh.1)]) (fun gh=>[(b,.cells gh.2.2.1.toArray 82 (0,0))]) (fun gh=>gh.2.2.2) (fun gh=>gh.2.1 < gh.1∧gh.1≤l.length∧gh.2.2.1.length=c*3∧gh.2.1=((l.take gh.1).filter fun x=>!p x).length∧gh.2.2.1.take (gh.2.1*3)=mF ((l.take gh.1).filter fun x=>!p x)∧(∀ m,gh.1*3≤m→m < l.length*3→gh.2.2.1[m]?=(mF l)[m]?)∧(∀ b o,G b=some o→gh.2.2.2 b=some o)) (fun gh=>l.length - gh.1) ((i0+1,i0,O4,yX)) sB ?_ ?_
 ·exact ⟨Nat.lt_succ_self _,hi0,hsz,by rw [hinit,List.length_take];exact (Nat.min_eq_left (Nat.le_of_lt hi0)).symm,by rw [hinit];exact amH hi0 htk,fun m h1 h2=>by rw [← htk,uG,ay h2],xq⟩
 clear H;rintro ⟨j,i,cl,g⟩ a w hI H;dsimp only at hI H;obtain ⟨hij,hj,hcl,hil,hkept,hrest,hgm⟩:=hI;dsimp only [lca,aR] at H;refine dN 7 H ?_ ?_ <;> clear H
 ·intro tL
  have hj2:j < l.length:=by omega
  have hjc:∀ q u,[vi l[j].id,.string l[j].author,vi l[j].time][q]?=some u→cl.toArray[0+j*3+q]?=some u:=fun q u hq=>by
   have hq2:q < 3:=by have:=(iL.1 hq).1;simpa using this
   rw [List.getElem?_toArray,fQ,hrest _ (by omega) (by omega),TI hj2 q hq2];exact hq
  have hdt:=amL (p:=p) hj2;refine ak 7 ?_;intro a H;refine bg qz (cs:=[vi l[j].id,.string l[j].author,vi l[j].time]) H wn rfl rfl (fun q u hq=>H.hp.MR (c:=cl.toArray) fH (hjc q u hq)) rfl ?_;clear H;intro a H;refine dx qz H wn rfl ?_;clear H;intro b7 a w sV H;refine aV qz 0 (vs:=[_,_,_]) _ H wn rfl rfl rfl rfl rfl rfl rfl rfl ?_;clear H;intro w H;dsimp only [List.set,setRow] at H;refine aH 3 H ?_;clear H;intro a H;refine bg qz (cs:=[_,_,_]) H wn rfl rfl (H.hp.cK 0 rfl rfl) rfl ?_;clear H;intro a H;refine nV H wn rfl rfl (hf _ (iF hj2) _ _ _ hgm H.ro (TL _ l[j])) rfl ?_;clear H;rintro v28 Oc a w rfl X7 H;refine gX 2 H ?_ ?_ <;> clear H
  ·intro IB
   try have p29:=dT IB
   rw [ah (by simpa using IB)] at hdt;have hds:=amK (cl:=cl) (i:=i) (x:=vi l[j].id) (y:=.string l[j].author) (z:=vi l[j].time) (by omega);refine ak 3 ?_;intro a H;refine bg qz (cs:=[_,_,_]) H wn rfl rfl (H.hp.cK 0 rfl rfl) rfl ?_;clear H;refine ak 1 ?_;intro a H;refine aV qz 1 (c:=cl) (vs:=[vi l[j].id,.string l[j].author,vi l[j].time]) _ H wn rfl rfl rfl rfl rfl rfl (Nat.ble_eq_true_of_le (by simp only [kG,List.length_nil];omega)) rfl ?_;clear H;intro w H;dsimp only [List.set] at H;refine aH 10 H ?_;clear H;intro a H;refine aG ?_;refine dH ((j+1,i+1,setRow cl (0+i*3) [vi l[j].id,.string l[j].author,vi l[j].time],Oc)) (by exact (H.cu (Pl:=[_,_]) (bS:=[_]) [1] (by decide) rfl).sub ⟨rfl,rfl,rfl,rfl,bB⟩) ?_ ?_
   ·(try dsimp only);exact ⟨by omega,by omega,by rw [hds.1,hcl],by rw [hdt,jH,← hil];rfl,by rw [hdt,TH,← hkept,hds.2.1];rfl,fun m h1 h2=>by rw [hds.2.2 m (by omega),hrest m (by omega) h2],fun b o h=>X7 b o (hgm b o h)⟩
   first|omega|(dsimp only;omega)
  intro IB
  try have p29:=dF IB
  rw [ay (by simpa using IB),lY] at hdt;refine ak 5 ?_;intro a H;refine aG ?_;refine dH ((j+1,i,cl,Oc)) (by exact (H.cu (Pl:=[_,_]) (bS:=[_]) [1] (by decide) rfl).sub ⟨rfl,rfl,rfl,rfl,bB⟩) ?_ ?_
  ·(try dsimp only);exact ⟨by omega,by omega,hcl,by rw [hdt];exact hil,by rw [hdt];exact hkept,fun m h1 h2=>hrest m (by omega) h2,fun b o h=>X7 b o (hgm b o h)⟩
  first|omega|(dsimp only;omega)
 intro tL
 refine ak 4 ?_;intro a H;refine anB xR qz i H wn rfl rfl rfl (by omega) rfl ?_;clear H;intro a H;rw [ah (by omega),Option.map_some,add_lit] at H;refine ank xR qz rfl rfl 0 H wn rfl rfl (by omega) (by omega) ?_;clear H;intro cz w hz1 hz2 H;dsimp only [List.set] at H;refine aH 4 H ?_;clear H;intro a H;refine TR xR qz i H wn rfl rfl rfl (by omega) rfl ?_;clear H;refine ak 2 ?_;intro a H;refine lr H results63 rfl ?_
 obtain rfl:j=l.length:=by omega
 rw [wW] at hil hkept;exact H.hp.cZ ⟨Nh _,.inr ⟨b,c,cz.toArray,by rw [← hil],rfl,by omega,hcap2,by rw [List.size_toArray,hz1,hcl],by rw [← hkept,← hil];rw [fQ] at hz2;exact hz2⟩⟩
end
section
open Go.RowKit
theorem V7 (G:GH) (w0:World) (hO:fC G [] w0) (rows:List (List Dat)) (A:Option Addr) (n c:Nat) (hv:av G (.sl 3 rows) (.slice A n c)) (hz:rows.length≤4294967296) :
  Calls prog 64 #[.slice A n c] w0 (eP w0 G [] fun u G' L'=>∃ xs,bR 82 3 u rows.length xs L'∧bE G' 3 rows xs):=by
 obtain ⟨hn,hc1,hc2,hnil,hx⟩:=hv.cells;refine gB (N:=8) (T:=[(0,_)]) func64 rfl ntmps64 rfl rfl hO ?_;refine ak 6 ?_;intro a H;refine zV xR H wn rfl rfl ?_;clear H;refine goC 1 ?_ ?_
 ·intro h4
  refine ak 3 ?_;intro a H;refine lr H results64 rfl ?_;have hr0:=hnil (by simpa using h4);subst hr0;exact H.hp.cZ ⟨[],bR.nil,bE.nil⟩
 intro h4
 try have p4:=dF h4
 refine ak 1 ?_
 have hA:¬ A=none:=by intro e;rw [e] at h4;cases h4
 refine ak 1 ?_;intro a H;refine zT xR qz H wn rfl ?_;clear H;intro b5 a w hb5 H;refine aH 1 H ?_;clear H
 intro a H;by_cases hr0:rows=[]
 ·have hn0:n=0:=by rw [hn,hr0];rfl
  subst hn0;refine yQ xR qz H wn rfl rfl (bN _) rfl ?_;clear H;refine ak 2 ?_;intro a H;refine lr H results64 rfl ?_;subst hr0;exact H.hp.cZ ⟨[],bR.empty,bE.nil⟩
 obtain ⟨b,o,xs,rfl,hxl,hxc,hx1,eD⟩:=hx hr0;refine nU (Li:=[]) (Lo:=[_]) (news:=xs) xR qz rfl rfl H wn rfl rfl bR.empty hxl (fun j u hj=>H.hp.aF (hxc j u hj)) hx1 (by omega) (by omega) rfl ?_;clear H;intro v7 Lo a w hrow H;dsimp only [List.nil_append] at H;refine aH 2 H ?_;clear H;intro a H;refine lr H results64 rfl ?_;exact H.hp.cZ ⟨_,by rw [fQ,hn] at hrow;exact hrow,eD⟩
theorem adR (G:GH) (w0:World) (hO:fC G [] w0) (rows:List (List Dat)) (A:Option Addr) (n c:Nat) (hv:av G (.sl 6 rows) (.slice A n c)) (hz:rows.length≤4294967296) :
  Calls prog 174 #[.slice A n c] w0 (eP w0 G [] fun u G' L'=>∃ xs,bR 156 6 u rows.length xs L'∧bE G' 6 rows xs):=by
 obtain ⟨hn,hc1,hc2,hnil,hx⟩:=hv.cells;refine gB (N:=8) (T:=[(0,_)]) func174 rfl ntmps174 rfl rfl hO ?_;refine ak 6 ?_;intro a H;refine zV rY H wn rfl rfl ?_;clear H;refine goC 1 ?_ ?_
 ·intro h4
  refine ak 3 ?_;intro a H;refine lr H results174 rfl ?_;have hr0:=hnil (by simpa using h4);subst hr0;exact H.hp.cZ ⟨[],bR.nil,bE.nil⟩
 intro h4
 try have p4:=dF h4
 refine ak 1 ?_
 have hA:¬ A=none:=by intro e;rw [e] at h4;cases h4
 refine ak 1 ?_;intro a H;refine zT rY ko H wn rfl ?_;clear H;intro b5 a w hb5 H;refine aH 1 H ?_;clear H
 intro a H;by_cases hr0:rows=[]
 ·have hn0:n=0:=by rw [hn,hr0];rfl
  subst hn0;refine yQ rY ko H wn rfl rfl (bN _) rfl ?_;clear H;refine ak 2 ?_;intro a H;refine lr H results174 rfl ?_;subst hr0;exact H.hp.cZ ⟨[],bR.empty,bE.nil⟩
 obtain ⟨b,o,xs,rfl,hxl,hxc,hx1,eD⟩:=hx hr0;refine nU (Li:=[]) (Lo:=[_]) (news:=xs) rY ko rfl rfl H wn rfl rfl bR.empty hxl (fun j u hj=>H.hp.aF (hxc j u hj)) hx1 (by omega) (by omega) rfl ?_;clear H;intro v7 Lo a w hrow H;dsimp only [List.nil_append] at H;refine aH 2 H ?_;clear H;intro a H;refine lr H results174 rfl ?_;exact H.hp.cZ ⟨_,by rw [fQ,hn] at hrow;exact hrow,eD⟩
theorem adQ (G:GH) (w0:World) (hO:fC G [] w0) (rows:List (List Dat)) (A:Option Addr) (n c:Nat) (hv:av G (.sl 2 rows) (.slice A n c)) (hz:rows.length≤4294967296) :
  Calls prog 175 #[.slice A n c] w0 (eP w0 G [] fun u G' L'=>∃ xs,bR 159 2 u rows.length xs L'∧bE G' 2 rows xs):=by
 obtain ⟨hn,hc1,hc2,hnil,hx⟩:=hv.cells;refine gB (N:=8) (T:=[(0,_)]) func175 rfl ntmps175 rfl rfl hO ?_;refine ak 6 ?_;intro a H;refine zV Ab H wn rfl rfl ?_;clear H;refine goC 1 ?_ ?_
 ·intro h4
  refine ak 3 ?_;intro a H;refine lr H results175 rfl ?_;have hr0:=hnil (by simpa using h4);subst hr0;exact H.hp.cZ ⟨[],bR.nil,bE.nil⟩
 intro h4
 try have p4:=dF h4
 refine ak 1 ?_
 have hA:¬ A=none:=by intro e;rw [e] at h4;cases h4
 refine ak 1 ?_;intro a H;refine zT Ab BA H wn rfl ?_;clear H;intro b5 a w hb5 H;refine aH 1 H ?_;clear H
 intro a H;by_cases hr0:rows=[]
 ·have hn0:n=0:=by rw [hn,hr0];rfl
  subst hn0;refine yQ Ab BA H wn rfl rfl (bN _) rfl ?_;clear H;refine ak 2 ?_;intro a H;refine lr H results175 rfl ?_;subst hr0;exact H.hp.cZ ⟨[],bR.empty,bE.nil⟩
 obtain ⟨b,o,xs,rfl,hxl,hxc,hx1,eD⟩:=hx hr0;refine nU (Li:=[]) (Lo:=[_]) (news:=xs) Ab BA rfl rfl H wn rfl rfl bR.empty hxl (fun j u hj=>H.hp.aF (hxc j u hj)) hx1 (by omega) (by omega) rfl ?_;clear H;intro v7 Lo a w hrow H;dsimp only [List.nil_append] at H;refine aH 2 H ?_;clear H;intro a H;refine lr H results175 rfl ?_;exact H.hp.cZ ⟨_,by rw [fQ,hn] at hrow;exact hrow,eD⟩
theorem adO (G:GH) (w0:World) (hO:fC G [] w0) (rows:List (List Dat)) (A:Option Addr) (n c:Nat) (hv:av G (.sl 6 rows) (.slice A n c)) (hz:rows.length≤4294967296) :
  Calls prog 176 #[.slice A n c] w0 (eP w0 G [] fun u G' L'=>∃ xs,bR 164 6 u rows.length xs L'∧bE G' 6 rows xs):=by
 obtain ⟨hn,hc1,hc2,hnil,hx⟩:=hv.cells;refine gB (N:=8) (T:=[(0,_)]) func176 rfl ntmps176 rfl rfl hO ?_;refine ak 6 ?_;intro a H;refine zV Dh H wn rfl rfl ?_;clear H;refine goC 1 ?_ ?_
 ·intro h4
  refine ak 3 ?_;intro a H;refine lr H results176 rfl ?_;have hr0:=hnil (by simpa using h4);subst hr0;exact H.hp.cZ ⟨[],bR.nil,bE.nil⟩
 intro h4
 try have p4:=dF h4
 refine ak 1 ?_
 have hA:¬ A=none:=by intro e;rw [e] at h4;cases h4
 refine ak 1 ?_;intro a H;refine zT Dh Dc H wn rfl ?_;clear H;intro b5 a w hb5 H;refine aH 1 H ?_;clear H
 intro a H;by_cases hr0:rows=[]
 ·have hn0:n=0:=by rw [hn,hr0];rfl
  subst hn0;refine yQ Dh Dc H wn rfl rfl (bN _) rfl ?_;clear H;refine ak 2 ?_;intro a H;refine lr H results176 rfl ?_;subst hr0;exact H.hp.cZ ⟨[],bR.empty,bE.nil⟩
 obtain ⟨b,o,xs,rfl,hxl,hxc,hx1,eD⟩:=hx hr0;refine nU (Li:=[]) (Lo:=[_]) (news:=xs) Dh Dc rfl rfl H wn rfl rfl bR.empty hxl (fun j u hj=>H.hp.aF (hxc j u hj)) hx1 (by omega) (by omega) rfl ?_;clear H;intro v7 Lo a w hrow H;dsimp only [List.nil_append] at H;refine aH 2 H ?_;clear H;intro a H;refine lr H results176 rfl ?_;exact H.hp.cZ ⟨_,by rw [fQ,hn] at hrow;exact hrow,eD⟩
theorem adI (G:GH) (w0:World) (hG:Hold G w0) (rows:List (List Dat)) (A:Option Addr) (n c:Nat) (hv:av G (.sl 6 rows) (.slice A n c)) (hz:rows.length≤4294967296) :
  Calls prog 176 #[.slice A n c] w0 (bD w0 G fun u G'=>av G' (.sl 6 rows) u):=Fj hG (adO G w0 (vG hG) rows A n c hv hz) rfl
theorem adS (G:GH) (w0:World) (hO:fC G [] w0) (rows:List (List Dat)) (A:Option Addr) (n c:Nat) (hv:av G (.sl 2 rows) (.slice A n c)) (hz:rows.length≤4294967296) :
  Calls prog 177 #[.slice A n c] w0 (eP w0 G [] fun u G' L'=>∃ xs,bR 167 2 u rows.length xs L'∧bE G' 2 rows xs):=by
 obtain ⟨hn,hc1,hc2,hnil,hx⟩:=hv.cells;refine gB (N:=8) (T:=[(0,_)]) func177 rfl ntmps177 rfl rfl hO ?_;refine ak 6 ?_;intro a H;refine zV tZ H wn rfl rfl ?_;clear H;refine goC 1 ?_ ?_
 ·intro h4
  refine ak 3 ?_;intro a H;refine lr H results177 rfl ?_;have hr0:=hnil (by simpa using h4);subst hr0;exact H.hp.cZ ⟨[],bR.nil,bE.nil⟩
 intro h4
 try have p4:=dF h4
 refine ak 1 ?_
 have hA:¬ A=none:=by intro e;rw [e] at h4;cases h4
 refine ak 1 ?_;intro a H;refine zT tZ yU H wn rfl ?_;clear H;intro b5 a w hb5 H;refine aH 1 H ?_;clear H
 intro a H;by_cases hr0:rows=[]
 ·have hn0:n=0:=by rw [hn,hr0];rfl
  subst hn0;refine yQ tZ yU H wn rfl rfl (bN _) rfl ?_;clear H;refine ak 2 ?_;intro a H;refine lr H results177 rfl ?_;subst hr0;exact H.hp.cZ ⟨[],bR.empty,bE.nil⟩
 obtain ⟨b,o,xs,rfl,hxl,hxc,hx1,eD⟩:=hx hr0;refine nU (Li:=[]) (Lo:=[_]) (news:=xs) tZ yU rfl rfl H wn rfl rfl bR.empty hxl (fun j u hj=>H.hp.aF (hxc j u hj)) hx1 (by omega) (by omega) rfl ?_;clear H;intro v7 Lo a w hrow H;dsimp only [List.nil_append] at H;refine aH 2 H ?_;clear H;intro a H;refine lr H results177 rfl ?_;exact H.hp.cZ ⟨_,by rw [fQ,hn] at hrow;exact hrow,eD⟩
theorem adK (G:GH) (w0:World) (hG:Hold G w0) (rows:List (List Dat)) (A:Option Addr) (n c:Nat) (hv:av G (.sl 2 rows) (.slice A n c)) (hz:rows.length≤4294967296) :
  Calls prog 177 #[.slice A n c] w0 (bD w0 G fun u G'=>av G' (.sl 2 rows) u):=Fj hG (adS G w0 (vG hG) rows A n c hv hz) rfl
theorem adP (G:GH) (w0:World) (hO:fC G [] w0) (rows:List (List Dat)) (A:Option Addr) (n c:Nat) (hv:av G (.sl 4 rows) (.slice A n c)) (hz:rows.length≤4294967296) :
  Calls prog 178 #[.slice A n c] w0 (eP w0 G [] fun u G' L'=>∃ xs,bR 194 4 u rows.length xs L'∧bE G' 4 rows xs):=by
 obtain ⟨hn,hc1,hc2,hnil,hx⟩:=hv.cells;refine gB (N:=8) (T:=[(0,_)]) func178 rfl ntmps178 rfl rfl hO ?_;refine ak 6 ?_;intro a H;refine zV JD H wn rfl rfl ?_;clear H;refine goC 1 ?_ ?_
 ·intro h4
  refine ak 3 ?_;intro a H;refine lr H results178 rfl ?_;have hr0:=hnil (by simpa using h4);subst hr0;exact H.hp.cZ ⟨[],bR.nil,bE.nil⟩
 intro h4
 try have p4:=dF h4
 refine ak 1 ?_
 have hA:¬ A=none:=by intro e;rw [e] at h4;cases h4
 refine ak 1 ?_;intro a H;refine zT JD Gy H wn rfl ?_;clear H;intro b5 a w hb5 H;refine aH 1 H ?_;clear H
 intro a H;by_cases hr0:rows=[]
 ·have hn0:n=0:=by rw [hn,hr0];rfl
  subst hn0;refine yQ JD Gy H wn rfl rfl (bN _) rfl ?_;clear H;refine ak 2 ?_;intro a H;refine lr H results178 rfl ?_;subst hr0;exact H.hp.cZ ⟨[],bR.empty,bE.nil⟩
 obtain ⟨b,o,xs,rfl,hxl,hxc,hx1,eD⟩:=hx hr0;refine nU (Li:=[]) (Lo:=[_]) (news:=xs) JD Gy rfl rfl H wn rfl rfl bR.empty hxl (fun j u hj=>H.hp.aF (hxc j u hj)) hx1 (by omega) (by omega) rfl ?_;clear H;intro v7 Lo a w hrow H;dsimp only [List.nil_append] at H;refine aH 2 H ?_;clear H;intro a H;refine lr H results178 rfl ?_;exact H.hp.cZ ⟨_,by rw [fQ,hn] at hrow;exact hrow,eD⟩
theorem adJ (G:GH) (w0:World) (hG:Hold G w0) (rows:List (List Dat)) (A:Option Addr) (n c:Nat) (hv:av G (.sl 4 rows) (.slice A n c)) (hz:rows.length≤4294967296) :
  Calls prog 178 #[.slice A n c] w0 (bD w0 G fun u G'=>av G' (.sl 4 rows) u):=Fj hG (adP G w0 (vG hG) rows A n c hv hz) rfl
end
section
open Go.RowKit
def wQ (x:Nat→aj × OL) (m:Nat) (y:aj × OL):Nat→aj × OL:=fun j=>if j=m then y else x j
theorem apc (x:Nat→aj × OL) (m:Nat) (y:aj × OL):wQ x m y m=y:=ay rfl
theorem abe {x:Nat→aj × OL} {m j:Nat} {y:aj × OL} (h:j≠m):wQ x m y j=x j:=ah h
def oH (ms:List Nat) (S:Nat→Bool) (x:Nat→aj × OL):OL:=ms.flatMap fun m=>bif S m then (x m).2 else []
theorem Xt {S:Nat→Bool} {x:Nat→aj × OL} {y:aj × OL} {m:Nat}:∀ {ms:List Nat},m∉ms→oH ms (eZ S m) (wQ x m y)=oH ms S x
 | [],_=>rfl
 | k :: ms,h=>by
  have hk:k≠m:=fun e=>h (by simp [e])
  have ih:=Xt (S:=S) (x:=x) (y:=y) (ms:=ms) fun hm=>h (gL _ hm)
  unfold oH at ih ⊢
  rw [List.flatMap_cons,List.flatMap_cons,ih,abe hk,show eZ S m k=S k from ah hk]
theorem Xu {S:Nat→Bool} {x:Nat→aj × OL} {y:aj × OL} {m:Nat} (hS:S m=false):∀ {ms:List Nat},ms.Nodup→m∈ms→(y.2++oH ms S x).Perm (oH ms (eZ S m) (wQ x m y))
 | k :: ms,hn,hm=>by
  rw [List.nodup_cons] at hn
  by_cases hk:k=m
  ·subst hk
   have e:=Xt (S:=S) (x:=x) (y:=y) hn.1
   unfold oH at e ⊢
   rw [List.flatMap_cons,List.flatMap_cons,e,apc,hS,show eZ S k k=true from ay rfl]
   exact List.Perm.refl _
  ·have ih:=Xu (S:=S) (x:=x) (y:=y) hS hn.2 (by
    rcases iQ.1 hm with e|h
    ·exact absurd e.symm hk
    ·exact h)
   unfold oH at ih ⊢
   rw [List.flatMap_cons,List.flatMap_cons,abe hk,show eZ S m k=S k from ah hk,← gy]
   refine (List.Perm.append_right _ rD).trans ?_
   rw [gy]
   exact List.Perm.append_left _ ih
section
variable {N:Nat} {D:List Deferred} {w0:World} {F:Nat→Prop} {G0 G G1 G2:GH} {L L1 L2:OL} {T Xs:List (Nat × aj)}
variable {r:Option Nat} {P:Program} {Q:Exit→Act→World→Prop} {l:List Oper} {a a':Act} {w w':World}
theorem VU {id:Nat} (ms:List Nat) (hm:P.follows .mixedOrders=true) (bY:List (List Nat)) (B:List Nat) (hk:Aw l bY=true) (hB:yS l bY B=true) (hnd:ms.Nodup) (hms:(ms.all fun m=>Nat.blt m l.length && !B.contains m)=true) (pr:(Nat→aj × OL)→Nat→aj→GH→Prop)
  (hp:∀ m,ms.contains m=true→∀ x y i v G,Nat.beq i m=false→(bY.getD i []).contains m=false→pr x i v G→pr (wQ x m y) i v G)
  (H:St N D w0 F G0 G L T a w)
  (hstep:allI (fun i o=>∀ x L' S a w G1,(∀ q,q∈L→q∈L')→B.contains i=false→ms.contains i=false→S i=false→(∀ j∈bY.getD i [],S j=true)→(∀ k o,G k=some o→G1 k=some o)→St N D w0 F G0 G1 L' T a w→(∀ i d,S i=true→eH l i=some d→∃ v,a.tmps[d]?=some v∧pr x i v G1) →
   WL r P l.toArray (fun e a' w'=>e=.normal∧DX N D w0 F G0 G L' T l (pr x) (eZ S i) a' w') [o] a w) 0 l)
  (hmid:allI (fun m o=>ms.contains m=true→∀ x L' S a w G1,(∀ q,q∈L→q∈L')→S m=false→(∀ j∈bY.getD m [],S j=true)→(∀ k o,G k=some o→G1 k=some o)→St N D w0 F G0 G1 L' T a w→(∀ y i d,i≠m→S i=true→eH l i=some d→∃ v,a.tmps[d]?=some v∧pr (wQ x m y) i v G1) →
   WL r P l.toArray (fun e a' w'=>e=.normal∧∃ y,DX N D w0 F G0 G (y.2++L') T l (pr (wQ x m y)) (eZ S m) a' w') [o] a w) 0 l)
  (hend:∀ x a w G1,(∀ k o,G k=some o→G1 k=some o)→St N D w0 F G0 G1 (oH ms (fun _=>true) x++L) T a w→(∀ i d,B.contains i=false→eH l i=some d→∃ v,a.tmps[d]?=some v∧pr x i v G1)→WL r P l.toArray (fun e a w=>e=.normal∧Q .normal a w) (qd l B) a w):WP r P (.region id l.toArray true) Q a w:=by
 refine OU hm bY B hk hB (fun S a w=>∃ x,DX N D w0 F G0 G (oH ms S x++L) T l (pr x) S a w)
  ⟨fun _=>(.bool false,[]),DX.perm (L1:=L) ⟨G,fun _ _ h=>h,H.move H.hp.drew,fun _ _ h=>absurd (show false=true from h) (by decide)⟩ (by
   have:∀ ms:List Nat,oH ms (fun _=>false) (fun _=>(.bool false,[]))=[]:=fun ms=>by
    induction ms with
    | nil=>rfl
    | cons k ms ih=>unfold oH at ih ⊢;rw [List.flatMap_cons,ih];rfl
   rw [this];exact List.Perm.refl _)⟩ ?_ ?_
 ·rintro i o S a w ho hb bT nM hdesc ⟨x,G1,hG,HS,hv⟩
  have hsub:∀ q,q∈L→q∈oH ms S x++L:=fun q hq=>List.mem_append_right _ hq
  have hno:∀ j,j < l.length→S j=true→(bY.getD j []).contains i=false:=fun j hjl hj=>by
   cases hc:(bY.getD j []).contains i with
   | false=>rfl
   | true =>
    have:=hdesc j hjl (by simpa using hc)
    rw [this] at hj;cases hj
  cases hi:ms.contains i with
  | true =>
   have h:=Fa hmid i o ho
   rw [fQ] at h
   have h:=h hi x _ S a w G1 hsub bT nM hG HS fun y j d hj hSj hd=>by
    obtain ⟨v,hv1,hv2⟩:=hv j d hSj hd
    exact ⟨v,hv1,hp i hi x y j v _ (Ap hj) (hno j (yw hd) hSj) hv2⟩
   refine rZ (fun e a' w' ⟨he,y,hD⟩=>⟨he,wQ x i y,hD.perm ?_⟩) h
   rw [← gy]
   exact List.Perm.append_right L (Xu bT hnd (by simpa using hi))
  | false =>
   have h:=Fa hstep i o ho
   rw [fQ] at h
   have e:∀ ms:List Nat,i∉ms→oH ms (eZ S i) x=oH ms S x:=fun ms hn=>by
    induction ms with
    | nil=>rfl
    | cons k ms ih =>
     have ih:=ih fun h=>hn (gL _ h)
     unfold oH at ih ⊢
     rw [List.flatMap_cons,List.flatMap_cons,ih,show eZ S i k=S k from ah fun e=>hn (by simp [e])]
   refine rZ (fun e' a' w' ⟨he,hD⟩=>⟨he,x,?_⟩) (h x _ S a w G1 hsub hb hi bT nM hG HS hv)
   rw [e ms (by simpa using hi)]
   exact hD
 ·rintro S a w hall Yh ⟨x,G1,hG,HS,hv⟩
  have hS:∀ m∈ms,S m=true:=fun m hmm=>by
   have h:=lq.1 hms m hmm
   rw [lU] at h
   exact hall m (Eq.mp Nat.blt_eq h.1) (by simpa using h.2)
  have e:∀ ms:List Nat,(∀ m∈ms,S m=true)→oH ms S x=oH ms (fun _=>true) x:=fun ms h=>by
   induction ms with
   | nil=>rfl
   | cons k ms ih =>
    have ih:=ih fun m hm=>h m (gL _ hm)
    unfold oH at ih ⊢
    rw [List.flatMap_cons,List.flatMap_cons,ih,h k fH]
  replace e:=e ms hS
  rw [e] at HS
  exact hend x a w G1 hG HS fun j d hb hd=>hv j d (hall j (yw hd) hb) hd
end
end
section
open Go.RowKit
theorem wm {G:GH} {b:Nat} {cs:List aj} {e:TypeId} {q:Nat × Nat} (h:G b=some (.cells cs.toArray e q)) (k:Nat) (ds:List aj) (hd:ds=(cs.drop k).take ds.length) (j:Nat) (v:aj) (hj:ds[j]?=some v):aF G b (k+j)=some v:=by
 unfold aF
 rw [h]
 show cs.toArray[k+j]?=some v
 rw [hd,uG] at hj
 split at hj
 ·simpa using hj
 cases hj
end
section
open Go.RowKit
theorem afn:∀ args w,(callFunc 174 args).run prog w=.ok (.enter 174 args) w:=enters func174 rfl (by kernel_rfl)
theorem afo:∀ args w,(callFunc 175 args).run prog w=.ok (.enter 175 args) w:=enters func175 rfl (by kernel_rfl)
theorem afp:∀ args w,(callFunc 176 args).run prog w=.ok (.enter 176 args) w:=enters func176 rfl (by kernel_rfl)
theorem afq:∀ args w,(callFunc 177 args).run prog w=.ok (.enter 177 args) w:=enters func177 rfl (by kernel_rfl)
theorem aoD:ru prog 36 [(0,1),(1,1),(2,1),(3,1)] [.slice none 0 0,.slice none 0 0,.slice none 0 0,.slice none 0 0]:=⟨by kernel_rfl,by kernel_rfl⟩
theorem afr:∀ args w,(callFunc 178 args).run prog w=.ok (.enter 178 args) w:=enters func178 rfl (by kernel_rfl)
theorem aN.setAt {G:GH}:∀ {r:List Dat} {cs:List aj} {k:Nat} {d:Dat} {v:aj},aN G r cs→r[k]?=some d→av G d v→aN G r (cs.set k v)
 | [],_,_,_,_,_,h,_=>by simp at h
 | e :: r,cs,k,d,v,h,hk,hv=>by
  simp only [aN] at h ⊢
  obtain ⟨x,vs,rfl,h1,h2⟩:=h
  cases k with
  | zero =>
   simp only [yg,lS] at hk
   subst hk;exact ⟨v,vs,rfl,hv,h2⟩
  | succ k=>exact ⟨x,vs.set k v,rfl,h1,aN.setAt h2 (by simpa using hk) hv⟩
theorem bE.setAt {G:GH} {sz:Nat}:∀ {rows:List (List Dat)} {xs:List aj} {i k:Nat} {r:List Dat} {d:Dat} {v:aj},bE G sz rows xs→rows[i]?=some r→r[k]?=some d→k < sz→av G d v→bE G sz rows (xs.set (i*sz+k) v)
 | [],_,_,_,_,_,_,_,h,_,_,_=>by simp at h
 | q :: rows,xs,i,k,r,d,v,h,hr,hk,hs,hv=>by
  obtain ⟨css,rfl,h2,h3⟩:=h
  cases css with
  | nil=>simp at h2
  | cons c css =>
   obtain ⟨h4,h5⟩:=h3 0 q c rfl rfl;have h6:bE G sz rows css.flatten:=⟨css,rfl,by simpa using h2,fun j r' cs hr' hc=>h3 (j+1) r' cs (by simpa using hr') (by simpa using hc)⟩
   have h7:∀ {c' x':List aj},aN G q c'→c'.length=sz→bE G sz rows x'→bE G sz (q :: rows) (c'++x'):=fun a b e=>by
    have h8:=((bE.nil (G:=G) (sz:=sz)).snoc a b).append e
    simpa using h8
   rw [List.flatten_cons]
   cases i with
   | zero =>
    simp only [yg,lS] at hr
    subst hr;rw [Nat.zero_mul,fQ,List.set_append_left _ _ (by omega)];exact h7 (h4.setAt hk hv) (by rw [List.length_set];exact h5) h6
   | succ i =>
    rw [List.set_append_right _ _ (by rw [h5,Nat.succ_mul];omega),h5,show (i+1)*sz+k - sz=i*sz+k by rw [Nat.succ_mul];omega];exact h7 h4 h5 (bE.setAt h6 (by simpa using hr) hk hs hv)
theorem aoK {G:GH} {l:List bM} {xs:List aj} {k:Nat} (h:bE G 6 (l.map bM.dat) xs) (hk:k < l.length):∃ A c,xs[k*6+5]?=some (.slice A l[k].props.length c)∧av G (.sl 2 (l[k].props.map fK.dat)) (.slice A l[k].props.length c):=by
 obtain ⟨cs,hcl,hcx,hcr⟩:=h.at (k:=k) (r:=l[k].dat) (by simp [hk]);obtain ⟨A,c,rfl,hp⟩:=Nu hcr;exact ⟨A,c,hcx 5 _ rfl,hp⟩
theorem akV {G:GH} {l:List dW} {xs:List aj} {k:Nat} (h:bE G 2 (l.map dW.dat) xs) (hk:k < l.length):∃ A n c,xs[k*2+1]?=some (.slice A n c)∧av G (.sl 4 (l[k].levels.map lQ.dat)) (.slice A n c):=by
 obtain ⟨cs,hcl,hcx,hcr⟩:=h.at (k:=k) (r:=l[k].dat) (by simp [hk]);obtain ⟨v1,vs,rfl,-,v2,vs2,rfl,h2,-⟩:=hcr;obtain ⟨A,n,c,rfl⟩:=av.form h2;exact ⟨A,n,c,hcx 1 _ rfl,h2⟩
theorem adV (G:GH) (w0:World) (hG:Hold G w0) (s:xX) (a1 VH c1 d1:aj) (hR:uD G s a1 VH c1 d1) (z1:s.styles.length≤4294967296) (z2:s.lists.length≤4294967296) (z3:s.comments.length≤4294967296) (z4:s.vars.length≤4294967296) (z5:∀ x∈s.styles,x.props.length≤4294967296) (z6:∀ x∈s.lists,x.levels.length≤4294967296) :
  Calls prog 120 #[.agg #[a1,VH,c1,d1]] w0 (bD w0 G fun u G'=>∃ a' b' c' d',u=.agg #[a',b',c',d']∧uD G' s a' b' c' d'):=by
 have hml:maxLen=9223372036854775807:=rfl;obtain ⟨aA,an,ac,rfl⟩:=hR.st.form;obtain ⟨bA,bn,bc,rfl⟩:=hR.li.form;obtain ⟨cA,cn,cc,rfl⟩:=hR.cm.form;obtain ⟨dA,dn,dc,rfl⟩:=hR.va.form;obtain ⟨hs1,hs2,hs3,hs4⟩:=hR;refine eN [(0,_)] func120 rfl ntmps120 rfl rfl hG ?_;refine ak 1 ?_;intro a H;refine dU (cs:=[_,_,_,_]) H wn rfl rfl rfl ?_;clear H;intro b1 a w hb1 H;refine dx BD H wn rfl ?_;clear H;intro b2 a w hb2 H;refine aH 2 H ?_;clear H;intro a H;have H:=H.cu (Pl:=[_,_]) (bS:=[_,_]) [1,0] (by decide) rfl;obtain ⟨Ga,hma,hb1',H⟩:=H.dP;have hga:=fun j v hj=>wm hb1' 0 [.slice aA an ac,.slice bA bn bc,.slice cA cn cc,.slice dA dn dc] rfl j v hj;replace hs1:=hs1.mono hma;replace hs2:=hs2.mono hma;replace hs3:=hs3.mono hma;replace hs4:=hs4.mono hma
 have cB:∀ (bC:Nat→aj × OL) (aT:Nat) (v:aj) (G G':GH),(∀ k o,G k=some o→G' k=some o)→(fun (bC:Nat→aj × OL) (aT:Nat) (v:aj) (G:GH)=>match aT with|0=>v=(aD b1 0)|1=>v=.slice aA an ac|2=>v=(bC 2).1∧∃ xs,bR 156 6 v s.styles.length xs (bC 2).2∧bE G 6 (s.styles.map bM.dat) xs|3=>v=(aD b1 1)|4=>v=.slice bA bn bc|5=>v=(bC 5).1∧∃ xs,bR 159 2 v s.lists.length xs (bC 5).2∧bE G 2 (s.lists.map dW.dat) xs|6=>v=(aD b1 2)|7=>v=.slice cA cn cc|8=>av G (.sl 6 (s.comments.map gu.dat)) v|9=>v=(aD b1 3)|10=>v=.slice dA dn dc|11=>av G (.sl 2 (s.vars.map jL.dat)) v|12=>∃ c' d',v=.agg #[(bC 2).1,(bC 5).1,c',d']∧av G (.sl 6 (s.comments.map gu.dat)) c'∧av G (.sl 2 (s.vars.map jL.dat)) d'|13=>∃ b,v=(aD b 0)∧bC 13=((aD b 0),[(b,.cells #[.slice none 0 0,.slice none 0 0,.slice none 0 0,.slice none 0 0] 36 (0,0))])|_=>True) bC aT v G→(fun (bC:Nat→aj × OL) (aT:Nat) (v:aj) (G:GH)=>match aT with|0=>v=(aD b1 0)|1=>v=.slice aA an ac|2=>v=(bC 2).1∧∃ xs,bR 156 6 v s.styles.length xs (bC 2).2∧bE G 6 (s.styles.map bM.dat) xs|3=>v=(aD b1 1)|4=>v=.slice bA bn bc|5=>v=(bC 5).1∧∃ xs,bR 159 2 v s.lists.length xs (bC 5).2∧bE G 2 (s.lists.map dW.dat) xs|6=>v=(aD b1 2)|7=>v=.slice cA cn cc|8=>av G (.sl 6 (s.comments.map gu.dat)) v|9=>v=(aD b1 3)|10=>v=.slice dA dn dc|11=>av G (.sl 2 (s.vars.map jL.dat)) v|12=>∃ c' d',v=.agg #[(bC 2).1,(bC 5).1,c',d']∧av G (.sl 6 (s.comments.map gu.dat)) c'∧av G (.sl 2 (s.vars.map jL.dat)) d'|13=>∃ b,v=(aD b 0)∧bC 13=((aD b 0),[(b,.cells #[.slice none 0 0,.slice none 0 0,.slice none 0 0,.slice none 0 0] 36 (0,0))])|_=>True) bC aT v G':=by
  intro bC aT v G G' hm h
  match aT,h with
  | 0,h=>exact h
  | 1,h=>exact h
  | 2,h=>exact let ⟨h1,xs,h2,h3⟩:=h;⟨h1,xs,h2,h3.mono hm⟩
  | 3,h=>exact h
  | 4,h=>exact h
  | 5,h=>exact let ⟨h1,xs,h2,h3⟩:=h;⟨h1,xs,h2,h3.mono hm⟩
  | 6,h=>exact h
  | 7,h=>exact h
  | 8,h=>exact av.mono hm h
  | 9,h=>exact h
  | 10,h=>exact h
  | 11,h=>exact av.mono hm h
  | 12,h=>exact let ⟨c',d',h1,h2,h3⟩:=h;⟨c',d',h1,h2.mono hm,h3.mono hm⟩
  | 13,h=>exact h
  | 14,h=>exact trivial
  | _+15,h=>exact trivial
 refine VU [2,5,13] (hmx) [[],[0],[0,1],[],[3],(ra 0 5),[],[6],(ra 0 8),[],[9],(ra 0 11),(ra 0 12),[],(ra 0 14)] [14] (by kernel_rfl) (by kernel_rfl) (by decide) (by kernel_rfl) (fun (bC:Nat→aj × OL) (aT:Nat) (v:aj) (G:GH)=>match aT with|0=>v=(aD b1 0)|1=>v=.slice aA an ac|2=>v=(bC 2).1∧∃ xs,bR 156 6 v s.styles.length xs (bC 2).2∧bE G 6 (s.styles.map bM.dat) xs|3=>v=(aD b1 1)|4=>v=.slice bA bn bc|5=>v=(bC 5).1∧∃ xs,bR 159 2 v s.lists.length xs (bC 5).2∧bE G 2 (s.lists.map dW.dat) xs|6=>v=(aD b1 2)|7=>v=.slice cA cn cc|8=>av G (.sl 6 (s.comments.map gu.dat)) v|9=>v=(aD b1 3)|10=>v=.slice dA dn dc|11=>av G (.sl 2 (s.vars.map jL.dat)) v|12=>∃ c' d',v=.agg #[(bC 2).1,(bC 5).1,c',d']∧av G (.sl 6 (s.comments.map gu.dat)) c'∧av G (.sl 2 (s.vars.map jL.dat)) d'|13=>∃ b,v=(aD b 0)∧bC 13=((aD b 0),[(b,.cells #[.slice none 0 0,.slice none 0 0,.slice none 0 0,.slice none 0 0] 36 (0,0))])|_=>True) (fun m hm x y i v G hi hc h=>by
  have hm:m=2∨m=5∨m=13:=by simpa using hm
  rcases hm with rfl|rfl|rfl
  ·match i,hi,hc,h with
   | 0,_,_,h=>exact h
   | 1,_,_,h=>exact h
   | 2,hi,_,_=>exact absurd hi (by decide)
   | 3,_,_,h=>exact h
   | 4,_,_,h=>exact h
   | 5,_,hc,_=>exact absurd hc (by decide)
   | 6,_,_,h=>exact h
   | 7,_,_,h=>exact h
   | 8,_,hc,_=>exact absurd hc (by decide)
   | 9,_,_,h=>exact h
   | 10,_,_,h=>exact h
   | 11,_,hc,_=>exact absurd hc (by decide)
   | 12,_,hc,_=>exact absurd hc (by decide)
   | 13,_,_,h=>exact h
   | 14,_,hc,_=>exact absurd hc (by decide)
   | _+15,_,_,_=>exact trivial
  ·match i,hi,hc,h with
   | 0,_,_,h=>exact h
   | 1,_,_,h=>exact h
   | 2,_,_,h=>exact h
   | 3,_,_,h=>exact h
   | 4,_,_,h=>exact h
   | 5,hi,_,_=>exact absurd hi (by decide)
   | 6,_,_,h=>exact h
   | 7,_,_,h=>exact h
   | 8,_,hc,_=>exact absurd hc (by decide)
   | 9,_,_,h=>exact h
   | 10,_,_,h=>exact h
   | 11,_,hc,_=>exact absurd hc (by decide)
   | 12,_,hc,_=>exact absurd hc (by decide)
   | 13,_,_,h=>exact h
   | 14,_,hc,_=>exact absurd hc (by decide)
   | _+15,_,_,_=>exact trivial
  ·match i,hi,hc,h with
   | 0,_,_,h=>exact h
   | 1,_,_,h=>exact h
   | 2,_,_,h=>exact h
   | 3,_,_,h=>exact h
   | 4,_,_,h=>exact h
   | 5,_,_,h=>exact h
   | 6,_,_,h=>exact h
   | 7,_,_,h=>exact h
   | 8,_,_,h=>exact h
   | 9,_,_,h=>exact h
   | 10,_,_,h=>exact h
   | 11,_,_,h=>exact h
   | 12,_,_,h=>exact h
   | 13,hi,_,_=>exact absurd hi (by decide)
   | 14,_,hc,_=>exact absurd hc (by decide)
   | _+15,_,_,_=>exact trivial
  ) H ?_ ?_ ?_
 ·clear H;refine aC ?_ ?_ ?_ ?_ (aC ?_ ?_ ?_ ?_ (aC ?_ ?_ ?_ ?_ (bL ?_ (bL ?_ (bL ?_ dw)))))
  ·intro bC iP bF a w G1 jv _ _ bT hc hG HT hv;have H:=HT;clear bT;have Hb:=H.full;have H:=Hb;clear hc;refine aH 1 H ?_;clear H;intro a H;refine aG ⟨rfl,?_⟩;exact jr (by kernel_rfl) (cB bC) rfl rfl HT Hb hG hv (fun _ _ h=>h) (rfl) H
  ·intro bC iP bF a w G1 jv _ _ bT hc hG HT hv;have H:=HT;clear bT;have H:=H.aO (hv 0 6 (hc 0 (by decide)) rfl) rfl;have Hb:=H.full;have H:=Hb;clear hc;refine kX EI H wn rfl (H.hp.aF (aJ hG (hga 0 _ rfl))) rfl ?_;clear H;intro a H;refine aG ⟨rfl,?_⟩;exact jr (by kernel_rfl) (cB bC) rfl rfl HT Hb hG hv (fun _ _ h=>h) (rfl) H
  ·intro _ _ _ _ _ _ _ _ hB;exact absurd hB (by decide)
  ·intro bC iP bF a w G1 jv _ _ bT hc hG HT hv;have H:=HT;clear bT;have Hb:=H.full;have H:=Hb;clear hc;refine aH 1 H ?_;clear H;intro a H;refine aG ⟨rfl,?_⟩;exact jr (by kernel_rfl) (cB bC) rfl rfl HT Hb hG hv (fun _ _ h=>h) (rfl) H
  ·intro bC iP bF a w G1 jv _ _ bT hc hG HT hv;have H:=HT;clear bT;have H:=H.aO (hv 3 9 (hc 3 (by decide)) rfl) rfl;have Hb:=H.full;have H:=Hb;clear hc;refine kX EJ H wn rfl (H.hp.aF (aJ hG (hga 1 _ rfl))) rfl ?_;clear H;intro a H;refine aG ⟨rfl,?_⟩;exact jr (by kernel_rfl) (cB bC) rfl rfl HT Hb hG hv (fun _ _ h=>h) (rfl) H
  ·intro _ _ _ _ _ _ _ _ hB;exact absurd hB (by decide)
  ·intro bC iP bF a w G1 jv _ _ bT hc hG HT hv;have H:=HT;clear bT;have Hb:=H.full;have H:=Hb;clear hc;refine aH 1 H ?_;clear H;intro a H;refine aG ⟨rfl,?_⟩;exact jr (by kernel_rfl) (cB bC) rfl rfl HT Hb hG hv (fun _ _ h=>h) (rfl) H
  ·intro bC iP bF a w G1 jv _ _ bT hc hG HT hv;have H:=HT;clear bT;have H:=H.aO (hv 6 12 (hc 6 (by decide)) rfl) rfl;have Hb:=H.full;have H:=Hb;clear hc;refine kX NA H wn rfl (H.hp.aF (aJ hG (hga 2 _ rfl))) rfl ?_;clear H;intro a H;refine aG ⟨rfl,?_⟩;exact jr (by kernel_rfl) (cB bC) rfl rfl HT Hb hG hv (fun _ _ h=>h) (rfl) H
  ·intro bC iP bF a w G1 jv _ _ bT hc hG HT hv;have H:=HT;clear bT;have H:=H.aO (hv 7 13 (hc 7 (by decide)) rfl) rfl;have Hb:=H.full;have H:=Hb;clear hc;refine s_call afp H wn rfl (adI _ _ H.ro _ _ _ _ (hs3.mono hG) (by simpa using z3)) rfl ?_;clear H;rintro v14 BM a w rM AO H;refine aG ⟨rfl,?_⟩;exact jr (by kernel_rfl) (cB bC) rfl rfl HT Hb hG hv AO (rM) H
  ·intro bC iP bF a w G1 jv _ _ bT hc hG HT hv;have H:=HT;clear bT;have Hb:=H.full;have H:=Hb;clear hc;refine aH 1 H ?_;clear H;intro a H;refine aG ⟨rfl,?_⟩;exact jr (by kernel_rfl) (cB bC) rfl rfl HT Hb hG hv (fun _ _ h=>h) (rfl) H
  ·intro bC iP bF a w G1 jv _ _ bT hc hG HT hv;have H:=HT;clear bT;have H:=H.aO (hv 9 15 (hc 9 (by decide)) rfl) rfl;have Hb:=H.full;have H:=Hb;clear hc;refine kX xO H wn rfl (H.hp.aF (aJ hG (hga 3 _ rfl))) rfl ?_;clear H;intro a H;refine aG ⟨rfl,?_⟩;exact jr (by kernel_rfl) (cB bC) rfl rfl HT Hb hG hv (fun _ _ h=>h) (rfl) H
  ·intro bC iP bF a w G1 jv _ _ bT hc hG HT hv;have H:=HT;clear bT;have H:=H.aO (hv 10 16 (hc 10 (by decide)) rfl) rfl;have Hb:=H.full;have H:=Hb;clear hc;refine s_call afq H wn rfl (adK _ _ H.ro _ _ _ _ (hs4.mono hG) (by simpa using z4)) rfl ?_;clear H;rintro v17 xV a w CJ LB H;refine aG ⟨rfl,?_⟩;exact jr (by kernel_rfl) (cB bC) rfl rfl HT Hb hG hv LB (CJ) H
  ·intro bC iP bF a w G1 jv _ _ bT hc hG HT hv;have H:=HT;clear bT;obtain ⟨u8,yI,kL⟩:=hv 2 8 (hc 2 (by decide)) rfl;(try dsimp only at kL);obtain ⟨h8,NU,Bg,LQ⟩:=kL;obtain ⟨sA,sc,rfl,-,-⟩:=Bg.shape;have H:=H.jo yI;obtain ⟨NJ,Bh,om⟩:=hv 5 11 (hc 5 (by decide)) rfl;(try dsimp only at om);obtain ⟨h11,GL,xC,FJ⟩:=om;obtain ⟨lA,lc,rfl,-,-⟩:=xC.shape;have H:=H.jo Bh;obtain ⟨u14,Jf,rM⟩:=hv 8 14 (hc 8 (by decide)) rfl;(try dsimp only at rM);obtain ⟨UR,n14,c14,rfl⟩:=rM.form;have H:=H.jo Jf;obtain ⟨u17,akh,CJ⟩:=hv 11 17 (hc 11 (by decide)) rfl;(try dsimp only at CJ);obtain ⟨UU,n17,c17,rfl⟩:=CJ.form;have H:=H.jo akh;have Hb:=H.full;have H:=Hb;clear hc;refine jY aoD [_,_,_,_] H wn rfl rfl rfl rfl ?_;clear H;intro a H;refine aG ⟨rfl,?_⟩;exact jr (by kernel_rfl) (cB bC) rfl rfl HT Hb hG hv (fun _ _ h=>h) (⟨_,_,by rw [← h8,← h11],rM,CJ⟩) H
  ·intro _ _ _ _ _ _ _ _ hB;exact absurd hB (by decide)
  intro _ _ _ _ _ _ _ hB;exact absurd hB (by decide)
 ·clear H;refine aC ?_ ?_ ?_ ?_ (aC ?_ ?_ ?_ ?_ (aC ?_ ?_ ?_ ?_ (bL ?_ (bL ?_ (bL ?_ dw)))))
  ·intro hB;exact absurd hB (by decide)
  ·intro hB;exact absurd hB (by decide)
  ·intro _ bC iP bF a w G1 jv _ hc hG HT hv;have H:=HT;have H:=H.aO (hv (.bool false,[]) 1 7 (by decide) (hc 1 (by decide)) rfl) rfl;have Hb:=H.full;have H:=Hb;clear hc;refine fB afn (Li:=iP) (L:=[]) (H.cast (lY _).symm) wn rfl (adR _ _ (vG H.ro) _ _ _ _ (hs1.mono hG) (by simpa using z1)) rfl ?_;clear H;rintro v8 G8 L8 a w ⟨NU,Bg,LQ⟩ nL H;rw [bO] at Bg;have H:=H.perm rD;refine aG ⟨rfl,(v8,L8),?_⟩;exact Ch (by kernel_rfl) (cB (wQ bC 2 (v8,L8))) rfl HT Hb hG (fun j e h1 h2 h3=>hv (v8,L8) j e h1 h2 h3) nL (⟨rfl,NU,Bg,LQ⟩) H
  ·intro hB;exact absurd hB (by decide)
  ·intro hB;exact absurd hB (by decide)
  ·intro _ bC iP bF a w G1 jv _ hc hG HT hv;have H:=HT;have H:=H.aO (hv (.bool false,[]) 4 10 (by decide) (hc 4 (by decide)) rfl) rfl;have Hb:=H.full;have H:=Hb;clear hc;refine fB afo (Li:=iP) (L:=[]) (H.cast (lY _).symm) wn rfl (adQ _ _ (vG H.ro) _ _ _ _ (hs2.mono hG) (by simpa using z2)) rfl ?_;clear H;rintro v11 qY Dr a w ⟨GL,xC,FJ⟩ jO H;rw [bO] at xC;have H:=H.perm rD;refine aG ⟨rfl,(v11,Dr),?_⟩;exact Ch (by kernel_rfl) (cB (wQ bC 5 (v11,Dr))) rfl HT Hb hG (fun j e h1 h2 h3=>hv (v11,Dr) j e h1 h2 h3) jO (⟨rfl,GL,xC,FJ⟩) H
  ·intro hB;exact absurd hB (by decide)
  ·intro hB;exact absurd hB (by decide)
  ·intro hB;exact absurd hB (by decide)
  ·intro hB;exact absurd hB (by decide)
  ·intro hB;exact absurd hB (by decide)
  ·intro hB;exact absurd hB (by decide)
  ·intro hB;exact absurd hB (by decide)
  ·intro _ bC iP bF a w G1 jv _ hc hG HT hv;have H:=HT;have Hb:=H.full;have H:=Hb;clear hc;refine dx BD H wn rfl ?_;clear H;intro b3 a w hb3 H;refine aG ⟨rfl,((aD b3 0),[(b3,.cells #[.slice none 0 0,.slice none 0 0,.slice none 0 0,.slice none 0 0] 36 (0,0))]),?_⟩;exact Ch (by kernel_rfl) (cB (wQ bC 13 ((aD b3 0),[(b3,.cells #[.slice none 0 0,.slice none 0 0,.slice none 0 0,.slice none 0 0] 36 (0,0))]))) rfl HT Hb hG (fun j e h1 h2 h3=>hv ((aD b3 0),[(b3,.cells #[.slice none 0 0,.slice none 0 0,.slice none 0 0,.slice none 0 0] 36 (0,0))]) j e h1 h2 h3) (fun _ _ h=>h) (⟨b3,rfl,rfl⟩) H
  intro hB;exact absurd hB (by decide)
 clear H;intro bC a w G iH H hv
 simp only [oH,List.flatMap_cons,List.flatMap_nil,cond_true,lY,gy] at H
 obtain ⟨u3,hu3,hp3⟩:=hv 13 3 (by decide) rfl;(try dsimp only at hp3);obtain ⟨b3,rfl,e13⟩:=hp3;have H:=H.jo hu3;obtain ⟨u8,yI,kL⟩:=hv 2 8 (by decide) rfl;(try dsimp only at kL);obtain ⟨h8,NU,Bg,LQ⟩:=kL;obtain ⟨sA,sc,rfl,-,-⟩:=Bg.shape;have H:=H.jo yI;obtain ⟨NJ,Bh,om⟩:=hv 5 11 (by decide) rfl;(try dsimp only at om);obtain ⟨h11,GL,xC,FJ⟩:=om;obtain ⟨lA,lc,rfl,-,-⟩:=xC.shape;have H:=H.jo Bh;obtain ⟨u18,R7,I9⟩:=hv 12 18 (by decide) rfl;(try dsimp only at I9);obtain ⟨arn,aro,rfl,hc18,XU⟩:=I9;obtain ⟨eA,en,ec,rfl⟩:=hc18.form;obtain ⟨fA,fn,fc,rfl⟩:=XU.form;have H:=H.jo R7;clear hv;obtain ⟨⟨vS,LS⟩,eS⟩:∃ y,y=bC 2:=⟨_,rfl⟩;obtain ⟨⟨vL,LL⟩,eL⟩:∃ y,y=bC 5:=⟨_,rfl⟩;rw [← eS,← eL,e13] at H;rw [← eS] at Bg h8;rw [← eL] at xC h11;dsimp only at H Bg xC h8 h11;subst h8;subst h11;rw [← gy] at H;have H:=H.perm (rD (l₁:=LS++LL) (l₂:=[_,_]));dsimp only [lca,aR] at H;refine aV BD 0 (vs:=[_,_,_,_]) _ H wn rfl rfl rfl rfl rfl rfl rfl rfl ?_;clear H;intro w H;dsimp only [List.set,setRow] at H;refine aG ⟨rfl,?_⟩;refine dG ?_;refine eB 8 H ?_;clear H;intro a H;refine eO (ι:=Nat × List aj × OL × GH) (Tc:=[(2,_),(3,_),(21,_)]) (Lc:=[(_,_),(_,_)]) (fun gh=>[(22,vi gh.1)]) (fun gh=>[]++(gh.2.2.1++LL)) (fun gh=>gh.2.2.2) (fun gh=>gh.1≤s.styles.length∧bR 156 6 (.slice sA s.styles.length sc) s.styles.length gh.2.1 gh.2.2.1∧bE gh.2.2.2 6 (s.styles.map bM.dat) gh.2.1∧(∀ b o,G b=some o→gh.2.2.2 b=some o)) (fun gh=>s.styles.length - gh.1) ((0,NU,LS,G)) sB ?_ ?_
 ·exact ⟨gV _,Bg,LQ,fun _ _ h=>h⟩
 clear H;rintro ⟨k,xs,Lo,g⟩ a w hI H;dsimp only at hI H;obtain ⟨hk,hrw,eD,hgm⟩:=hI;dsimp only [lca,aR] at H;refine dN 4 H ?_ ?_ <;> clear H
 ·intro wJ
  have hk2:k < s.styles.length:=by omega
  obtain ⟨bs,rfl⟩:=hrw.ptr (by omega);obtain ⟨pA,pc,hpx,hpr⟩:=aoK eD hk2;obtain ⟨cur,-,rfl,hcur,hset⟩:=hrw.set1;have hpz:=z5 _ (iF hk2);refine ak 7 ?_
  have yH:∀ (aT:Nat) (v:aj) (G G':GH),(∀ k o,G k=some o→G' k=some o)→(fun (aT:Nat) (v:aj) (G:GH)=>match aT with|0=>v=(aD b3 0)|1=>v=.slice (some ⟨bs,0,none⟩) s.styles.length sc|2=>v=vi k|3=>v=(aD b3 0)|4=>v=.slice (some ⟨bs,0,none⟩) s.styles.length sc|5=>v=vi k|6=>v=(aD bs (0+k*6))|7=>v=(aD bs (0+k*6+5))|8=>v=.slice pA s.styles[k].props.length pc|9=>av G (.sl 2 (s.styles[k].props.map fK.dat)) v|_=>True) aT v G→(fun (aT:Nat) (v:aj) (G:GH)=>match aT with|0=>v=(aD b3 0)|1=>v=.slice (some ⟨bs,0,none⟩) s.styles.length sc|2=>v=vi k|3=>v=(aD b3 0)|4=>v=.slice (some ⟨bs,0,none⟩) s.styles.length sc|5=>v=vi k|6=>v=(aD bs (0+k*6))|7=>v=(aD bs (0+k*6+5))|8=>v=.slice pA s.styles[k].props.length pc|9=>av G (.sl 2 (s.styles[k].props.map fK.dat)) v|_=>True) aT v G':=by
   intro aT v G G' hm h
   match aT,h with
   | 0,h=>exact h
   | 1,h=>exact h
   | 2,h=>exact h
   | 3,h=>exact h
   | 4,h=>exact h
   | 5,h=>exact h
   | 6,h=>exact h
   | 7,h=>exact h
   | 8,h=>exact h
   | 9,h=>exact av.mono hm h
   | 10,h=>exact trivial
   | 11,h=>exact trivial
   | 12,h=>exact trivial
   | _+13,h=>exact trivial
  intro a H;refine yj (hmx) [[],[0],[],[],[3],[],[3,4,5],(ra 3 4),(ra 3 5),(ra 3 6),(ra 0 10),(ra 0 11),(ra 0 12)] [10,11,12] (by kernel_rfl) (by kernel_rfl) (fun (aT:Nat) (v:aj) (G:GH)=>match aT with|0=>v=(aD b3 0)|1=>v=.slice (some ⟨bs,0,none⟩) s.styles.length sc|2=>v=vi k|3=>v=(aD b3 0)|4=>v=.slice (some ⟨bs,0,none⟩) s.styles.length sc|5=>v=vi k|6=>v=(aD bs (0+k*6))|7=>v=(aD bs (0+k*6+5))|8=>v=.slice pA s.styles[k].props.length pc|9=>av G (.sl 2 (s.styles[k].props.map fK.dat)) v|_=>True) yH H ?_ ?_
  ·clear H;refine aC ?_ ?_ ?_ ?_ (aC ?_ ?_ ?_ ?_ (aC ?_ ?_ (bP rfl) (bP rfl) (bL (bP rfl) dw)))
   ·refine cO [] rfl trivial (by kernel_rfl) yH rfl rfl ?_;intro bF a w G1 hG HT H fin;exact kH H (Rf Qc rfl fun _ H=>fin H iJ rfl)
   ·refine cO [(0,25,_)] rfl ⟨fun _ _ h=>h,bB⟩ (by kernel_rfl) yH rfl rfl ?_;intro bF a w G1 hG HT H fin;exact kH H (Ro EI 0 rfl fun _ H=>fin H iJ rfl)
   ·refine cO [] rfl trivial (by kernel_rfl) yH rfl rfl ?_;intro bF a w G1 hG HT H fin;exact kH H (Rm rfl fun _ H=>fin H iJ rfl)
   ·refine cO [] rfl trivial (by kernel_rfl) yH rfl rfl ?_;intro bF a w G1 hG HT H fin;exact kH H (Rf Qc rfl fun _ H=>fin H iJ rfl)
   ·refine cO [(3,28,_)] rfl ⟨fun _ _ h=>h,bB⟩ (by kernel_rfl) yH rfl rfl ?_;intro bF a w G1 hG HT H fin;exact kH H (Ro EI 0 rfl fun _ H=>fin H iJ rfl)
   ·refine cO [] rfl trivial (by kernel_rfl) yH rfl rfl ?_;intro bF a w G1 hG HT H fin;exact kH H (Rm rfl fun _ H=>fin H iJ rfl)
   ·refine cO [(4,29,_),(5,30,_)] rfl ⟨fun _ _ h=>h,fun _ _ h=>h,bB⟩ (by kernel_rfl) yH rfl rfl ?_;intro bF a w G1 hG HT H fin;exact kH H (Ri rY ko rfl rfl fun _ H=>fin H iJ rfl)
   ·refine cO [(6,31,_)] rfl ⟨fun _ _ h=>h,bB⟩ (by kernel_rfl) yH rfl rfl ?_;intro bF a w G1 hG HT H fin;exact kH H (Rf P9 rfl fun _ H=>fin H iJ rfl)
   ·refine cO [(7,32,_)] rfl ⟨fun _ _ h=>h,bB⟩ (by kernel_rfl) yH rfl rfl ?_;intro bF a w G1 hG HT H fin;refine kX EG H wn rfl (hrw.at H.hp (fun x hx=>gL _ (gL _ (List.mem_append_left _ hx))) (by rw [fQ];exact hpx)) rfl ?_;clear H;intro a H;exact fin H iJ rfl
   refine cO [(8,33,_)] rfl ⟨fun _ _ h=>h,bB⟩ (by kernel_rfl) yH rfl rfl ?_;intro bF a w G1 hG HT H fin;refine s_call WQ H wn rfl (V8 _ _ H.ro _ _ _ _ (hpr.mono hG) (by simpa using hpz)) rfl ?_;clear H;rintro v34 U8 a w Ja ahP H;exact fin H ahP (Ja)
  clear H;intro a w G sS H hv;have H:=H.aO (hv 1 26 rfl rfl) rfl;have H:=H.aO (hv 2 27 rfl rfl) rfl;obtain ⟨u34,aki,Ja⟩:=hv 9 34 (by decide) rfl;(try dsimp only at Ja);obtain ⟨EN,n34,c34,rfl⟩:=Ja.form;have H:=H.jo aki;clear hv;refine kH H (Ri rY ko rfl rfl (Rf P9 rfl ?_));clear H;intro a H;refine aV EG 2 (c:=cur) (vs:=[.slice EN n34 c34]) (cur.set (k*6+5) (.slice EN n34 c34)) H wn rfl rfl rfl rfl rfl rfl (by simp;omega) (by rw [fQ];rfl) ?_;clear H;intro w H;dsimp only [List.set,List.cons_append,List.nil_append] at H;have hrwn:=hset (k*6+5) (.slice EN n34 c34);have Q6:=(eD.mono sS).setAt (i:=k) (k:=5) (r:=s.styles[k].dat) (v:=.slice EN n34 c34) (by simp [hk2]) rfl (by decide) Ja;refine aG ⟨rfl,?_⟩;refine dG ?_;refine eB 3 H ?_;clear H;intro a H;refine aG ?_;refine dH ((k+1,xs.set (k*6+5) (.slice EN n34 c34),[(bs,.cells (cur.set (k*6+5) (.slice EN n34 c34)).toArray 156 (0,0))],_)) sB ?_ ?_
  ·(try dsimp only);exact ⟨by omega,hrwn,Q6,fun b o h=>sS b o (hgm b o h)⟩
  first|omega|(dsimp only;omega)
 intro wJ
 obtain rfl:k=s.styles.length:=by omega
 refine ak 9 ?_;intro a H;refine eO (ι:=Nat × List aj × OL × GH) (Tc:=[(2,_),(3,_),(40,_)]) (Lc:=[(_,_),(_,_)]) (fun gh=>[(41,vi gh.1)]) (fun gh=>[]++(Lo++gh.2.2.1)) (fun gh=>gh.2.2.2) (fun gh=>gh.1≤s.lists.length∧bR 159 2 (.slice lA s.lists.length lc) s.lists.length gh.2.1 gh.2.2.1∧bE gh.2.2.2 2 (s.lists.map dW.dat) gh.2.1∧(∀ b o,g b=some o→gh.2.2.2 b=some o)) (fun gh=>s.lists.length - gh.1) ((0,GL,LL,g)) sB ?_ ?_
 ·exact ⟨gV _,xC,FJ.mono hgm,fun _ _ h=>h⟩
 clear H;rintro ⟨k2,xs2,Lo2,g2⟩ a w hI H;dsimp only at hI H;obtain ⟨hk2,hrw2,FK,iM⟩:=hI;dsimp only [lca,aR] at H;refine dN 4 H ?_ ?_ <;> clear H
 ·intro p42
  have hk3:k2 < s.lists.length:=by omega
  obtain ⟨bl,rfl⟩:=hrw2.ptr (by omega);obtain ⟨qA,qn,qc,hqx,hqr⟩:=akV FK hk3;obtain ⟨Pg,-,rfl,aqB,akc⟩:=hrw2.set1;have hqz:=z6 _ (iF hk3);refine ak 7 ?_
  have yG:∀ (aT:Nat) (v:aj) (G G':GH),(∀ k o,G k=some o→G' k=some o)→(fun (aT:Nat) (v:aj) (G:GH)=>match aT with|0=>v=(aD b3 1)|1=>v=.slice (some ⟨bl,0,none⟩) s.lists.length lc|2=>v=vi k2|3=>v=(aD b3 1)|4=>v=.slice (some ⟨bl,0,none⟩) s.lists.length lc|5=>v=vi k2|6=>v=(aD bl (0+k2*2))|7=>v=(aD bl (0+k2*2+1))|8=>v=.slice qA qn qc|9=>av G (.sl 4 (s.lists[k2].levels.map lQ.dat)) v|_=>True) aT v G→(fun (aT:Nat) (v:aj) (G:GH)=>match aT with|0=>v=(aD b3 1)|1=>v=.slice (some ⟨bl,0,none⟩) s.lists.length lc|2=>v=vi k2|3=>v=(aD b3 1)|4=>v=.slice (some ⟨bl,0,none⟩) s.lists.length lc|5=>v=vi k2|6=>v=(aD bl (0+k2*2))|7=>v=(aD bl (0+k2*2+1))|8=>v=.slice qA qn qc|9=>av G (.sl 4 (s.lists[k2].levels.map lQ.dat)) v|_=>True) aT v G':=by
   intro aT v G G' hm h
   match aT,h with
   | 0,h=>exact h
   | 1,h=>exact h
   | 2,h=>exact h
   | 3,h=>exact h
   | 4,h=>exact h
   | 5,h=>exact h
   | 6,h=>exact h
   | 7,h=>exact h
   | 8,h=>exact h
   | 9,h=>exact av.mono hm h
   | 10,h=>exact trivial
   | 11,h=>exact trivial
   | 12,h=>exact trivial
   | _+13,h=>exact trivial
  intro a H;refine yj (hmx) [[],[0],[],[],[3],[],[3,4,5],(ra 3 4),(ra 3 5),(ra 3 6),(ra 0 10),(ra 0 11),(ra 0 12)] [10,11,12] (by kernel_rfl) (by kernel_rfl) (fun (aT:Nat) (v:aj) (G:GH)=>match aT with|0=>v=(aD b3 1)|1=>v=.slice (some ⟨bl,0,none⟩) s.lists.length lc|2=>v=vi k2|3=>v=(aD b3 1)|4=>v=.slice (some ⟨bl,0,none⟩) s.lists.length lc|5=>v=vi k2|6=>v=(aD bl (0+k2*2))|7=>v=(aD bl (0+k2*2+1))|8=>v=.slice qA qn qc|9=>av G (.sl 4 (s.lists[k2].levels.map lQ.dat)) v|_=>True) yG H ?_ ?_
  ·clear H;refine aC ?_ ?_ ?_ ?_ (aC ?_ ?_ ?_ ?_ (aC ?_ ?_ (bP rfl) (bP rfl) (bL (bP rfl) dw)))
   ·refine cO [] rfl trivial (by kernel_rfl) yG rfl rfl ?_;intro bF a w G1 hG HT H fin;exact kH H (Rf Qd rfl fun _ H=>fin H iJ rfl)
   ·refine cO [(0,44,_)] rfl ⟨fun _ _ h=>h,bB⟩ (by kernel_rfl) yG rfl rfl ?_;intro bF a w G1 hG HT H fin;exact kH H (Ro EJ 0 rfl fun _ H=>fin H iJ rfl)
   ·refine cO [] rfl trivial (by kernel_rfl) yG rfl rfl ?_;intro bF a w G1 hG HT H fin;exact kH H (Rm rfl fun _ H=>fin H iJ rfl)
   ·refine cO [] rfl trivial (by kernel_rfl) yG rfl rfl ?_;intro bF a w G1 hG HT H fin;exact kH H (Rf Qd rfl fun _ H=>fin H iJ rfl)
   ·refine cO [(3,47,_)] rfl ⟨fun _ _ h=>h,bB⟩ (by kernel_rfl) yG rfl rfl ?_;intro bF a w G1 hG HT H fin;exact kH H (Ro EJ 0 rfl fun _ H=>fin H iJ rfl)
   ·refine cO [] rfl trivial (by kernel_rfl) yG rfl rfl ?_;intro bF a w G1 hG HT H fin;exact kH H (Rm rfl fun _ H=>fin H iJ rfl)
   ·refine cO [(4,48,_),(5,49,_)] rfl ⟨fun _ _ h=>h,fun _ _ h=>h,bB⟩ (by kernel_rfl) yG rfl rfl ?_;intro bF a w G1 hG HT H fin;exact kH H (Ri Ab BA rfl rfl fun _ H=>fin H iJ rfl)
   ·refine cO [(6,50,_)] rfl ⟨fun _ _ h=>h,bB⟩ (by kernel_rfl) yG rfl rfl ?_;intro bF a w G1 hG HT H fin;exact kH H (Rf Qa rfl fun _ H=>fin H iJ rfl)
   ·refine cO [(7,51,_)] rfl ⟨fun _ _ h=>h,bB⟩ (by kernel_rfl) yG rfl rfl ?_;intro bF a w G1 hG HT H fin;refine kX Uo H wn rfl (hrw2.at H.hp (fun x hx=>gL _ (gL _ (List.mem_append_right _ hx))) (by rw [fQ];exact hqx)) rfl ?_;clear H;intro a H;exact fin H iJ rfl
   refine cO [(8,52,_)] rfl ⟨fun _ _ h=>h,bB⟩ (by kernel_rfl) yG rfl rfl ?_;intro bF a w G1 hG HT H fin;refine s_call afr H wn rfl (adJ _ _ H.ro _ _ _ _ (hqr.mono hG) (by simpa using hqz)) rfl ?_;clear H;rintro v53 Ve a w Jb IQ H;exact fin H IQ (Jb)
  clear H;intro a w G oI H hv;have H:=H.aO (hv 1 45 rfl rfl) rfl;have H:=H.aO (hv 2 46 rfl rfl) rfl;obtain ⟨u53,akj,Jb⟩:=hv 9 53 (by decide) rfl;(try dsimp only at Jb);obtain ⟨EO,n53,c53,rfl⟩:=Jb.form;have H:=H.jo akj;clear hv;refine kH H (Ri Ab BA rfl rfl (Rf Qa rfl ?_));clear H;intro a H;refine aV Uo (2+Lo.length) (c:=Pg) (vs:=[.slice EO n53 c53]) (Pg.set (k2*2+1) (.slice EO n53 c53)) H wn rfl (Y8 [_,_] Lo _) rfl rfl rfl rfl (by simp;omega) (by rw [fQ];rfl) ?_;clear H;intro w H;have H:=H.cast (aaF [_,_] Lo _ _);have ajT:=akc (k2*2+1) (.slice EO n53 c53);have aiG:=(FK.mono oI).setAt (i:=k2) (k:=1) (r:=s.lists[k2].dat) (v:=.slice EO n53 c53) (by simp [hk3]) rfl (by decide) Jb;refine aG ⟨rfl,?_⟩;refine dG ?_;refine eB 3 H ?_;clear H;intro a H;refine aG ?_;refine dH ((k2+1,xs2.set (k2*2+1) (.slice EO n53 c53),[(bl,.cells (Pg.set (k2*2+1) (.slice EO n53 c53)).toArray 159 (0,0))],_)) sB ?_ ?_
  ·(try dsimp only);exact ⟨by omega,ajT,aiG,fun b o h=>oI b o (iM b o h)⟩
  first|omega|(dsimp only;omega)
 intro p42
 obtain rfl:k2=s.lists.length:=by omega
 refine ak 2 ?_;intro a H;refine bg BD (cs:=[_,_,_,_]) H wn rfl rfl (H.hp.cK 0 rfl rfl) rfl ?_;clear H;intro a H;refine aV BD 1 (vs:=[_,_,_,_]) _ H wn rfl rfl rfl rfl rfl rfl rfl rfl ?_;clear H;intro w H;dsimp only [List.set,setRow] at H;refine aG ?_;refine dG ?_;refine bV ?_;have H:=H.un (A:=[_,_]);obtain ⟨Gr,hmr,ajF,H⟩:=St.rG (Li:=[_,_]++Lo) H hrw2 (rows:=s.lists.map dW.dat) (by simp) FK;obtain ⟨Gs,hms,ajE,H⟩:=St.rG (Li:=[_,_]) H hrw (rows:=s.styles.map bM.dat) (by simp) ((eD.mono iM).mono hmr);refine (leave1 H results120 (.cons (rR BD (cs:=[_,_,_,_]) H rfl rfl (H.hp.cK 1 rfl rfl)) .nil) ?_).1;exact H.rt ⟨_,_,_,_,rfl,ajE,ajF.mono hms,(((hc18.mono hgm).mono iM).mono hmr).mono hms,(((XU.mono hgm).mono iM).mono hmr).mono hms⟩
end
section
open Go.RowKit
theorem WZ:∀ args w,(callFunc 64 args).run prog w=.ok (.enter 64 args) w:=enters func64 rfl (by kernel_rfl)
theorem aeN:∀ args w,(callFunc 120 args).run prog w=.ok (.enter 120 args) w:=enters func120 rfl (by kernel_rfl)
theorem aaN:ru prog 38 [(0,1),(1,5),(6,1),(7,4)] [.slice none 0 0,.slice none 0 0,.int .i64 0,.int .i64 0,.slice none 0 0,.slice none 0 0,.slice none 0 0,.slice none 0 0,.slice none 0 0,.slice none 0 0,.slice none 0 0]:=⟨by kernel_rfl,by kernel_rfl⟩
theorem adL (G:GH) (w0:World) (hO:fC G [] w0) (l:List au) (v:aj) (hv:av G (.sl 11 (l.map au.dat)) v) (hz:aZ l≤4294967296) :
  Calls prog 76 #[v] w0 (eP w0 G [] fun u G' L'=>∃ xs,bR 68 11 u l.length xs L'∧bE G' 11 (l.map au.dat) xs):=by
 have ih:=Kr 4294967297 (by omega);have hl:=wR l;refine gB (N:=5) (T:=[(0,_)]) func76 rfl ntmps76 rfl rfl hO ?_;refine ak 5 ?_;intro a H;refine fB WJ (Li:=[]) (L:=[]) H wn rfl (WA (fun x=>x) _ _ (vG H.ro) l _ _ hv (by omega) (fun y hy=>V6 (n:=4294967296) (Kr 4294967296 (by omega)) (by omega) y (by have:=NV hy;omega))) rfl ?_;clear H;rintro v4 G4 L4 a w ⟨xs4,ajN,aiC⟩ LZ H;dsimp only [List.nil_append] at H;refine aH 2 H ?_;clear H;intro a H;refine lr H results76 rfl ?_;exact H.hp.cZ ⟨xs4,ajN,aiC⟩
def abQ (G:GH) (D:jy) (d:iO) (L:OL):Prop :=
 ∃ xf Lf xr Lr,L=Lf++Lr∧bR 68 11 (aS D.f) d.flow.length xf Lf∧bE G 11 (d.flow.map au.dat) xf∧bR 82 3 (aS D.r) d.revs.length xr Lr∧bE G 3 (d.revs.map bQ.dat) xr ∧
  gG G d.fin (aS D.p) (aS D.d) (aS D.y)∧D.ins=d.fin.marks.ins∧D.move=d.fin.marks.move∧uD G d.jD (aS D.s1) (aS D.s2) (aS D.s3) (aS D.s4)
theorem aen (G:GH) (w0:World) (hO:fC G [] w0) (D:jy) (d:iO) (hR:qj G D d) (hz:vQ d) :
  Calls prog 67 #[D.val] w0 (eP w0 G [] fun u G' L'=>∃ D':jy,u=D'.val∧abQ G' D' d L'):=by
 obtain ⟨hfl,hhd,hins,hmv,qN,hst⟩:=hR;obtain ⟨zf,zh,zr,zt,zs,EM⟩:=hz;refine gB (N:=16) (T:=[(0,_)]) func67 rfl ntmps67 rfl rfl hO ?_;refine ak 1 ?_;intro a H;refine dU (cs:=[_,_,_,_,_,_,_,_,_,_,_]) H wn rfl rfl rfl ?_;clear H;intro b1 a w hb1 H;refine dx iy H wn rfl ?_;clear H;intro b2 a w hb2 H;refine aH 2 H ?_;clear H;intro a H;have H:=H.cu (Pl:=[_,_]) (bS:=[_,_]) [1,0] (by decide) rfl;obtain ⟨Ga,hma,hb1',H⟩:=H.dP;have hga:=fun j v hj=>wm hb1' 0 D.cells rfl j v hj;replace hfl:=hfl.mono hma;replace hhd:=hhd.mono hma;replace qN:=qN.mono hma;replace hst:=hst.mono hma
 have cB:∀ (bC:Nat→aj × OL) (aT:Nat) (v:aj) (G G':GH),(∀ k o,G k=some o→G' k=some o)→(fun (bC:Nat→aj × OL) (aT:Nat) (v:aj) (G:GH)=>match aT with|0=>v=(aD b1 0)|1=>v=aS D.f|2=>v=(bC 2).1∧∃ xs,bR 68 11 v d.flow.length xs (bC 2).2∧bE G 11 (d.flow.map au.dat) xs|3=>v=(aD b1 1)|4=>v=sZ d.fin (aS D.p) (aS D.d) (aS D.y)|5=>∃ p y z,v=.agg #[p,vi d.fin.marks.ins,vi d.fin.marks.move,y,z]∧gG G d.fin p y z|6=>v=(aD b1 6)|7=>v=aS D.r|8=>v=(bC 8).1∧∃ xs,bR 82 3 v d.revs.length xs (bC 8).2∧bE G 3 (d.revs.map bQ.dat) xs|9=>v=(aD b1 7)|10=>v=.agg #[aS D.s1,aS D.s2,aS D.s3,aS D.s4]|11=>∃ a' b' c' d',v=.agg #[a',b',c',d']∧uD G d.jD a' b' c' d'|_=>True) bC aT v G→(fun (bC:Nat→aj × OL) (aT:Nat) (v:aj) (G:GH)=>match aT with|0=>v=(aD b1 0)|1=>v=aS D.f|2=>v=(bC 2).1∧∃ xs,bR 68 11 v d.flow.length xs (bC 2).2∧bE G 11 (d.flow.map au.dat) xs|3=>v=(aD b1 1)|4=>v=sZ d.fin (aS D.p) (aS D.d) (aS D.y)|5=>∃ p y z,v=.agg #[p,vi d.fin.marks.ins,vi d.fin.marks.move,y,z]∧gG G d.fin p y z|6=>v=(aD b1 6)|7=>v=aS D.r|8=>v=(bC 8).1∧∃ xs,bR 82 3 v d.revs.length xs (bC 8).2∧bE G 3 (d.revs.map bQ.dat) xs|9=>v=(aD b1 7)|10=>v=.agg #[aS D.s1,aS D.s2,aS D.s3,aS D.s4]|11=>∃ a' b' c' d',v=.agg #[a',b',c',d']∧uD G d.jD a' b' c' d'|_=>True) bC aT v G':=by
  intro bC aT v G G' hm h
  match aT,h with
  | 0,h=>exact h
  | 1,h=>exact h
  | 2,h=>exact let ⟨h1,xs,h2,h3⟩:=h;⟨h1,xs,h2,h3.mono hm⟩
  | 3,h=>exact h
  | 4,h=>exact h
  | 5,h=>exact let ⟨p,y,z,h1,h2⟩:=h;⟨p,y,z,h1,h2.mono hm⟩
  | 6,h=>exact h
  | 7,h=>exact h
  | 8,h=>exact let ⟨h1,xs,h2,h3⟩:=h;⟨h1,xs,h2,h3.mono hm⟩
  | 9,h=>exact h
  | 10,h=>exact h
  | 11,h=>exact let ⟨p,q,y,z,h1,h2⟩:=h;⟨p,q,y,z,h1,h2.mono hm⟩
  | 12,h=>exact trivial
  | 13,h=>exact trivial
  | _+14,h=>exact trivial
 refine VU [2,8] (hmx) [[],[0],[0,1],[],[3],(ra 0 5),[],[6],(ra 0 8),[],[9],(ra 0 11),(ra 0 12),(ra 0 13)] [12,13] (by kernel_rfl) (by kernel_rfl) (by decide) (by kernel_rfl) (fun (bC:Nat→aj × OL) (aT:Nat) (v:aj) (G:GH)=>match aT with|0=>v=(aD b1 0)|1=>v=aS D.f|2=>v=(bC 2).1∧∃ xs,bR 68 11 v d.flow.length xs (bC 2).2∧bE G 11 (d.flow.map au.dat) xs|3=>v=(aD b1 1)|4=>v=sZ d.fin (aS D.p) (aS D.d) (aS D.y)|5=>∃ p y z,v=.agg #[p,vi d.fin.marks.ins,vi d.fin.marks.move,y,z]∧gG G d.fin p y z|6=>v=(aD b1 6)|7=>v=aS D.r|8=>v=(bC 8).1∧∃ xs,bR 82 3 v d.revs.length xs (bC 8).2∧bE G 3 (d.revs.map bQ.dat) xs|9=>v=(aD b1 7)|10=>v=.agg #[aS D.s1,aS D.s2,aS D.s3,aS D.s4]|11=>∃ a' b' c' d',v=.agg #[a',b',c',d']∧uD G d.jD a' b' c' d'|_=>True) (fun m hm x y i v G hi hc h=>by
  have hm:m=2∨m=8:=by simpa using hm
  rcases hm with rfl|rfl
  ·match i,hi,hc,h with
   | 0,_,_,h=>exact h
   | 1,_,_,h=>exact h
   | 2,hi,_,_=>exact absurd hi (by decide)
   | 3,_,_,h=>exact h
   | 4,_,_,h=>exact h
   | 5,_,hc,_=>exact absurd hc (by decide)
   | 6,_,_,h=>exact h
   | 7,_,_,h=>exact h
   | 8,_,hc,_=>exact absurd hc (by decide)
   | 9,_,_,h=>exact h
   | 10,_,_,h=>exact h
   | 11,_,hc,_=>exact absurd hc (by decide)
   | 12,_,hc,_=>exact absurd hc (by decide)
   | 13,_,hc,_=>exact absurd hc (by decide)
   | _+14,_,_,_=>exact trivial
  ·match i,hi,hc,h with
   | 0,_,_,h=>exact h
   | 1,_,_,h=>exact h
   | 2,_,_,h=>exact h
   | 3,_,_,h=>exact h
   | 4,_,_,h=>exact h
   | 5,_,_,h=>exact h
   | 6,_,_,h=>exact h
   | 7,_,_,h=>exact h
   | 8,hi,_,_=>exact absurd hi (by decide)
   | 9,_,_,h=>exact h
   | 10,_,_,h=>exact h
   | 11,_,hc,_=>exact absurd hc (by decide)
   | 12,_,hc,_=>exact absurd hc (by decide)
   | 13,_,hc,_=>exact absurd hc (by decide)
   | _+14,_,_,_=>exact trivial
  ) H ?_ ?_ ?_
 ·clear H;refine aC ?_ ?_ ?_ ?_ (aC ?_ ?_ ?_ ?_ (aC ?_ ?_ ?_ ?_ (bL ?_ (bL ?_ dw))))
  ·intro bC iP bF a w G1 jv _ _ bT hc hG HT hv;have H:=HT;clear bT;have Hb:=H.full;have H:=Hb;clear hc;refine aH 1 H ?_;clear H;intro a H;refine aG ⟨rfl,?_⟩;exact jr (by kernel_rfl) (cB bC) rfl rfl HT Hb hG hv (fun _ _ h=>h) (rfl) H
  ·intro bC iP bF a w G1 jv _ _ bT hc hG HT hv;have H:=HT;clear bT;have H:=H.aO (hv 0 3 (hc 0 (by decide)) rfl) rfl;have Hb:=H.full;have H:=Hb;clear hc;refine kX pG H wn rfl (H.hp.aF (aJ hG (hga 0 _ rfl))) rfl ?_;clear H;intro a H;refine aG ⟨rfl,?_⟩;exact jr (by kernel_rfl) (cB bC) rfl rfl HT Hb hG hv (fun _ _ h=>h) (rfl) H
  ·intro _ _ _ _ _ _ _ _ hB;exact absurd hB (by decide)
  ·intro bC iP bF a w G1 jv _ _ bT hc hG HT hv;have H:=HT;clear bT;have Hb:=H.full;have H:=Hb;clear hc;refine aH 1 H ?_;clear H;intro a H;refine aG ⟨rfl,?_⟩;exact jr (by kernel_rfl) (cB bC) rfl rfl HT Hb hG hv (fun _ _ h=>h) (rfl) H
  ·intro bC iP bF a w G1 jv _ _ bT hc hG HT hv;have H:=HT;clear bT;have H:=H.aO (hv 3 6 (hc 3 (by decide)) rfl) rfl;have Hb:=H.full;have H:=Hb;clear hc;refine bg jG (cs:=[aS D.p,vi d.fin.marks.ins,vi d.fin.marks.move,aS D.d,aS D.y]) H wn rfl rfl (fun j v hj=>H.hp.aF (aJ hG (by rw [← hins,← hmv] at hj;exact wm hb1' 1 _ rfl j v hj))) rfl ?_;clear H;intro a H;refine aG ⟨rfl,?_⟩;exact jr (by kernel_rfl) (cB bC) rfl rfl HT Hb hG hv (fun _ _ h=>h) (rfl) H
  ·intro bC iP bF a w G1 jv _ _ bT hc hG HT hv;have H:=HT;clear bT;have H:=H.aO (hv 4 7 (hc 4 (by decide)) rfl) rfl;have Hb:=H.full;have H:=Hb;clear hc;refine s_call DT H wn rfl (DN _ _ H.ro d.fin _ _ _ _ _ _ _ _ _ (hhd.mono hG) zh) rfl ?_;clear H;rintro v8 G8 a w kL nL H;refine aG ⟨rfl,?_⟩;exact jr (by kernel_rfl) (cB bC) rfl rfl HT Hb hG hv nL (kL) H
  ·intro bC iP bF a w G1 jv _ _ bT hc hG HT hv;have H:=HT;clear bT;have Hb:=H.full;have H:=Hb;clear hc;refine aH 1 H ?_;clear H;intro a H;refine aG ⟨rfl,?_⟩;exact jr (by kernel_rfl) (cB bC) rfl rfl HT Hb hG hv (fun _ _ h=>h) (rfl) H
  ·intro bC iP bF a w G1 jv _ _ bT hc hG HT hv;have H:=HT;clear bT;have H:=H.aO (hv 6 9 (hc 6 (by decide)) rfl) rfl;have Hb:=H.full;have H:=Hb;clear hc;refine kX EH H wn rfl (H.hp.aF (aJ hG (hga 6 _ rfl))) rfl ?_;clear H;intro a H;refine aG ⟨rfl,?_⟩;exact jr (by kernel_rfl) (cB bC) rfl rfl HT Hb hG hv (fun _ _ h=>h) (rfl) H
  ·intro _ _ _ _ _ _ _ _ hB;exact absurd hB (by decide)
  ·intro bC iP bF a w G1 jv _ _ bT hc hG HT hv;have H:=HT;clear bT;have Hb:=H.full;have H:=Hb;clear hc;refine aH 1 H ?_;clear H;intro a H;refine aG ⟨rfl,?_⟩;exact jr (by kernel_rfl) (cB bC) rfl rfl HT Hb hG hv (fun _ _ h=>h) (rfl) H
  ·intro bC iP bF a w G1 jv _ _ bT hc hG HT hv;have H:=HT;clear bT;have H:=H.aO (hv 9 12 (hc 9 (by decide)) rfl) rfl;have Hb:=H.full;have H:=Hb;clear hc;refine bg BD (cs:=[aS D.s1,aS D.s2,aS D.s3,aS D.s4]) H wn rfl rfl (fun j v hj=>H.hp.aF (aJ hG (wm hb1' 7 _ rfl j v hj))) rfl ?_;clear H;intro a H;refine aG ⟨rfl,?_⟩;exact jr (by kernel_rfl) (cB bC) rfl rfl HT Hb hG hv (fun _ _ h=>h) (rfl) H
  ·intro bC iP bF a w G1 jv _ _ bT hc hG HT hv;have H:=HT;clear bT;have H:=H.aO (hv 10 13 (hc 10 (by decide)) rfl) rfl;have Hb:=H.full;have H:=Hb;clear hc;refine s_call aeN H wn rfl (adV _ _ H.ro d.jD _ _ _ _ (hst.mono hG) zs EM.ln EM.cn EM.vn EM.pl EM.ll) rfl ?_;clear H;rintro v14 BM a w rM AO H;refine aG ⟨rfl,?_⟩;exact jr (by kernel_rfl) (cB bC) rfl rfl HT Hb hG hv AO (rM) H
  ·intro _ _ _ _ _ _ _ hB;exact absurd hB (by decide)
  intro _ _ _ _ _ _ _ hB;exact absurd hB (by decide)
 ·clear H;refine aC ?_ ?_ ?_ ?_ (aC ?_ ?_ ?_ ?_ (aC ?_ ?_ ?_ ?_ (bL ?_ (bL ?_ dw))))
  ·intro hB;exact absurd hB (by decide)
  ·intro hB;exact absurd hB (by decide)
  ·intro _ bC iP bF a w G1 jv _ hc hG HT hv;have H:=HT;have H:=H.aO (hv (.bool false,[]) 1 4 (by decide) (hc 1 (by decide)) rfl) rfl;have Hb:=H.full;have H:=Hb;clear hc;refine fB KJ (Li:=iP) (L:=[]) (H.cast (lY _).symm) wn rfl (adL _ _ (vG H.ro) d.flow _ (hfl.mono hG) (by omega)) rfl ?_;clear H;rintro v5 G5 L5 a w ⟨xs5,ajO,aiD⟩ sS H;have H:=H.perm rD;refine aG ⟨rfl,(v5,L5),?_⟩;exact Ch (by kernel_rfl) (cB (wQ bC 2 (v5,L5))) rfl HT Hb hG (fun j e h1 h2 h3=>hv (v5,L5) j e h1 h2 h3) sS (⟨rfl,xs5,ajO,aiD⟩) H
  ·intro hB;exact absurd hB (by decide)
  ·intro hB;exact absurd hB (by decide)
  ·intro hB;exact absurd hB (by decide)
  ·intro hB;exact absurd hB (by decide)
  ·intro hB;exact absurd hB (by decide)
  ·intro _ bC iP bF a w G1 jv _ hc hG HT hv;have H:=HT;have H:=H.aO (hv (.bool false,[]) 7 10 (by decide) (hc 7 (by decide)) rfl) rfl;have Hb:=H.full;have H:=Hb;clear hc;refine fB WZ (Li:=iP) (L:=[]) (H.cast (lY _).symm) wn rfl (V7 _ _ (vG H.ro) _ _ _ _ (qN.mono hG) (by simpa using zr)) rfl ?_;clear H;rintro v11 qY Dr a w ⟨GL,xC,FJ⟩ jO H;rw [bO] at xC;have H:=H.perm rD;refine aG ⟨rfl,(v11,Dr),?_⟩;exact Ch (by kernel_rfl) (cB (wQ bC 8 (v11,Dr))) rfl HT Hb hG (fun j e h1 h2 h3=>hv (v11,Dr) j e h1 h2 h3) jO (⟨rfl,GL,xC,FJ⟩) H
  ·intro hB;exact absurd hB (by decide)
  ·intro hB;exact absurd hB (by decide)
  ·intro hB;exact absurd hB (by decide)
  ·intro hB;exact absurd hB (by decide)
  intro hB;exact absurd hB (by decide)
 clear H;intro bC a w G iH H hv
 simp only [oH,List.flatMap_cons,List.flatMap_nil,cond_true,lY,gy] at H
 obtain ⟨u5,Ej,oM⟩:=hv 2 5 (by decide) rfl;(try dsimp only at oM);obtain ⟨h5,xf,FV,Q5⟩:=oM;obtain ⟨fA,fc,rfl,-,-⟩:=FV.shape;have H:=H.jo Ej;obtain ⟨u8,yI,kL⟩:=hv 5 8 (by decide) rfl;(try dsimp only at kL);obtain ⟨p8,y8,z8,rfl,I4⟩:=kL;obtain ⟨a1,a2,a3,rfl⟩:=I4.props.form;obtain ⟨a4,a5,a6,rfl⟩:=I4.bU.form;obtain ⟨a7,a8,a9,rfl⟩:=I4.layers.form;have H:=H.jo yI;obtain ⟨NJ,Bh,om⟩:=hv 8 11 (by decide) rfl;(try dsimp only at om);obtain ⟨h11,xr,FX,Q7⟩:=om;obtain ⟨rA,rc,rfl,-,-⟩:=FX.shape;have H:=H.jo Bh;obtain ⟨u14,Jf,rM⟩:=hv 11 14 (by decide) rfl;(try dsimp only at rM);obtain ⟨qg,q14,y14,z14,rfl,Jd⟩:=rM;obtain ⟨c1,c2,c3,rfl⟩:=Jd.st.form;obtain ⟨c4,c5,c6,rfl⟩:=Jd.li.form;obtain ⟨c7,c8,c9,rfl⟩:=Jd.cm.form;obtain ⟨d1,d2,d3,rfl⟩:=Jd.va.form;have H:=H.jo Jf;clear hv;obtain ⟨⟨vF,LF⟩,eF⟩:∃ y,y=bC 2:=⟨_,rfl⟩;obtain ⟨⟨vR,LR⟩,eR⟩:∃ y,y=bC 8:=⟨_,rfl⟩;rw [← eF,← eR] at H;rw [← eF] at FV h5;rw [← eR] at FX h11;dsimp only at H FV FX h5 h11;subst h5;subst h11;rw [← gy] at H;have H:=H.perm (rD (l₁:=LF++LR) (l₂:=[_]));dsimp only [lca,aR] at H;refine jY aaN [_,_,_,_,_,_,_,_,_,_,_] H wn rfl rfl rfl rfl ?_;clear H;intro a H;refine aV iy 0 (vs:=[_,_,_,_,_,_,_,_,_,_,_]) _ H wn rfl rfl rfl rfl rfl rfl rfl rfl ?_;clear H;intro w H;dsimp only [List.set,setRow] at H;refine aG ⟨rfl,?_⟩;refine dG ?_;refine bV ?_;refine (leave1 H results67 (.cons (rR iy (cs:=[_,_,_,_,_,_,_,_,_,_,_]) H rfl rfl (H.hp.cK 0 rfl rfl)) .nil) ?_).1;exact H.hp.bZ (L':=LF++LR) (zi _ _) ⟨⟨(fA,d.flow.length,fc),(a1,a2,a3),(a4,a5,a6),(a7,a8,a9),(rA,d.revs.length,rc),(c1,c2,c3),(c4,c5,c6),(c7,c8,c9),(d1,d2,d3),d.fin.marks.ins,d.fin.marks.move⟩,rfl,xf,LF,xr,LR,rfl,FV,Q5,FX,Q7,I4,rfl,rfl,Jd⟩
end
section
open Go.RowKit
theorem PW:∀ args w,(callFunc 62 args).run prog w=.ok (.enter 62 args) w:=enters func62 rfl (by kernel_rfl)
theorem aeH:∀ args w,(callFunc 113 args).run prog w=.ok (.enter 113 args) w:=enters func113 rfl (by kernel_rfl)
theorem W9:∀ args w,(callFunc 69 args).run prog w=.ok (.enter 69 args) w:=enters func69 rfl (by kernel_rfl)
theorem aeJ:∀ args w,(callFunc 116 args).run prog w=.ok (.enter 116 args) w:=enters func116 rfl (by kernel_rfl)
theorem afm:∀ args w,(callFunc 172 args).run prog w=.ok (.enter 172 args) w:=enters func172 rfl (by kernel_rfl)
theorem aeI:∀ args w,(callFunc 115 args).run prog w=.ok (.enter 115 args) w:=enters func115 rfl (by kernel_rfl)
theorem alQ {G:GH} (r:aM):pO (.func (.func 116) #[] #[]) G r.dat (decide (r.cells.length=0)):=by
 intro G1 w0 cs hm hG hr;refine jq (caps:=[]) aeJ ?_;obtain ⟨pA,pn,pc,dA,dn,dc,yA,yn,yc,fA,fn,fc,rfl,-,hf⟩:=hr.row;have hn:=hf.len;rw [bO] at hn;subst hn;refine eN [(0,_)] func116 rfl ntmps116 rfl rfl hG ?_;refine ak 1 ?_;intro a H;refine dU (cs:=[_,_,_,_,_,_]) H wn rfl rfl rfl ?_;clear H;intro b1 a w hb1 H;refine gH 9 H ?_;exact (dD (decide_eq_decide.2 (by omega)))
theorem aej (G:GH) (w0:World) (hG:Hold G w0) (l:List aM) (v:aj) (hv:av G (.sl 6 (l.map aM.dat)) v) (hne:∀ r∈l,r.cells≠[]) :
  Calls prog 113 #[v,.func (.func 116) #[] #[]] w0 (bD w0 G fun u G'=>av G' (.sl 6 (l.map aM.dat)) u):=by
 obtain ⟨A,n,c,rfl⟩:=hv.form
 have hno:l.findIdx? (fun r=>decide (r.cells.length=0))=none:=by
  rw [List.findIdx?_eq_none_iff];intro r hr;exact jA fun h=>hne r hr (List.length_eq_zero_iff.1 h)
 refine eN [(0,_),(1,_)] func113 rfl ntmps113 rfl rfl hG ?_;refine ak 6 ?_;intro a H;refine s_call WM H wn rfl (Za _ _ H.ro l (fun r=>decide (r.cells.length=0)) _ _ hv (fun r _=>alQ r)) rfl ?_;clear H;rintro v10 yX a w rfl xq H;rw [hno] at H;refine gW 7 H ?_ ?_ <;> clear H
 ·intro nu
  refine aP 4 ?_;exact (hv.mono xq)
 intro nu
 intro a H;exact absurd rfl nu
def DC (n:Nat):Prop:=∀ (G:GH) (w0:World),Hold G w0→∀ (l:List au) (v:aj),av G (.sl 11 (l.map au.dat)) v→tK l→aZ l < n →
 Calls prog 62 #[v] w0 (bD w0 G fun u G'=>av G' (.sl 11 ((kV l).map au.dat)) u)
theorem alL {n:Nat} (ih:DC n) (hn:n≤4294967296) (G:GH) (w0:World) (hG:Hold G w0) (x:aL) (cs:List aj) (hv:aN G x.dat cs) (hne:CU x) (hz:bJ x.dat < n+1) :
  Calls prog 172 #[.agg cs.toArray] w0 (bD w0 G fun u G'=>∃ cs',u=.agg cs'.toArray∧aN G' (nC x).dat cs'):=by
 have he:=vO x;obtain ⟨pA,pn,pc,dA,dn,dc,yA,yn,yc,fA,fn,fc,rfl,hh,hf⟩:=hv.cell;rw [als] at hne;refine eN [(0,_)] func172 rfl ntmps172 rfl rfl hG ?_;refine ak 1 ?_;intro a H;refine dU (cs:=[_,_,_,_,_,_,_]) H wn rfl rfl rfl ?_;clear H;intro b1 a w hb1 H;refine dx iw H wn rfl ?_;clear H;intro b2 a w hb2 H;refine aH 2 H ?_;clear H
 have cB:∀ (aT:Nat) (v:aj) (G G':GH),(∀ k o,G k=some o→G' k=some o)→(fun (aT:Nat) (v:aj) (G:GH)=>match aT with|0=>v=(aD b1 0)|1=>v=vi x.id|2=>v=(aD b1 1)|3=>v=.agg #[.slice pA pn pc,vi x.head.marks.ins,vi x.head.marks.move,.slice dA dn dc,.slice yA yn yc]|4=>∃ p d l,v=.agg #[p,vi x.head.marks.ins,vi x.head.marks.move,d,l]∧gG G x.head p d l|5=>v=(aD b1 6)|6=>v=.slice fA fn fc|7=>av G (.sl 11 ((kV x.flow).map au.dat)) v|_=>True) aT v G→(fun (aT:Nat) (v:aj) (G:GH)=>match aT with|0=>v=(aD b1 0)|1=>v=vi x.id|2=>v=(aD b1 1)|3=>v=.agg #[.slice pA pn pc,vi x.head.marks.ins,vi x.head.marks.move,.slice dA dn dc,.slice yA yn yc]|4=>∃ p d l,v=.agg #[p,vi x.head.marks.ins,vi x.head.marks.move,d,l]∧gG G x.head p d l|5=>v=(aD b1 6)|6=>v=.slice fA fn fc|7=>av G (.sl 11 ((kV x.flow).map au.dat)) v|_=>True) aT v G':=by
  intro aT v G G' hm h
  match aT,h with
  | 0,h=>exact h
  | 1,h=>exact h
  | 2,h=>exact h
  | 3,h=>exact h
  | 4,h=>exact let ⟨p,d,l,h1,h2⟩:=h;⟨p,d,l,h1,h2.mono hm⟩
  | 5,h=>exact h
  | 6,h=>exact h
  | 7,h=>exact av.mono hm h
  | 8,h=>exact trivial
  | 9,h=>exact trivial
  | _+10,h=>exact trivial
 intro a H;refine yj (hmx) [[],[0],[],[2],[2,3],[],[5],(ra 2 5),(ra 0 8),(ra 0 9)] [8,9] (by kernel_rfl) (by kernel_rfl) (fun (aT:Nat) (v:aj) (G:GH)=>match aT with|0=>v=(aD b1 0)|1=>v=vi x.id|2=>v=(aD b1 1)|3=>v=.agg #[.slice pA pn pc,vi x.head.marks.ins,vi x.head.marks.move,.slice dA dn dc,.slice yA yn yc]|4=>∃ p d l,v=.agg #[p,vi x.head.marks.ins,vi x.head.marks.move,d,l]∧gG G x.head p d l|5=>v=(aD b1 6)|6=>v=.slice fA fn fc|7=>av G (.sl 11 ((kV x.flow).map au.dat)) v|_=>True) cB H ?_ ?_
 ·clear H;refine aC ?_ ?_ ?_ ?_ (aC ?_ ?_ ?_ ?_ (bL (bP rfl) (bL (bP rfl) dw)))
  ·refine cO [] rfl trivial (by kernel_rfl) cB rfl rfl ?_;intro bF a w G1 hG HT H fin;exact kH H (Rf P7 rfl fun _ H=>fin H iJ rfl)
  ·refine cO [(0,3,_)] rfl ⟨fun _ _ h=>h,bB⟩ (by kernel_rfl) cB rfl rfl ?_;intro bF a w G1 hG HT H fin;exact kH H (Ro bH 1 rfl fun _ H=>fin H iJ rfl)
  ·refine cO [] rfl trivial (by kernel_rfl) cB rfl rfl ?_;intro bF a w G1 hG HT H fin;exact kH H (Rf Xi rfl fun _ H=>fin H iJ rfl)
  ·refine cO [(2,5,_)] rfl ⟨fun _ _ h=>h,bB⟩ (by kernel_rfl) cB rfl rfl ?_;intro bF a w G1 hG HT H fin;refine bg jG (cs:=[_,_,_,_,_]) H wn rfl rfl (H.hp.cK 1 rfl rfl) rfl ?_;clear H;intro a H;exact fin H iJ rfl
  ·refine cO [(3,6,_)] rfl ⟨fun _ _ h=>h,bB⟩ (by kernel_rfl) cB rfl rfl ?_;intro bF a w G1 hG HT H fin;refine s_call DT H wn rfl (DN _ _ H.ro x.head _ _ _ _ _ _ _ _ _ (hh.mono hG) (by omega)) rfl ?_;clear H;rintro v7 G7 a w Bd IU H;exact fin H IU (Bd)
  ·refine cO [] rfl trivial (by kernel_rfl) cB rfl rfl ?_;intro bF a w G1 hG HT H fin;exact kH H (Rf KO rfl fun _ H=>fin H iJ rfl)
  ·refine cO [(5,8,_)] rfl ⟨fun _ _ h=>h,bB⟩ (by kernel_rfl) cB rfl rfl ?_;intro bF a w G1 hG HT H fin;exact kH H (Ro pG 1 rfl fun _ H=>fin H iJ rfl)
  refine cO [(6,9,_)] rfl ⟨fun _ _ h=>h,bB⟩ (by kernel_rfl) cB rfl rfl ?_;intro bF a w G1 hG HT H fin;refine s_call PW H wn rfl (ih _ _ H.ro x.flow _ (hf.mono hG) hne (by omega)) rfl ?_;clear H;rintro v10 yX a w qM oI H;exact fin H oI (qM)
 clear H;intro a w G iH H hv;have H:=H.aO (hv 1 4 rfl rfl) rfl;obtain ⟨u7,R8,Bd⟩:=hv 4 7 (by decide) rfl;(try dsimp only at Bd);obtain ⟨p7,d7,l7,rfl,Ba⟩:=Bd;obtain ⟨a1,a2,a3,rfl⟩:=Ba.props.form;obtain ⟨a4,a5,a6,rfl⟩:=Ba.bU.form;obtain ⟨a7,a8,a9,rfl⟩:=Ba.layers.form;have H:=H.jo R8;obtain ⟨u10,Je,qM⟩:=hv 7 10 (by decide) rfl;(try dsimp only at qM);obtain ⟨UQ,n10,c10,rfl⟩:=qM.form;have H:=H.jo Je;clear hv;refine jY Ns [_,_,_,_,_,_,_] H wn rfl rfl rfl rfl ?_;clear H;intro a H;refine aV iw 0 (vs:=[_,_,_,_,_,_,_]) _ H wn rfl rfl rfl rfl rfl rfl rfl rfl ?_;clear H;intro w H;dsimp only [List.set,setRow] at H;refine aG ⟨rfl,?_⟩;refine dG ?_;refine bV ?_;refine (leave1 H results172 (.cons (rR iw (cs:=[_,_,_,_,_,_,_]) H rfl rfl (H.hp.cK 0 rfl rfl)) .nil) ?_).1;exact H.rt ⟨_,rfl,by rw [alo];exact aN.Ev (x:=.mk x.id x.head (kV x.flow)) Ba qM⟩
theorem alM {n:Nat} (ih:DC n) (hn:n≤4294967296) {G:GH} {w0:World} (x:aL) (hne:CU x) (hz:bJ x.dat < n+1):Ac (.func (.func 172) #[] #[]) w0 G x.dat (nC x).dat:=by
 intro G1 w1 cs hm1 hG1 hr;have h:=alL ih hn _ _ hG1 x cs hr hne hz;have h2:=jq (P:=prog) (caps:=[]) (args:=[.agg cs.toArray]) afm h;exact h2
theorem alN {n:Nat} (ih:DC n) (hn:n≤4294967296) (G:GH) (w0:World) (hG:Hold G w0) (x:aM) (cs:List aj) (hv:aN G x.dat cs) (hne:CW x) (hz:bJ x.dat < n+1) :
  Calls prog 115 #[.agg cs.toArray] w0 (bD w0 G fun u G'=>∃ cs',u=.agg cs'.toArray∧aN G' (nR x).dat cs'):=by
 have he:=vP x;have hl:=BH x.cells;obtain ⟨pA,pn,pc,dA,dn,dc,yA,yn,yc,fA,fn,fc,rfl,hh,hf⟩:=hv.row;rw [ZG] at hne;refine eN [(0,_)] func115 rfl ntmps115 rfl rfl hG ?_;refine ak 1 ?_;intro a H;refine dU (cs:=[_,_,_,_,_,_]) H wn rfl rfl rfl ?_;clear H;intro b1 a w hb1 H;refine dx iU H wn rfl ?_;clear H;intro b2 a w hb2 H;refine aH 2 H ?_;clear H
 have cB:∀ (aT:Nat) (v:aj) (G G':GH),(∀ k o,G k=some o→G' k=some o)→(fun (aT:Nat) (v:aj) (G:GH)=>match aT with|0=>v=(aD b1 0)|1=>v=.agg #[.slice pA pn pc,vi x.head.marks.ins,vi x.head.marks.move,.slice dA dn dc,.slice yA yn yc]|2=>∃ p d l,v=.agg #[p,vi x.head.marks.ins,vi x.head.marks.move,d,l]∧gG G x.head p d l|3=>v=(aD b1 5)|4=>v=.slice fA fn fc|5=>av G (.sl 7 (x.cells.map fun y=>(nC y).dat)) v|_=>True) aT v G→(fun (aT:Nat) (v:aj) (G:GH)=>match aT with|0=>v=(aD b1 0)|1=>v=.agg #[.slice pA pn pc,vi x.head.marks.ins,vi x.head.marks.move,.slice dA dn dc,.slice yA yn yc]|2=>∃ p d l,v=.agg #[p,vi x.head.marks.ins,vi x.head.marks.move,d,l]∧gG G x.head p d l|3=>v=(aD b1 5)|4=>v=.slice fA fn fc|5=>av G (.sl 7 (x.cells.map fun y=>(nC y).dat)) v|_=>True) aT v G':=by
  intro aT v G G' hm h
  match aT,h with
  | 0,h=>exact h
  | 1,h=>exact h
  | 2,h=>exact let ⟨p,d,l,h1,h2⟩:=h;⟨p,d,l,h1,h2.mono hm⟩
  | 3,h=>exact h
  | 4,h=>exact h
  | 5,h=>exact av.mono hm h
  | 6,h=>exact trivial
  | 7,h=>exact trivial
  | _+8,h=>exact trivial
 intro a H;refine yj (hmx) [[],[0],[0,1],[],[3],(ra 0 5),(ra 0 6),(ra 0 7)] [6,7] (by kernel_rfl) (by kernel_rfl) (fun (aT:Nat) (v:aj) (G:GH)=>match aT with|0=>v=(aD b1 0)|1=>v=.agg #[.slice pA pn pc,vi x.head.marks.ins,vi x.head.marks.move,.slice dA dn dc,.slice yA yn yc]|2=>∃ p d l,v=.agg #[p,vi x.head.marks.ins,vi x.head.marks.move,d,l]∧gG G x.head p d l|3=>v=(aD b1 5)|4=>v=.slice fA fn fc|5=>av G (.sl 7 (x.cells.map fun y=>(nC y).dat)) v|_=>True) cB H ?_ ?_
 ·clear H;refine aC ?_ ?_ ?_ ?_ (aC ?_ ?_ (bP rfl) (bP rfl) dw)
  ·refine cO [] rfl trivial (by kernel_rfl) cB rfl rfl ?_;intro bF a w G1 hG HT H fin;exact kH H (Rf Fy rfl fun _ H=>fin H iJ rfl)
  ·refine cO [(0,3,_)] rfl ⟨fun _ _ h=>h,bB⟩ (by kernel_rfl) cB rfl rfl ?_;intro bF a w G1 hG HT H fin;refine bg jG (cs:=[_,_,_,_,_]) H wn rfl rfl (H.hp.cK 1 rfl rfl) rfl ?_;clear H;intro a H;exact fin H iJ rfl
  ·refine cO [(1,4,_)] rfl ⟨fun _ _ h=>h,bB⟩ (by kernel_rfl) cB rfl rfl ?_;intro bF a w G1 hG HT H fin;refine s_call DT H wn rfl (DN _ _ H.ro x.head _ _ _ _ _ _ _ _ _ (hh.mono hG) (by omega)) rfl ?_;clear H;rintro v5 G5 a w oM sS H;exact fin H sS (oM)
  ·refine cO [] rfl trivial (by kernel_rfl) cB rfl rfl ?_;intro bF a w G1 hG HT H fin;exact kH H (Rf Ir rfl fun _ H=>fin H iJ rfl)
  ·refine cO [(3,6,_)] rfl ⟨fun _ _ h=>h,bB⟩ (by kernel_rfl) cB rfl rfl ?_;intro bF a w G1 hG HT H fin;exact kH H (Ro Gx 1 rfl fun _ H=>fin H iJ rfl)
  refine cO [(4,7,_)] rfl ⟨fun _ _ h=>h,bB⟩ (by kernel_rfl) cB rfl rfl ?_;intro bF a w G1 hG HT H fin;refine s_call WR H wn rfl (WB nC _ _ H.ro x.cells _ _ (hf.mono hG) (by omega) (fun y hy=>alM ih hn y (ZE hne.2 y hy) (by have:=UL hy;omega))) rfl ?_;clear H;rintro v8 G8 a w kL nL H;exact fin H nL (kL)
 clear H;intro a w G iH H hv;obtain ⟨u5,Ej,oM⟩:=hv 2 5 (by decide) rfl;(try dsimp only at oM);obtain ⟨p5,d5,l5,rfl,vk⟩:=oM;obtain ⟨a1,a2,a3,rfl⟩:=vk.props.form;obtain ⟨a4,a5,a6,rfl⟩:=vk.bU.form;obtain ⟨a7,a8,a9,rfl⟩:=vk.layers.form;have H:=H.jo Ej;obtain ⟨u8,yI,kL⟩:=hv 5 8 (by decide) rfl;(try dsimp only at kL);obtain ⟨A8,n8,c8,rfl⟩:=kL.form;have H:=H.jo yI;clear hv;refine jY Ue [_,_,_,_,_,_] H wn rfl rfl rfl rfl ?_;clear H;intro a H;refine aV iU 0 (vs:=[_,_,_,_,_,_]) _ H wn rfl rfl rfl rfl rfl rfl rfl rfl ?_;clear H;intro w H;dsimp only [List.set,setRow] at H;refine aG ⟨rfl,?_⟩;refine dG ?_;refine bV ?_;refine (leave1 H results115 (.cons (rR iU (cs:=[_,_,_,_,_,_]) H rfl rfl (H.hp.cK 0 rfl rfl)) .nil) ?_).1;exact H.rt ⟨_,rfl,by rw [Zz];exact aN.Jl (x:=.mk x.head (x.cells.map nC)) vk (by show av _ (.sl 7 ((x.cells.map nC).map aL.dat)) _;rw [List.map_map];exact kL)⟩
theorem alO {n:Nat} (ih:DC n) (hn:n≤4294967296) {G:GH} {w0:World} (x:aM) (hne:CW x) (hz:bJ x.dat < n+1):Ac (.func (.func 115) #[] #[]) w0 G x.dat (nR x).dat:=by
 intro G1 w1 cs hm1 hG1 hr;have h:=alN ih hn _ _ hG1 x cs hr hne hz;have h2:=jq (P:=prog) (caps:=[]) (args:=[.agg cs.toArray]) aeI h;exact h2
theorem joined {G:GH} {o:List au} {z y:au} {x0:List aj} {s p d q f r:aj} (hc:bE G 11 (o.map au.dat) x0) (hl:x0.length=o.length*11) (hh:gG G z.head p d q) (hf:av G (.sl 11 (z.flow.map au.dat)) f) (hr:av G (.sl 6 (z.rows.map aM.dat)) r) (hs:s=.string (z.text++y.text)) :
  bE G 11 ((o++[oP z y]).map au.dat) ((x0++[vi z.kind,vi z.code,vi z.id,.string z.text,p,vi z.head.marks.ins,vi z.head.marks.move,d,q,f,r]).set (((o++[z]).length - 1)*11+3) s):=by
 rw [nG,jH,List.length_singleton,Nat.add_sub_cancel,List.set_append_right _ _ (by omega),hl,HZ];refine hc.snoc ?_ rfl;rw [hs];exact aN.mkItem (x:=oP z y) hh hf hr
theorem Kl {s:ByteArray} {k:Int} {n:Nat} (hk:k=1):(s.toList == (⟨#[]⟩:ByteArray).toList)=true↔(k=7∧n=0)∨(k=1∧s.size=0):=by
 rw [beq_iff_eq,ByteArray.toList_eq,ByteArray.toList_eq]
 constructor
 ·intro h;refine .inr ⟨hk,?_⟩;have:=aB List.length h
  simpa using this
 rintro (⟨h,-⟩|⟨-,h⟩)
 ·omega
 have:s.data.toList.length=0:=by simpa using h
 rw [List.length_eq_zero_iff.1 this]
theorem alP {n:Nat} (ih:DC n) (hn:n≤1073741824):DC (n+1):=by
  intro G w0 hG l v hv hne hz;obtain ⟨A,c,rfl,hc1,hc2,hg⟩:=hv.slice
  have hml:4294967297≤maxLen:=by decide
  have htl:kg l≤aZ l:=Ny l;have hll:l.length≤kg l:=ML l;rw [bO] at *;refine eN [(0,_)] func62 rfl ntmps62 rfl rfl hG ?_;refine ak 13 ?_;intro a H;refine eO (ι:=Nat × aj × List aj × OL × GH) (Tc:=[(7,_),(8,_)]) (Lc:=[]) (fun gh=>[(3,gh.2.1),(9,vi gh.1)]) (fun gh=>[]++gh.2.2.2.1) (fun gh=>gh.2.2.2.2) (fun gh=>gh.1≤l.length∧bR 68 11 gh.2.1 (qQ l gh.1).length gh.2.2.1 gh.2.2.2.1∧bE gh.2.2.2.2 11 ((qQ l gh.1).map au.dat) gh.2.2.1∧(∀ b o,G b=some o→gh.2.2.2.2 b=some o)) (fun gh=>l.length - gh.1) ((0,.slice none 0 0,[],[],G)) sB ?_ ?_
  · exact ⟨by omega,bR.nil,bE.nil,fun _ _ h=>h⟩
  clear H;rintro ⟨k,v,xs,Lo,g⟩ a w hI H;dsimp only at hI H;obtain ⟨hk,hrw,eD,hgm⟩:=hI;have hol:=alZ hk;obtain ⟨out,hout⟩:∃ o,o=qQ l k:=⟨_,rfl⟩;rw [← hout] at hrw eD hol;dsimp only [lca,aR] at H;refine dN 4 H ?_ ?_ <;> clear H
  · intro nk
    have hk2:k < l.length:=by omega
    have hos:=ZU hk2;have hot:=Te (l:=l) (k:=k) (by omega);have YE:=Um l (k+1);rw [gN hk2,EF] at YE
    simp only [kg] at YE
    rw [← hout] at hos hot;obtain ⟨vA,vc,rfl,-,-⟩:=hrw.shape;obtain ⟨b,o,pA,pn,pc,dA,dn,dc,yA,yn,yc,fA,fn,fc,rA,rn,rc,rfl,hrow,hhd,hfl,hrs⟩:=zx hk2 hg;replace hrow:=fun j u hj=>aJ hgm (hrow j u hj);have hnx:=ZF hne _ (iF hk2);rw [alu] at hnx;obtain ⟨hnf,hnr⟩:=hnx;have hzi:=JL hk2;have hze:=qC l[k];have hrl:=BJ l[k].rows
    have ajI:∀ r∈l[k].rows.map nR,r.cells≠[]:=fun r hr=>by
      obtain ⟨x,hx,rfl⟩:=List.mem_map.1 hr;have h1:=SV hnr x hx;rw [ZG] at h1;rw [Zz];exact fun e=>h1.1 (List.map_eq_nil_iff.1 e)
    refine ak 5 ?_;intro a H;refine bg dR (cs:=[_,_,_,_,_,_,_,_,_,_,_]) H wn rfl rfl (fun j v hj=>H.hp.aF (hrow j v hj)) rfl ?_;clear H;intro a H;refine dx dR H wn rfl ?_;clear H;intro b5 a w hb5 H;refine aV dR 0 (vs:=[_,_,_,_,_,_,_,_,_,_,_]) _ H wn rfl rfl rfl rfl rfl rfl rfl rfl ?_;clear H;intro w H;dsimp only [List.set,setRow] at H;refine aH 3 H ?_;clear H;intro a H;refine bg jG (cs:=[_,_,_,_,_]) H wn rfl rfl (H.hp.cK 0 rfl rfl) rfl ?_;clear H;intro a H;refine s_call DT H wn rfl (DN _ _ H.ro _ _ _ _ _ _ _ _ _ _ (hhd.mono hgm) (by omega)) rfl ?_;clear H;rintro v15 Af a w ⟨oZ,d15,Zk,rfl,FN⟩ oh H;obtain ⟨a1,a2,a3,rfl⟩:=FN.props.form;obtain ⟨a4,a5,a6,rfl⟩:=FN.bU.form;obtain ⟨a7,a8,a9,rfl⟩:=FN.layers.form;refine aH 1 H ?_;clear H;intro a H;refine aV jG 0 (vs:=[_,_,_,_,_]) _ H wn rfl rfl rfl rfl rfl rfl rfl rfl ?_;clear H;intro w H;dsimp only [List.set,setRow] at H;refine aH 4 H ?_;clear H;intro a H;refine s_call PW H wn rfl (ih _ _ H.ro l[k].flow _ (hfl.mono fun b o h=>oh b o (hgm b o h)) hnf (by omega)) rfl ?_;clear H;rintro v19 GV a w Ym oK H;obtain ⟨GN,n19,c19,rfl⟩:=Ym.form;refine aH 1 H ?_;clear H;intro a H;refine aV pG 0 (vs:=[_]) _ H wn rfl rfl rfl rfl rfl rfl rfl rfl ?_;clear H;intro w H;dsimp only [List.set,setRow] at H;refine aH 4 H ?_;clear H;intro a H;refine s_call WH H wn rfl (WC nR _ _ H.ro l[k].rows _ _ (hrs.mono fun b o h=>oK b o (oh b o (hgm b o h))) (by omega) (fun x hx=>alO ih (by omega) x (SV hnr x hx) (by have:=UN hx;omega))) rfl ?_;clear H;rintro v23 U6 a w RP Cy H;rw [show (l[k].rows.map fun x=>(nR x).dat)=(l[k].rows.map nR).map aM.dat by rw [List.map_map];rfl] at RP;obtain ⟨A23,n23,c23,rfl⟩:=RP.form;refine s_call aeH H wn rfl (aej _ _ H.ro (l[k].rows.map nR) _ RP ajI) rfl ?_;clear H;rintro v24 Ag a w RQ zH H;obtain ⟨NZ,n24,c24,rfl⟩:=RQ.form;have Yg:=RQ.len;rw [bO,bO] at Yg;subst Yg;refine aH 1 H ?_;clear H;intro a H;refine aV ND 0 (vs:=[_]) _ H wn rfl rfl rfl rfl rfl rfl rfl rfl ?_;clear H;intro w H;dsimp only [List.set,setRow] at H;refine aG ?_;refine dG ?_;obtain ⟨y,hy⟩:∃ y,y=nI l[k]:=⟨_,rfl⟩;have hye:=hy.trans (Zy l[k])
    have hyk:y.kind=l[k].kind:=by rw [hye];rfl
    have Jh:y.text=l[k].text:=by rw [hye];rfl
    have FY:y.head=l[k].head:=by rw [hye];rfl
    have Mw:y.rows.length=l[k].rows.length:=by rw [hye];simp [au.rows]
    rw [← hy] at hos;obtain ⟨Pb,LU⟩:∃ x,x=[vi l[k].kind,vi l[k].code,vi l[k].id,.string l[k].text,.slice a1 a2 a3,vi l[k].head.marks.ins,vi l[k].head.marks.move,.slice a4 a5 a6,.slice a7 a8 a9,.slice GN n19 c19,.slice NZ l[k].rows.length c24]:=⟨_,rfl⟩
    have Yu:aN Ag y.dat Pb:=by
      rw [LU,hye];exact aN.mkItem (x:=.mk l[k].kind l[k].code l[k].id l[k].text l[k].head (kV l[k].flow) (l[k].rows.map nR)) (FN.mono fun b o h=>zH b o (Cy b o (oK b o h))) (Ym.mono fun b o h=>zH b o (Cy b o h)) RQ
    have LP:=eD.mono fun b o h=>zH b o (Cy b o (oK b o (oh b o h)));have XZ:∀ b o,G b=some o→Ag b=some o:=fun b o h=>zH b o (Cy b o (oK b o (oh b o (hgm b o h))));refine eB 6 H ?_;clear H;intro a H;refine sH (ι:=Bool) (Tc:=[(3,_),(5,_),(6,_),(7,_),(8,_),(9,_)]) (Lc:=[]) (fun gh=>[(32,.bool gh)]) (fun gh=>[(b5,.cells [vi l[k].kind,vi l[k].code,vi l[k].id,.string l[k].text,.slice a1 a2 a3,vi l[k].head.marks.ins,vi l[k].head.marks.move,.slice a4 a5 a6,.slice a7 a8 a9,.slice GN n19 c19,.slice NZ l[k].rows.length c24].toArray 68 (0,0))]++Lo) (fun gh=>Ag) (fun gh=>gh=true↔sK y) sB ?_ ?_
    · refine vZ 5 36 H ?_ ?_ <;> clear H
      · intro p36
        refine kT 6 42 ?_ ?_
        · intro p42
          refine ak 10 ?_;intro a H;refine aG ?_;refine ⟨_,sB,?_⟩;rw [sK,hyk,Mw,Jh]
          first
            | exact ⟨fun _=>.inl ⟨p36,by omega⟩,fun _=>by first|rfl|exact iE p42⟩
            | exact ⟨fun h=>(by cases h),fun h=>(by exfalso;omega)⟩
            | exact Kl p46
            | fail
        intro p42
        refine kT 4 46 ?_ ?_
        · intro p46
          intro a H;exfalso;omega
        intro p46
        refine ak 6 ?_;intro a H;refine aG ?_;refine ⟨_,sB,?_⟩;rw [sK,hyk,Mw,Jh]
        first
          | exact ⟨fun _=>.inl ⟨p36,by omega⟩,fun _=>by first|rfl|exact iE p42⟩
          | exact ⟨fun h=>(by cases h),fun h=>(by exfalso;omega)⟩
          | exact Kl p46
          | fail
      intro p36
      refine ak 6 ?_;intro a H;refine Gq Az H (wg H rfl rfl rfl) rfl rfl ?_;clear H;intro a H;refine kX bH H (wg H rfl rfl rfl) rfl (H.hp.nQ 0 rfl rfl) rfl ?_;clear H;intro a H;refine CY H (wg H rfl rfl rfl) rfl rfl rfl rfl ?_;clear H;intro a H;refine C8 H (wg H rfl rfl rfl) rfl rfl ?_;clear H;refine jE 0 46 ?_ ?_
      · intro h46
        try have p46:=dT h46
        refine ak 2 ?_;intro a H;refine Gp H (wg H rfl rfl h46) rfl rfl rfl ?_;clear H;intro a H;refine Jv H (wg H rfl rfl rfl) rfl h46 rfl rfl ?_;clear H;refine ak 2 ?_;intro a H;refine aG ?_;refine ⟨_,sB,?_⟩;rw [sK,hyk,Mw,Jh]
        first
          | exact ⟨fun _=>.inl ⟨p36,by omega⟩,fun _=>by first|rfl|exact iE p42⟩
          | exact ⟨fun h=>(by cases h),fun h=>(by exfalso;omega)⟩
          | exact Kl p46
          | fail
      intro h46
      try have p46:=dF h46
      refine ak 3 ?_;intro a H;refine Nl H (wg H rfl rfl rfl) rfl h46 rfl rfl ?_;clear H;refine ak 2 ?_;intro a H;refine aG ?_;refine ⟨_,sB,?_⟩;rw [sK,hyk,Mw,Jh]
      first
        | exact ⟨fun _=>.inl ⟨p36,by omega⟩,fun _=>by first|rfl|exact iE p42⟩
        | exact ⟨fun h=>(by cases h),fun h=>(by exfalso;omega)⟩
        | exact Kl p46
        | fail
    clear H;intro db a w hI H;dsimp only [lca,aR] at H;refine dN 0 H ?_ ?_ <;> clear H
    · intro p32
      have hdp:=hI.1 (by assumption);rw [OC hdp] at hos;refine ak 4 ?_;intro a H;refine aG ?_;refine dH ((k+1,_,xs,Lo,_)) (by exact (H.cu (Pl:=[_]) (bS:=[]) [] (by decide) rfl).sub ⟨rfl,rfl,rfl,rfl,bB⟩) ?_ ?_
      · (try dsimp only);exact ⟨by omega,by rw [hos];exact hrw,by rw [hos];exact LP,XZ⟩
      first|omega|(dsimp only;omega)
    intro p32
    have hnd:¬ sK y:=fun h=>by have:=hI.2 h;simp_all
    obtain ⟨bo,pk,pt,pp,pd,pl,vC⟩:∃ (bo:Nat) (pk:dh × Int) (pt:ByteArray) (pp pd pl:aj),0 < (out.length:Int)→∃ (o:List au) (z:au) (x0:List aj) (f r:aj),out=o++[z]∧vA=some ⟨bo,0,none⟩∧pk=(z.head,z.kind)∧pt=z.text ∧
        xs=x0++[vi z.kind,vi z.code,vi z.id,.string z.text,pp,vi z.head.marks.ins,vi z.head.marks.move,pd,pl,f,r]∧x0.length=o.length*11∧bE Ag 11 (o.map au.dat) x0∧gG Ag z.head pp pd pl∧av Ag (.sl 11 (z.flow.map au.dat)) f∧av Ag (.sl 6 (z.rows.map aM.dat)) r ∧
        ∀ j u,[vi pk.2,vi z.code,vi z.id,.string pt,pp,vi pk.1.marks.ins,vi pk.1.marks.move,pd,pl][j]?=some u→xs[(out.length - 1)*11+j]?=some u:=by
      by_cases h0:0 < out.length
      · obtain ⟨bo,hbo⟩:=hrw.ptr h0;obtain ⟨o,z,e⟩:∃ o z,out=o++[z]:=⟨_,_,(List.dropLast_concat_getLast (fun e=>by rw [e] at h0;simp at h0)).symm⟩;rw [e,nG] at LP;obtain ⟨x0,cs,hxs,hc0,hrz,hcl,hxl⟩:=LP.aox;obtain ⟨qA,qn,qc,sA,sn,sc,tA,tn,tc,fA2,fn2,fc2,rA2,rn2,rc2,rfl,hh,hf2,hr2⟩:=hrz.item;rw [bO] at hxl;refine ⟨bo,(z.head,z.kind),z.text,.slice qA qn qc,.slice sA sn sc,.slice tA tn tc,fun _=>⟨o,z,x0,_,_,e,hbo,rfl,rfl,hxs,hxl,hc0,hh,hf2,hr2,fun j u hj=>?_⟩⟩;rw [hxs,e,jH,List.length_singleton,Nat.add_sub_cancel,qF (by omega),hxl,HZ];rw [← hj]
        match j,hj with
        | 0,hj=>rfl
        | 1,hj=>rfl
        | 2,hj=>rfl
        | 3,hj=>rfl
        | 4,hj=>rfl
        | 5,hj=>rfl
        | 6,hj=>rfl
        | 7,hj=>rfl
        | 8,hj=>rfl
        | _+9,hj=>simp at hj
      exact ⟨0,(⟨[],⟨0,0,[],[]⟩⟩,0),⟨#[]⟩,.slice none 0 0,.slice none 0 0,.slice none 0 0,fun h=>by omega⟩
    have Jg:0 < (out.length:Int)→vA=some ⟨bo,0,none⟩:=fun h=>by obtain ⟨_,_,_,_,_,_,e,_⟩:=vC h;exact e
    intro a H;refine sH (ι:=Bool × GH) (Tc:=[(3,_),(5,_),(6,_),(7,_),(8,_),(9,_)]) (Lc:=[]) (fun gh=>[(52,.bool gh.1)]) (fun gh=>[(b5,.cells [vi l[k].kind,vi l[k].code,vi l[k].id,.string l[k].text,.slice a1 a2 a3,vi l[k].head.marks.ins,vi l[k].head.marks.move,.slice a4 a5 a6,.slice a7 a8 a9,.slice GN n19 c19,.slice NZ l[k].rows.length c24].toArray 68 (0,0))]++Lo) (fun gh=>gh.2) (fun gh=>(gh.1=true→(l[k].kind=1∧0 < (out.length:Int)∧pk.2=1∧pk.1=l[k].head))∧(gh.1=false→qQ l (k+1)=out++[y])∧(∀ b o,Ag b=some o→gh.2 b=some o)) sB ?_ ?_
    · skip
      by_cases c1:l[k].kind=1
      · skip
        by_cases c2:0 < (out.length:Int)
        · skip
          by_cases c3:pk.2=1
          · skip
            by_cases c4:pk.1=l[k].head
            · refine dI hmx [[],[0],[0,1],[0,1,2],(ra 0 4),(ra 0 5),(ra 0 6),(ra 0 7),(ra 0 8),(ra 0 8),(ra 0 8++[9]),(ra 0 11),(ra 0 12),(ra 0 13),(ra 0 14),(ra 0 15),(ra 0 16),(ra 0 17),(ra 0 17),(ra 0 17++[18]),(ra 0 20),(ra 0 21),(ra 0 22),(ra 0 17),(ra 0 17++[23]),(ra 0 25),(ra 0 26),(ra 0 27)] [] (by kernel_rfl) [_,vi l[k].kind,_,_,_,_,_,_,.slice (some ⟨bo,0,none⟩) out.length vc,_,vi ((out.length - 1:Nat):Int),_,_,vi pk.2,_,_,_,.slice (some ⟨bo,0,none⟩) out.length vc,_,vi ((out.length - 1:Nat):Int),_,_,sZ pk.1 pp pd pl,_,sZ l[k].head (.slice a1 a2 a3) (.slice a4 a5 a6) (.slice a7 a8 a9),.bool (decide (pk.1=l[k].head)),_,_] H (aC (Z0 rfl (Rf Az rfl)) (Z1 0 53 rfl (Ro bH 0 rfl)) (Z1 1 54 rfl (Rc rfl)) (Z1 2 55 rfl (Rm rfl)) (aC (Z1 3 56 rfl (YM (aI c1) rfl)) (Z2 4 57 3 56 rfl (YC (aI c1) rfl)) (Z2 3 56 5 58 rfl (Pt (aI c1) rfl)) (Z1 6 59 rfl (Rm rfl)) (aC ?_ (Z1 7 60 rfl (YM (aI c2) rfl)) ?_ (Z3 8 61 10 63 7 60 rfl (YI mQ dR (aI c2) rfl rfl)) (aC (Z2 11 64 7 60 rfl (YF Az (aI c2) rfl)) ?_ (Z2 13 66 7 60 rfl (YC (aI c2) rfl)) (Z2 7 60 14 67 rfl (Pt (aI c2) rfl)) (aC (Z1 15 68 rfl (Rm rfl)) ?_ (Z1 16 69 rfl (YM (aI c3) rfl)) ?_ (aC (Z3 17 70 19 72 16 69 rfl (YI mQ dR (aI c3) rfl rfl)) (Z2 20 73 16 69 rfl (YF AA (aI c3) rfl)) ?_ (Z1 16 69 rfl (YF AA (aI c3) rfl)) (aC ?_ ?_ (Z2 16 69 25 78 rfl (Pt (aI c3) rfl)) (Z1 26 79 rfl (Ra rfl)) dw))))))) ?_
              · refine dJ 7 60 rfl rfl fun _ a w G1 hG HT H fin=>?_;refine aH 1 H ?_;clear H;intro a H;exact fin H iJ (by show _=_;first|rfl|exact aB (fun A=>Value.slice A out.length vc) (Jg c2))
              · refine dL 9 62 7 60 rfl rfl fun _ a w G1 hG HT H fin=>?_;refine lJ _ H (wg H rfl rfl (aI c2)) rfl rfl rfl (by omega) (by omega) rfl ?_;clear H;intro a H;exact fin H iJ (by show _=_;first|rfl|exact aB vi (by omega))
              · refine dL 12 65 7 60 rfl rfl fun _ a w G1 hG HT H fin=>?_;obtain ⟨_,_,_,_,_,_,rfl,_,_,_,_,_,_,_,_,hx⟩:=vC c2;refine kX bH H (wg H rfl rfl (aI c2)) rfl (hrw.at H.hp (fun x hx=>gL _ hx) (by rw [fQ];exact hx 0 _ rfl)) rfl ?_;clear H;intro a H;exact fin H iJ rfl
              · refine dJ 16 69 rfl rfl fun _ a w G1 hG HT H fin=>?_;refine aH 1 H ?_;clear H;intro a H;exact fin H iJ (by show _=_;first|rfl|exact aB (fun A=>Value.slice A out.length vc) (Jg c2))
              · refine dL 18 71 16 69 rfl rfl fun _ a w G1 hG HT H fin=>?_;refine lJ _ H (wg H rfl rfl (aI c3)) rfl rfl rfl (by omega) (by omega) rfl ?_;clear H;intro a H;exact fin H iJ (by show _=_;first|rfl|exact aB vi (by omega))
              · refine dL 21 74 16 69 rfl rfl fun _ a w G1 hG HT H fin=>?_;obtain ⟨_,_,_,_,_,_,rfl,_,_,_,_,_,_,_,_,hx⟩:=vC c2
                refine bg jG (cs:=[pp,vi pk.1.marks.ins,vi pk.1.marks.move,pd,pl]) H (wg H rfl rfl (aI c3)) rfl rfl (fun j u hj=>hrw.at H.hp (fun x hx=>gL _ hx) (by
                    rw [fQ,Nat.add_assoc];refine hx (4+j) u ?_
                    match j,hj with
                    | 0,hj=>exact hj
                    | 1,hj=>exact hj
                    | 2,hj=>exact hj
                    | 3,hj=>exact hj
                    | 4,hj=>exact hj)) rfl ?_;clear H;intro a H
                exact fin H iJ rfl
              · refine dL 23 76 16 69 rfl rfl fun _ a w G1 hG HT H fin=>?_;refine bg jG (cs:=[_,_,_,_,_]) H (wg H rfl rfl (aI c3)) rfl rfl (H.hp.cK 0 rfl rfl) rfl ?_;clear H;intro a H;exact fin H iJ rfl
              · refine wU 22 75 24 77 16 69 rfl rfl fun _ a w G1 hG HT H fin=>?_;refine s_call W9 H (wg H rfl rfl (aI c3)) rfl (Xd _ _ H.ro pk.1 l[k].head _ _ _ _ _ _ (by obtain ⟨_,_,_,_,_,_,_,e,_,_,_,_,hh,_⟩:=vC c2;rw [e];exact hh.mono hG) (FN.mono fun b o h=>hG b o (zH b o (Cy b o (oK b o h))))) rfl ?_;clear H;rintro v78 G78 a w rfl QG H;exact fin H QG (rfl)
              clear H;intro a w G jO H hv;have H:=H.aO (hv 27 52 rfl rfl) rfl;clear hv;refine aG ⟨rfl,?_⟩;refine ⟨(_,_),sB,?_⟩;(try dsimp only);refine ⟨fun h=>by first|exact absurd h (by decide)|exact ⟨c1,c2,c3,lX h⟩,fun h=>?_,jO⟩
              first
                | exact absurd ((aI c4).symm.trans h) (by decide)
                | (rw [hos]
                   refine BU hnd fun o2 z2 e2 hj=>?_;rw [qO,hyk,FY] at hj;obtain ⟨j1,j2,j3⟩:=hj
                   first
                     | exact c1 j1
                     | (have c2':0 < (out.length:Int):=by rw [e2,jH,List.length_singleton];omega
                        obtain ⟨o,z,_,_,_,e,_,uT,_⟩:=vC c2';obtain ⟨-,ez⟩:=List.append_inj' (e2.symm.trans e) rfl
                        injection ez with ez
                        subst ez
                        first
                          | exact c2 c2'
                          | exact c3 (by rw [uT];exact j2)
                          | exact c4 (by rw [uT];exact j3)))
            refine dI hmx [[],[0],[0,1],[0,1,2],(ra 0 4),(ra 0 5),(ra 0 6),(ra 0 7),(ra 0 8),(ra 0 8),(ra 0 8++[9]),(ra 0 11),(ra 0 12),(ra 0 13),(ra 0 14),(ra 0 15),(ra 0 16),(ra 0 17),(ra 0 17),(ra 0 17++[18]),(ra 0 20),(ra 0 21),(ra 0 22),(ra 0 17),(ra 0 17++[23]),(ra 0 25),(ra 0 26),(ra 0 27)] [] (by kernel_rfl) [_,vi l[k].kind,_,_,_,_,_,_,.slice (some ⟨bo,0,none⟩) out.length vc,_,vi ((out.length - 1:Nat):Int),_,_,vi pk.2,_,_,_,.slice (some ⟨bo,0,none⟩) out.length vc,_,vi ((out.length - 1:Nat):Int),_,_,sZ pk.1 pp pd pl,_,sZ l[k].head (.slice a1 a2 a3) (.slice a4 a5 a6) (.slice a7 a8 a9),.bool (decide (pk.1=l[k].head)),_,_] H (aC (Z0 rfl (Rf Az rfl)) (Z1 0 53 rfl (Ro bH 0 rfl)) (Z1 1 54 rfl (Rc rfl)) (Z1 2 55 rfl (Rm rfl)) (aC (Z1 3 56 rfl (YM (aI c1) rfl)) (Z2 4 57 3 56 rfl (YC (aI c1) rfl)) (Z2 3 56 5 58 rfl (Pt (aI c1) rfl)) (Z1 6 59 rfl (Rm rfl)) (aC ?_ (Z1 7 60 rfl (YM (aI c2) rfl)) ?_ (Z3 8 61 10 63 7 60 rfl (YI mQ dR (aI c2) rfl rfl)) (aC (Z2 11 64 7 60 rfl (YF Az (aI c2) rfl)) ?_ (Z2 13 66 7 60 rfl (YC (aI c2) rfl)) (Z2 7 60 14 67 rfl (Pt (aI c2) rfl)) (aC (Z1 15 68 rfl (Rm rfl)) ?_ (Z1 16 69 rfl (YM (aI c3) rfl)) ?_ (aC (Z3 17 70 19 72 16 69 rfl (YI mQ dR (aI c3) rfl rfl)) (Z2 20 73 16 69 rfl (YF AA (aI c3) rfl)) ?_ (Z1 16 69 rfl (YF AA (aI c3) rfl)) (aC ?_ ?_ (Z2 16 69 25 78 rfl (Pt (aI c3) rfl)) (Z1 26 79 rfl (Ra rfl)) dw))))))) ?_
            · refine dJ 7 60 rfl rfl fun _ a w G1 hG HT H fin=>?_;refine aH 1 H ?_;clear H;intro a H;exact fin H iJ (by show _=_;first|rfl|exact aB (fun A=>Value.slice A out.length vc) (Jg c2))
            · refine dL 9 62 7 60 rfl rfl fun _ a w G1 hG HT H fin=>?_;refine lJ _ H (wg H rfl rfl (aI c2)) rfl rfl rfl (by omega) (by omega) rfl ?_;clear H;intro a H;exact fin H iJ (by show _=_;first|rfl|exact aB vi (by omega))
            · refine dL 12 65 7 60 rfl rfl fun _ a w G1 hG HT H fin=>?_;obtain ⟨_,_,_,_,_,_,rfl,_,_,_,_,_,_,_,_,hx⟩:=vC c2;refine kX bH H (wg H rfl rfl (aI c2)) rfl (hrw.at H.hp (fun x hx=>gL _ hx) (by rw [fQ];exact hx 0 _ rfl)) rfl ?_;clear H;intro a H;exact fin H iJ rfl
            · refine dJ 16 69 rfl rfl fun _ a w G1 hG HT H fin=>?_;refine aH 1 H ?_;clear H;intro a H;exact fin H iJ (by show _=_;first|rfl|exact aB (fun A=>Value.slice A out.length vc) (Jg c2))
            · refine dL 18 71 16 69 rfl rfl fun _ a w G1 hG HT H fin=>?_;refine lJ _ H (wg H rfl rfl (aI c3)) rfl rfl rfl (by omega) (by omega) rfl ?_;clear H;intro a H;exact fin H iJ (by show _=_;first|rfl|exact aB vi (by omega))
            · refine dL 21 74 16 69 rfl rfl fun _ a w G1 hG HT H fin=>?_;obtain ⟨_,_,_,_,_,_,rfl,_,_,_,_,_,_,_,_,hx⟩:=vC c2
              refine bg jG (cs:=[pp,vi pk.1.marks.ins,vi pk.1.marks.move,pd,pl]) H (wg H rfl rfl (aI c3)) rfl rfl (fun j u hj=>hrw.at H.hp (fun x hx=>gL _ hx) (by
                  rw [fQ,Nat.add_assoc];refine hx (4+j) u ?_
                  match j,hj with
                  | 0,hj=>exact hj
                  | 1,hj=>exact hj
                  | 2,hj=>exact hj
                  | 3,hj=>exact hj
                  | 4,hj=>exact hj)) rfl ?_;clear H;intro a H
              exact fin H iJ rfl
            · refine dL 23 76 16 69 rfl rfl fun _ a w G1 hG HT H fin=>?_;refine bg jG (cs:=[_,_,_,_,_]) H (wg H rfl rfl (aI c3)) rfl rfl (H.hp.cK 0 rfl rfl) rfl ?_;clear H;intro a H;exact fin H iJ rfl
            · refine wU 22 75 24 77 16 69 rfl rfl fun _ a w G1 hG HT H fin=>?_;refine s_call W9 H (wg H rfl rfl (aI c3)) rfl (Xd _ _ H.ro pk.1 l[k].head _ _ _ _ _ _ (by obtain ⟨_,_,_,_,_,_,_,e,_,_,_,_,hh,_⟩:=vC c2;rw [e];exact hh.mono hG) (FN.mono fun b o h=>hG b o (zH b o (Cy b o (oK b o h))))) rfl ?_;clear H;rintro v78 G78 a w rfl QG H;exact fin H QG (rfl)
            clear H;intro a w G jO H hv;have H:=H.aO (hv 27 52 rfl rfl) rfl;clear hv;refine aG ⟨rfl,?_⟩;refine ⟨(_,_),sB,?_⟩;(try dsimp only);refine ⟨fun h=>by first|exact absurd h (by decide)|exact ⟨c1,c2,c3,lX h⟩,fun h=>?_,jO⟩
            first
              | exact absurd ((aI c4).symm.trans h) (by decide)
              | (rw [hos]
                 refine BU hnd fun o2 z2 e2 hj=>?_;rw [qO,hyk,FY] at hj;obtain ⟨j1,j2,j3⟩:=hj
                 first
                   | exact c1 j1
                   | (have c2':0 < (out.length:Int):=by rw [e2,jH,List.length_singleton];omega
                      obtain ⟨o,z,_,_,_,e,_,uT,_⟩:=vC c2';obtain ⟨-,ez⟩:=List.append_inj' (e2.symm.trans e) rfl
                      injection ez with ez
                      subst ez
                      first
                        | exact c2 c2'
                        | exact c3 (by rw [uT];exact j2)
                        | exact c4 (by rw [uT];exact j3)))
          refine dI hmx [[],[0],[0,1],[0,1,2],(ra 0 4),(ra 0 5),(ra 0 6),(ra 0 7),(ra 0 8),(ra 0 8),(ra 0 8++[9]),(ra 0 11),(ra 0 12),(ra 0 13),(ra 0 14),(ra 0 15),(ra 0 16),(ra 0 17),(ra 0 17),(ra 0 17++[18]),(ra 0 20),(ra 0 21),(ra 0 22),(ra 0 17),(ra 0 17++[23]),(ra 0 25),(ra 0 26),(ra 0 27)] [] (by kernel_rfl) [_,vi l[k].kind,_,_,_,_,_,_,.slice (some ⟨bo,0,none⟩) out.length vc,_,vi ((out.length - 1:Nat):Int),_,_,vi pk.2,_,_,_,undef,undef,undef,undef,undef,undef,undef,undef,undef,_,_] H (aC (Z0 rfl (Rf Az rfl)) (Z1 0 53 rfl (Ro bH 0 rfl)) (Z1 1 54 rfl (Rc rfl)) (Z1 2 55 rfl (Rm rfl)) (aC (Z1 3 56 rfl (YM (aI c1) rfl)) (Z2 4 57 3 56 rfl (YC (aI c1) rfl)) (Z2 3 56 5 58 rfl (Pt (aI c1) rfl)) (Z1 6 59 rfl (Rm rfl)) (aC ?_ (Z1 7 60 rfl (YM (aI c2) rfl)) ?_ (Z3 8 61 10 63 7 60 rfl (YI mQ dR (aI c2) rfl rfl)) (aC (Z2 11 64 7 60 rfl (YF Az (aI c2) rfl)) ?_ (Z2 13 66 7 60 rfl (YC (aI c2) rfl)) (Z2 7 60 14 67 rfl (Pt (aI c2) rfl)) (aC (Z1 15 68 rfl (Rm rfl)) (aQ 16 (aY c3) rfl rfl) (aQ 16 (aY c3) rfl rfl) (aQ 16 (aY c3) rfl rfl) (aC (aQ 16 (aY c3) rfl rfl) (aQ 16 (aY c3) rfl rfl) (aQ 16 (aY c3) rfl rfl) (aQ 16 (aY c3) rfl rfl) (aC (aQ 16 (aY c3) rfl rfl) (aQ 16 (aY c3) rfl rfl) (Z2 16 69 25 78 rfl (Pf (aY c3) rfl)) (Z1 26 79 rfl (Ra rfl)) dw))))))) ?_
          · refine dJ 7 60 rfl rfl fun _ a w G1 hG HT H fin=>?_;refine aH 1 H ?_;clear H;intro a H;exact fin H iJ (by show _=_;first|rfl|exact aB (fun A=>Value.slice A out.length vc) (Jg c2))
          · refine dL 9 62 7 60 rfl rfl fun _ a w G1 hG HT H fin=>?_;refine lJ _ H (wg H rfl rfl (aI c2)) rfl rfl rfl (by omega) (by omega) rfl ?_;clear H;intro a H;exact fin H iJ (by show _=_;first|rfl|exact aB vi (by omega))
          · refine dL 12 65 7 60 rfl rfl fun _ a w G1 hG HT H fin=>?_;obtain ⟨_,_,_,_,_,_,rfl,_,_,_,_,_,_,_,_,hx⟩:=vC c2;refine kX bH H (wg H rfl rfl (aI c2)) rfl (hrw.at H.hp (fun x hx=>gL _ hx) (by rw [fQ];exact hx 0 _ rfl)) rfl ?_;clear H;intro a H;exact fin H iJ rfl
          clear H;intro a w G jO H hv;have H:=H.aO (hv 27 52 rfl rfl) rfl;clear hv;refine aG ⟨rfl,?_⟩;refine ⟨(_,_),sB,?_⟩;(try dsimp only);refine ⟨fun h=>by first|exact absurd h (by decide)|exact ⟨c1,c2,c3,lX h⟩,fun h=>?_,jO⟩
          first
            | exact absurd ((aI c4).symm.trans h) (by decide)
            | (rw [hos]
               refine BU hnd fun o2 z2 e2 hj=>?_;rw [qO,hyk,FY] at hj;obtain ⟨j1,j2,j3⟩:=hj
               first
                 | exact c1 j1
                 | (have c2':0 < (out.length:Int):=by rw [e2,jH,List.length_singleton];omega
                    obtain ⟨o,z,_,_,_,e,_,uT,_⟩:=vC c2';obtain ⟨-,ez⟩:=List.append_inj' (e2.symm.trans e) rfl
                    injection ez with ez
                    subst ez
                    first
                      | exact c2 c2'
                      | exact c3 (by rw [uT];exact j2)
                      | exact c4 (by rw [uT];exact j3)))
        refine dI hmx [[],[0],[0,1],[0,1,2],(ra 0 4),(ra 0 5),(ra 0 6),(ra 0 7),(ra 0 8),(ra 0 8),(ra 0 8++[9]),(ra 0 11),(ra 0 12),(ra 0 13),(ra 0 14),(ra 0 15),(ra 0 16),(ra 0 17),(ra 0 17),(ra 0 17++[18]),(ra 0 20),(ra 0 21),(ra 0 22),(ra 0 17),(ra 0 17++[23]),(ra 0 25),(ra 0 26),(ra 0 27)] [] (by kernel_rfl) [_,vi l[k].kind,_,_,_,_,_,_,undef,undef,undef,undef,undef,undef,undef,_,_,undef,undef,undef,undef,undef,undef,undef,undef,undef,_,_] H (aC (Z0 rfl (Rf Az rfl)) (Z1 0 53 rfl (Ro bH 0 rfl)) (Z1 1 54 rfl (Rc rfl)) (Z1 2 55 rfl (Rm rfl)) (aC (Z1 3 56 rfl (YM (aI c1) rfl)) (Z2 4 57 3 56 rfl (YC (aI c1) rfl)) (Z2 3 56 5 58 rfl (Pt (aI c1) rfl)) (Z1 6 59 rfl (Rm rfl)) (aC (aQ 7 (aY c2) rfl rfl) (aQ 7 (aY c2) rfl rfl) (aQ 7 (aY c2) rfl rfl) (aQ 7 (aY c2) rfl rfl) (aC (aQ 7 (aY c2) rfl rfl) (aQ 7 (aY c2) rfl rfl) (aQ 7 (aY c2) rfl rfl) (Z2 7 60 14 67 rfl (Pf (aY c2) rfl)) (aC (Z1 15 68 rfl (Rm rfl)) (aQ 16 rfl rfl rfl) (aQ 16 rfl rfl rfl) (aQ 16 rfl rfl rfl) (aC (aQ 16 rfl rfl rfl) (aQ 16 rfl rfl rfl) (aQ 16 rfl rfl rfl) (aQ 16 rfl rfl rfl) (aC (aQ 16 rfl rfl rfl) (aQ 16 rfl rfl rfl) (Z2 16 69 25 78 rfl (Pf rfl rfl)) (Z1 26 79 rfl (Ra rfl)) dw))))))) ?_
        clear H;intro a w G jO H hv;have H:=H.aO (hv 27 52 rfl rfl) rfl;clear hv;refine aG ⟨rfl,?_⟩;refine ⟨(_,_),sB,?_⟩;(try dsimp only);refine ⟨fun h=>by first|exact absurd h (by decide)|exact ⟨c1,c2,c3,lX h⟩,fun h=>?_,jO⟩
        first
          | exact absurd ((aI c4).symm.trans h) (by decide)
          | (rw [hos]
             refine BU hnd fun o2 z2 e2 hj=>?_;rw [qO,hyk,FY] at hj;obtain ⟨j1,j2,j3⟩:=hj
             first
               | exact c1 j1
               | (have c2':0 < (out.length:Int):=by rw [e2,jH,List.length_singleton];omega
                  obtain ⟨o,z,_,_,_,e,_,uT,_⟩:=vC c2';obtain ⟨-,ez⟩:=List.append_inj' (e2.symm.trans e) rfl
                  injection ez with ez
                  subst ez
                  first
                    | exact c2 c2'
                    | exact c3 (by rw [uT];exact j2)
                    | exact c4 (by rw [uT];exact j3)))
      refine dI hmx [[],[0],[0,1],[0,1,2],(ra 0 4),(ra 0 5),(ra 0 6),(ra 0 7),(ra 0 8),(ra 0 8),(ra 0 8++[9]),(ra 0 11),(ra 0 12),(ra 0 13),(ra 0 14),(ra 0 15),(ra 0 16),(ra 0 17),(ra 0 17),(ra 0 17++[18]),(ra 0 20),(ra 0 21),(ra 0 22),(ra 0 17),(ra 0 17++[23]),(ra 0 25),(ra 0 26),(ra 0 27)] [] (by kernel_rfl) [_,vi l[k].kind,_,_,undef,undef,_,_,undef,undef,undef,undef,undef,undef,undef,_,_,undef,undef,undef,undef,undef,undef,undef,undef,undef,_,_] H (aC (Z0 rfl (Rf Az rfl)) (Z1 0 53 rfl (Ro bH 0 rfl)) (Z1 1 54 rfl (Rc rfl)) (Z1 2 55 rfl (Rm rfl)) (aC (aQ 3 (aY c1) rfl rfl) (aQ 3 (aY c1) rfl rfl) (Z2 3 56 5 58 rfl (Pf (aY c1) rfl)) (Z1 6 59 rfl (Rm rfl)) (aC (aQ 7 rfl rfl rfl) (aQ 7 rfl rfl rfl) (aQ 7 rfl rfl rfl) (aQ 7 rfl rfl rfl) (aC (aQ 7 rfl rfl rfl) (aQ 7 rfl rfl rfl) (aQ 7 rfl rfl rfl) (Z2 7 60 14 67 rfl (Pf rfl rfl)) (aC (Z1 15 68 rfl (Rm rfl)) (aQ 16 rfl rfl rfl) (aQ 16 rfl rfl rfl) (aQ 16 rfl rfl rfl) (aC (aQ 16 rfl rfl rfl) (aQ 16 rfl rfl rfl) (aQ 16 rfl rfl rfl) (aQ 16 rfl rfl rfl) (aC (aQ 16 rfl rfl rfl) (aQ 16 rfl rfl rfl) (Z2 16 69 25 78 rfl (Pf rfl rfl)) (Z1 26 79 rfl (Ra rfl)) dw))))))) ?_
      clear H;intro a w G jO H hv;have H:=H.aO (hv 27 52 rfl rfl) rfl;clear hv;refine aG ⟨rfl,?_⟩;refine ⟨(_,_),sB,?_⟩;(try dsimp only);refine ⟨fun h=>by first|exact absurd h (by decide)|exact ⟨c1,c2,c3,lX h⟩,fun h=>?_,jO⟩
      first
        | exact absurd ((aI c4).symm.trans h) (by decide)
        | (rw [hos]
           refine BU hnd fun o2 z2 e2 hj=>?_;rw [qO,hyk,FY] at hj;obtain ⟨j1,j2,j3⟩:=hj
           first
             | exact c1 j1
             | (have c2':0 < (out.length:Int):=by rw [e2,jH,List.length_singleton];omega
                obtain ⟨o,z,_,_,_,e,_,uT,_⟩:=vC c2';obtain ⟨-,ez⟩:=List.append_inj' (e2.symm.trans e) rfl
                injection ez with ez
                subst ez
                first
                  | exact c2 c2'
                  | exact c3 (by rw [uT];exact j2)
                  | exact c4 (by rw [uT];exact j3)))
    clear H;rintro ⟨jb,g9⟩ a w hI H;dsimp only at hI H;obtain ⟨hjy,hjn,zF⟩:=hI;have aiF:=LP.mono zF;have zK:=Yu.mono zF;have X4:∀ b o,G b=some o→g9 b=some o:=fun b o h=>zF b o (XZ b o h);dsimp only [lca,aR] at H;refine dN 0 H ?_ ?_ <;> clear H
    · intro p52
      obtain ⟨c1,c2,c3,c4⟩:=hjy (by assumption);obtain ⟨oo,z,x0,zf,zr,Mg,rfl,rfl,rfl,hxs,hxl,hc0,hhz,hfz,hrz,hxj⟩:=vC c2
      have Mx:z.text.size≤kg out:=by
        rw [Mg,EF];simp only [kg];omega
      obtain ⟨cur,-,rfl,hcur,hset⟩:=hrw.set1;intro a H;refine dI hmx [[],[],[1],[0,1,2],(ra 0 4),(ra 0 5),[],[6],(ra 0 8),(ra 0 9),(ra 0 10),(ra 0 11)] [9,10,11] (by kernel_rfl) [_,_,vi ((out.length - 1:Nat):Int),_,_,.string z.text,_,.string l[k].text,.string (z.text++l[k].text)] H (aC (Z0 rfl (Rm rfl)) (Z0 rfl (Rm rfl)) ?_ (Z2 0 80 2 82 rfl (Ri mQ dR rfl rfl)) (aC (Z1 3 83 rfl (Rf KP rfl)) ?_ (Z0 rfl (Rf KP rfl)) (Z1 6 86 rfl (Ro lN 0 rfl)) (aC ?_ (bP rfl) (bP rfl) (bP rfl) dw))) ?_
      · refine dJ 1 81 rfl rfl fun _ a w G1 hG HT H fin=>?_;refine aH 1 H ?_;clear H;intro a H;exact fin H iJ (by show _=_;first|rfl|exact aB vi (by omega))
      · refine dJ 4 84 rfl rfl fun _ a w G1 hG HT H fin=>?_;refine kX lN H wn rfl (hrw.at H.hp (fun x hx=>gL _ hx) (by rw [fQ];exact hxj 3 _ rfl)) rfl ?_;clear H;intro a H;exact fin H iJ rfl
      · refine dL 5 85 7 87 rfl rfl fun _ a w G1 hG HT H fin=>?_;refine anj H wn rfl rfl (by omega) rfl ?_;clear H;intro a H;exact fin H iJ rfl
      clear H;intro a w G mM H hv;have H:=H.aO (hv 0 80 rfl rfl) rfl;have H:=H.aO (hv 2 82 rfl rfl) rfl;have H:=H.aO (hv 8 88 rfl rfl) rfl;clear hv;refine kH H (Ri mQ dR rfl rfl (Rf KP rfl ?_));clear H;intro a H;refine aV lN 1 (c:=cur) (vs:=[.string (z.text++l[k].text)]) (cur.set ((out.length - 1)*11+3) (.string (z.text++l[k].text))) H wn rfl rfl rfl rfl rfl rfl (by simp;omega) (by rw [fQ];rfl) ?_;clear H;intro w H;dsimp only [List.set] at H;have ajS:=hset ((out.length - 1)*11+3) (.string (z.text++l[k].text))
      have Yj:qQ l (k+1)=oo++[oP z y]:=by rw [hos,Mg];exact Ke hnd ⟨by rw [hyk];exact c1,c3,by rw [FY];exact c4⟩
      refine aG ⟨rfl,?_⟩;refine dG ?_;refine eB 3 H ?_;clear H;intro a H;refine aG ?_;refine dH ((k+1,_,xs.set ((out.length - 1)*11+3) (.string (z.text++l[k].text)),_,_)) (by exact (H.cu (Pl:=[_]) (bS:=[]) [] (by decide) rfl).sub ⟨rfl,rfl,rfl,rfl,bB⟩) ?_ ?_
      · (try dsimp only);exact ⟨by omega,by rw [Yj,show (oo++[oP z y]).length=out.length by rw [Mg];simp];exact ajS,by rw [Yj,hxs,Mg];exact joined (hc0.mono fun b o h=>mM b o (zF b o h)) hxl (hhz.mono fun b o h=>mM b o (zF b o h)) (hfz.mono fun b o h=>mM b o (zF b o h)) (hrz.mono fun b o h=>mM b o (zF b o h)) (by rw [Jh]),fun b o h=>mM b o (X4 b o h)⟩
      first|omega|(dsimp only;omega)
    intro p52
    have hnx:=hjn (by assumption);refine ak 2 ?_;intro a H;refine bg dR (cs:=[_,_,_,_,_,_,_,_,_,_,_]) H wn rfl rfl (H.hp.cK 0 rfl rfl) rfl ?_;clear H;intro a H;refine gK mQ dR [_,_,_,_,_,_,_,_,_,_,_] [_,_,_,_,_,_,_,_,_,_,_] H wn rfl rfl rfl rfl rfl (by intro i q h;match i,h with|0,h=>exact h|n+1,h=>simp at h) rfl rfl ?_;clear H;intro b30 a w aqo H;refine nU (Li:=[_,_]) (Lo:=Lo) (news:=Pb) mQ dR rfl rfl H wn rfl rfl hrw (by rw [LU];rfl) (by rw [LU];exact H.hp.cK 0 rfl rfl) Yu.one (by omega) (by omega) rfl ?_;clear H;intro v31 abV a w ajM H;refine aH 5 H ?_;clear H;intro a H;refine aG ?_;refine dH ((k+1,v31,xs++Pb,abV,_)) (by exact (H.cu (Pl:=[_,_]) (bS:=[]) [] (by decide) rfl).sub ⟨rfl,rfl,rfl,rfl,bB⟩) ?_ ?_
    · (try dsimp only);exact ⟨by omega,by rw [hnx,jH];exact ajM,by rw [hnx,nG];exact (aiF.snoc zK (by rw [LU];rfl)),X4⟩
    first|omega|(dsimp only;omega)
  intro nk
  refine ak 1 ?_
  obtain rfl:k=l.length:=by omega
  intro a H;obtain ⟨G',hm,hrep,H⟩:=H.rG (Li:=[]) hrw (rows:=out.map au.dat) (by simp) eD;refine uU 4 H ?_;rw [kV,← hout];exact hrep
theorem ZL:∀ n:Nat,n≤1073741825→DC n
 | 0,_=>fun _ _ _ _ _ _ _ h=>absurd h (by omega)
 | n+1,hn=>alP (ZL n (by omega)) (by omega)
theorem alS (G:GH) (w0:World) (hG:Hold G w0) (l:List au) (v:aj) (hv:av G (.sl 11 (l.map au.dat)) v) (hne:tK l) (hz:aZ l≤1073741824) :
  Calls prog 62 #[v] w0 (bD w0 G fun u G'=>av G' (.sl 11 ((kV l).map au.dat)) u):=ZL 1073741825 (by omega) G w0 hG l v hv hne (by omega)
end
section
open Go.RowKit
section
variable {N:Nat} {D:List Deferred} {w0:World} {F:Nat→Prop} {G0 G:GH} {L:OL} {T:List (Nat × aj)}
variable {r:Option Nat} {P:Program} {ops:Array Oper} {Q:Exit→Act→World→Prop} {rest:List Oper} {a:Act} {w:World}
variable {d:Nat} {ty:TypeId} {pos:String} {aK:Array Edge} {g:Option (Nat × Bool)}
end
end
section
open Go.RowKit
def Zj:Go.Shelf.Ren:=⟨fun|7=>59|10=>111|n=>n,fun|0=>0|3=>4|4=>4|23=>96|26=>3|27=>118|28=>119|33=>172|n=>n,fun n=>n⟩
theorem Zi:Go.Proofs.SlLaysZI.n7 prog Zj where
 mixed:=by kernel_rfl
 f7:=⟨f59.name,by kernel_rfl,func59.trans (aB some (by kernel_rfl))⟩
 f10:=⟨f111.name,by kernel_rfl,func111.trans (aB some (by kernel_rfl))⟩
 t0:=underlying0
 a0:=isAgg0
 z0:=sizeOf0
 v0:=zeroValue0
 t4:=underlying4
 a4:=isAgg4
 z4:=sizeOf4
 v4:=zeroValue4
 t23:=underlying96
 a23:=isAgg96
 z23:=sizeOf96
 v23:=zeroValue96
 t26:=underlying3
 a26:=isAgg3
 z26:=sizeOf3
 v26:=zeroValue3
 t27:=underlying118
 a27:=isAgg118
 z27:=sizeOf118
 v27:=zeroValue118
 t28:=underlying119
 a28:=isAgg119
 z28:=sizeOf119
 v28:=zeroValue119
 t33:=underlying172
 a33:=isAgg172
 z33:=sizeOf172
 v33:=zeroValue172
def aaK:Go.Shelf.Ren:=⟨fun|6=>58|8=>109|9=>110|11=>165|n=>n,fun|0=>0|24=>52|26=>3|28=>119|33=>172|n=>n,fun n=>n⟩
theorem aoz:Go.Proofs.SlLaysZI.n6 prog aaK where
 mixed:=by kernel_rfl
 f6:=⟨f58.name,by kernel_rfl,func58.trans (aB some (by kernel_rfl))⟩
 f8:=⟨f109.name,by kernel_rfl,func109.trans (aB some (by kernel_rfl))⟩
 f11:=⟨f165.name,by kernel_rfl,func165.trans (aB some (by kernel_rfl))⟩
 t0:=underlying0
 a0:=isAgg0
 z0:=sizeOf0
 v0:=zeroValue0
 t24:=underlying52
 a24:=isAgg52
 z24:=sizeOf52
 v24:=zeroValue52
 t26:=underlying3
 a26:=isAgg3
 z26:=sizeOf3
 v26:=zeroValue3
 t28:=underlying119
 a28:=isAgg119
 z28:=sizeOf119
 v28:=zeroValue119
 i26:=by kernel_rfl
def aoy:Go.Shelf.Ren:=⟨fun|5=>110|7=>166|8=>167|10=>207|11=>208|12=>209|13=>210|14=>211|15=>212|16=>118|17=>213|18=>214|19=>215|20=>216|30=>228|31=>229|32=>230|33=>231|34=>232|35=>173|40=>237|n=>n,fun|0=>0|3=>3|4=>4|5=>5|9=>9|22=>52|23=>52|25=>3|32=>65|35=>268|36=>269|41=>128|44=>275|46=>62|53=>293|57=>79|63=>302|64=>303|n=>n,fun n=>n⟩
theorem aaJ:Go.Proofs.SlLaysM.n5 prog aoy where
 mixed:=by kernel_rfl
 f5:=⟨f110.name,by kernel_rfl,func110.trans (aB some (by kernel_rfl))⟩
 f7:=⟨f166.name,by kernel_rfl,func166.trans (aB some (by kernel_rfl))⟩
 f8:=func167.trans (aB some (by kernel_rfl))
 f10:=⟨f207.name,by kernel_rfl,func207.trans (aB some (by kernel_rfl))⟩
 f11:=⟨f208.name,by kernel_rfl,func208.trans (aB some (by kernel_rfl))⟩
 f12:=⟨f209.name,by kernel_rfl,func209.trans (aB some (by kernel_rfl))⟩
 f13:=⟨f210.name,by kernel_rfl,func210.trans (aB some (by kernel_rfl))⟩
 f14:=⟨f211.name,by kernel_rfl,func211.trans (aB some (by kernel_rfl))⟩
 f15:=⟨f212.name,by kernel_rfl,func212.trans (aB some (by kernel_rfl))⟩
 f16:=⟨f118.name,by kernel_rfl,func118.trans (aB some (by kernel_rfl))⟩
 f17:=⟨f213.name,by kernel_rfl,func213.trans (aB some (by kernel_rfl))⟩
 f18:=⟨f214.name,by kernel_rfl,func214.trans (aB some (by kernel_rfl))⟩
 f19:=func215.trans (aB some (by kernel_rfl))
 f20:=func216.trans (aB some (by kernel_rfl))
 f30:=⟨f228.name,by kernel_rfl,func228.trans (aB some (by kernel_rfl))⟩
 f31:=func229.trans (aB some (by kernel_rfl))
 f32:=func230.trans (aB some (by kernel_rfl))
 f33:=⟨f231.name,by kernel_rfl,func231.trans (aB some (by kernel_rfl))⟩
 f34:=⟨f232.name,by kernel_rfl,func232.trans (aB some (by kernel_rfl))⟩
 f35:=⟨f173.name,by kernel_rfl,func173.trans (aB some (by kernel_rfl))⟩
 f40:=⟨f237.name,by kernel_rfl,func237.trans (aB some (by kernel_rfl))⟩
 t0:=underlying0
 a0:=isAgg0
 z0:=sizeOf0
 v0:=zeroValue0
 t3:=underlying3
 a3:=isAgg3
 z3:=sizeOf3
 v3:=zeroValue3
 t4:=underlying4
 a4:=isAgg4
 z4:=sizeOf4
 v4:=zeroValue4
 t5:=underlying5
 a5:=isAgg5
 z5:=sizeOf5
 v5:=zeroValue5
 t9:=underlying9
 a9:=isAgg9
 z9:=sizeOf9
 v9:=zeroValue9
 t22:=underlying52
 a22:=isAgg52
 z22:=sizeOf52
 v22:=zeroValue52
 t23:=underlying52
 a23:=isAgg52
 z23:=sizeOf52
 v23:=zeroValue52
 t25:=underlying3
 a25:=isAgg3
 z25:=sizeOf3
 v25:=zeroValue3
 t32:=underlying65
 a32:=isAgg65
 z32:=sizeOf65
 v32:=zeroValue65
 t35:=underlying268
 a35:=isAgg268
 z35:=sizeOf268
 v35:=zeroValue268
 t36:=underlying269
 a36:=isAgg269
 z36:=sizeOf269
 v36:=zeroValue269
 t41:=underlying128
 a41:=isAgg128
 z41:=sizeOf128
 v41:=zeroValue128
 t44:=underlying275
 a44:=isAgg275
 z44:=sizeOf275
 v44:=zeroValue275
 t46:=underlying62
 a46:=isAgg62
 z46:=sizeOf62
 v46:=zeroValue62
 t53:=underlying293
 a53:=isAgg293
 z53:=sizeOf293
 v53:=zeroValue293
 t57:=underlying79
 a57:=isAgg79
 z57:=sizeOf79
 v57:=zeroValue79
 t63:=underlying302
 a63:=isAgg302
 z63:=sizeOf302
 v63:=zeroValue302
 t64:=underlying303
 a64:=isAgg303
 z64:=sizeOf303
 v64:=zeroValue303
end
section
open Go.RowKit Go.Maps
theorem aeF:∀ args w,(callFunc 110 args).run prog w=.ok (.enter 110 args) w:=enters func110 rfl (by kernel_rfl)
theorem aeG:∀ args w,(callFunc 111 args).run prog w=.ok (.enter 111 args) w:=enters func111 rfl (by kernel_rfl)
theorem ajv {G:GH} {w:World} (h:Hold G w) {b:Nat} (hb:w.heap.size≤b):G b=none:=by
 cases hg:G b with
 | none=>rfl
 | some o=>exact absurd (lt_of_heap (h b o hg)) (by omega)
theorem Xf {G:GH} {w w':World} (h:Hold G w) (hb:Below w.heap.size w w') {b:Nat} {o:Obj} (hn:w.heap.size≤b) (ho:w'.heap[b]?=some o):Ext w.heap.size G (G.add b o) w':=by
 refine ⟨fun k o' hk=>GH.EY G (ajv h hn) k o' hk,fun k o' hk=>?_,fun k o' hk=>?_⟩
 ·unfold GH.add at hk
  split at hk
  ·rename_i e;exact .inr (e ▸ hn)
  exact .inl hk
 unfold GH.add at hk
 split at hk
 ·rename_i e;rw [e,ho,hk]
 exact (hb.block k (lt_of_heap (h k o' hk))).trans (h k o' hk)
theorem alm (G:GH) (w0:World) (hG:Hold G w0) (mb:Option Nat) :
  Calls prog 59 #[.map mb] w0 (bD w0 G fun u G'=>∃ bx,u=.func (.func 111) #[] #[(aD bx 0)]∧G' bx=some (.cells #[.map mb] 96 (0,0))):=by
 have h:CallsIn Fence.wide 5 prog 59 #[.map mb] w0 fun e w'=>e=.returned (.func (.func 111) #[] #[(aD w0.heap.size 0)])∧w'=w0.alloc (.cells #[.map mb] 96):=AnyZI.keys_in Zi Fence.wide 5 trivial rfl mb w0;refine ((callsIn_wide (n:=5)).1 h).mono ?_;rintro e w' ⟨rfl,rfl⟩;have hb:Below w0.heap.size w0 (w0.alloc (.cells #[.map mb] 96)):=(Below.refl _ w0).alloc (bN _) _;exact ⟨_,_,rfl,hb,Xf hG hb (bN _) (show (w0.heap.push _)[w0.heap.size]?=_ by simp),_,rfl,GH.EZ _ _ _⟩
def EB (_:aj):Option (DataW Unit × List MemPlace):=some (.nil,[])
theorem amc {w:World} {b clock:Nat} {es:Array MapEntry} {l:List Int} (hb:w.heap[b]?=some (.map es clock)) (hs:MapKept.Stamped es clock) (hk:es.toList.map (·.key)=l.map (Value.int .i64)) (hw:∀ k∈l,-9223372036854775808≤k∧k < 9223372036854775808) (hl:l.length≤4294967296) :
  ∃ D:DataW Unit,w.ownsMap prog 3 EB b l.length D∧(intKeys D).Perm l∧Maps.size D=l.length:=by
 have hlen:es.size=l.length:=by
  have:=aB List.length hk
  simpa using this
 have hml:maxLen=9223372036854775807:=rfl
 have hr:∀ x∈es.toList,∃ k∈l,Go.WideElems.rd prog 3 EB x=some (.int .i64 k,.nil):=by
  intro x hx
  have h1:x.key∈l.map (Value.int .i64):=by rw [← hk];exact List.mem_map_of_mem hx
  obtain ⟨k,h2,h3⟩:=List.mem_map.1 h1;obtain ⟨h4,h5⟩:=hw k h2
  have hwf:(Lit.int .i64 k).wf=true:=by
   show (decide (IntKind.i64.min≤k) && decide (k≤IntKind.i64.max))=true
   rw [show IntKind.i64.min=-9223372036854775808 by decide,show IntKind.i64.max=9223372036854775807 by decide]
   simp;omega
  refine ⟨k,h2,?_⟩
  unfold Go.WideElems.rd
  rw [← h3]
  have h6:keyOf prog 3 (.int .i64 k)=some (.int .i64 k):=by
   unfold keyOf mapKey
   rw [underlying3]
   simp [hwf]
  rw [h6]
  rfl
 refine ⟨_,⟨es,clock,hb,⟨by omega,hs,fun x hx=>?_⟩,by omega,rfl⟩,?_,?_⟩
 ·obtain ⟨k,-,h⟩:=hr x hx;exact ⟨_,h⟩
 ·show (((es.toList.map (Go.WideElems.rg prog 3 EB)).foldr DataW.insert []).map fun p=>Go.intOf p.1).Perm l
  refine ((Go.WideShapes.sorted_perm _).map _).trans ?_;rw [List.map_map]
  have h1:es.toList.map ((fun p:Lit × DataW Unit=>Go.intOf p.1) ∘ Go.WideElems.rg prog 3 EB)=l:=by
   have h2:es.toList.map ((fun p:Lit × DataW Unit=>Go.intOf p.1) ∘ Go.WideElems.rg prog 3 EB)=(es.toList.map (·.key)).map fun v=>match v with|.int _ a=>a|_=>0:=by
    rw [List.map_map];refine List.map_congr_left fun x hx=>?_;obtain ⟨k,hkl,h⟩:=hr x hx
    obtain ⟨k',h3,h4⟩:∃ k',Go.WideElems.rd prog 3 EB x=some (.int .i64 k',.nil)∧x.key=.int .i64 k':=by
     have h5:x.key∈l.map (Value.int .i64):=by rw [← hk];exact List.mem_map_of_mem hx
     obtain ⟨k',h6,h7⟩:=List.mem_map.1 h5;refine ⟨k,h,?_⟩;have h8:=Go.WideElems.rd_key h;obtain ⟨z,h9,h10,-⟩:=Maps.keyOf_i64 underlying3 h8
     cases h10
     exact h9
    simp only [Function.comp,Go.WideElems.rg_of h3,h4,Go.intOf]
   rw [h2,hk,List.map_map]
   simp [Function.comp_def]
  rw [h1]
 show ((es.toList.map (Go.WideElems.rg prog 3 EB)).foldr DataW.insert []).length=_
 rw [(Go.WideShapes.sorted_perm _).length_eq,bO,sG,hlen]
theorem aoB (m:Nat):AnyZI.SortsIn prog aaK Fence.wide m :=
  ⟨fun blk off cap ss W hH hblk hsz=>callsIn_wide.2 (AnyM.slices_Sort_int aaJ blk off cap ss W hH hblk hsz),
   fun p cap W=>callsIn_wide.2 (AnyM.slices_Sort_int_none aaJ p cap W)⟩
def rW (l:List Int):List Int:=l.mergeSort leI
theorem aoA (G:GH) (w0:World) (hG:Hold G w0) (b bx clock:Nat) (es:Array MapEntry) (l:List Int) (hbx:G bx=some (.cells #[.map (some b)] 96 (0,0))) (hb:w0.heap[b]?=some (.map es clock)) (hs:MapKept.Stamped es clock) (hk:es.toList.map (·.key)=l.map (Value.int .i64))
  (hw:∀ k∈l,-9223372036854775808≤k∧k < 9223372036854775808) (hl:l.length≤4294967296) :
  Calls prog 58 #[.func (.func 111) #[] #[(aD bx 0)]] w0 (bD w0 G fun u G'=>av G' (.sl 1 ((rW l).map fun k=>[li k])) u):=by
 obtain ⟨D0,hown,hperm,hsize⟩:=amc hb hs hk hw hl;have hml:maxLen=9223372036854775807:=rfl
 have hseq:SeqGives Fence.wide 2 prog 111 #[(aD bx 0)] encZ (fun ss=>ss.Perm (intKeys D0)) (Maps.size D0) w0 :=
  AnyZI.keys_gives (ρ:=Zj) { Zi with } Fence.wide _ trivial rfl (by omega) bx b l.length D0 _ (lt_of_heap (hG _ _ hbx)) (by simp [World.cell?,hG _ _ hbx]) hown
 have cS:=AnyZI.sorted_in aoz Fence.wide 5 trivial trivial trivial trivial rfl (by omega) (aoB _) aeF 111 #[(aD bx 0)] trivial aeG _ _ (by omega) (by omega) _ hseq
 change CallsIn _ _ prog 58 _ _ _ at cS
 refine ((callsIn_wide (n:=5)).1 cS).mono ?_;rintro e w' ⟨v,ss,rfl,hS,hrow,-,hbel⟩;have hS2:ss.mergeSort (fun x y=>decide (x≤y))=rW l:=mergeSort_of_perm_i (hS.trans hperm);rw [hS2] at hrow
 have hlen:ss.length=(rW l).length:=by rw [rW,List.length_mergeSort,hS.length_eq,hperm.length_eq]
 have eD:∀ (G1:GH) (xs:List Int),bE G1 1 (xs.map fun k=>[li k]) (xs.map encZ):=by
  intro G1 xs
  induction xs with
  | nil=>exact bE.nil
  | cons x xs ih =>
   have h8:=((bE.nil (G:=G1) (sz:=1)).snoc (q:=[li x]) (cs:=[encZ x]) (by simp [aN,av,li,Value.oneCell']) rfl).append ih
   simpa using h8
 rcases hrow.2 with ⟨rfl,hz⟩|⟨gb,cap,cur,rfl,hbase,hgb,r1,r2,r3,r4⟩
 ·refine ⟨_,G,rfl,hbel,⟨fun _ _ h=>h,fun _ _ h=>.inl h,fun k o hk=>(hbel.block k (lt_of_heap (hG k o hk))).trans (hG k o hk)⟩,?_⟩;rw [List.eq_nil_of_length_eq_zero (by omega:(rW l).length=0)]
  simp only [av]
  exact ⟨none,0,by simp,by simp,by simp [maxLen],fun h=>absurd rfl h⟩
 exact ⟨_,_,rfl,hbel,Xf hG hbel hbase hgb,av.dZ (GH.EZ G gb _) (by simp [hlen]) r1 r2 (by simpa using r4) (eD _ _)⟩
end
section
open Go.RowKit
abbrev iq (l:List Int):List (Int × aj):=l.map fun q=>(q,.bool true)
theorem aaE (l:List Int):(iq l).map (·.1)=l:=by rw [List.map_map];simp [Function.comp_def]
theorem anZ (l r:List Int):iq (l++r)=iq l++iq r:=nG
theorem SK:∀ (i:Nat) (l:List (Int × aj)),(gJ i l).map (·.key)=l.map fun x=>Value.int .i64 x.1
 | _,[]=>rfl
 | i,(k,v) :: r=>by rw [gJ,eu,eu,SK (i+1) r]
theorem SI:∀ (i:Nat) (l:List (Int × aj)),(gJ i l).map (·.born)=List.range' i l.length
 | _,[]=>rfl
 | i,(k,v) :: r=>by rw [gJ,eu,SI (i+1) r];rfl
theorem Zv:∀ (i n:Nat) (l:List (Int × aj)),(gJ i l)[n]?=(l[n]?).map fun x=>⟨.int .i64 x.1,x.2,i+n⟩
 | _,_,[]=>rfl
 | i,0,(k,v) :: r=>rfl
 | i,n+1,(k,v) :: r=>by rw [gJ,List.getElem?_cons_succ,List.getElem?_cons_succ,Zv (i+1) n r,show i+1+n=i+(n+1) by omega]
theorem alk {l:List (Int × aj)} (h:(l.map (·.1)).Nodup):MapKept.Stamped (gJ 0 l).toArray l.length:=by
 refine ⟨fun x hx=>?_,?_,?_⟩
 ·have h1:=List.mem_map_of_mem (f:=(·.born)) hx
  rw [SI] at h1
  have:=List.mem_range'_1.1 h1
  omega
 ·show ((gJ 0 l).map (·.born)).Nodup
  rw [SI];exact List.nodup_range'
 ·show ((gJ 0 l).map (·.key)).Nodup
  rw [SK,show (fun x:Int × aj=>Value.int .i64 x.1)=Value.int .i64 ∘ (·.1) from rfl,← List.map_map]
  exact List.pairwise_map.2 (h.imp fun hne e=>hne (by injection e))
theorem Qh (x:Int):∀ (i j:Nat) (l:List Int),∃ an,Instr.findNow (.int .i64) (.int .i64 x) (gJ i (iq l)) j=some an∧((x∈l∧∃ n,an=some (j+n,.bool true)∧l[n]?=some x)∨(x∉l∧an=none))
 | _,_,[]=>⟨none,rfl,.inr ⟨by simp,rfl⟩⟩
 | i,j,k :: r=>by
  by_cases e:k=x
  ·subst e
   exact ⟨some (j,.bool true),by simp only [iq,eu,gJ,Instr.findNow,Instr.sameNow,ay,beq_self_eq_true],.inl ⟨fH,0,rfl,rfl⟩⟩
  ·have hb:(x == k)=false:=by simp;exact fun h=>e h.symm
   obtain ⟨an,h1,h2⟩:=Qh x (i+1) (j+1) r
   refine ⟨an,by simpa only [iq,eu,gJ,Instr.findNow,Instr.sameNow,ay,hb] using h1,?_⟩
   rcases h2 with ⟨h3,n,h4,h5⟩|⟨h3,h4⟩
   ·exact .inl ⟨gL _ h3,n+1,by rw [h4,show j+1+n=j+(n+1) by omega],h5⟩
   ·exact .inr ⟨fun h=>(iQ.1 h).elim (fun h=>e h.symm) h3,h4⟩
theorem SL {α β:Type} (f:α→β):∀ (l:List α) (j:Nat),(l.eraseIdx j).map f=(l.map f).eraseIdx j
 | [],_=>rfl
 | x :: l,0=>rfl
 | x :: l,j+1=>by rw [List.eraseIdx_cons_succ,eu,eu,List.eraseIdx_cons_succ,SL f l j]
def vT (l:List Int) (x:Int):List Int:=if x∈l then l else l++[x]
theorem aci {l:List Int} {x y:Int}:y∈vT l x↔y∈l∨y=x:=by
 unfold vT
 split
 ·rename_i h
  exact ⟨.inl,fun h2=>h2.elim id fun e=>e ▸ h⟩
 ·simp
theorem acj {l:List Int} {x:Int} (h:l.Nodup):(vT l x).Nodup:=by
 unfold vT
 split
 ·exact h
 ·rename_i hx
  exact List.nodup_append.2 ⟨h,List.pairwise_singleton _ _,fun a ha b hb e=>hx (by rw [rC] at hb;rw [← hb,← e];exact ha)⟩
section
variable {N:Nat} {D:List Deferred} {w0:World} {F:Nat→Prop} {G0 G:GH} {L:OL} {T:List (Nat × aj)}
variable {r:Option Nat} {P:Program} {ops:Array Oper} {Q:Exit→Act→World→Prop} {rest:List Oper} {a:Act} {w:World}
variable {d:Nat} {ty:TypeId} {pos:String} {aK:Array Edge} {g:Option (Nat × Bool)}
theorem TQ {t kt et:TypeId} {x y z:Operand} {b i:Nat} {l:List Int} {ky:Int} (hm:P.underlying t=some (.map kt et)) (hk:P.underlying kt=some (.int .i64)) (H:St N D w0 F G0 G L T a w)
  (hw:Region.wanted ⟨none,.mapUpdate t x y z,ty,pos,aK,g⟩ (yielded ops a.tmps)=true) (hx:ev T x=some (.map (some b))) (hy:ev T y=some (.int .i64 ky)) (hzv:ev T z=some (.bool true)) (hi:L[i]?=some (b,dV (iq l)))
  (k:∀ w',St N D w0 F G0 G (L.set i (b,dV (iq (vT l ky)))) T a w'→WL r P ops Q rest a w'):WL r P ops Q (⟨none,.mapUpdate t x y z,ty,pos,aK,g⟩ :: rest) a w:=by
 obtain ⟨an,hf,han⟩:=Qh ky 0 0 l
 rcases han with ⟨hm2,n,rfl,hn⟩|⟨hm2,rfl⟩
 ·have hkey:MapKept.IsKey (.int .i64) (.int .i64 ky):=by trivial
  have hb:w.heap[b]?=some (.map (gJ 0 (iq l)).toArray (iq l).length):=H.hp.own _ (kr hi)
  have h1:=MapKept.run_checkKey (P:=P) (w:=w) hk hkey false 9999
  have h2:=MapKept.run_findKey (P:=P) (w:=w) (l:=(gJ 0 (iq l)).toArray.toList) hk (by simpa using hf)
  have h3:=MapKept.run_keyThatStays (P:=P) (w:=w) hkey
  have hgn:(gJ 0 (iq l))[n]?=some ⟨.int .i64 ky,.bool true,0+n⟩:=by
   rw [Zv];unfold iq;rw [nE,hn];rfl
  have hg:((gJ 0 (iq l)).toArray[n]?.map (·.key)).getD (.int .i64 ky)=.int .i64 ky:=by
   rw [List.getElem?_toArray,hgn];rfl
  have hmod:(gJ 0 (iq l)).toArray.modify n (fun e=>{ e with key:=.int .i64 ky,val:=.bool true })=(gJ 0 (iq l)).toArray:=by
   apply Array.ext_getElem?
   intro j
   rw [Array.getElem?_modify]
   by_cases hij:n=j
   ·subst hij
    rw [ay rfl,List.getElem?_toArray,hgn];rfl
   ·rw [ah hij]
  have ha:vT l ky=l:=by unfold vT;rw [ay hm2]
  rw [ha] at k
  refine UG (w':={ w with heap:=w.heap.setIfInBounds b (dV (iq l)) }) hw rfl ?_ (k _ (H.move (H.hp.upd hi (UA hb))))
  show (execOp a.eval _).run P w=.ok _ { w with heap:=w.heap.setIfInBounds b (.map (gJ 0 (iq l)).toArray (iq l).length) }
  generalize (gJ 0 (iq l)).toArray=es at hb h2 hg hmod ⊢
  simp [execOp,Instr.mapUpdate,H.ev hx,H.ev hy,H.ev hzv,dM,mE hm,MapKept.run_getObj_map hb,h1,h2,hg,h3,hmod,MapKept.run_setObj_map _ hb,Result.andThen]
 ·refine Jw hm hk H hw hx hy hzv hi (Jj (by rw [aaE];exact hm2)) fun w' H'=>k w' ?_
  have ha:vT l ky=l++[ky]:=by unfold vT;rw [ah hm2]
  rw [ha,anZ]
  exact H'
theorem anl {t kt et:TypeId} {x y:Operand} {b i:Nat} {l:List Int} {ky:Int} (hm:P.underlying t=some (.map kt et)) (hk:P.underlying kt=some (.int .i64)) (hnd:l.Nodup) (H:St N D w0 F G0 G L T a w)
  (hw:Region.wanted ⟨none,.call { callee:=.builtin .delete,args:=#[x,y],argTypes:=#[t,kt] },ty,pos,aK,g⟩ (yielded ops a.tmps)=true) (hx:ev T x=some (.map (some b))) (hy:ev T y=some (.int .i64 ky)) (hi:L[i]?=some (b,dV (iq l)))
  (k:∀ es clock w',MapKept.Stamped es clock→es.toList.map (·.key)=(l.filter fun q=>decide (q≠ky)).map (Value.int .i64)→St N D w0 F G0 G (L.set i (b,.map es clock)) T a w'→WL r P ops Q rest a w'):WL r P ops Q (⟨none,.call { callee:=.builtin .delete,args:=#[x,y],argTypes:=#[t,kt] },ty,pos,aK,g⟩ :: rest) a w:=by
 obtain ⟨an,hf,han⟩:=Qh ky 0 0 l
 have hkey:MapKept.IsKey (.int .i64) (.int .i64 ky):=by trivial
 have hb:w.heap[b]?=some (.map (gJ 0 (iq l)).toArray (iq l).length):=H.hp.own _ (kr hi)
 have hst:=alk (l:=iq l) (by rw [aaE];exact hnd)
 have hks:(gJ 0 (iq l)).toArray.toList.map (·.key)=l.map (Value.int .i64):=by
  show (gJ 0 (iq l)).map (·.key)=_
  rw [SK,List.map_map];rfl
 have h2:=fun es':Array MapEntry=>UA (o:=.map es' (iq l).length) hb
 have h3:=MapKept.run_findKey (P:=P) (w:=w) (l:=(gJ 0 (iq l)).toArray.toList) hk (by simpa using hf)
 rcases han with ⟨hm2,n,rfl,hn⟩|⟨hm2,rfl⟩
 ·have hnl:n < l.length:=(iL.1 hn).1
  have hln:l[n]=ky:=(iL.1 hn).2
  have hsz:n < (gJ 0 (iq l)).toArray.size:=by
   have:=aB List.length hks
   simp at this
   simp;omega
  have aiU:((gJ 0 (iq l)).toArray.eraseIdxIfInBounds n).toList=(gJ 0 (iq l)).toArray.toList.eraseIdx n:=by
   unfold Array.eraseIdxIfInBounds
   rw [dif_pos hsz]
   simp
  refine fq (v:=.tuple #[]) (w':={ w with heap:=w.heap.setIfInBounds b (.map ((gJ 0 (iq l)).toArray.eraseIdxIfInBounds n) (iq l).length) }) hw rfl ?_
   (k _ _ _ (MapKept.stamped_erase hst n) ?_ (H.move (H.hp.upd hi (h2 _))))
  ·generalize (gJ 0 (iq l)).toArray=es at hb h3 ⊢
   have h1:=MapKept.run_checkKey (P:=P) (w:=w) hk hkey es.isEmpty 9999
   simp [execOp,resolve,invoke,builtin,Builtin.delete_,H.ev hx,H.ev hy,dM,mE hm,MapKept.run_getObj_map hb,h1,h3,MapKept.run_setObj_map _ hb,Result.andThen]
  ·rw [aiU,SL,hks,← SL]
   congr 1
   have he:l.erase ky=l.eraseIdx n:=by
    have:=hnd.idxOf_getElem n hnl
    rw [hln] at this
    rw [← this];exact List.erase_eq_eraseIdx_of_idxOf rfl
   rw [← he,hnd.erase_eq_filter]
   exact List.filter_congr fun x _=>by by_cases h:x=ky <;> simp [h]
 ·refine fq (v:=.tuple #[]) (w':={ w with heap:=w.heap.setIfInBounds b (.map (gJ 0 (iq l)).toArray (iq l).length) }) hw rfl ?_ (k _ _ _ hst ?_ (H.move (H.hp.upd hi (h2 _))))
  ·generalize (gJ 0 (iq l)).toArray=es at hb h3 ⊢
   have h1:=MapKept.run_checkKey (P:=P) (w:=w) hk hkey es.isEmpty 9999
   simp [execOp,resolve,invoke,builtin,Builtin.delete_,H.ev hx,H.ev hy,dM,mE hm,MapKept.run_getObj_map hb,h1,h3,MapKept.run_setObj_map _ hb,Result.andThen]
  ·rw [hks,List.filter_eq_self.2 fun x hx=>iE (show ¬ x=ky from fun e=>hm2 (e ▸ hx))]
end
end
section
open Go.RowKit
theorem agp:∀ args w,(callFunc 59 args).run prog w=.ok (.enter 59 args) w:=enters func59 rfl (by kernel_rfl)
theorem agn:∀ args w,(callFunc 58 args).run prog w=.ok (.enter 58 args) w:=enters func58 rfl (by kernel_rfl)
end
section
open Go.RowKit
theorem WY:∀ args w,(callFunc 60 args).run prog w=.ok (.enter 60 args) w:=enters func60 rfl (by kernel_rfl)
theorem afV:∀ args w,(callFunc 22 args).run prog w=.ok (.enter 22 args) w:=enters func22 rfl (by kernel_rfl)
def refs (h:dh):List Int:=h.marks.ins :: (h.marks.bU.map iB.rev++h.marks.layers.map gU.rev)
def ql (K l:List Int):List Int:=l.foldl vT K
theorem Ka (K l r:List Int):ql K (l++r)=ql (ql K l) r:=List.foldl_append
theorem OB {l:List Int}:∀ {K:List Int} {y:Int},y∈ql K l↔y∈K∨y∈l:=by
 induction l with
 | nil=>intro K y;simp [ql]
 | cons x l ih =>
  intro K y
  show y∈ql (vT K x) l↔_
  rw [ih,aci,iQ,or_assoc]
theorem Vw {l:List Int}:∀ {K:List Int},K.Nodup→(ql K l).Nodup:=by
 induction l with
 | nil=>intro K h;exact h
 | cons x l ih=>intro K h;exact ih (acj h)
theorem acn {K:List Int} {x:Int} {α:Type} {f:α→Int} {A:List α} {k:Nat} (hk:k < A.length):vT (ql K (x :: (A.take k).map f)) (f A[k])=ql K (x :: (A.take (k+1)).map f):=by
 rw [gN hk,nG,← jg,Ka];rfl
theorem aco {K B:List Int} {x:Int} {α:Type} {f:α→Int} {A:List α} {k:Nat} (hk:k < A.length):vT (ql K (x :: (B++(A.take k).map f))) (f A[k])=ql K (x :: (B++(A.take (k+1)).map f)):=by
 rw [gN hk,nG,show x :: (B++((A.take k).map f++[A[k]].map f))=(x :: (B++(A.take k).map f))++[f A[k]] from by simp,Ka];rfl
abbrev zY (b3 bm:Nat) (K:List Int):OL:=[(b3,.cells #[.map (some bm)] 96 (0,0)),(bm,dV (iq K))]
theorem ZM (G:GH) (w0:World) (b3 bm:Nat) (K:List Int) (h:dh) (p d y:Option Addr × Nat × Nat) (hR:gG G h (aS p) (aS d) (aS y)) (hO:fC G (zY b3 bm K) w0) :
  Calls prog 60 #[.agg #[aS p,vi h.marks.ins,vi h.marks.move,aS d,aS y],(aD b3 0)] w0 (eP w0 G (zY b3 bm K) fun _ G' L'=>L'=zY b3 bm (ql K (refs h))):=by
 obtain ⟨dA,dn,dc⟩:=d;obtain ⟨yA,yn,yc⟩:=y;have hml:maxLen=9223372036854775807:=rfl;have hd:=hR.bU;have hy:=hR.layers;dsimp only [aS] at hd hy;have e1:=hd.len;have e2:=hy.len;rw [bO] at e1 e2;subst e1 e2;obtain ⟨_,_,hu1,hd1,hd2,-⟩:=hd.slice;obtain ⟨_,_,hu2,hy1,hy2,-⟩:=hy.slice
 injection hu1 with q1 q2 q3
 subst q1 q3
 injection hu2 with q1 q2 q3
 subst q1 q3;rw [bO] at hd1 hy1;refine gB (N:=35) (T:=[(0,_),(1,_)]) func60 rfl ntmps60 rfl rfl hO ?_;refine ak 1 ?_;intro a H;refine dU (cs:=[_,_,_,_,_]) H wn rfl rfl rfl ?_;clear H;intro b2 a w hb2 H;refine aH 6 H ?_;clear H;intro a H;refine TQ (i:=2) uf jJ H wn rfl rfl rfl rfl ?_;clear H;intro w H;dsimp only [List.set] at H;refine aH 10 H ?_;clear H;intro a H;refine eO (ι:=Nat) (Tc:=[(1,_),(2,_),(13,_),(14,_)]) (Lc:=[(_,_),(_,_)]) (fun gh=>[(15,vi gh)]) (fun gh=>[(bm,dV (iq (ql K (h.marks.ins :: (h.marks.bU.take gh).map iB.rev))))]) (fun gh=>G) (fun gh=>gh≤h.marks.bU.length) (fun gh=>h.marks.bU.length - gh) (0) sB ?_ ?_
 ·exact gV _
 clear H;intro i a w hI H;have hi:=hI;dsimp only [lca,aR] at H;refine dN 4 H ?_ ?_ <;> clear H
 ·intro p16
  have hi2:i < h.marks.bU.length:=by omega
  obtain ⟨b,o,rfl,hrow⟩:=Pk hd hi2;refine ak 5 ?_;intro a H;refine bg tX (cs:=[_,_]) H wn rfl rfl (fun j v hj=>H.hp.aF (hrow j v hj)) rfl ?_;clear H;intro a H;refine dx tX H wn rfl ?_;clear H;intro b4 a w hb4 H;refine aV tX 0 (vs:=[_,_]) _ H wn rfl rfl rfl rfl rfl rfl rfl rfl ?_;clear H;intro w H;dsimp only [List.set,setRow] at H;refine aH 5 H ?_;clear H;intro a H;refine TQ (i:=3) uf jJ H wn rfl rfl rfl rfl ?_;clear H;intro w H;dsimp only [List.set] at H;rw [acn hi2] at H;refine aH 4 H ?_;clear H;intro a H;refine aG ?_;refine dH (i+1) (by exact (H.cu (Pl:=[_,_,_,_]) (bS:=[_,_,_]) [1,2,3] (by decide) rfl).sub ⟨rfl,rfl,rfl,rfl,rfl,bB⟩) ?_ ?_
  ·omega
  first|omega|(dsimp only;omega)
 intro p16
 obtain rfl:i=h.marks.bU.length:=by omega
 intro a H;rw [wW] at H;refine eB 9 H ?_;clear H;intro a H;refine eO (ι:=Nat) (Tc:=[(1,_),(25,_),(26,_)]) (Lc:=[(_,_),(_,_)]) (fun gh=>[(27,vi gh)]) (fun gh=>[(bm,dV (iq (ql K (h.marks.ins :: (h.marks.bU.map iB.rev++(h.marks.layers.take gh).map gU.rev)))))]) (fun gh=>G) (fun gh=>gh≤h.marks.layers.length) (fun gh=>h.marks.layers.length - gh) (0) (by exact (by rw [List.take_zero,uK,lY];exact (H.sub ⟨rfl,rfl,rfl,rfl,bB⟩))) ?_ ?_
 ·exact gV _
 clear H;intro k a w hI H;have hk:=hI;dsimp only [lca,aR] at H;refine dN 4 H ?_ ?_ <;> clear H
 ·intro p28
  have hk2:k < h.marks.layers.length:=by omega
  obtain ⟨b,o,rfl,hrow⟩:=Sz hy hk2;refine ak 5 ?_;intro a H;refine bg tY (cs:=[_,_,_,_]) H wn rfl rfl (fun j v hj=>H.hp.aF (hrow j v hj)) rfl ?_;clear H;intro a H;refine dx tY H wn rfl ?_;clear H;intro b6 a w hb6 H;refine aV tY 0 (vs:=[_,_,_,_]) _ H wn rfl rfl rfl rfl rfl rfl rfl rfl ?_;clear H;intro w H;dsimp only [List.set,setRow] at H;refine aH 5 H ?_;clear H;intro a H;refine TQ (i:=3) uf jJ H wn rfl rfl rfl rfl ?_;clear H;intro w H;dsimp only [List.set] at H;rw [aco hk2] at H;refine aH 4 H ?_;clear H;intro a H;refine aG ?_;refine dH (k+1) (by exact (H.cu (Pl:=[_,_,_,_]) (bS:=[_,_,_]) [1,2,3] (by decide) rfl).sub ⟨rfl,rfl,rfl,rfl,bB⟩) ?_ ?_
  ·omega
  first|omega|(dsimp only;omega)
 intro p28
 obtain rfl:k=h.marks.layers.length:=by omega
 intro a H;rw [wW] at H;refine wX ?_;refine (leave0 H results60 ?_).2;exact H.hp.bZ (L':=zY b3 bm _) (by repeat (first|exact bX _|apply List.Sublist.cons)) rfl
def Gj (d:iO):List Int:=(jS d.flow).flatMap refs++refs d.fin
def qB (d:iO):List Int:=(ql [] (Gj d)).filter fun q=>decide (q≠0)
theorem alT {G:GH} {b3 bm:Nat} {hs:List dh}:UZ prog (.func (.func 60) #[] #[(aD b3 0)]) G (hs.map D8) fun k _ L=>L=zY b3 bm (ql [] ((hs.take k).flatMap refs)):=by
 rintro k args G1 L w ⟨p,hp,h⟩ hG rfl hO;rw [nE] at hp;obtain ⟨x,hx,rfl⟩:=mV.1 hp;obtain ⟨q1,q2,q3,rfl,hR⟩:=h;obtain ⟨hk,rfl⟩:=iL.1 hx;refine jq (caps:=[(aD b3 0)]) WY ((ZM G1 w b3 bm _ hs[k] q1 q2 q3 hR hO).mono ?_);rintro e w' ⟨v,G',L',rfl,hc,rfl⟩;exact ⟨v,G',_,rfl,hc,by show zY b3 bm _=zY b3 bm (ql [] ((hs.take (k+1)).flatMap refs));rw [gN hk,List.flatMap_append,Ka];simp⟩
theorem aeo (G:GH) (w0:World) (hG:Hold G w0) (D:jy) (d:iO) (hR:qj G D d) (hz:aZ d.flow≤4294967296) (hw:∀ k∈qB d,-9223372036854775808≤k∧k < 9223372036854775808) (hl:(qB d).length≤4294967296) :
  Calls prog 22 #[D.val] w0 (bD w0 G fun u G'=>av G' (.sl 1 ((rW (qB d)).map fun k=>[li k])) u):=by
 refine eN [(0,_)] func22 rfl ntmps22 rfl rfl hG ?_;refine ak 1 ?_;intro a H;refine dU (cs:=[_,_,_,_,_,_,_,_,_,_,_]) H wn rfl rfl rfl ?_;clear H;intro b1 a w hb1 H;refine aH 2 H ?_;clear H;intro a H;obtain ⟨Ga,hma,hb1',HQ⟩:=H.dP;clear H;have H:=HQ;clear HQ;have hga:=fun j v hj=>wm hb1' 0 D.cells rfl j v hj
 have hgd:∀ j v,[aS D.p,vi d.fin.marks.ins,vi d.fin.marks.move,aS D.d,aS D.y][j]?=some v→aF Ga b1 (1+j)=some v:=fun j v hj=>by rw [← hR.ins,← hR.mv] at hj;exact wm hb1' 1 [aS D.p,vi D.ins,vi D.move,aS D.d,aS D.y] rfl j v hj
 replace hR:=hR.mono hma;refine wo ?_;refine ED H wn rfl ?_;clear H;intro b5 a w hb5 H;refine dx Dg H wn rfl ?_;clear H;intro b3 a w hb3 H;refine aV Dg 0 (vs:=[_]) _ H wn rfl rfl rfl rfl rfl rfl rfl rfl ?_;clear H;intro w H;dsimp only [List.set,setRow] at H;refine aH 2 H ?_;clear H;intro a H;refine mP H wn rfl rfl ?_;clear H;refine ak 4 ?_;intro a H;refine kX pG H wn rfl (H.hp.aF (hga 0 _ rfl)) rfl ?_;clear H;refine ak 1 ?_;intro a H;refine fB PV (Li:=[]) (L:=zY b3 b5 []) H wn rfl (XW 4294967297 (by omega) _ Ga ((jS d.flow).map D8) (fun k _ L=>L=zY b3 b5 (ql [] (((jS d.flow).take k).flatMap refs))) Ga _ _ 0 d.flow _ (fun _ _ h=>h) alT (fun _ _ _ _ _ h=>h) rfl (Hp.owns (Li:=[]) H.hp) hR.fl (by omega) (fun i a h=>by rw [fQ,nE,h];rfl)) rfl ?_;clear H;rintro v10 yX L10 a w rfl xq H;rw [fQ,wW] at H;dsimp only [List.nil_append] at H;refine aH 4 H ?_;clear H;intro a H;refine bg jG (cs:=[aS D.p,vi d.fin.marks.ins,vi d.fin.marks.move,aS D.d,aS D.y]) H wn rfl rfl (fun j v hj=>H.hp.aF (aJ xq (hgd j v hj))) rfl ?_;clear H;intro a H;refine pq (Li:=[]) (L:=zY b3 b5 _) H wn rfl rfl (jq (caps:=[(aD b3 0)]) WY (ZM _ _ b3 b5 _ d.fin D.p D.d D.y (hR.hd.mono xq) (Hp.owns (Li:=[]) H.hp))) rfl ?_;clear H;rintro v14 BM L14 a w rfl Cx H;rw [← Ka] at H;dsimp only [List.nil_append] at H;refine aH 3 H ?_;clear H;intro a H;refine anl (i:=1) uf jJ (Vw List.nodup_nil) H wn rfl rfl rfl ?_;clear H;intro es clock w hst hks H;dsimp only [List.set] at H;refine aH 3 H ?_;clear H;intro a H;refine s_call agp H wn rfl (alm _ _ H.ro _) rfl ?_;clear H;rintro v17 xV a w ⟨bx,rfl,hbx⟩ pX H;refine s_call agn H wn rfl (aoA _ _ H.ro b5 bx clock es (qB d) hbx (H.hp.own (b5,.map es clock) (by simp)) hst hks hw hl) rfl ?_;clear H;rintro v18 U5 a w Mq hm18 H;refine gH 2 H ?_;exact Mq
end
section
open Go.RowKit
theorem ags:∀ args w,(callFunc 66 args).run prog w=.ok (.enter 66 args) w:=enters func66 rfl (by kernel_rfl)
theorem agq:∀ args w,(callFunc 63 args).run prog w=.ok (.enter 63 args) w:=enters func63 rfl (by kernel_rfl)
theorem agt:∀ args w,(callFunc 67 args).run prog w=.ok (.enter 67 args) w:=enters func67 rfl (by kernel_rfl)
theorem agr:∀ args w,(callFunc 65 args).run prog w=.ok (.enter 65 args) w:=enters func65 rfl (by kernel_rfl)
theorem apk {G:GH} {b3:Nat} {us:List Int} {uv:aj} (hb:aF G b3 0=some uv) (hu:av G (.sl 1 (us.map fun k=>[li k])) uv) (hl:us.length≤4294967296) (x:bQ):pO (.func (.func 65) #[] #[(aD b3 0)]) G x.dat (!uY us x.id):=by
 intro G1 w0 cs hm hG hr;obtain rfl:=TK hr;replace hb:=aJ hm hb;replace hu:=hu.mono hm;obtain ⟨uA,uc,rfl,-,-,-⟩:=hu.slice;refine jq (caps:=[(aD b3 0)]) agr ?_;refine eN [(0,_),(1,_)] func65 rfl ntmps65 rfl rfl hG ?_;refine ak 1 ?_;intro a H;refine dU (cs:=[_,_,_]) H wn rfl rfl rfl ?_;clear H;intro b2 a w hb2 H;refine aH 6 H ?_;clear H;intro a H;refine s_call ags H wn rfl (acK _ _ H.ro us x.id _ hu hl) rfl ?_;clear H;rintro v10 yX a w ⟨rfl,rfl⟩ xq H;refine aH 1 H ?_;clear H;intro a H;(iterate 2 refine qh H wn rfl rfl rfl ?_;clear H;intro a H);refine gH 8 H ?_;exact rfl
def oU (d:iO):iO:=⟨kV d.flow,d.fin,d.revs,d.jD⟩
def nD (d:iO):iO:=⟨kV d.flow,d.fin,d.revs.filter fun r=>uY (rW (qB (oU d))) r.id,d.jD⟩
theorem amR (G:GH) (l:List bQ):bE G 3 (l.map bQ.dat) (mF l):=by
 have h:∀ (B A:List bQ),bE G 3 (A.map bQ.dat) (mF A)→bE G 3 ((A++B).map bQ.dat) (mF (A++B)):=by
  intro B
  induction B with
  | nil=>intro A h;rw [lY];exact h
  | cons x B ih =>
   intro A h;have h2:=h.snoc (TL G x) rfl;have h3:=ih (A++[x]) (by rw [TH,nG];exact h2)
   simpa using h3
 exact h l [] bE.nil
set_option maxRecDepth 8000 in
theorem Wy (G:GH) (w0:World) (hG:Hold G w0) (D:jy) (d:iO) (hR:qj G D d) (hz:vQ d) (hne:tK d.flow) (hz2:aZ (kV d.flow)≤1073741824) (hw:∀ k∈qB (oU d),-9223372036854775808≤k∧k < 9223372036854775808) (hl:(qB (oU d)).length≤4294967296) :
  Calls prog 24 #[D.val] w0 (bD w0 G fun u G'=>∃ D':jy,u=D'.val∧qj G' D' (nD d)):=by
 obtain ⟨df,dp,dd,dy,dr,d1,d2,d3,d4,ins,mv⟩:=D;obtain ⟨zf,zh,zr,zt,zs,EM⟩:=hz;refine eN [(0,_)] func24 rfl ntmps24 rfl rfl hG ?_;refine ak 1 ?_;intro a H;refine dU (cs:=[_,_,_,_,_,_,_,_,_,_,_]) H wn rfl rfl rfl ?_;clear H;intro b1 a w hb1 H;refine dx iy H wn rfl ?_;clear H;intro b2 a w hb2 H;refine aH 4 H ?_;clear H;intro a H;refine s_call PW H wn rfl (alS _ _ H.ro d.flow _ hR.fl hne zf) rfl ?_;clear H;rintro v6 G6 a w hv6 zJ H;obtain ⟨fA,fn,fc,rfl⟩:=hv6.form;have yC:qj G6 ⟨(fA,fn,fc),dp,dd,dy,dr,d1,d2,d3,d4,ins,mv⟩ (oU d):=⟨hv6,hR.hd.mono zJ,hR.ins,hR.mv,hR.rv.mono zJ,hR.st.mono zJ⟩;refine aH 1 H ?_;clear H;intro a H;refine aV pG 1 (vs:=[_]) _ H wn rfl rfl rfl rfl rfl rfl rfl rfl ?_;clear H;intro w H;dsimp only [List.set,setRow] at H;refine aH 2 H ?_;clear H;intro a H;refine bg iy (cs:=(⟨(fA,fn,fc),dp,dd,dy,dr,d1,d2,d3,d4,ins,mv⟩:jy).cells) H wn rfl rfl (H.hp.cK 1 rfl rfl) rfl ?_;clear H;intro a H;refine s_call afV H wn rfl (aeo _ _ H.ro _ _ yC (by show aZ (kV d.flow)≤_;omega) hw hl) rfl ?_;clear H;rintro v9 G9 a w Mt wB H;obtain ⟨uA,un,uc,rfl⟩:=Mt.form;refine dx NC H wn rfl ?_;clear H;intro b3 a w hb3 H;refine aV NC 0 (vs:=[_]) _ H wn rfl rfl rfl rfl rfl rfl rfl rfl ?_;clear H;intro w H;dsimp only [List.set,setRow] at H;refine aG ?_;refine dG ?_;obtain ⟨Gb,hmb,AY,H⟩:=H.dP;have hq3:aF Gb b3 0=some (.slice uA un uc):=wm AY 0 [.slice uA un uc] rfl 0 _ rfl;replace Mt:=Mt.mono hmb;replace yC:=(yC.mono wB).mono hmb;refine eB 3 H ?_;clear H;intro a H;refine fB WZ (Li:=[_,_]) (L:=[]) H wn rfl (V7 _ _ (vG H.ro) _ _ _ _ yC.rv (by simpa [oU] using zr)) rfl ?_;clear H;rintro v12 Ae L12 a w ⟨arp,FT,aiB⟩ yF H;obtain rfl:=amS aiB;rw [bO] at FT;obtain ⟨rA,rc,rfl,-,-⟩:=FT.shape;refine mP H wn rfl rfl ?_;clear H;intro a H;refine fB agq (Li:=[_,_]) (L:=L12) H wn rfl (aek d.revs (fun r=>!uY (rW (qB (oU d))) r.id) (Hp.owns (Li:=[_,_]) H.hp) FT (fun x _=>apk (aJ yF hq3) (Mt.mono yF) (by rw [rW,List.length_mergeSort];exact hl) x)) rfl ?_;clear H;rintro v14 BM L14 a w Jc Cx H
 simp only [Bool.not_not] at Jc
 obtain ⟨Gr,hmr,Yw,H⟩:=St.rG (Li:=[_,_]) H Jc (rows:=(nD d).revs.map bQ.dat) (by simp [nD]) (amR _ _);obtain ⟨rB,rn,rd,rfl⟩:=Yw.form;replace yC:=((yC.mono yF).mono Cx).mono hmr;have hR2:qj Gr ⟨(fA,fn,fc),dp,dd,dy,(rB,rn,rd),d1,d2,d3,d4,ins,mv⟩ (nD d):=⟨yC.fl,yC.hd,yC.ins,yC.mv,Yw,yC.st⟩;refine aH 1 H ?_;clear H;intro a H;refine aV EH 1 (vs:=[_]) _ H wn rfl rfl rfl rfl rfl rfl rfl rfl ?_;clear H;intro w H;dsimp only [List.set,setRow] at H;refine aH 2 H ?_;clear H;intro a H;refine bg iy (cs:=(⟨(fA,fn,fc),dp,dd,dy,(rB,rn,rd),d1,d2,d3,d4,ins,mv⟩:jy).cells) H wn rfl rfl (H.hp.cK 1 rfl rfl) rfl ?_;clear H;intro a H;refine fB agt (Li:=[_,_]) (L:=[]) H wn rfl (aen _ _ (vG H.ro) _ _ hR2 ⟨by show aZ (kV d.flow)≤_;omega,zh,Nat.le_trans (List.length_filter_le _ _) zr,fun x hx=>zt x (List.mem_filter.1 hx).1,zs,EM⟩) rfl ?_;clear H;rintro v17 xV L17 a w ⟨D',rfl,xf,Lf,xr,Lr,rfl,FV,Q5,FX,Q7,aiZ,aja,ajo,hst'⟩ pX H;obtain ⟨Gs,hms,ajK,H⟩:=St.rG (Li:=[_,_]++Lf) (by rw [gy];exact H) FX (rows:=(nD d).revs.map bQ.dat) (by simp) Q7;obtain ⟨Gt,hmt,aiW,H⟩:=St.rG (Li:=[_,_]) H FV (rows:=(nD d).flow.map au.dat) (by simp) (Q5.mono hms);refine aV iy 0 (vs:=[_,_,_,_,_,_,_,_,_,_,_]) _ H wn rfl rfl rfl rfl rfl rfl rfl rfl ?_;clear H;intro w H;dsimp only [List.set,setRow] at H;refine aG ?_;refine dG ?_;refine bV ?_;refine (leave1 H results24 (.cons (rR iy (cs:=[_,_,_,_,_,_,_,_,_,_,_]) H rfl rfl (H.hp.cK 0 rfl rfl)) .nil) ?_).1;exact H.rt ⟨D',rfl,aiW,(aiZ.mono hms).mono hmt,aja,ajo,ajK.mono hmt,(hst'.mono hms).mono hmt⟩
end
section
open Go.RowKit
end
section
open Go.RowKit
variable {us:List Int} {uo:aj}
structure Oo (us:List Int) (uo:aj) (G:GH) (D:jy) (st:List bM) (li:List dW) (rv:List bQ):Prop where
 sty:av G (.sl 6 (st.map bM.dat)) (aS D.s1)
 kC:av G (.sl 2 (li.map dW.dat)) (aS D.s2)
 rev:av G (.sl 3 (rv.map bQ.dat)) (aS D.r)
 oth:av G (.sl 1 (us.map fun k=>[.lf (.int .i64 k)])) uo
theorem Oo.mono {G G':GH} {D:jy} {st:List bM} {li:List dW} {rv:List bQ} (h:Oo us uo G D st li rv) (hm:∀ b o,G b=some o→G' b=some o):Oo us uo G' D st li rv:=⟨h.sty.mono hm,h.kC.mono hm,h.rev.mono hm,h.oth.mono hm⟩
end
section
open Go.RowKit
section
variable {N:Nat} {D:List Deferred} {w0:World} {F:Nat→Prop} {G0 G G1 G2:GH} {L L1 L2:OL} {T Xs:List (Nat × aj)}
variable {r:Option Nat} {P:Program} {Q:Exit→Act→World→Prop} {l:List Oper} {a a':Act} {w w':World}
end
end
section
open Go.RowKit
end
section
open Go.RowKit
theorem aoI {R l:List Int} (h1:R.Perm l) (h2:R.Pairwise (·≤·)):R=rW l:=by
 have h3:=Go.mergeSort_of_perm_i h1
 unfold rW
 rw [← h3];exact (List.mergeSort_of_pairwise (h2.imp fun h=>aI h)).symm
end
section
open Go.RowKit
def rH (r:aM):List dh:=r.head :: r.cells.map aL.head
def mH (x:au):List dh:=x.head :: (if x.kind=7 then x.rows.flatMap rH else [])
def pH (p:oC):List dh:=p.items.flatMap mH
def Et (l:List au) (h:dh):List dh:=h :: (acI l).flatMap pH
abbrev hS (f:dh→Nat) (L:List dh):Nat:=(L.map f).sum
theorem yD (f:dh→Nat) (A B:List dh):hS f (A++B)=hS f A+hS f B:=by simp [hS]
theorem zD (f:dh→Nat) (x:dh) (A:List dh):hS f (x :: A)=f x+hS f A:=by simp [hS]
theorem ale (k c i:Int) (tx:ByteArray) (h:dh) (fl:List au) (r:List aM):mH (.mk k c i tx h fl r)=h :: (if k=7 then r.flatMap rH else []):=rfl
mutual
theorem ajZ (f:dh→Nat) (g:Int) (t:Nat) (note:Bool) (tt:Int):∀ x:au,hS f (mH x)+hS f ((OI g t note tt x).flatMap pH)=hS f (AU x)
 | .mk k c i tx h fl r=>by
  have hf:=Mj f i true tt 0 fl;have hr:=YB f g t note (tt+1) r;rw [OI,AU,ale]
  by_cases h6:k=6
  ·have h7:¬ k=7:=by omega
   rw [ah h7,ay h6,ay h6,ah h7,lY,List.flatMap_cons,zD,zD,yD]
   show f h+hS f []+(hS f (fl.flatMap mH)+_)=_
   have:hS f []=0:=rfl
   omega
  by_cases h7:k=7
  ·rw [ay h7,ah h6,ay h7,ah h6,ay h7,iD,zD,zD]
   omega
  rw [ah h7,ah h6,ah h7,ah h6,ah h7];rfl
theorem Mj (f:dh→Nat) (g:Int) (note:Bool) (tt:Int):∀ (t:Nat) (l:List au),hS f (l.flatMap mH)+hS f ((Ao g note tt t l).flatMap pH)=hS f (jS l)
 | _,[]=>by rw [Ao,jS];rfl
 | t,x :: l=>by
  have h1:=ajZ f g t note tt x;have h2:=Mj f g note tt (t+n1 x) l;rw [Ao,jS,List.flatMap_cons,List.flatMap_append,yD,yD,yD];omega
theorem akb (f:dh→Nat) (g:Int) (t:Nat) (note:Bool) (tt:Int):∀ x:aM,hS f (rH x)+hS f ((OJ g t note tt x).flatMap pH)=hS f (AX x)
 | .mk h cs=>by
  have hc:=YA f g t note tt cs;rw [OJ,AX]
  unfold rH
  dsimp only [aM.head,aM.cells];rw [zD,zD];omega
theorem YB (f:dh→Nat) (g:Int) (t:Nat) (note:Bool) (tt:Int):∀ l:List aM,hS f (l.flatMap rH)+hS f ((Ia g t note tt l).flatMap pH)=hS f (sU l)
 | []=>by rw [Ia,sU];rfl
 | x :: l=>by
  have h1:=akb f g t note tt x;have h2:=YB f g t note tt l;rw [Ia,sU,List.flatMap_cons,List.flatMap_append,yD,yD,yD];omega
theorem ajY (f:dh→Nat) (g:Int) (t:Nat) (note:Bool) (tt:Int):∀ x:aL,f x.head+hS f ((Kk g t note tt x).flatMap pH)=hS f (AL x)
 | .mk i h fl=>by
  have hf:=Mj f i note tt 0 fl;rw [acF,AL];dsimp only [aL.id,aL.flow,aL.head];rw [List.flatMap_cons,zD,yD]
  show f h+(hS f (fl.flatMap mH)+_)=_
  omega
theorem YA (f:dh→Nat) (g:Int) (t:Nat) (note:Bool) (tt:Int):∀ l:List aL,hS f (l.map aL.head)+hS f ((H9 g t note tt l).flatMap pH)=hS f (uX l)
 | []=>by rw [H9,uX];rfl
 | x :: l=>by
  have h1:=ajY f g t note tt x;have h2:=YA f g t note tt l;rw [H9,uX,eu,List.flatMap_append,zD,yD,yD];omega
end
theorem ajX (f:dh→Nat) (l:List au) (h:dh):hS f (Et l h)=f h+hS f (jS l):=by
 have h1:=Mj f 0 false 0 0 l
 unfold Et
 rw [zD,← h1]
 show f h+hS f (pH ⟨0,l,-1,0,false,0⟩++(Ao 0 false 0 0 l).flatMap pH)=_
 rw [yD]
 rfl
structure Vj (g:GH) (v:aj) (R:List dh) (xs:List aj) (Lo:OL):Prop where
 row:bR 29 5 v R.length xs Lo
 cat:bE g 5 (R.map dh.dat) xs
theorem Vj.len {g:GH} {v:aj} {R S M:List dh} {xs:List aj} {Lo:OL} (_:Vj g v R xs Lo) (h:R++S=M):R.length≤M.length:=by
 rw [← h,jH];omega
end
section
open Go.RowKit
def NS (rv:List bQ) (M:List dh):List Int:=(rv.map bQ.id).filter fun q=>decide (q∈M.flatMap refs)
end
section
open Go.RowKit
theorem Rb {C:bK} {e:Int} {h:dh} (hE:fI C e h=0):∀ q∈refs h,q=0∨q∈C.jX:=by
 have z:=jM hE;have h3:=z (jc C h.marks) (by simp);have h4:=z (iY (sI C h.marks.bU) h.marks.bU.length) (by simp);have h6:=z (iY (yL C e h.marks.layers) h.marks.layers.length) (by simp);intro q hq
 unfold refs at hq
 rcases iQ.1 hq with rfl|hq
 ·unfold jc at h3
  by_cases h0:h.marks.ins=0
  ·exact .inl h0
  refine .inr (Classical.byContradiction fun hn=>?_);rw [ay ⟨h0,hn⟩] at h3;cases h3
 rcases lT.1 hq with hq|hq
 ·obtain ⟨x,hx,rfl⟩:=List.mem_map.1 hq;obtain ⟨k,hk,rfl⟩:=List.getElem_of_mem hx;have h5:=Cb h4 k hk
  unfold sI at h5
  rw [dY hk] at h5;dsimp only [vU] at h5;refine .inr (Classical.byContradiction fun hn=>?_);rw [ay hn] at h5;cases h5
 obtain ⟨x,hx,rfl⟩:=List.mem_map.1 hq;obtain ⟨k,hk,rfl⟩:=List.getElem_of_mem hx;have h5:=Cb h6 k hk
 unfold yL at h5
 rw [dY hk] at h5;dsimp only [yM] at h5;refine .inr (Classical.byContradiction fun hn=>?_);rw [ay hn] at h5;cases h5
def nA (C:bK) (L:List dh):Prop:=∀ h∈L,∃ e,fI C e h=0
theorem nA.nil (C:bK):nA C []:=fun _ h=>by cases h
theorem nA.cons {C:bK} {e:Int} {h:dh} {L:List dh} (h1:fI C e h=0) (h2:nA C L):nA C (h :: L):=fun x hx=>by
 rcases iQ.1 hx with rfl|hx
 ·exact ⟨e,h1⟩
 exact h2 x hx
theorem nA.app {C:bK} {A B:List dh} (h1:nA C A) (h2:nA C B):nA C (A++B):=fun x hx=>(lT.1 hx).elim (h1 x) (h2 x)
mutual
theorem ajt (C:bK) (body note:Bool) (t:Int):∀ (x:au) (s s':CS),eG C body note t x s=(0,s')→nA C (AU x)
 | .mk k c i tx h f r,s,s',e=>by
  have hf:=Mf C false true t f;have hr:=Yl C note (t+1) r;rw [eG] at e;(iterate 2 obtain ⟨-,e⟩:=kJ e);obtain ⟨e1,e⟩:=kJ e;rw [AU];refine nA.cons e1 ?_
  by_cases h6:k=6
  ·rw [ay h6] at e ⊢;rw [ah (show ¬ k=7 by omega),lY];exact hf _ _ e
  rw [ah h6] at e ⊢;rw [iD]
  by_cases h7:k=7
  ·rw [ay h7] at e ⊢;exact hr _ _ (TD e).2
  rw [ah h7];exact nA.nil C
theorem Mf (C:bK) (body note:Bool) (t:Int):∀ (l:List au) (s s':CS),gI C body note t l s=(0,s')→nA C (jS l)
 | [],_,_,_=>by rw [jS];exact nA.nil C
 | x :: r,s,s',e=>by
  rw [gI] at e;obtain ⟨e1,e⟩:=kJ e;rw [jS];exact (ajt C body note t x s _ (Prod.ext e1 rfl)).app (Mf C body note t r _ _ e)
theorem aju (C:bK) (note:Bool) (t:Int):∀ (x:aM) (s s':CS),xK C note t x s=(0,s')→nA C (AX x)
 | .mk h cs,s,s',e=>by
  have hc:=Yk C note t cs;rw [xK] at e;obtain ⟨e1,e⟩:=kJ e;rw [AX];exact nA.cons (jM e1 _ fH) (hc _ _ e)
theorem Yl (C:bK) (note:Bool) (t:Int):∀ (l:List aM) (s s':CS),gD C note t l s=(0,s')→nA C (sU l)
 | [],_,_,_=>by rw [sU];exact nA.nil C
 | x :: r,s,s',e=>by
  rw [gD] at e;obtain ⟨e1,e⟩:=kJ e;rw [sU];exact (aju C note t x s _ (Prod.ext e1 rfl)).app (Yl C note t r _ _ e)
theorem ajs (C:bK) (note:Bool) (t:Int):∀ (x:aL) (s s':CS),cellC C note t x s=(0,s')→nA C (AL x)
 | .mk i h f,s,s',e=>by
  have hf:=Mf C false note t f;rw [cellC] at e;obtain ⟨-,e⟩:=kJ e;obtain ⟨e1,e⟩:=kJ e;rw [AL];exact nA.cons e1 (hf _ _ e)
theorem Yk (C:bK) (note:Bool) (t:Int):∀ (l:List aL) (s s':CS),nH C note t l s=(0,s')→nA C (uX l)
 | [],_,_,_=>by rw [uX];exact nA.nil C
 | x :: r,s,s',e=>by
  rw [nH] at e;obtain ⟨e1,e⟩:=kJ e;rw [uX];exact (ajs C note t x s _ (Prod.ext e1 rfl)).app (Yk C note t r _ _ e)
end
theorem TB {d:iO} (hc:iG d=0):∀ q∈Gj d,q=0∨q∈d.revs.map bQ.id:=by
 have z:=jM hc;have h2:=z (dz [fI d.jI 3 d.fin,bW (rP d.fin.marks) 21]) (by simp);have h3:=z (gI d.jI true false 0 d.flow ⟨0,[]⟩).1 (by simp);have hi:=Mf d.jI true false 0 d.flow _ _ (Kv h3);intro q hq
 unfold Gj at hq
 rcases lT.1 hq with hq|hq
 ·obtain ⟨h,hh,hq⟩:=List.mem_flatMap.1 hq;obtain ⟨e,he⟩:=hi h hh;exact Rb he q hq
 exact Rb (jM h2 _ fH) q hq
theorem aah {d:iO} (hc:iG d=0):(d.revs.map bQ.id).Pairwise (· < ·)∧∀ q∈d.revs.map bQ.id,1≤q∧q≤1073741824:=by
 have h:=jM (jM hc _ fH) (wZ d.revs) (by simp);have h1:=jM h _ (fH);have h2:=jM h _ (gL _ fH)
 have hl:d.revs.length≤256:=by
  unfold bW at h1
  by_cases hd:256 < (d.revs.length:Int)
  ·rw [ay (aI hd)] at h1;cases h1
  omega
 have hi:∀ i (hi:i < d.revs.length),1≤d.revs[i].id∧d.revs[i].id≤1073741824∧(∀ k (hk:k < d.revs.length),k+1=i→d.revs[k].id < d.revs[i].id):=by
  intro i hi;have h3:=Cb h2 i (by omega)
  unfold zS at h3
  rw [dY hi] at h3;have h4:=Ji (jM h3 _ fH);rw [dY hi] at h4;refine ⟨h4.1,h4.2.1,fun k hk e=>?_⟩;subst e;have h5:=h4.2.2 (by omega);rw [Nat.add_sub_cancel,dY hk] at h5;exact h5
 refine ⟨List.pairwise_iff_getElem.2 ?_,fun q hq=>?_⟩
 ·intro i j hi' hj hij;rw [bO] at hi' hj;rw [List.getElem_map,List.getElem_map]
  induction j with
  | zero=>omega
  | succ j ih =>
   have h1:=(hi (j+1) hj).2.2 j (by omega) rfl
   by_cases e:i=j
   ·subst e;exact h1
   exact Int.lt_trans (ih (by omega) (by omega) (by omega)) h1
 obtain ⟨x,hx,rfl⟩:=List.mem_map.1 hq;obtain ⟨k,hk,rfl⟩:=List.getElem_of_mem hx;exact ⟨(hi k hk).1,(hi k hk).2.1⟩
theorem ail {f:dh→Nat} {L:List dh}:0 < hS f L↔∃ h∈L,0 < f h:=by
 induction L with
 | nil=>simp [hS]
 | cons x L ih =>
  rw [zD]
  constructor
  ·intro h
   by_cases hx:0 < f x
   ·exact ⟨x,fH,hx⟩
   obtain ⟨y,hy,h2⟩:=ih.1 (by omega);exact ⟨y,gL _ hy,h2⟩
  rintro ⟨y,hy,h2⟩
  rcases iQ.1 hy with rfl|hy
  ·omega
  have:=ih.2 ⟨y,hy,h2⟩;omega
theorem alf (l:List au) (h:dh) (q:Int):q∈(Et l h).flatMap refs↔q∈(jS l).flatMap refs++refs h:=by
 have h1:=ajX (fun x=>if q∈refs x then 1 else 0) l h
 have hp:∀ L:List dh,q∈L.flatMap refs↔0 < hS (fun x=>if q∈refs x then 1 else 0) L:=fun L=>by
  rw [ail,List.mem_flatMap]
  constructor
  ·rintro ⟨x,hx,h⟩;exact ⟨x,hx,by rw [ay h];omega⟩
  rintro ⟨x,hx,h⟩;refine ⟨x,hx,Classical.byContradiction fun hn=>?_⟩;rw [ah hn] at h;omega
 rw [hp,lT,hp,h1]
 by_cases hh:q∈refs h
 ·rw [ay hh];exact ⟨fun _=>.inr hh,fun _=>by omega⟩
 rw [ah hh];exact ⟨fun h=>.inl (by omega),fun h=>h.elim (fun h=>by omega) (fun h=>absurd h hh)⟩
theorem apl {d:iO} (hc:iG d=0):NS d.revs (Et d.flow d.fin)=rW (qB d):=by
 obtain ⟨hi,hb⟩:=aah hc
 have hnd:(d.revs.map bQ.id).Nodup:=hi.imp fun h=>by omega
 have hp:(NS d.revs (Et d.flow d.fin)).Pairwise (· < ·):=hi.sublist List.filter_sublist;refine aoI ((List.perm_ext_iff_of_nodup (hnd.sublist List.filter_sublist) ((Vw List.nodup_nil).sublist List.filter_sublist)).2 fun q=>?_) (hp.imp fun h=>Int.le_of_lt h)
 show q∈List.filter _ _↔q∈List.filter _ _
 rw [List.mem_filter,List.mem_filter,lV,lV,alf,OB]
 constructor
 ·rintro ⟨h1,h2⟩;exact ⟨.inr h2,by have:=(hb q h1).1;omega⟩
 rintro ⟨h1|h1,h2⟩
 ·cases h1
 exact ⟨(TB hc q h1).resolve_left h2,h1⟩
theorem apn {d:iO} (hc:iG d=0) {q:Int} (h:q∈qB d):1≤q∧q≤1073741824:=by
 unfold qB at h
 rw [List.mem_filter,lV,OB] at h;obtain ⟨h1|h1,h2⟩:=h
 ·cases h1
 exact (aah hc).2 q ((TB hc q h1).resolve_left h2)
theorem apm {d:iO} (hc:iG d=0):(qB d).length=(NS d.revs (Et d.flow d.fin)).length:=by
 rw [apl hc,rW,List.length_mergeSort]
end
section
open Go.RowKit
end
section
open Go.RowKit
theorem KS {l:List Int} (h:∀ x∈l,x=0):dz l=0:=by
 induction l with
 | nil=>rfl
 | cons x l ih=>rw [h x fH];simp only [dz,ne_eq,not_true_eq_false,if_false];exact ih fun y hy=>h y (gL _ hy)
theorem OG {E:Nat→Int} {n:Nat} (h:∀ i,i < n→E i=0):iY E n=0:=KS fun x hx=>by
 obtain ⟨i,hi,rfl⟩:=List.mem_map.1 hx;exact h i (rz.1 hi)
def Dq (jX:List Int) (h:dh):Prop:=∀ q∈refs h,q≠0→q∈jX
theorem LW {C C':bK} {e:Int} {h:dh} (h1:C'.st=C.st) (h2:C'.kC=C.kC) (h0:0∉C.jX) (hin:Dq C'.jX h) (hE:fI C e h=0):fI C' e h=0:=by
 have z:=jM hE;have z1:=z (fV e h.props) (by simp);have z2:=z (wL C h.props) (by simp);have z3:=z (jc C h.marks) (by simp);have z4:=z (iY (sI C h.marks.bU) h.marks.bU.length) (by simp);have z5:=z (bW (decide (64 < (h.marks.layers.length:Int))) 9) (by simp);have z6:=z (iY (yL C e h.marks.layers) h.marks.layers.length) (by simp);have hr:∀ q∈refs h,q=0∨q∈C.jX:=Rb hE;refine KS fun x hx=>?_
 simp only [iQ,List.not_mem_nil,or_false] at hx
 rcases hx with rfl|rfl|rfl|rfl|rfl|rfl
 ·exact z1
 ·rw [wL,h1,h2];exact z2
 ·unfold jc at z3 ⊢
  have hi:¬ (h.marks.ins≠0∧h.marks.ins∉C'.jX):=fun hn=>hn.2 (hin _ (by simp [refs]) hn.1)
  by_cases hq:h.marks.ins≠0∧h.marks.ins∉C.jX
  ·rw [ay hq] at z3;cases z3
  rw [ah hq] at z3;rw [ah hi];exact z3
 ·refine OG fun k hk=>?_;have h5:=Cb z4 k hk
  unfold sI at h5 ⊢
  rw [dY hk] at h5 ⊢;dsimp only [vU] at h5 ⊢
  have hm:h.marks.bU[k].rev∈refs h:=by simp only [refs,iQ,lT,List.mem_map];exact .inr (.inl ⟨_,iF hk,rfl⟩)
  by_cases hq:h.marks.bU[k].rev∉C.jX
  ·rw [ay hq] at h5;cases h5
  rw [ah hq] at h5;rw [ah (fun hn=>hn (hin _ hm fun e=>h0 (e ▸ lu.1 hq)))];exact h5
 ·exact z5
 refine OG fun k hk=>?_;have h5:=Cb z6 k hk
 unfold yL at h5 ⊢
 rw [dY hk] at h5 ⊢;dsimp only [yM] at h5 ⊢
 have hm:h.marks.layers[k].rev∈refs h:=by simp only [refs,iQ,lT,List.mem_map];exact .inr (.inr ⟨_,iF hk,rfl⟩)
 by_cases hq:h.marks.layers[k].rev∉C.jX
 ·rw [ay hq] at h5;cases h5
 rw [ah hq] at h5;rw [ah (fun hn=>hn (hin _ hm fun e=>h0 (e ▸ lu.1 hq))),h1,h2];exact h5
mutual
theorem anc {C C':bK} (h1:C'.st=C.st) (h2:C'.kC=C.kC) (h0:0∉C.jX) (body note:Bool) (t:Int):∀ x:au,(∀ h∈AU x,Dq C'.jX h)→lH C body note t x→lH C' body note t x
 | .mk k c i tx h f r,hh,hx=>by
  have hf:=Ni h1 h2 h0 false true t f;have hr:=aao h1 h2 h0 note (t+1) r;rw [AU] at hh;rw [lH] at hx ⊢;refine ⟨hx.1,hx.2.1,LW h1 h2 h0 (hh h fH) hx.2.2.1,fun e=>?_,fun e=>⟨(hx.2.2.2.2 e).1,?_⟩⟩
  ·subst e;exact hf (fun y hy=>hh y (gL _ (by simpa using hy))) (hx.2.2.2.1 rfl)
  subst e;exact hr (fun y hy=>hh y (gL _ (by simpa using hy))) (hx.2.2.2.2 rfl).2
theorem ane {C C':bK} (h1:C'.st=C.st) (h2:C'.kC=C.kC) (h0:0∉C.jX) (note:Bool) (t:Int):∀ x:aM,(∀ h∈AX x,Dq C'.jX h)→qb C note t x→qb C' note t x
 | .mk h cs,hh,hx=>by
  have hc:=aan h1 h2 h0 note t cs;rw [AX] at hh;rw [qb] at hx ⊢;refine ⟨KS fun y hy=>?_,hc (fun y hy=>hh y (gL _ hy)) hx.2⟩;have z:=jM hx.1
  simp only [iQ,List.not_mem_nil,or_false] at hy
  rcases hy with rfl|rfl|rfl
  ·exact LW h1 h2 h0 (hh h fH) (z _ fH)
  ·exact z _ (by simp)
  exact z _ (by simp)
theorem anb {C C':bK} (h1:C'.st=C.st) (h2:C'.kC=C.kC) (h0:0∉C.jX) (note:Bool) (t:Int):∀ x:aL,(∀ h∈AL x,Dq C'.jX h)→pY C note t x→pY C' note t x
 | .mk i h f,hh,hx=>by
  have hf:=Ni h1 h2 h0 false note t f;rw [AL] at hh;rw [pY] at hx ⊢;exact ⟨LW h1 h2 h0 (hh h fH) hx.1,hf (fun y hy=>hh y (gL _ hy)) hx.2⟩
theorem Ni {C C':bK} (h1:C'.st=C.st) (h2:C'.kC=C.kC) (h0:0∉C.jX) (body note:Bool) (t:Int):∀ l:List au,(∀ h∈jS l,Dq C'.jX h)→iI C body note t l→iI C' body note t l
 | [],_,_=>by rw [iI];trivial
 | x :: l,hh,h=>by
  rw [jS] at hh;rw [iI] at h ⊢;exact ⟨anc h1 h2 h0 body note t x (fun y hy=>hh y (List.mem_append_left _ hy)) h.1,Ni h1 h2 h0 body note t l (fun y hy=>hh y (List.mem_append_right _ hy)) h.2⟩
theorem aao {C C':bK} (h1:C'.st=C.st) (h2:C'.kC=C.kC) (h0:0∉C.jX) (note:Bool) (t:Int):∀ l:List aM,(∀ h∈sU l,Dq C'.jX h)→lI C note t l→lI C' note t l
 | [],_,_=>by rw [lI];trivial
 | x :: l,hh,h=>by
  rw [sU] at hh;rw [lI] at h ⊢;exact ⟨ane h1 h2 h0 note t x (fun y hy=>hh y (List.mem_append_left _ hy)) h.1,aao h1 h2 h0 note t l (fun y hy=>hh y (List.mem_append_right _ hy)) h.2⟩
theorem aan {C C':bK} (h1:C'.st=C.st) (h2:C'.kC=C.kC) (h0:0∉C.jX) (note:Bool) (t:Int):∀ l:List aL,(∀ h∈uX l,Dq C'.jX h)→mD C note t l→mD C' note t l
 | [],_,_=>by rw [mD];trivial
 | x :: l,hh,h=>by
  rw [uX] at hh;rw [mD] at h ⊢;exact ⟨anb h1 h2 h0 note t x (fun y hy=>hh y (List.mem_append_left _ hy)) h.1,aan h1 h2 h0 note t l (fun y hy=>hh y (List.mem_append_right _ hy)) h.2⟩
end
end
section
open Go.RowKit
def HV (l:List bQ):Prop:=l.length≤256∧(∀ x∈l,uM x.author=true∧(0≤x.time∧x.time≤1099511627776)∧1≤x.id∧x.id≤1073741824)∧l.Pairwise fun x y=>x.id < y.id
theorem ana {l:List bQ} (h:wZ l=0):HV l:=by
 have h1:=jM h _ (fH);have h2:=jM h _ (gL _ fH)
 have hl:l.length≤256:=by
  rw [xS (by decide),nX] at h1;omega
 have hi:∀ i (hi:i < l.length),Nf l i l[i]=0:=fun i hi=>by
  have h3:=Cb h2 i (by omega)
  unfold zS at h3
  rwa [dY hi] at h3
 refine ⟨hl,fun x hx=>?_,?_⟩
 ·obtain ⟨i,hi',rfl⟩:=List.getElem_of_mem hx;have z:=jM (hi i hi');have z1:=Ji (z _ fH);rw [dY hi'] at z1;have z2:=z (bW (!uM l[i].author) 39) (by simp);have z3:=z (bW (!decide (0≤l[i].time∧l[i].time≤1099511627776)) 40) (by simp);rw [xS (by decide)] at z2 z3;exact ⟨by simpa using z2,by simpa using z3,z1.1,z1.2.1⟩
 have step:∀ i (hi':i+1 < l.length),l[i].id < l[i+1].id:=fun i hi'=>by
  have z1:=(Ji (jM (hi (i+1) hi') _ fH)).2.2 (by omega);rw [Nat.add_sub_cancel,dY hi',dY (show i < l.length by omega)] at z1;exact z1
 rw [List.pairwise_iff_getElem];intro i j hi' hj hij
 induction j with
 | zero=>omega
 | succ j ih =>
  by_cases e:i=j
  ·subst e;exact step i hj
  exact Int.lt_trans (ih (by omega) (by omega)) (step j hj)
theorem akv {id:Nat→Int} {i:Nat} (h1:1≤id i∧id i≤1073741824) (h2:0 < i→id (i - 1) < id i):nP id i=0:=by
 unfold nP
 rw [ah (fun hn=>hn h1),ah (fun hn=>by have:=h2 hn.1;omega),ah (fun hn=>by have:=h2 hn.1;omega)]
theorem ahG {l:List bQ} (h:HV l):wZ l=0:=by
 obtain ⟨hl,hx,hp⟩:=h;refine Qk.2 ⟨(xS (by decide)).2 (jA (by omega)),OG fun i hi=>?_⟩
 have hi':i < l.length:=by omega
 unfold zS
 rw [dY hi'];have h1:=hx _ (iF hi');refine KS fun y hy=>?_
 simp only [iQ,List.not_mem_nil,or_false] at hy
 rcases hy with rfl|rfl|rfl
 ·have e:∀ k (hk:k < l.length),(l[k]?.map bQ.id).getD 0=l[k].id:=fun k hk=>by rw [dY hk];rfl
  exact akv (by rw [e i hi'];exact h1.2.2) (fun h0=>by
   rw [e i hi',e (i - 1) (by omega)]
   exact List.pairwise_iff_getElem.1 hp (i - 1) i (by omega) hi' (by omega))
 ·rw [xS (by decide),h1.1];rfl
 rw [xS (by decide),iE h1.2.1];rfl
theorem HV.sub {l m:List bQ} (h:HV l) (hs:m.Sublist l):HV m:=⟨Nat.le_trans hs.length_le h.1,fun x hx=>h.2.1 x (hs.subset hx),h.2.2.sublist hs⟩
def uF (A:List fJ):Int:=(A.map fun f=>oQ f.items).sum
theorem Uu (a b:List fJ):uF (a++b)=uF a+uF b:=by simp [uF]
theorem NK (x:fJ) (b:List fJ):uF (x :: b)=oQ x.items+uF b:=by simp [uF]
theorem aoX (A:List fJ):mG A=uF A:=by
 have key:∀ (A:List fJ) (n:Int),A.foldl (fun n f=>n+oQ f.items) n=n+uF A:=by
  intro A
  induction A with
  | nil=>intro n;simp [uF]
  | cons x A ih=>intro n;rw [List.foldl_cons,ih,NK];omega
 rw [mG,key];omega
theorem SF {C:bK} {body note:Bool} {t:Int} {l:List au} (h:iI C body note t l):oQ l=pE l:=by
 unfold oQ
 rw [ay]
 unfold uS
 rw [lq];intro x hx;have h1:=(DV ((M0 x).1 (F9.1 h x hx)).1).1;refine iE ?_
 unfold wP EL;rw [ay h1];split <;> rfl
theorem aoW (k c i:Int) (tx:ByteArray) (h:dh) (f:List au) (r:List aM):uI (.mk k c i tx h f r)=fU (.mk k c i tx h f r)+(if k=6 then iK f else if k=7 then qV r else 0):=by rw [uI];rfl
mutual
theorem aoZ (C:bK) (body note:Bool) (t:Int) (n2:Bool) (t2:Int):∀ x:au,lH C body note t x→(fU x:Nat)+uF (uh n2 t2 x)=(uI x:Nat)
 | .mk k c i tx h f r,hx=>by
  have hf:=NQ C false true t true t2 f;have hr:=abd C note (t+1) n2 t2 r;rw [lH] at hx;rw [aoW,uh]
  by_cases h6:k=6
  ·subst h6;have ho:=hx.2.2.2.1 rfl;have:=hf ho;rw [ay rfl,ay rfl,NK];dsimp only;rw [SF ho];push_cast;omega
  by_cases h7:k=7
  ·subst h7;have:=hr (hx.2.2.2.2 rfl).2;rw [ah h6,ah h6,ay rfl,ay rfl];push_cast;omega
  rw [ah h6,ah h6,ah h7,ah h7];simp [uF]
theorem apa (C:bK) (note:Bool) (t:Int) (n2:Bool) (t2:Int):∀ x:aM,qb C note t x→uF (uj n2 t2 x)=(uR x:Nat)
 | .mk h cs,hx=>by
  have hc:=abb C note t n2 t2 cs;rw [qb] at hx;rw [uR,uj];exact hc hx.2
theorem aoY (C:bK) (note:Bool) (t:Int) (n2:Bool) (t2:Int):∀ x:aL,pY C note t x→uF (ug n2 t2 x)=(uC x:Nat)
 | .mk i h f,hx=>by
  have hf:=NQ C false note t n2 (t2+1) f;rw [pY] at hx;have:=hf hx.2;rw [uC,ug,NK];dsimp only;rw [SF hx.2];omega
theorem NQ (C:bK) (body note:Bool) (t:Int) (n2:Bool) (t2:Int):∀ l:List au,iI C body note t l→(pE l:Nat)+uF (gQ n2 t2 l)=(iK l:Nat)
 | [],_=>by simp [pE,gQ,uF,iK]
 | x :: l,h=>by
  rw [iI] at h;have h1:=aoZ C body note t n2 t2 x h.1;have h2:=NQ C body note t n2 t2 l h.2;rw [pE,gQ,iK,Uu];push_cast;omega
theorem abd (C:bK) (note:Bool) (t:Int) (n2:Bool) (t2:Int):∀ l:List aM,lI C note t l→uF (mI n2 t2 l)=(qV l:Nat)
 | [],_=>by simp [mI,uF,qV]
 | x :: l,h=>by
  rw [lI] at h;have h1:=apa C note t n2 t2 x h.1;have h2:=abd C note t n2 t2 l h.2;rw [mI,qV,Uu];push_cast;omega
theorem abb (C:bK) (note:Bool) (t:Int) (n2:Bool) (t2:Int):∀ l:List aL,mD C note t l→uF (mU n2 t2 l)=(rX l:Nat)
 | [],_=>by simp [mU,uF,rX]
 | x :: l,h=>by
  rw [mD] at h;have h1:=aoY C note t n2 t2 x h.1;have h2:=abb C note t n2 t2 l h.2;rw [mU,rX,Uu];push_cast;omega
end
theorem NP {C:bK} {body note:Bool} {t:Int} {l:List au} (h:iI C body note t l):mG (eY l)=(iK l:Nat):=by
 have:=NQ C body note t false 0 l h;rw [aoX,eY,NK];dsimp only;rw [SF h];exact this
theorem MS {d:iO} (h:iG d=0):iG (oU d)=0∧mG (eY (kV d.flow))=mG (eY d.flow):=by
 obtain ⟨h1,h2,h3,h4,h5⟩:=(Au d).1 h;obtain ⟨e1,e2⟩:=akt h3;exact ⟨(Au (oU d)).2 ⟨h1,h2,ZT h3,by show jd [] [] (dQ (kV d.flow));rw [e1];exact h4,by show iK (kV d.flow)≤_;rw [e2];exact h5⟩,by rw [NP (ZT h3),NP h3,e2]⟩
theorem aoH (l:List Int):(rW l).Pairwise (·≤·):=by
 have h:=List.pairwise_mergeSort (le:=leI) (fun a b c h1 h2=>by simp only [leI,lV] at *;omega) (fun a b=>by simp only [leI,Bool.or_eq_true,lV];omega) l
 exact h.imp fun h=>by simpa [leI] using h
theorem akL (d:iO):(fun r:bQ=>uY (rW (qB (oU d))) r.id)=fun r=>decide (r.id∈qB (oU d)):=by
 funext r
 rw [aio (aoH _)];exact decide_eq_decide.2 (by rw [rW,List.mem_mergeSort])
theorem alp {d:iO} (h:iG d=0):iG (nD d)=0:=by
 obtain ⟨h1,h2,h3,h4,h5⟩:=(Au _).1 (MS h).1;have hg:=ana h1.2
 have h0:(0:Int)∉(oU d).jI.jX:=by
  intro hm;obtain ⟨x,hx,e⟩:=List.mem_map.1 (show (0:Int)∈d.revs.map bQ.id from hm);have:=(hg.2.1 x hx).2.2.1
  omega
 have hin:∀ q∈Gj (oU d),q≠0→q∈(nD d).jI.jX:=by
  intro q hq hn
  have hu:q∈qB (oU d):=by
   unfold qB
   rw [List.mem_filter,lV,OB];exact ⟨.inr hq,hn⟩
  have hr:=(TB (MS h).1 q hq).resolve_left hn;obtain ⟨x,hx,rfl⟩:=List.mem_map.1 hr
  show x.id∈(nD d).revs.map bQ.id
  refine List.mem_map.2 ⟨x,?_,rfl⟩
  show x∈d.revs.filter _
  rw [akL,List.mem_filter];exact ⟨hx,iE hu⟩
 refine (Au (nD d)).2 ⟨⟨h1.1,ahG (hg.sub List.filter_sublist)⟩,⟨LW (C:=(oU d).jI) (C':=(nD d).jI) rfl rfl h0 (fun q hq hn=>hin q (by unfold Gj;exact List.mem_append_right _ hq) hn) h2.1,h2.2⟩,Ni (C:=(oU d).jI) (C':=(nD d).jI) rfl rfl h0 true false 0 _ (fun x hx q hq hn=>hin q (by unfold Gj;exact List.mem_append_left _ (List.mem_flatMap.2 ⟨x,hx,hq⟩)) hn) h3,h4,h5⟩
end
section
open Go.RowKit
mutual
/-- The first is what is left of the second: items of its flows are missing. -/
def rU (y:au):au→Prop
 | .mk k c i tx h f r=>∃ f' r',y=.mk k c i tx h f' r'∧fP f' f∧jZ r' r
def tV (y:aM):aM→Prop
 | .mk h cs=>∃ cs',y=.mk h cs'∧lK cs' cs
def wM (y:aL):aL→Prop
 | .mk i h f=>∃ f',y=.mk i h f'∧fP f' f
def fP (m:List au):List au→Prop
 | []=>m=[]
 | x :: l=>fP m l∨∃ y m',m=y :: m'∧rU y x∧fP m' l
def jZ (m:List aM):List aM→Prop
 | []=>m=[]
 | x :: l=>∃ y m',m=y :: m'∧tV y x∧jZ m' l
def lK (m:List aL):List aL→Prop
 | []=>m=[]
 | x :: l=>∃ y m',m=y :: m'∧wM y x∧lK m' l
end
mutual
theorem TV:∀ x:au,rU x x
 | .mk k c i tx h f r=>by rw [rU];exact ⟨f,r,rfl,Gw f,T9 r⟩
theorem anL:∀ x:aM,tV x x
 | .mk h cs=>by rw [tV];exact ⟨cs,rfl,TU cs⟩
theorem anH:∀ x:aL,wM x x
 | .mk i h f=>by rw [wM];exact ⟨f,rfl,Gw f⟩
theorem Gw:∀ l:List au,fP l l
 | []=>by rw [fP]
 | x :: l=>by rw [fP];exact .inr ⟨x,l,rfl,TV x,Gw l⟩
theorem T9:∀ l:List aM,jZ l l
 | []=>by rw [jZ]
 | x :: l=>by rw [jZ];exact ⟨x,l,rfl,anL x,T9 l⟩
theorem TU:∀ l:List aL,lK l l
 | []=>by rw [lK]
 | x :: l=>by rw [lK];exact ⟨x,l,rfl,anH x,TU l⟩
end
mutual
theorem anJ:∀ (x:au) {y z:au},rU z y→rU y x→rU z x
 | .mk k c i tx h f r,y,z,h1,h2=>by
  rw [rU] at h2 ⊢;obtain ⟨f',r',rfl,a1,a2⟩:=h2;rw [rU] at h1;obtain ⟨f'',r'',rfl,b1,b2⟩:=h1;exact ⟨f'',r'',rfl,C9 f b1 a1,aax r b2 a2⟩
theorem anM:∀ (x:aM) {y z:aM},tV z y→tV y x→tV z x
 | .mk h cs,y,z,h1,h2=>by
  rw [tV] at h2 ⊢;obtain ⟨f',rfl,a1⟩:=h2;rw [tV] at h1;obtain ⟨f'',rfl,b1⟩:=h1;exact ⟨f'',rfl,aau cs b1 a1⟩
theorem anI:∀ (x:aL) {y z:aL},wM z y→wM y x→wM z x
 | .mk i h f,y,z,h1,h2=>by
  rw [wM] at h2 ⊢;obtain ⟨f',rfl,a1⟩:=h2;rw [wM] at h1;obtain ⟨f'',rfl,b1⟩:=h1;exact ⟨f'',rfl,C9 f b1 a1⟩
theorem C9:∀ (l:List au) {m p:List au},fP p m→fP m l→fP p l
 | [],m,p,h1,h2=>by rw [fP] at h2;subst h2;exact h1
 | x :: l,m,p,h1,h2=>by
  rw [fP] at h2 ⊢
  rcases h2 with h2|⟨y,m',rfl,h2,h3⟩
  ·exact .inl (C9 l h1 h2)
  rw [fP] at h1
  rcases h1 with h1|⟨z,p',rfl,h4,h5⟩
  ·exact .inl (C9 l h1 h3)
  exact .inr ⟨z,p',rfl,anJ x h4 h2,C9 l h5 h3⟩
theorem aax:∀ (l:List aM) {m p:List aM},jZ p m→jZ m l→jZ p l
 | [],m,p,h1,h2=>by rw [jZ] at h2;subst h2;exact h1
 | x :: l,m,p,h1,h2=>by
  rw [jZ] at h2 ⊢;obtain ⟨y,m',rfl,h2,h3⟩:=h2;rw [jZ] at h1;obtain ⟨z,p',rfl,h4,h5⟩:=h1;exact ⟨z,p',rfl,anM x h4 h2,aax l h5 h3⟩
theorem aau:∀ (l:List aL) {m p:List aL},lK p m→lK m l→lK p l
 | [],m,p,h1,h2=>by rw [lK] at h2;subst h2;exact h1
 | x :: l,m,p,h1,h2=>by
  rw [lK] at h2 ⊢;obtain ⟨y,m',rfl,h2,h3⟩:=h2;rw [lK] at h1;obtain ⟨z,p',rfl,h4,h5⟩:=h1;exact ⟨z,p',rfl,anI x h4 h2,aau l h5 h3⟩
end
theorem TW:∀ {l m:List au},m.Sublist l→fP m l
 | _,_,.slnil=>by rw [fP]
 | _,_,.cons x h=>by rw [fP];exact .inl (TW h)
 | _,_,.cons_cons x h=>by rw [fP];exact .inr ⟨x,_,rfl,TV x,TW h⟩
theorem TY:∀ {l m:List au} {y x:au},fP m l→rU y x→fP (m++[y]) (l++[x])
 | [],m,y,x,h,hy=>by rw [fP] at h;subst h;rw [iD,iD,fP];exact .inr ⟨y,[],rfl,hy,by rw [fP]⟩
 | z :: l,m,y,x,h,hy=>by
  rw [fP] at h;rw [jg,fP]
  rcases h with h|⟨q,m',rfl,h1,h2⟩
  ·exact .inl (TY h hy)
  exact .inr ⟨q,m'++[y],rfl,h1,TY h2 hy⟩
theorem Np:∀ {l m:List aM},jZ m l→m.length=l.length
 | [],m,h=>by rw [jZ] at h;rw [h]
 | x :: l,m,h=>by rw [jZ] at h;obtain ⟨y,m',rfl,-,h⟩:=h;rw [kG,Np h];rfl
theorem TT:∀ {l m:List aL},lK m l→m.length=l.length
 | [],m,h=>by rw [lK] at h;rw [h]
 | x :: l,m,h=>by rw [lK] at h;obtain ⟨y,m',rfl,-,h⟩:=h;rw [kG,TT h];rfl
theorem aaw:∀ {l m:List aM} {y x:aM},jZ m l→tV y x→jZ (m++[y]) (l++[x])
 | [],m,y,x,h,hy=>by rw [jZ] at h;subst h;rw [iD,iD,jZ];exact ⟨y,[],rfl,hy,by rw [jZ]⟩
 | z :: l,m,y,x,h,hy=>by
  rw [jZ] at h;rw [jg,jZ];obtain ⟨q,m',rfl,h1,h2⟩:=h;exact ⟨q,m'++[y],rfl,h1,aaw h2 hy⟩
theorem aat:∀ {l m:List aL} {k:Nat} {f:List au} (hk:k < m.length),lK m l→fP f m[k].flow→lK (m.set k (.mk m[k].id m[k].head f)) l
 | [],m,k,f,hk,h,_=>by rw [lK] at h;subst h;cases hk
 | x :: l,m,k,f,hk,h,hf=>by
  rw [lK] at h ⊢;obtain ⟨y,m',rfl,h1,h2⟩:=h
  cases k with
  | zero =>
   refine ⟨_,m',rfl,?_,h2⟩;obtain ⟨i,hd,fl⟩:=x;rw [wM] at h1 ⊢;obtain ⟨f',rfl,h1⟩:=h1;exact ⟨f,rfl,C9 _ hf h1⟩
  | succ k=>exact ⟨y,m'.set k _,rfl,h1,aat (by simpa using hk) h2 hf⟩
mutual
theorem anR (C:bK) (body note:Bool) (t:Int):∀ (x y:au),rU y x→lH C body note t x→lH C body note t y
 | .mk k c i tx h f r,y,hs,hx=>by
  have hF:=Nq C false true t f;have hR:=aaB C note (t+1) r;rw [rU] at hs;obtain ⟨f',r',rfl,hf,hr⟩:=hs;rw [lH] at hx ⊢;exact ⟨Xy hx.1 (fun _ e=>by rw [e,fP] at hf;exact hf) (Np hr),hx.2.1,hx.2.2.1,fun e=>hF _ hf (hx.2.2.2.1 e),fun e=>⟨by rw [Np hr];exact (hx.2.2.2.2 e).1,hR _ hr (hx.2.2.2.2 e).2⟩⟩
 termination_by structural x=>x
theorem anS (C:bK) (note:Bool) (t:Int):∀ (x y:aM),tV y x→qb C note t x→qb C note t y
 | .mk h cs,y,hs,hx=>by
  have hC:=aaA C note t cs;rw [tV] at hs;obtain ⟨cs',rfl,hc⟩:=hs;rw [qb] at hx ⊢;exact ⟨by rw [TT hc];exact hx.1,hC _ hc hx.2⟩
 termination_by structural x=>x
theorem anQ (C:bK) (note:Bool) (t:Int):∀ (x y:aL),wM y x→pY C note t x→pY C note t y
 | .mk i h f,y,hs,hx=>by
  have hF:=Nq C false note t f;rw [wM] at hs;obtain ⟨f',rfl,hf⟩:=hs;rw [pY] at hx ⊢;exact ⟨hx.1,hF _ hf hx.2⟩
 termination_by structural x=>x
theorem Nq (C:bK) (body note:Bool) (t:Int):∀ (l m:List au),fP m l→iI C body note t l→iI C body note t m
 | [],m,hs,_=>by rw [fP] at hs;subst hs;rw [iI];trivial
 | x :: l,m,hs,hx=>by
  have hX:=anR C body note t x;have hL:=Nq C body note t l;rw [fP] at hs;rw [iI] at hx
  rcases hs with hs|⟨y,m',rfl,h1,h2⟩
  ·exact hL _ hs hx.2
  rw [iI];exact ⟨hX _ h1 hx.1,hL _ h2 hx.2⟩
 termination_by structural x=>x
theorem aaB (C:bK) (note:Bool) (t:Int):∀ (l m:List aM),jZ m l→lI C note t l→lI C note t m
 | [],m,hs,_=>by rw [jZ] at hs;subst hs;rw [lI];trivial
 | x :: l,m,hs,hx=>by
  have hX:=anS C note t x;have hL:=aaB C note t l;rw [jZ] at hs;rw [lI] at hx;obtain ⟨y,m',rfl,h1,h2⟩:=hs;rw [lI];exact ⟨hX _ h1 hx.1,hL _ h2 hx.2⟩
 termination_by structural x=>x
theorem aaA (C:bK) (note:Bool) (t:Int):∀ (l m:List aL),lK m l→mD C note t l→mD C note t m
 | [],m,hs,_=>by rw [lK] at hs;subst hs;rw [mD];trivial
 | x :: l,m,hs,hx=>by
  have hX:=anQ C note t x;have hL:=aaA C note t l;rw [lK] at hs;rw [mD] at hx;obtain ⟨y,m',rfl,h1,h2⟩:=hs;rw [mD];exact ⟨hX _ h1 hx.1,hL _ h2 hx.2⟩
 termination_by structural x=>x
end
mutual
theorem anO:∀ (x:au) {y:au},rU y x→(nO y).Sublist (nO x)∧uI y≤uI x∧bJ y.dat≤bJ x.dat
 | .mk k c i tx h f r,y,hs=>by
  rw [rU] at hs;obtain ⟨f',r',rfl,hf,hr⟩:=hs;obtain ⟨a1,a2,a3⟩:=zW f hf;obtain ⟨b1,b2,b3⟩:=aaz r hr;refine ⟨?_,?_,?_⟩
  ·rw [nO,nO];refine List.Sublist.append (bX _) (List.Sublist.append ?_ ?_)
   ·split
    ·exact a1
    exact bX _
   split
   ·exact b1
   exact bX _
  ·rw [uI,uI]
   split <;> split <;> first|omega|(split <;> omega)
  rw [qC,qC]
  show tx.size+kZ h+aZ f'+fE r'+6≤tx.size+kZ h+aZ f+fE r+6
  omega
theorem anP:∀ (x:aM) {y:aM},tV y x→(oO y).Sublist (oO x)∧uR y≤uR x∧bJ y.dat≤bJ x.dat
 | .mk h cs,y,hs=>by
  rw [tV] at hs;obtain ⟨cs',rfl,hc⟩:=hs;obtain ⟨a1,a2,a3⟩:=aay cs hc;refine ⟨by rw [oO,oO];exact a1,by rw [uR,uR];exact a2,?_⟩;rw [vP,vP]
  show kZ h+gZ cs'+1≤kZ h+gZ cs+1
  omega
theorem anN:∀ (x:aL) {y:aL},wM y x→(oN y).Sublist (oN x)∧uC y≤uC x∧bJ y.dat≤bJ x.dat
 | .mk i h f,y,hs=>by
  rw [wM] at hs;obtain ⟨f',rfl,hf⟩:=hs;obtain ⟨a1,a2,a3⟩:=zW f hf;refine ⟨by rw [oN,oN];exact a1.cons_cons _,by rw [uC,uC];exact a2,?_⟩;rw [vO,vO]
  show kZ h+aZ f'+2≤kZ h+aZ f+2
  omega
theorem zW:∀ (l:List au) {m:List au},fP m l→(dQ m).Sublist (dQ l)∧iK m≤iK l∧aZ m≤aZ l
 | [],m,hs=>by rw [fP] at hs;subst hs;exact ⟨bX _,bN _,bN _⟩
 | x :: l,m,hs=>by
  rw [fP] at hs
  rcases hs with hs|⟨y,m',rfl,h1,h2⟩
  ·obtain ⟨a1,a2,a3⟩:=zW l hs;refine ⟨by rw [dQ];exact a1.trans (List.sublist_append_right _ _),by rw [iK];omega,?_⟩
   simp only [aZ,eu,dX] at a3 ⊢;omega
  obtain ⟨a1,a2,a3⟩:=zW l h2;obtain ⟨b1,b2,b3⟩:=anO x h1;refine ⟨by rw [dQ,dQ];exact b1.append a1,by rw [iK,iK];omega,?_⟩
  simp only [aZ,eu,dX] at a3 ⊢;omega
theorem aaz:∀ (l:List aM) {m:List aM},jZ m l→(lF m).Sublist (lF l)∧qV m≤qV l∧fE m≤fE l
 | [],m,hs=>by rw [jZ] at hs;subst hs;exact ⟨bX _,bN _,bN _⟩
 | x :: l,m,hs=>by
  rw [jZ] at hs;obtain ⟨y,m',rfl,h1,h2⟩:=hs;obtain ⟨a1,a2,a3⟩:=aaz l h2;obtain ⟨b1,b2,b3⟩:=anP x h1;refine ⟨by rw [lF,lF];exact b1.append a1,by rw [qV,qV];omega,?_⟩
  simp only [fE,eu,dX] at a3 ⊢;omega
theorem aay:∀ (l:List aL) {m:List aL},lK m l→(mq m).Sublist (mq l)∧rX m≤rX l∧gZ m≤gZ l
 | [],m,hs=>by rw [lK] at hs;subst hs;exact ⟨bX _,bN _,bN _⟩
 | x :: l,m,hs=>by
  rw [lK] at hs;obtain ⟨y,m',rfl,h1,h2⟩:=hs;obtain ⟨a1,a2,a3⟩:=aay l h2;obtain ⟨b1,b2,b3⟩:=anN x h1;refine ⟨by rw [mq,mq];exact b1.append a1,by rw [rX,rX];omega,?_⟩
  simp only [gZ,eu,dX] at a3 ⊢;omega
end
mutual
def E8 (Q:Int→List au→Prop):au→Prop
 | .mk k _ i _ _ f r=>(k=6→Q i f∧pQ Q f)∧(k=7→BZ Q r)
def E9 (Q:Int→List au→Prop):aM→Prop
 | .mk _ cs=>BX Q cs
def E5 (Q:Int→List au→Prop):aL→Prop
 | .mk i _ f=>Q i f∧pQ Q f
def pQ (Q:Int→List au→Prop):List au→Prop
 | []=>True
 | x :: l=>E8 Q x∧pQ Q l
def BZ (Q:Int→List au→Prop):List aM→Prop
 | []=>True
 | x :: l=>E9 Q x∧BZ Q l
def BX (Q:Int→List au→Prop):List aL→Prop
 | []=>True
 | x :: l=>E5 Q x∧BX Q l
end
mutual
theorem acz {Q:Int→List au→Prop} (note:Bool) (t:Int):∀ x:au,(∀ g∈uh note t x,Q g.id g.items)→E8 Q x
 | .mk k c i tx h f r,hx=>by
  rw [uh] at hx;rw [E8]
  constructor
  ·intro e;rw [ay e] at hx;exact ⟨hx ⟨i,f,false,true,t⟩ fH,H6 true t f fun g hg=>hx g (gL _ hg)⟩
  intro e;rw [ah (by omega),ay e] at hx;exact VF note t r hx
theorem acB {Q:Int→List au→Prop} (note:Bool) (t:Int):∀ x:aM,(∀ g∈uj note t x,Q g.id g.items)→E9 Q x
 | .mk h cs,hx=>by rw [uj] at hx;rw [E9];exact VE note t cs hx
theorem acw {Q:Int→List au→Prop} (note:Bool) (t:Int):∀ x:aL,(∀ g∈ug note t x,Q g.id g.items)→E5 Q x
 | .mk i h f,hx=>by rw [ug] at hx;rw [E5];exact ⟨hx ⟨i,f,false,note,t+1⟩ fH,H6 note (t+1) f fun g hg=>hx g (gL _ hg)⟩
theorem H6 {Q:Int→List au→Prop} (note:Bool) (t:Int):∀ l:List au,(∀ g∈gQ note t l,Q g.id g.items)→pQ Q l
 | [],_=>by rw [pQ];trivial
 | x :: l,h=>by
  rw [gQ] at h;rw [pQ];exact ⟨acz note t x fun g hg=>h g (List.mem_append_left _ hg),H6 note t l fun g hg=>h g (List.mem_append_right _ hg)⟩
theorem VF {Q:Int→List au→Prop} (note:Bool) (t:Int):∀ l:List aM,(∀ g∈mI note t l,Q g.id g.items)→BZ Q l
 | [],_=>by rw [BZ];trivial
 | x :: l,h=>by
  rw [mI] at h;rw [BZ];exact ⟨acB note t x fun g hg=>h g (List.mem_append_left _ hg),VF note t l fun g hg=>h g (List.mem_append_right _ hg)⟩
theorem VE {Q:Int→List au→Prop} (note:Bool) (t:Int):∀ l:List aL,(∀ g∈mU note t l,Q g.id g.items)→BX Q l
 | [],_=>by rw [BX];trivial
 | x :: l,h=>by
  rw [mU] at h;rw [BX];exact ⟨acw note t x fun g hg=>h g (List.mem_append_left _ hg),VE note t l fun g hg=>h g (List.mem_append_right _ hg)⟩
end
theorem VB {Q:Int→List au→Prop}:∀ {l:List au},pQ Q l→∀ x∈l,E8 Q x
 | [],_,_,h=>by cases h
 | y :: l,h,x,hx=>by
  rw [pQ] at h
  rcases iQ.1 hx with rfl|hx
  ·exact h.1
  exact VB h.2 x hx
theorem VD {Q:Int→List au→Prop}:∀ {l:List aM},BZ Q l→∀ x∈l,E9 Q x
 | [],_,_,h=>by cases h
 | y :: l,h,x,hx=>by
  rw [BZ] at h
  rcases iQ.1 hx with rfl|hx
  ·exact h.1
  exact VD h.2 x hx
theorem VA {Q:Int→List au→Prop}:∀ {l:List aL},BX Q l→∀ x∈l,E5 Q x
 | [],_,_,h=>by cases h
 | y :: l,h,x,hx=>by
  rw [BX] at h
  rcases iQ.1 hx with rfl|hx
  ·exact h.1
  exact VA h.2 x hx
theorem acu {Q:Int→List au→Prop} (x:au):E8 Q x=((x.kind=6→Q x.id x.flow∧pQ Q x.flow)∧(x.kind=7→BZ Q x.rows)):=by cases x;rw [E8];rfl
theorem acv {Q:Int→List au→Prop} (x:aM):E9 Q x=BX Q x.cells:=by cases x;rw [E9];rfl
theorem acs {Q:Int→List au→Prop} (x:aL):E5 Q x=(Q x.id x.flow∧pQ Q x.flow):=by cases x;rw [E5];rfl
theorem aav (y x:au):rU y x↔∃ f' r',y=.mk x.kind x.code x.id x.text x.head f' r'∧fP f' x.flow∧jZ r' x.rows:=by cases x;rw [rU];rfl
theorem anK (y x:aM):tV y x↔∃ cs',y=.mk x.head cs'∧lK cs' x.cells:=by cases x;rw [tV];rfl
theorem acy {l new f0:List au} {id:Int} (h:Ak l) (hf:∃ g∈eY l,g.id=id∧g.items=f0) (hn:fP new f0):pQ (fun i f=>i=id→fP new f) l:=by
 obtain ⟨g0,hg0,rfl,rfl⟩:=hf;refine H6 false 0 l fun g hg e=>?_;have h1:=Iy h.ids hg0;have h2:=Iy h.ids (F:=g) (gL _ hg);rw [e,h1] at h2
 injection h2 with h2
 rw [← h2];exact hn
end
section
open Go.RowKit
theorem PX:∀ args w,(callFunc 79 args).run prog w=.ok (.enter 79 args) w:=enters func79 rfl (by kernel_rfl)
theorem afb:∀ args w,(callFunc 142 args).run prog w=.ok (.enter 142 args) w:=enters func142 rfl (by kernel_rfl)
theorem agw:∀ args w,(callFunc 78 args).run prog w=.ok (.enter 78 args) w:=enters func78 rfl (by kernel_rfl)
theorem agx:∀ args w,(callFunc 80 args).run prog w=.ok (.enter 80 args) w:=enters func80 rfl (by kernel_rfl)
abbrev rF (b:Nat) (q:Bool):Nat × Obj:=(b,.cells #[.bool q] 4 (0,0))
theorem tN (A B:OL) (x:Nat × Obj):(A++x :: B).Perm ((A++B)++[x]):=by
 rw [gy];exact (rD (l₁:=[x]) (l₂:=B)).append_left A
theorem adN (G:GH) (w0:World) (hO:fC G [] w0) (rows:List (List Dat)) (A:Option Addr) (n c:Nat) (hv:av G (.sl 7 rows) (.slice A n c)) (hz:rows.length≤4294967296) :
  Calls prog 142 #[.slice A n c] w0 (eP w0 G [] fun u G' L'=>∃ xs,bR 147 7 u rows.length xs L'∧bE G' 7 rows xs):=by
 obtain ⟨hn,hc1,hc2,hnil,hx⟩:=hv.cells;refine gB (N:=8) (T:=[(0,_)]) func142 rfl ntmps142 rfl rfl hO ?_;refine ak 6 ?_;intro a H;refine zV wO H wn rfl rfl ?_;clear H;refine goC 1 ?_ ?_
 ·intro h4
  refine ak 3 ?_;intro a H;refine lr H results142 rfl ?_;have hr0:=hnil (by simpa using h4);subst hr0;exact H.hp.cZ ⟨[],bR.nil,bE.nil⟩
 intro h4
 try have p4:=dF h4
 refine ak 1 ?_
 have hA:¬ A=none:=by intro e;rw [e] at h4;cases h4
 refine ak 1 ?_;intro a H;refine zT wO iw H wn rfl ?_;clear H;intro b5 a w hb5 H;refine aH 1 H ?_;clear H
 intro a H;by_cases hr0:rows=[]
 ·have hn0:n=0:=by rw [hn,hr0];rfl
  subst hn0;refine yQ wO iw H wn rfl rfl (bN _) rfl ?_;clear H;refine ak 2 ?_;intro a H;refine lr H results142 rfl ?_;subst hr0;exact H.hp.cZ ⟨[],bR.empty,bE.nil⟩
 obtain ⟨b,o,xs,rfl,hxl,hxc,hx1,eD⟩:=hx hr0;refine nU (Li:=[]) (Lo:=[_]) (news:=xs) wO iw rfl rfl H wn rfl rfl bR.empty hxl (fun j u hj=>H.hp.aF (hxc j u hj)) hx1 (by omega) (by omega) rfl ?_;clear H;intro v7 Lo a w hrow H;dsimp only [List.nil_append] at H;refine aH 2 H ?_;clear H;intro a H;refine lr H results142 rfl ?_;exact H.hp.cZ ⟨_,by rw [fQ,hn] at hrow;exact hrow,eD⟩
abbrev Jy:aj:=.func (.func 78) #[] #[]
abbrev Da (b4 bd b5:Nat):aj:=.func (.func 80) #[] #[(aD b4 0),(aD bd 0),(aD b5 0)]
def Bt (id:Int) (new:List au):Int→List au→Prop:=fun i f=>i=id→fP new f
structure HY (G:GH) (id:Int) (new:List au) (b4 b5:Nat):Prop where
 i:aF G b4 0=some (vi id)
 n:∃ A n c,aF G b5 0=some (.slice A n c)∧av G (.sl 11 (new.map au.dat)) (.slice A n c)
 al:pQ (Bt id new) new
theorem HY.mono {G G':GH} (hm:∀ b o,G b=some o→G' b=some o) {id:Int} {new:List au} {b4 b5:Nat} (h:HY G id new b4 b5):HY G' id new b4 b5 :=
 ⟨aJ hm h.i,let ⟨A,n,c,h1,h2⟩:=h.n;⟨A,n,c,aJ hm h1,h2.mono hm⟩,h.al⟩
theorem aoa (G:GH) (w0:World) (hG:Hold G w0) (i:Int) (A:Option Addr) (n c:Nat):qX prog Jy [vi i,.slice A n c] w0 (bD w0 G fun u G'=>u=.slice A n c):=by
 refine jq (caps:=[]) agw ?_;refine eN [(0,_),(1,_)] func78 rfl ntmps78 rfl rfl hG ?_;refine aP 7 ?_;exact rfl
theorem aaG (G:GH) (w0:World) (id:Int) (new:List au) (b4 bd b5:Nat) (q:Bool) (hO:fC G [rF bd q] w0) (hE:HY G id new b4 b5) (i:Int) (f:List au) (v:aj) (hv:av G (.sl 11 (f.map au.dat)) v) (hq:Bt id new i f) (ha:pQ (Bt id new) f) :
  qX prog (Da b4 bd b5) [vi i,v] w0 (eP w0 G [rF bd q] fun u G' L'=>∃ o q',L'=[rF bd q']∧av G' (.sl 11 (o.map au.dat)) u∧fP o f∧pQ (Bt id new) o):=by
 refine jq (caps:=[(aD b4 0),(aD bd 0),(aD b5 0)]) agx ?_;obtain ⟨A,n,c,rfl⟩:=hv.form;obtain ⟨hi,⟨B,m,e,hb,hn⟩,hal⟩:=hE;refine gB (N:=16) (T:=[(0,_),(1,_),(2,_),(3,_),(4,_)]) func80 rfl ntmps80 rfl rfl hO ?_;refine kT 9 11 ?_ ?_
 ·intro oz
  refine ak 8 ?_;intro a H;refine lr H results80 rfl ?_;exact H.hp.cZ ⟨f,_,rfl,hv,Gw f,ha⟩
 intro oz
 refine goB 3 ?_ ?_
 ·intro oW
  refine ak 4 ?_;intro a H;refine lr H results80 rfl ?_;exact H.hp.cZ ⟨f,_,rfl,hv,Gw f,ha⟩
 intro oW
 refine ak 2 ?_;intro a H;refine aV vI 0 (vs:=[_]) _ H wn rfl rfl rfl rfl rfl rfl rfl rfl ?_;clear H;intro w H;dsimp only [List.set,setRow] at H;refine aH 5 H ?_;clear H;intro a H;refine lr H results80 rfl ?_;exact H.hp.cZ ⟨new,_,rfl,hn,hq (lu.1 oz),hal⟩
def Ot (id:Int) (new:List au) (b4 bd b5 n:Nat):Prop:=∀ (G:GH) (w0:World) (l:List au) (v:aj) (q:Bool),fC G [rF bd q] w0→HY G id new b4 b5→av G (.sl 11 (l.map au.dat)) v→pQ (Bt id new) l→aZ l < n →
 Calls prog 79 #[v,Jy,Da b4 bd b5] w0 (eP w0 G [rF bd q] fun u G' L'=>∃ m q',L'=[rF bd q']∧av G' (.sl 11 (m.map au.dat)) u∧fP m l)
theorem bE.aaD {G:GH} {sz:Nat}:∀ {rows:List (List Dat)} {xs:List aj} {i k:Nat} {r r':List Dat} {v:aj},bE G sz rows xs→rows[i]?=some r→(∀ cs,aN G r cs→aN G r' (cs.set k v))→k < sz→bE G sz (rows.set i r') (xs.set (i*sz+k) v)
 | [],_,_,_,_,_,_,_,h,_,_=>by simp at h
 | q :: rows,xs,i,k,r,r',v,h,hr,hv,hs=>by
  obtain ⟨css,rfl,h2,h3⟩:=h
  cases css with
  | nil=>simp at h2
  | cons c css =>
   obtain ⟨h4,h5⟩:=h3 0 q c rfl rfl;have h6:bE G sz rows css.flatten:=⟨css,rfl,by simpa using h2,fun j r' cs hr' hc=>h3 (j+1) r' cs (by simpa using hr') (by simpa using hc)⟩
   have h7:∀ {q':List Dat} {rows':List (List Dat)} {c' x':List aj},aN G q' c'→c'.length=sz→bE G sz rows' x'→bE G sz (q' :: rows') (c'++x'):=fun a b e=>by
    have h8:=((bE.nil (G:=G) (sz:=sz)).snoc a b).append e
    simpa using h8
   rw [List.flatten_cons]
   cases i with
   | zero =>
    simp only [yg,lS] at hr
    subst hr;rw [Nat.zero_mul,fQ,List.set_append_left _ _ (by omega)];exact h7 (hv _ h4) (by rw [List.length_set];exact h5) h6
   | succ i =>
    rw [List.set_append_right _ _ (by rw [h5,Nat.succ_mul];omega),h5,show (i+1)*sz+k - sz=i*sz+k by rw [Nat.succ_mul];omega];exact h7 h4 h5 (bE.aaD h6 (by simpa using hr) hv hs)
theorem bE.anX {G:GH} {ds:List aL} {zs:List aj} {i:Nat} {f:List au} {v:aj} (h:bE G 7 (ds.map aL.dat) zs) (hi:i < ds.length) (hv:av G (.sl 11 (f.map au.dat)) v):bE G 7 ((ds.set i (.mk ds[i].id ds[i].head f)).map aL.dat) (zs.set (i*7+6) v):=by
 rw [List.map_set];refine h.aaD (r:=ds[i].dat) (by simp [hi]) (fun cs hc=>?_) (by decide);obtain ⟨aA,an,ac,gA,gn,gc,uA,un,uc,wA,wn,wc,rfl,hh,-⟩:=hc.cell;exact aN.Ev (x:=.mk ds[i].id ds[i].head f) hh hv
theorem amM {id:Int} {new:List au} {b4 bd b5 n:Nat} (ih:Ot id new b4 bd b5 n) (hn:n≤1073741824):Ot id new b4 bd b5 (n+1):=by
 intro G w0 l v b hO hE hv hQ hz;obtain ⟨A,c,rfl,hc1,hc2,hg⟩:=hv.slice
 have hml:4294967297≤maxLen:=by decide
 have hll:=wR l;rw [bO] at *;refine gB (N:=88) (T:=[(0,_),(1,_),(2,_)]) func79 rfl ntmps79 rfl rfl hO ?_;refine ak 13 ?_;intro a H;refine eO (ι:=Nat × Bool × aj × List au × List aj × OL × GH) (Tc:=[(1,_),(2,_),(15,_),(16,_)]) (Lc:=[]) (fun gh=>[(7,gh.2.2.1),(17,vi gh.1)]) (fun gh=>[rF bd gh.2.1]++gh.2.2.2.2.2.1) (fun gh=>gh.2.2.2.2.2.2) (fun gh=>gh.1≤l.length∧bR 68 11 gh.2.2.1 gh.2.2.2.1.length gh.2.2.2.2.1 gh.2.2.2.2.2.1∧bE gh.2.2.2.2.2.2 11 (gh.2.2.2.1.map au.dat) gh.2.2.2.2.1∧fP gh.2.2.2.1 (l.take gh.1)∧(∀ b o,G b=some o→gh.2.2.2.2.2.2 b=some o)) (fun gh=>l.length - gh.1) ((0,b,.slice none 0 0,[],[],[],G)) (by exact (H.F8 (A:=[_])).sub ⟨rfl,rfl,rfl,rfl,rfl,rfl,bB⟩) ?_ ?_
 ·exact ⟨by omega,bR.nil,bE.nil,by rw [List.take_zero,fP],fun _ _ h=>h⟩
 clear H;rintro ⟨k,q,v,m,xs,Lo,g⟩ a w hI H;dsimp only at hI H;obtain ⟨hk,hrw,eD,hsb,hgm⟩:=hI;have hmz:=(zW _ hsb).2.2;have Me:=wR m;have Mx:=JN (l.take k) (l.drop k);rw [List.take_append_drop] at Mx;dsimp only [lca,aR] at H;refine dN 4 H ?_ ?_ <;> clear H
 ·intro xG
  have hk2:k < l.length:=by omega
  obtain ⟨b_,o_,pA,pn,pc,dA,dn,dc,yA,yn,yc,fA,fn,fc,rA,rn,rc,rfl,hrow,hhd,hfl,hrs⟩:=zx hk2 hg;replace hrow:=fun j u hj=>aJ hgm (hrow j u hj);replace hhd:=hhd.mono hgm;replace hfl:=hfl.mono hgm;replace hrs:=hrs.mono hgm;have hE2:=hE.mono hgm;have hal:=VB hQ _ (iF hk2);rw [acu] at hal;have hzi:=JL hk2;refine ak 5 ?_;intro a H;refine bg dR (cs:=[_,_,_,_,_,_,_,_,_,_,_]) H wn rfl rfl (fun j v hj=>H.hp.aF (hrow j v hj)) rfl ?_;clear H;intro a H;refine dx dR H wn rfl ?_;clear H;intro b9 a w sW H;refine aV dR 0 (vs:=[_,_,_,_,_,_,_,_,_,_,_]) _ H wn rfl rfl rfl rfl rfl rfl rfl rfl ?_;clear H;intro w H;dsimp only [List.set,setRow] at H;refine aG ?_;refine dG ?_;refine sH (ι:=Bool × au × List aj × GH) (Tc:=[(1,_),(2,_),(7,_),(9,_),(15,_),(16,_),(17,_)]) (Lc:=[]) (fun gh=>[]) (fun gh=>[(b9,.cells gh.2.2.1.toArray 68 (0,0)),rF bd gh.1]++Lo) (fun gh=>gh.2.2.2) (fun gh=>rU gh.2.1 l[k]∧aN gh.2.2.2 gh.2.1.dat gh.2.2.1∧(∀ b o,g b=some o→gh.2.2.2 b=some o)) sB ?_ ?_
  ·refine dN 9 H ?_ ?_ <;> clear H
   ·intro wJ
    obtain ⟨kU,ha6⟩:=hal.1 wJ;refine ak 6 ?_;intro a H;refine pq (Li:=[_]++Lo) (L:=[rF bd _]) (H.perm (tN [_] Lo _)) wn rfl rfl (aaG _ _ id new b4 bd b5 _ (Hp.owns (Li:=[_]++Lo) (H.perm (tN [_] Lo _)).hp) hE2 l[k].id l[k].flow _ hfl kU ha6) rfl ?_;clear H;rintro v30 Ai L30 a w ⟨o30,q30,rfl,YK,Yz,ain⟩ wz H;have H:=H.perm (tN [_] Lo _).symm;have aqS:=(zW _ Yz).2.2;obtain ⟨UW,n30,VO,rfl⟩:=YK.form;refine aH 2 H ?_;clear H;intro a H;refine fB PX (Li:=[_]++Lo) (L:=[rF bd _]) (H.perm (tN [_] Lo _)) wn rfl (ih _ _ o30 _ q30 (Hp.owns (Li:=[_]++Lo) (H.perm (tN [_] Lo _)).hp) (hE2.mono wz) YK ain (by omega)) rfl ?_;clear H;rintro v33 U7 L33 a w ⟨SG,q33,rfl,YP,ajV⟩ Rz H;have H:=H.perm (tN [_] Lo _).symm;obtain ⟨A33,n33,c33,rfl⟩:=YP.form;dsimp only [lca,aR] at H;refine aH 1 H ?_;clear H;intro a H;refine aV pG 0 (vs:=[_]) _ H wn rfl rfl rfl rfl rfl rfl rfl rfl ?_;clear H;intro w H;dsimp only [List.set,setRow] at H;refine aG ?_;refine ⟨(q33,.mk l[k].kind l[k].code l[k].id l[k].text l[k].head SG l[k].rows,[vi l[k].kind,vi l[k].code,vi l[k].id,.string l[k].text,.slice pA pn pc,vi l[k].head.marks.ins,vi l[k].head.marks.move,.slice dA dn dc,.slice yA yn yc,.slice A33 n33 c33,.slice rA rn rc],U7),sB,?_⟩;(try dsimp only);exact ⟨(aav _ _).2 ⟨SG,l[k].rows,rfl,C9 _ ajV Yz,T9 _⟩,aN.mkItem (x:=.mk l[k].kind l[k].code l[k].id l[k].text l[k].head SG l[k].rows) (hhd.mono fun b o h=>Rz b o (wz b o h)) YP (hrs.mono fun b o h=>Rz b o (wz b o h)),fun b o h=>Rz b o (wz b o h)⟩
   intro wJ
   refine goB 4 ?_ ?_
   ·intro p35
    have ha7:=hal.2 p35;refine ak 10 ?_;intro a H;refine nV H wn rfl rfl (aoa _ _ H.ro l[k].id rA rn rc) rfl ?_;clear H;rintro v42 JX a w rfl aje H;have aqQ:=hrs;obtain ⟨_,rc_,he,hc3,hc4,aiY⟩:=hrs.slice
    injection he with he1 he2 he3
    subst he1 he2 he3;have hrl:=BJ l[k].rows;rw [bO] at *;refine aH 4 H ?_;clear H;intro a H;refine eO (ι:=Nat × Bool × aj × List aM × List aj × OL × GH) (Tc:=[(1,_),(2,_),(7,_),(9,_),(15,_),(16,_),(17,_),(42,_),(43,_)]) (Lc:=[(_,_)]) (fun gh=>[(10,gh.2.2.1),(44,vi gh.1)]) (fun gh=>[rF bd gh.2.1]++(Lo++gh.2.2.2.2.2.1)) (fun gh=>gh.2.2.2.2.2.2) (fun gh=>gh.1≤l[k].rows.length∧bR 144 6 gh.2.2.1 gh.2.2.2.1.length gh.2.2.2.2.1 gh.2.2.2.2.2.1∧bE gh.2.2.2.2.2.2 6 (gh.2.2.2.1.map aM.dat) gh.2.2.2.2.1∧jZ gh.2.2.2.1 (l[k].rows.take gh.1)∧(∀ b o,g b=some o→gh.2.2.2.2.2.2 b=some o)) (fun gh=>l[k].rows.length - gh.1) ((0,q,.slice none 0 0,[],[],[],JX)) (by exact (H.F8 (A:=[_,_])).sub ⟨rfl,rfl,rfl,rfl,rfl,rfl,rfl,rfl,rfl,rfl,rfl,bB⟩) ?_ ?_
    ·exact ⟨by omega,bR.nil,bE.nil,by rw [List.take_zero,jZ],aje⟩
    clear H;rintro ⟨j,q2,vr,rs,ys,Lr,g2⟩ a w hI H;dsimp only at hI H;obtain ⟨hj,hrw2,FK,hsr,iM⟩:=hI;have ajJ:=Np hsr;rw [List.length_take] at ajJ;dsimp only [lca,aR] at H;refine dN 4 H ?_ ?_ <;> clear H
    ·intro p45
     have hj2:j < l[k].rows.length:=by omega
     obtain ⟨b2_,o2_,qA,qn,qc,sA,sn,sc,tA,tn,tc,cA,cn,cc,rfl,hrow2,D9,hcl⟩:=EC hj2 aiY;replace hrow2:=fun j u hj=>aJ iM (hrow2 j u hj);replace D9:=D9.mono iM;replace hcl:=hcl.mono iM;have XL:=VD ha7 _ (iF hj2);rw [acv] at XL;have hzr:=JM hj2;have aiJ:=BH l[k].rows[j].cells;refine ak 5 ?_;intro a H;refine bg iU (cs:=[_,_,_,_,_,_]) H wn rfl rfl (fun j v hj=>H.hp.aF (hrow2 j v hj)) rfl ?_;clear H;intro a H;refine dx iU H wn rfl ?_;clear H;intro b12 a w D5 H;refine aV iU 0 (vs:=[_,_,_,_,_,_]) _ H wn rfl rfl rfl rfl rfl rfl rfl rfl ?_;clear H;intro w H;dsimp only [List.set,setRow] at H;refine aH 4 H ?_;clear H;intro a H;refine fB afb (Li:=[_,_,_]++(Lo++Lr)) (L:=[]) (H.cast (lY _).symm) wn rfl (adN _ _ (vG H.ro) _ _ _ _ hcl (by simpa using (by omega:l[k].rows[j].cells.length≤4294967296))) rfl ?_;clear H;rintro v50 Vd L50 a w ⟨apX,RZ,aiE⟩ Yc H;rw [bO] at RZ;obtain ⟨JO,Ce,rfl,-,-⟩:=RZ.shape;dsimp only [lca,aR] at H;refine aH 1 H ?_;clear H;intro a H;refine aV Gx 0 (vs:=[_]) _ H wn rfl rfl rfl rfl rfl rfl rfl rfl ?_;clear H;intro w H;dsimp only [List.set,setRow] at H;refine aH 9 H ?_;clear H;intro a H;refine eO (ι:=Nat × Bool × List aL × List aj × OL × GH) (Tc:=[(1,_),(2,_),(7,_),(9,_),(10,_),(12,_),(15,_),(16,_),(17,_),(42,_),(43,_),(44,_),(53,_),(54,_)]) (Lc:=[(_,_),(_,_)]) (fun gh=>[(55,vi gh.1)]) (fun gh=>[rF bd gh.2.1]++((Lo++Lr)++gh.2.2.2.2.1)) (fun gh=>gh.2.2.2.2.2) (fun gh=>gh.1≤l[k].rows[j].cells.length∧bR 147 7 (.slice JO l[k].rows[j].cells.length Ce) l[k].rows[j].cells.length gh.2.2.2.1 gh.2.2.2.2.1∧bE gh.2.2.2.2.2 7 (gh.2.2.1.map aL.dat) gh.2.2.2.1∧lK gh.2.2.1 l[k].rows[j].cells∧gh.2.2.1.drop gh.1=l[k].rows[j].cells.drop gh.1∧(∀ b o,Vd b=some o→gh.2.2.2.2.2 b=some o)) (fun gh=>l[k].rows[j].cells.length - gh.1) ((0,q2,l[k].rows[j].cells,apX,L50,Vd)) sB ?_ ?_
     ·exact ⟨by omega,RZ,aiE,TU _,rfl,fun _ _ h=>h⟩
     clear H;rintro ⟨i,q3,ds,zs,Lc,g3⟩ a w hI H;dsimp only at hI H;obtain ⟨hi,hrw3,Q0,hsc,hdr,vg⟩:=hI;have hdl:=TT hsc;dsimp only [lca,aR] at H;refine dN 4 H ?_ ?_ <;> clear H
     ·intro p56
      have hi2:i < l[k].rows[j].cells.length:=by omega
      have hi3:i < ds.length:=by omega
      have hdi:ds[i]=l[k].rows[j].cells[i]:=by
       have h1:(ds.drop i)[0]?=(l[k].rows[j].cells.drop i)[0]?:=by rw [hdr]
       rw [List.getElem?_drop,List.getElem?_drop,kI,dY hi3,dY hi2] at h1;exact Option.some.inj h1
      obtain ⟨bc,rfl⟩:=hrw3.ptr (by omega);obtain ⟨zc,hzc,hzx,akq⟩:=Q0.at (k:=i) (r:=ds[i].dat) (by simp [hi3]);obtain ⟨aA,an,ac,gA,gn,gc,uA,un,uc,wA,JJ,wc,rfl,aqD,aiV⟩:=akq.cell;obtain ⟨cur,-,rfl,hcur,hset⟩:=hrw3.set1;have QO:=VA XL _ (iF hi2);rw [acs,← hdi] at QO;have XF:=hE2.mono fun b o h=>vg b o (Yc b o (iM b o h));have akp:=JK hi2;rw [← hdi] at akp;refine ak 6 ?_;intro a H;refine bg iw (cs:=[vi ds[i].id,.slice aA an ac,vi ds[i].head.marks.ins,vi ds[i].head.marks.move,.slice gA gn gc,.slice uA un uc,.slice wA JJ wc]) H wn rfl rfl (fun j v hj=>hrw3.at H.hp (fun x hx=>gL _ (gL _ (gL _ (List.mem_append_right _ hx)))) (by rw [fQ];exact hzx j v hj)) rfl ?_;clear H;intro a H;refine dx iw H wn rfl ?_;clear H;intro b14 a w QU H;refine aH 1 H ?_;clear H;intro a H;refine aV iw 0 (vs:=[_,_,_,_,_,_,_]) _ H wn rfl rfl rfl rfl rfl rfl rfl rfl ?_;clear H;intro w H;dsimp only [List.set,setRow] at H;refine aG ?_;refine dG ?_
      have xB:∀ (aT:Nat) (v:aj) (G G':GH),(∀ k o,G k=some o→G' k=some o)→(fun (aT:Nat) (v:aj) (G:GH)=>match aT with|0=>v=(aD b12 5)|1=>v=.slice (some ⟨bc,0,none⟩) l[k].rows[j].cells.length Ce|2=>v=vi i|3=>v=Da b4 bd b5|4=>v=(aD b14 0)|5=>v=vi ds[i].id|6=>v=(aD b14 6)|7=>v=.slice wA JJ wc|8=>∃ o,av G (.sl 11 (o.map au.dat)) v∧fP o ds[i].flow∧pQ (Bt id new) o|9=>v=Jy|10=>v=Da b4 bd b5|11=>∃ m,av G (.sl 11 (m.map au.dat)) v∧fP m ds[i].flow|_=>True) aT v G→(fun (aT:Nat) (v:aj) (G:GH)=>match aT with|0=>v=(aD b12 5)|1=>v=.slice (some ⟨bc,0,none⟩) l[k].rows[j].cells.length Ce|2=>v=vi i|3=>v=Da b4 bd b5|4=>v=(aD b14 0)|5=>v=vi ds[i].id|6=>v=(aD b14 6)|7=>v=.slice wA JJ wc|8=>∃ o,av G (.sl 11 (o.map au.dat)) v∧fP o ds[i].flow∧pQ (Bt id new) o|9=>v=Jy|10=>v=Da b4 bd b5|11=>∃ m,av G (.sl 11 (m.map au.dat)) v∧fP m ds[i].flow|_=>True) aT v G':=by
       intro aT v G G' hm h
       match aT,h with
       | 0,h=>exact h
       | 1,h=>exact h
       | 2,h=>exact h
       | 3,h=>exact h
       | 4,h=>exact h
       | 5,h=>exact h
       | 6,h=>exact h
       | 7,h=>exact h
       | 8,h=>exact let ⟨o,h1,h2,h3⟩:=h;⟨o,h1.mono hm,h2,h3⟩
       | 9,h=>exact h
       | 10,h=>exact h
       | 11,h=>exact let ⟨o,h1,h2⟩:=h;⟨o,h1.mono hm,h2⟩
       | 12,h=>exact trivial
       | 13,h=>exact trivial
       | 14,h=>exact trivial
       | _+15,h=>exact trivial
      refine acQ (κ:=Bool) (q3) (fun q=>(b14,.cells #[vi ds[i].id,.slice aA an ac,vi ds[i].head.marks.ins,vi ds[i].head.marks.move,.slice gA gn gc,.slice uA un uc,.slice wA JJ wc] 147 (0,0)) :: (b12,.cells #[.slice qA qn qc,vi l[k].rows[j].head.marks.ins,vi l[k].rows[j].head.marks.move,.slice sA sn sc,.slice tA tn tc,.slice (some ⟨bc,0,none⟩) l[k].rows[j].cells.length Ce] 144 (0,0)) :: (b9,.cells #[vi l[k].kind,vi l[k].code,vi l[k].id,.string l[k].text,.slice pA pn pc,vi l[k].head.marks.ins,vi l[k].head.marks.move,.slice dA dn dc,.slice yA yn yc,.slice fA fn fc,.slice (some ⟨b2_,o2_,none⟩) l[k].rows.length rc] 68 (0,0)) :: rF bd q :: ((Lo++Lr)++[(bc,.cells cur.toArray 147 (0,0))])) (hmx) [[],[0],[],[],[],[4],[],[6],(ra 3 5),[],[],(ra 3 8),(ra 0 12),(ra 0 13),(ra 0 14)] [12,13,14] (by kernel_rfl) (by kernel_rfl) (fun (aT:Nat) (v:aj) (G:GH)=>match aT with|0=>v=(aD b12 5)|1=>v=.slice (some ⟨bc,0,none⟩) l[k].rows[j].cells.length Ce|2=>v=vi i|3=>v=Da b4 bd b5|4=>v=(aD b14 0)|5=>v=vi ds[i].id|6=>v=(aD b14 6)|7=>v=.slice wA JJ wc|8=>∃ o,av G (.sl 11 (o.map au.dat)) v∧fP o ds[i].flow∧pQ (Bt id new) o|9=>v=Jy|10=>v=Da b4 bd b5|11=>∃ m,av G (.sl 11 (m.map au.dat)) v∧fP m ds[i].flow|_=>True) H ?_ ?_
      ·clear H;refine aC ?_ ?_ ?_ ?_ (aC ?_ ?_ ?_ ?_ (aC ?_ ?_ ?_ ?_ (bL ?_ (bL ?_ (bL ?_ dw)))))
       ·refine zN fun fu=>?_;refine cO [] rfl trivial (by kernel_rfl) xB rfl rfl ?_;intro bF a w G1 hG HT H fin;exact kH H (Rf Ir rfl fun _ H=>fin H iJ rfl)
       ·refine zN fun fu=>?_;refine cO [(0,60,_)] rfl ⟨fun _ _ h=>h,bB⟩ (by kernel_rfl) xB rfl rfl ?_;intro bF a w G1 hG HT H fin;exact kH H (Ro Gx 1 rfl fun _ H=>fin H iJ rfl)
       ·refine zN fun fu=>?_;refine cO [] rfl trivial (by kernel_rfl) xB rfl rfl ?_;intro bF a w G1 hG HT H fin;exact kH H (Rm rfl fun _ H=>fin H iJ rfl)
       ·refine zN fun fu=>?_;refine cO [] rfl trivial (by kernel_rfl) xB rfl rfl ?_;intro bF a w G1 hG HT H fin;exact kH H (Rm rfl fun _ H=>fin H iJ rfl)
       ·refine zN fun fu=>?_;refine cO [] rfl trivial (by kernel_rfl) xB rfl rfl ?_;intro bF a w G1 hG HT H fin;exact kH H (Rf P7 rfl fun _ H=>fin H iJ rfl)
       ·refine zN fun fu=>?_;refine cO [(4,64,_)] rfl ⟨fun _ _ h=>h,bB⟩ (by kernel_rfl) xB rfl rfl ?_;intro bF a w G1 hG HT H fin;exact kH H (Ro bH 0 rfl fun _ H=>fin H iJ rfl)
       ·refine zN fun fu=>?_;refine cO [] rfl trivial (by kernel_rfl) xB rfl rfl ?_;intro bF a w G1 hG HT H fin;exact kH H (Rf KO rfl fun _ H=>fin H iJ rfl)
       ·refine zN fun fu=>?_;refine cO [(6,66,_)] rfl ⟨fun _ _ h=>h,bB⟩ (by kernel_rfl) xB rfl rfl ?_;intro bF a w G1 hG HT H fin;exact kH H (Ro pG 0 rfl fun _ H=>fin H iJ rfl)
       ·intro fu bF a w G1 _ bT hc hG HT hv;have H:=HT;clear bT;have H:=H.aO (hv 3 63 (hc 3 (by decide)) rfl) rfl;have H:=H.aO (hv 5 65 (hc 5 (by decide)) rfl) rfl;have H:=H.aO (hv 7 67 (hc 7 (by decide)) rfl) rfl;have Hb:=H.full;have H:=Hb;clear hc;refine pq (Li:=[_,_,_]++((Lo++Lr)++[_])) (L:=[rF bd _]) (H.perm (tN [_,_,_] ((Lo++Lr)++[_]) _)) wn rfl rfl (aaG _ _ id new b4 bd b5 _ (Hp.owns (Li:=[_,_,_]++((Lo++Lr)++[_])) (H.perm (tN [_,_,_] ((Lo++Lr)++[_]) _)).hp) (XF.mono hG) ds[i].id ds[i].flow _ (aiV.mono hG) QO.1 QO.2) rfl ?_;clear H;rintro v68 Vg L68 a w ⟨SY,q68,rfl,Mr,Mi,QN⟩ ahS H;have H:=H.perm (tN [_,_,_] ((Lo++Lr)++[_]) _).symm;dsimp only [lca,aR] at H;refine aG ⟨rfl,q68,?_⟩;exact Ch (by kernel_rfl) xB rfl HT Hb hG (fun j e h1 h2 h3=>hv j e h2 h3) ahS (⟨SY,Mr,Mi,QN⟩) H
       ·refine zN fun fu=>?_;refine cO [] rfl trivial (by kernel_rfl) xB rfl rfl ?_;intro bF a w G1 hG HT H fin;exact kH H (Rm rfl fun _ H=>fin H iJ rfl)
       ·refine zN fun fu=>?_;refine cO [] rfl trivial (by kernel_rfl) xB rfl rfl ?_;intro bF a w G1 hG HT H fin;exact kH H (Rm rfl fun _ H=>fin H iJ rfl)
       ·intro fu bF a w G1 _ bT hc hG HT hv;have H:=HT;clear bT;obtain ⟨u68,akk,Yn⟩:=hv 8 68 (hc 8 (by decide)) rfl;(try dsimp only at Yn);obtain ⟨SY,Mr,Mi,QN⟩:=Yn;obtain ⟨A68,n68,c68,rfl⟩:=Mr.form;have aqT:=(zW _ Mi).2.2;have H:=H.jo akk;have H:=H.aO (hv 9 69 (hc 9 (by decide)) rfl) rfl;have H:=H.aO (hv 10 70 (hc 10 (by decide)) rfl) rfl;have Hb:=H.full;have H:=Hb;clear hc;refine fB PX (Li:=[_,_,_]++((Lo++Lr)++[_])) (L:=[rF bd _]) (H.perm (tN [_,_,_] ((Lo++Lr)++[_]) _)) wn rfl (ih _ _ SY _ _ (Hp.owns (Li:=[_,_,_]++((Lo++Lr)++[_])) (H.perm (tN [_,_,_] ((Lo++Lr)++[_]) _)).hp) (XF.mono hG) Mr QN (by omega)) rfl ?_;clear H;rintro v71 G71 L71 a w ⟨SH,q71,rfl,Ms,ajW⟩ ahT H;have H:=H.perm (tN [_,_,_] ((Lo++Lr)++[_]) _).symm;dsimp only [lca,aR] at H;refine aG ⟨rfl,q71,?_⟩;exact Ch (by kernel_rfl) xB rfl HT Hb hG (fun j e h1 h2 h3=>hv j e h2 h3) ahT (⟨SH,Ms,C9 _ ajW Mi⟩) H
       ·intro _ _ _ _ _ hB;exact absurd hB (by decide)
       ·intro _ _ _ _ _ hB;exact absurd hB (by decide)
       intro _ _ _ _ _ hB;exact absurd hB (by decide)
      clear H;intro fu a w G LB H hv;have H:=H.aO (hv 1 61 rfl rfl) rfl;have H:=H.aO (hv 2 62 rfl rfl) rfl;obtain ⟨u71,akl,Yo⟩:=hv 11 71 (by decide) rfl;(try dsimp only at Yo);obtain ⟨SH,Ms,ajU⟩:=Yo;obtain ⟨GQ,n71,Ib,rfl⟩:=Ms.form;have H:=H.jo akl;clear hv;refine kH H (Ri wO iw rfl rfl (Rf KO rfl ?_));clear H;intro a H;refine aV pG (4+(Lo++Lr).length) (c:=cur) (vs:=[.slice GQ n71 Ib]) (cur.set (i*7+6) (.slice GQ n71 Ib)) H wn rfl (Y8 [_,_,_,_] (Lo++Lr) _) rfl rfl rfl rfl (by simp;omega) (by rw [fQ];rfl) ?_;clear H;intro w H;have H:=H.cast (aaF [_,_,_,_] (Lo++Lr) _ _);have hrwn:=hset (i*7+6) (.slice GQ n71 Ib);have Q6:=(Q0.mono LB).anX hi3 Ms;refine aG ⟨rfl,?_⟩;refine dG ?_;refine eB 3 H ?_;clear H;intro a H;refine aG ?_;refine dH ((i+1,fu,ds.set i (.mk ds[i].id ds[i].head SH),zs.set (i*7+6) (.slice GQ n71 Ib),[(bc,.cells (cur.set (i*7+6) (.slice GQ n71 Ib)).toArray 147 (0,0))],_)) (by exact (H.cu (Pl:=[_,_,_,_]) (bS:=[_,_,_]) [1,2,3] (by decide) rfl).sub ⟨rfl,rfl,rfl,rfl,rfl,rfl,rfl,rfl,rfl,rfl,rfl,rfl,rfl,rfl,rfl,bB⟩) ?_ ?_
      ·(try dsimp only);exact ⟨by omega,hrwn,Q6,aat hi3 hsc ajU,by rw [List.drop_set_of_lt (by omega),← List.tail_drop,hdr,List.tail_drop],fun b o h=>LB b o (vg b o h)⟩
      first|omega|(dsimp only;omega)
     intro p56
     obtain rfl:i=l[k].rows[j].cells.length:=by omega
     refine ak 1 ?_;intro a H;have H:=H.un (A:=[_,_,_]);obtain ⟨Gc,hmc,ajG,H⟩:=St.rG (Li:=[_,_,_]++(Lo++Lr)) H hrw3 (rows:=ds.map aL.dat) (by rw [bO];exact hdl) Q0;have hgc:∀ b o,g2 b=some o→Gc b=some o:=fun b o h=>hmc b o (vg b o (Yc b o h));have Yv:aN Gc (aM.dat (.mk l[k].rows[j].head ds)) [.slice qA qn qc,vi l[k].rows[j].head.marks.ins,vi l[k].rows[j].head.marks.move,.slice sA sn sc,.slice tA tn tc,.slice JO l[k].rows[j].cells.length Ce]:=aN.Jl (x:=.mk l[k].rows[j].head ds) (D9.mono hgc) ajG;dsimp only [lca,aR] at H;refine eB 2 H ?_;clear H;intro a H;refine bg iU (cs:=[_,_,_,_,_,_]) H wn rfl rfl (H.hp.cK 0 rfl rfl) rfl ?_;clear H;intro a H;refine gK BF iU [_,_,_,_,_,_] [_,_,_,_,_,_] H wn rfl rfl rfl rfl rfl (by intro i q h;match i,h with|0,h=>exact h|n+1,h=>simp at h) rfl rfl ?_;clear H;intro b77 a w aqv H;have H:=H.un (A:=[_,_,_,_]);refine nU (Li:=[_,_,_,_]++Lo) (Lo:=Lr) (news:=[.slice qA qn qc,vi l[k].rows[j].head.marks.ins,vi l[k].rows[j].head.marks.move,.slice sA sn sc,.slice tA tn tc,.slice JO l[k].rows[j].cells.length Ce]) BF iU rfl rfl H wn rfl rfl hrw2 rfl (by exact H.hp.cK 0 rfl rfl) Yv.one (by omega) (by omega) rfl ?_;clear H;intro v78 ace a w ajQ H;have H:=H.assoc;dsimp only [lca,aR] at H;refine aH 5 H ?_;clear H;intro a H;refine aG ?_;refine dH ((j+1,q3,v78,rs++[.mk l[k].rows[j].head ds],ys++[.slice qA qn qc,vi l[k].rows[j].head.marks.ins,vi l[k].rows[j].head.marks.move,.slice sA sn sc,.slice tA tn tc,.slice JO l[k].rows[j].cells.length Ce],ace,Gc)) (by exact (H.cu (Pl:=[_,_,_,_]) (bS:=[_,_]) [2,3] (by decide) rfl).sub ⟨rfl,rfl,rfl,rfl,rfl,rfl,rfl,rfl,rfl,rfl,rfl,bB⟩) ?_ ?_
     ·(try dsimp only);exact ⟨by omega,by rw [jH];exact ajQ,by rw [nG];exact ((FK.mono hgc).snoc Yv rfl),by rw [gN hj2];exact aaw hsr ((anK _ _).2 ⟨ds,rfl,hsc⟩),fun b o h=>hgc b o (iM b o h)⟩
     first|omega|(dsimp only;omega)
    intro p45
    obtain rfl:j=l[k].rows.length:=by omega
    refine ak 1 ?_;intro a H;have H:=H.un (A:=[_,_]);obtain ⟨Gr,hmr,hrr,H⟩:=St.rG (Li:=[_,_]++Lo) H hrw2 (rows:=rs.map aM.dat) (by simp) FK;have hgr:∀ b o,g b=some o→Gr b=some o:=fun b o h=>hmr b o (iM b o h);obtain ⟨rB,rn2,rd,rfl⟩:=hrr.form;have hn2:=hrr.len;rw [bO] at hn2;subst hn2;dsimp only [lca,aR] at H;refine eB 3 H ?_;clear H;intro a H;refine aV ND 0 (vs:=[_]) _ H wn rfl rfl rfl rfl rfl rfl rfl rfl ?_;clear H;intro w H;dsimp only [List.set,setRow] at H;refine aG ?_;refine ⟨(q2,.mk l[k].kind l[k].code l[k].id l[k].text l[k].head l[k].flow rs,[vi l[k].kind,vi l[k].code,vi l[k].id,.string l[k].text,.slice pA pn pc,vi l[k].head.marks.ins,vi l[k].head.marks.move,.slice dA dn dc,.slice yA yn yc,.slice fA fn fc,.slice rB rs.length rd],Gr),sB,?_⟩;(try dsimp only);exact ⟨(aav _ _).2 ⟨l[k].flow,rs,rfl,Gw _,by rw [wW] at hsr;exact hsr⟩,aN.mkItem (x:=.mk l[k].kind l[k].code l[k].id l[k].text l[k].head l[k].flow rs) (hhd.mono hgr) (hfl.mono hgr) hrr,hgr⟩
   intro p35
   intro a H;refine ji ?_;refine ⟨(q,l[k],[vi l[k].kind,vi l[k].code,vi l[k].id,.string l[k].text,.slice pA pn pc,vi l[k].head.marks.ins,vi l[k].head.marks.move,.slice dA dn dc,.slice yA yn yc,.slice fA fn fc,.slice rA rn rc],g),sB,?_⟩;(try dsimp only);exact ⟨TV _,aN.mkItem hhd hfl hrs,fun _ _ h=>h⟩
  clear H;rintro ⟨q9,y,Wn,g9⟩ a w hI H;dsimp only at hI H;obtain ⟨hyb,zK,zF⟩:=hI;obtain ⟨e1,e2,e3,e4,e5,e6,e7,e8,e9,f1,f2,f3,f4,f5,f6,LV,-,-,-⟩:=zK.item;rw [LV] at H;dsimp only [lca,aR] at H;refine eB 2 H ?_;clear H;intro a H;refine bg dR (cs:=[_,_,_,_,_,_,_,_,_,_,_]) H wn rfl rfl (H.hp.cK 0 rfl rfl) rfl ?_;clear H;intro a H;refine gK mQ dR [_,_,_,_,_,_,_,_,_,_,_] [_,_,_,_,_,_,_,_,_,_,_] H wn rfl rfl rfl rfl rfl (by intro i q h;match i,h with|0,h=>exact h|n+1,h=>simp at h) rfl rfl ?_;clear H;intro b84 a w aqw H;refine nU (Li:=[_,_,_]) (Lo:=Lo) (news:=Wn) mQ dR rfl rfl H wn rfl rfl hrw (by rw [LV];rfl) (by rw [LV];exact H.hp.cK 0 rfl rfl) zK.one (by omega) (by omega) rfl ?_;clear H;intro v85 abY a w ajR H;refine aH 5 H ?_;clear H;intro a H;refine aG ?_;refine dH ((k+1,q9,v85,m++[y],xs++Wn,abY,g9)) (by exact (H.cu (Pl:=[_,_,_]) (bS:=[_]) [2] (by decide) rfl).sub ⟨rfl,rfl,rfl,rfl,rfl,rfl,bB⟩) ?_ ?_
  ·(try dsimp only);exact ⟨by omega,by rw [jH];exact ajR,by rw [nG];exact ((eD.mono zF).snoc zK (by rw [LV];rfl)),by rw [gN hk2];exact TY hsb hyb,fun b o h=>zF b o (hgm b o h)⟩
  first|omega|(dsimp only;omega)
 intro xG
 obtain rfl:k=l.length:=by omega
 rw [wW] at hsb;refine ak 5 ?_;intro a H;refine bV ?_;obtain ⟨G',hm,hrep,H⟩:=H.rG (Li:=[_]) hrw (rows:=m.map au.dat) (by simp) eD;refine lv H results79 rfl ?_;exact H.hp.cZ ⟨m,_,rfl,hrep,hsb⟩
theorem aaf {id:Int} {new:List au} {b4 bd b5:Nat}:∀ n:Nat,n≤1073741825→Ot id new b4 bd b5 n
 | 0,_=>fun _ _ _ _ _ _ _ _ _ h=>absurd h (by omega)
 | n+1,hn=>amM (aaf n (by omega)) (by omega)
end
section
open Go.RowKit
theorem Un:mR ⟨#[97,98]⟩=true∧kK ⟨#[97,98]⟩ 0=2:=by
 have d0:jB ⟨#[97,98]⟩ 0=(97,1,true):=by decide
 have d1:jB ⟨#[97,98]⟩ 1=(98,1,true):=by decide
 have e2:lZ ⟨#[97,98]⟩ 2=-1:=by rw [lZ,dif_neg (by decide)]
 have e1:lZ ⟨#[97,98]⟩ 1=-1:=by rw [lZ,dif_pos (by decide),dif_pos (by rw [d1]),d1];exact e2
 have e0:lZ ⟨#[97,98]⟩ 0=-1:=by rw [lZ,dif_pos (by decide),dif_pos (by rw [d0]),d0];exact e1
 have c2:kK ⟨#[97,98]⟩ 2=0:=by rw [kK,ah (by decide)]
 have c1:kK ⟨#[97,98]⟩ 1=1:=by rw [kK,ay (by decide),c2];decide
 have c0:kK ⟨#[97,98]⟩ 0=2:=by rw [kK,ay (by decide),c1];decide
 exact ⟨by unfold mR;rw [e0];decide,c0⟩
abbrev hd0:dh:=⟨[],⟨0,0,[],[]⟩⟩
def ku:au:=.mk 1 0 0 ⟨#[97,98]⟩ hd0 [] []
theorem uA:fU ku=2∧wP ku=0:=by simp [fU,wP,ku,au.kind,au.text,oD,EL,Un.1,Un.2]
theorem FL {G:GH}:gG G hd0 (.slice none 0 0) (.slice none 0 0) (.slice none 0 0):=⟨av.iT rfl (by decide),av.iT rfl (by decide),av.iT rfl (by decide)⟩
end
end Go.Proofs.YthmanofbmnfemaaGreat
