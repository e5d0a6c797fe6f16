/-
  What the claim stands on, part 7: Brd Brs Bri.
-/
import Derived.Test.YtdiflmikikiedaaGreatWbf
import Derived.ProofKit
import Derived.Deep.Slices
import Derived.Laws.StructEq
namespace Go.Proofs.YtdiflmikikiedaaGreat
set_option linter.all false
open Go.Proofs.Tryz
set_option maxRecDepth 20000
set_option maxHeartbeats 4000000
section
open Go.ChangeShapes Go.RowKit Go.Deep
abbrev pz (W:World):GH:=fun k=>W.heap[k]?
theorem akm {W:World} {b o:Nat} {v:aj} (h:W.cell? ⟨b,o,none⟩=some v):aI (pz W) b o=some v:=by
 unfold World.cell? at h
 unfold aI pz
 split at h
 ·rename_i c e f hh
  simp only at hh
  rw [hh];simpa using h
 cases h
theorem aaJ {α:Type} {p:Nat→α→Prop}:∀ n:Nat,(∀ i,i < n→∃ x,p i x)→∃ l:List α,l.length=n∧∀ i x,l[i]?=some x→p i x
 | 0,_=>⟨[],rfl,fun i x h=>by simp at h⟩
 | n+1,h=>by
  obtain ⟨l,hl,hp⟩:=aaJ n (fun i hi=>h i (by omega));obtain ⟨x,hx⟩:=h n (by omega);refine ⟨l++[x],by simp [hl],fun i y hy=>?_⟩
  by_cases hi:i < l.length
  ·exact hp i y (by rwa [xM hi] at hy)
  rw [rF (by omega)] at hy
  have hin:i - l.length=0:=by
   have:=(jA.1 hy).1
   simp at this;omega
  rw [hin] at hy
  simp only [Ab,nL] at hy
  subst hy;rw [show i=n by omega];exact hx
theorem aen {H:Type} (d:DataW H):1≤Rows.uptoBulk d:=by
 cases d <;> (try simp only [Rows.uptoBulk]) <;> (try omega)
 rename_i x;cases x <;> simp only [Rows.uptoBulk] <;> omega
theorem Xd {H ρ:Type} {dat:ρ→List Dat}:∀ (rs:List ρ) (D:Nat→DataW H),(∀ i r,rs[i]?=some r→bY (dat r)+1≤8*Rows.uptoBulk (D i))→eG (rs.map dat)≤8*Rows.uptoBulkAll ((List.range rs.length).map D)
 | [],D,_=>gW _
 | r :: rs,D,h=>by
  have h0:=h 0 r rfl;have hp:=aen (D 0);have ih:=Xd rs (fun i=>D (i+1)) (fun i r hr=>h (i+1) r (by simpa using hr));rw [ku,List.range_succ_eq_map]
  simp only [fq,List.map_map,eG,Rows.uptoBulkAll]
  have e:(List.map (D ∘ Nat.succ) (List.range rs.length))=(List.map (fun i=>D (i+1)) (List.range rs.length)):=rfl;rw [e];omega
theorem Xc {H:Type} {D:Nat→DataW H}:∀ {n i:Nat},i < n→Rows.uptoBulk (D i)≤Rows.uptoBulkAll ((List.range n).map D)
 | 0,i,h=>absurd h (by omega)
 | n+1,i,h=>by
  have key:∀ (l m:List (DataW H)),Rows.uptoBulkAll (l++m)=Rows.uptoBulkAll l+Rows.uptoBulkAll m:=by
   intro l m
   induction l with
   | nil=>simp [Rows.uptoBulkAll]
   | cons x l ih=>simp only [nu,Rows.uptoBulkAll,ih];omega
  rw [List.range_succ,kQ,key]
  by_cases hi:i < n
  ·have:=Xc (D:=D) hi;omega
  have:i=n:=by omega
  subst this
  simp only [fq,qO,Rows.uptoBulkAll];omega
section
variable {H:Type} {enc:TypeId × aj→H} {P:Program} {W:World} {base:Nat} {spare:Nat→Bool} {held:Bool}
theorem tV {ρ:Type} {dat:ρ→List Dat} {t e:TypeId} {sz:Nat} (hsz:0 < sz) {fuel:Nat} {cs:List aj} {x:DataW H × List MemPlace} (ht:P.underlying t=some (.slice e)) (hc:P.cellsOf e=sz) (h:DataW.trod enc P W base spare held fuel t cs=some x)
  (row:∀ n cs' D Pl,DataW.trod enc P W base spare held n e cs'=some (D,Pl)→Rows.uptoBulk D < Rows.uptoBulk x.1→∃ r:ρ,aW (pz W) (dat r) cs'∧bY (dat r)+1≤8*Rows.uptoBulk D) :
  ∃ (rs:List ρ) (v:aj),cs=[v]∧au (pz W) (.sl sz (rs.map dat)) v∧eG (rs.map dat)+8≤8*Rows.uptoBulk x.1:=by
 rcases open_slice ht h with ⟨rfl,rfl⟩|⟨a,len,cap,m,n,D,Pl,rfl,hb,hl,hm,hmm,rfl,hx⟩
 ·exact ⟨[],_,rfl,au.gZ rfl (by decide),by simp [eG,Rows.uptoBulk]⟩
 obtain ⟨rs,hrl,hrs⟩:=aaJ (p:=fun i (r:ρ)=>∃ cs',W.cells? base (a.add (i*sz)) sz=some cs'∧aW (pz W) (dat r) cs'∧bY (dat r)+1≤8*Rows.uptoBulk (D i)) len (fun i hi=>by
  have him:i < m:=by rw [hmm];split <;> omega
  obtain ⟨cs',h1,h2⟩:=hx i him;rw [hc] at h1;have hb1:=Xc (D:=D) hi;obtain ⟨r,hr1,hr2⟩:=row n cs' (D i) (Pl i) h2 (by simp only [Rows.uptoBulk];omega)
  exact ⟨r,cs',h1,hr1,hr2⟩)
 refine ⟨rs,_,rfl,?_,?_⟩
 ·simp only [au,bM]
  refine ⟨some a,cap,by rw [hrl],by omega,hm,fun hne=>?_⟩;obtain ⟨b,off,spot⟩:=a
  have hlen:0 < rs.length:=by cases rs with|nil=>simp at hne|cons _ _=>simp
  obtain ⟨cs0,h1,-,-⟩:=hrs 0 rs[0] (eO hlen);obtain ⟨-,hl0,hg0⟩:=World.cells?_some h1
  have hspot:spot=none:=by
   have h3:=hg0 0 hsz;rw [eO (by omega)] at h3
   simpa [Addr.add] using World.cell?_spot h3
  subst hspot;refine ⟨b,off,rfl,mh.mk fun k r hk=>?_⟩;rw [qM] at hk;obtain ⟨y,hy,rfl⟩:=oP.1 hk;obtain ⟨cs',h2,h3,-⟩:=hrs k y hy;obtain ⟨-,hl1,hg1⟩:=World.cells?_some h2;refine ⟨cs',hl1,fun j u hj=>akm ?_,h3⟩
  have hj2:j < sz:=by rw [← hl1];exact (jA.1 hj).1
  have:=hg1 j hj2;rw [add_add,Go.WideShapes.add_plain] at this;rw [show off+k*sz+j=off+(k*sz+j) by omega,this];exact hj
 have:=Xd rs D (fun i r hr=>(hrs i r hr).choose_spec.2.2);rw [hrl] at this
 simp only [Rows.uptoBulk];omega
end
structure rz (P:Program) (t:TypeId) (sz:Nat) (fs:List (TypeId × Nat × Nat)):Prop where
 und:P.underlying t=some (.struct (P.fieldsOf t))
 cells:P.cellsOf t=sz
 Dg:(P.fieldsOf t).toList.map (fun f=>(f.type,f.offset,P.cellsOf f.type))=fs
theorem tX {P:Program} {H:Type} {enc:TypeId × aj→H} {W:World} {base:Nat} {spare:Nat→Bool} {held:Bool} {t:TypeId} {sz fuel:Nat} {fs:List (TypeId × Nat × Nat)} {cs:List aj} {x:DataW H × List MemPlace} (hs:rz P t sz fs) (h:DataW.trod enc P W base spare held fuel t cs=some x) :
  ∃ (xs:List (DataW H × List MemPlace)) (n:Nat),x.1=.agg (xs.map (·.1))∧cs.length=sz∧xs.length=fs.length∧∀ (i:Nat) (ti:TypeId) (off k:Nat),fs[i]?=some (ti,off,k)→DataW.trod enc P W base spare held n ti ((cs.drop off).take k)=xs[i]?:=by
 obtain ⟨xs,n,-,rfl,hl,hxl,hf⟩:=DataW.trod_struct hs.und h;refine ⟨xs,n,rfl,by rw [hl,hs.cells],by rw [hxl,← hs.Dg];simp,fun i ti off k hi=>?_⟩;rw [← hs.Dg,qM] at hi;obtain ⟨f,hf1,hf2⟩:=oP.1 hi
 simp only [ig] at hf2
 obtain ⟨rfl,rfl,rfl⟩:=hf2;exact hf i f (by simpa using hf1)
section
variable {H:Type} {enc:TypeId × aj→H} {W:World} {base:Nat} {spare:Nat→Bool} {held:Bool}
theorem arv:rz prog 187 2 [(3,0,1),(3,1,1)]:=⟨by kernel_rfl,by kernel_rfl,by kernel_rfl⟩
theorem abD {n:Nat} {cs:List aj} {D:DataW H} {Pl:List MemPlace} (h:DataW.trod enc prog W base spare held n 187 cs=some (D,Pl)):∃ r:aT,aW (pz W) r.dat cs∧bY r.dat+1≤8*Rows.uptoBulk D:=by
 obtain ⟨xs,m,hx,hl,hxl,hf⟩:=tX arv h
 match cs,hl,xs,hxl with
 | [c0,c1],_,[y0,y1],_ =>
  have h0:=hf 0 _ _ _ rfl;have h1:=hf 1 _ _ _ rfl;obtain ⟨k0,e0,d0,-⟩:=DataW.trod_int underlying3 h0;obtain ⟨k1,e1,d1,-⟩:=DataW.trod_int underlying3 h1
  simp at e0 e1
  subst e0 e1
  simp only at hx
  refine ⟨⟨k0,k1⟩,?_,?_⟩
  ·simp [aW,aT.dat,au,Value.oneCell']
  rw [hx];simp [d0,d1,aT.dat,bY,lu,Rows.uptoBulk,Rows.uptoBulkAll]
theorem arl:rz prog 159 2 [(3,0,1),(3,1,1)]:=⟨by kernel_rfl,by kernel_rfl,by kernel_rfl⟩
theorem apu {n:Nat} {cs:List aj} {D:DataW H} {Pl:List MemPlace} (h:DataW.trod enc prog W base spare held n 159 cs=some (D,Pl)):∃ r:fE,aW (pz W) r.dat cs∧bY r.dat+1≤8*Rows.uptoBulk D:=by
 obtain ⟨xs,m,hx,hl,hxl,hf⟩:=tX arl h
 match cs,hl,xs,hxl with
 | [c0,c1],_,[y0,y1],_ =>
  have h0:=hf 0 _ _ _ rfl;have h1:=hf 1 _ _ _ rfl;obtain ⟨k0,e0,d0,-⟩:=DataW.trod_int underlying3 h0;obtain ⟨k1,e1,d1,-⟩:=DataW.trod_int underlying3 h1
  simp at e0 e1
  subst e0 e1
  simp only at hx
  refine ⟨⟨k0,k1⟩,?_,?_⟩
  ·simp [aW,fE.dat,au,Value.oneCell']
  rw [hx];simp [d0,d1,fE.dat,bY,lu,Rows.uptoBulk,Rows.uptoBulkAll]
theorem arp:rz prog 161 4 [(3,0,1),(3,1,1),(3,2,1),(4,3,1)]:=⟨by kernel_rfl,by kernel_rfl,by kernel_rfl⟩
theorem apy {n:Nat} {cs:List aj} {D:DataW H} {Pl:List MemPlace} (h:DataW.trod enc prog W base spare held n 161 cs=some (D,Pl)):∃ r:cK,aW (pz W) r.dat cs∧bY r.dat+1≤8*Rows.uptoBulk D:=by
 obtain ⟨xs,m,hx,hl,hxl,hf⟩:=tX arp h
 match cs,hl,xs,hxl with
 | [c0,c1,c2,c3],_,[y0,y1,y2,y3],_ =>
  have h0:=hf 0 _ _ _ rfl;have h1:=hf 1 _ _ _ rfl;have h2:=hf 2 _ _ _ rfl;have h3:=hf 3 _ _ _ rfl;obtain ⟨k0,e0,d0,-⟩:=DataW.trod_int underlying3 h0;obtain ⟨k1,e1,d1,-⟩:=DataW.trod_int underlying3 h1;obtain ⟨k2,e2,d2,-⟩:=DataW.trod_int underlying3 h2;obtain ⟨k3,e3,d3⟩:=DataW.trod_bool underlying4 h3
  simp at e0 e1 e2 e3
  subst e0 e1 e2 e3
  simp only at hx
  refine ⟨⟨k0,k1,k2,k3⟩,?_,?_⟩
  ·simp [aW,cK.dat,au,Value.oneCell']
  rw [hx];simp [d0,d1,d2,d3,cK.dat,bY,lu,Rows.uptoBulk,Rows.uptoBulkAll]
theorem aru:rz prog 27 4 [(3,0,1),(3,1,1),(24,2,1),(25,3,1)]:=⟨by kernel_rfl,by kernel_rfl,by kernel_rfl⟩
theorem arn:rz prog 29 5 [(23,0,1),(27,1,4)]:=⟨by kernel_rfl,by kernel_rfl,by kernel_rfl⟩
theorem Xn:prog.cellsOf 187=2:=by kernel_rfl
theorem aeI:prog.cellsOf 159=2:=by kernel_rfl
theorem aeK:prog.cellsOf 161=4:=by kernel_rfl
theorem OJ {n:Nat} {cs:List aj} {x:DataW H × List MemPlace} (h:DataW.trod enc prog W base spare held n 29 cs=some x):∃ (r:dW) (p d l:aj),cs=[p,vi r.marks.ins,vi r.marks.move,d,l]∧fC (pz W) r p d l∧kV r+15≤8*Rows.uptoBulk x.1:=by
 obtain ⟨xs,m,hx,hl,hxl,hf⟩:=tX arn h
 match cs,hl,xs,hxl with
 | [c0,c1,c2,c3,c4],_,[y0,y1],_ =>
  have h0:=hf 0 _ _ _ rfl;have h1:=hf 1 _ _ _ rfl;obtain ⟨ps,pv,e0,rp,sp⟩:=tV (dat:=aT.dat) (sz:=2) (by omega) underlying23 Xn h0 (fun n cs' D Pl hh _=>abD hh);obtain ⟨zs,m2,hz,hzl,hzx,KF⟩:=tX aru h1
  match zs,hzx with
  | [z0,z1,z2,z3],_ =>
   have g0:=KF 0 _ _ _ rfl;have g1:=KF 1 _ _ _ rfl;have g2:=KF 2 _ _ _ rfl;have g3:=KF 3 _ _ _ rfl;obtain ⟨k0,e1,d0,-⟩:=DataW.trod_int underlying3 g0;obtain ⟨k1,e2,d1,-⟩:=DataW.trod_int underlying3 g1;obtain ⟨ds,dv,e3,rd,sd⟩:=tV (dat:=fE.dat) (sz:=2) (by omega) underlying24 aeI g2 (fun n cs' D Pl hh _=>apu hh);obtain ⟨ls,lv,e4,rl,sl⟩:=tV (dat:=cK.dat) (sz:=4) (by omega) underlying25 aeK g3 (fun n cs' D Pl hh _=>apy hh)
   simp at e0 e1 e2 e3 e4
   subst e0 e1 e2 e3 e4;refine ⟨⟨ps,⟨k0,k1,ds,ls⟩⟩,_,_,_,rfl,⟨rp,rd,rl⟩,?_⟩;have hzh:=D9 ⟨ps,⟨k0,k1,ds,ls⟩⟩
   simp only at hzh
   rw [hx]
   simp only [fq,qO,Rows.uptoBulk,Rows.uptoBulkAll,hz,d0,d1]
   omega
theorem aro:rz prog 68 11 [(3,0,1),(3,1,1),(3,2,1),(9,3,1),(29,4,5),(22,9,1),(66,10,1)]:=⟨by kernel_rfl,by kernel_rfl,by kernel_rfl⟩
theorem arw:rz prog 74 6 [(29,0,5),(72,5,1)]:=⟨by kernel_rfl,by kernel_rfl,by kernel_rfl⟩
theorem arj:rz prog 76 7 [(3,0,1),(29,1,5),(22,6,1)]:=⟨by kernel_rfl,by kernel_rfl,by kernel_rfl⟩
theorem Qw:prog.cellsOf 68=11:=by kernel_rfl
theorem aeN:prog.cellsOf 74=6:=by kernel_rfl
theorem aeG:prog.cellsOf 76=7:=by kernel_rfl
theorem abC:∀ (N:Nat) (n:Nat) (cs:List aj) (D:DataW H) (Pl:List MemPlace),DataW.trod enc prog W base spare held n 68 cs=some (D,Pl)→Rows.uptoBulk D < N→∃ r:ay,aW (pz W) r.dat cs∧bY r.dat+1≤8*Rows.uptoBulk D
 | 0,_,_,_,_,_,hN=>absurd hN (by omega)
 | N+1,n,cs,D,Pl,h,hN=>by
  have ih:=abC N;obtain ⟨xs,m,hx,hl,hxl,hf⟩:=tX aro h
  match cs,hl,xs,hxl with
  | [c0,c1,c2,c3,c4,c5,c6,c7,c8,c9,c10],_,[y0,y1,y2,y3,y4,y5,y6],_ =>
   have h0:=hf 0 _ _ _ rfl;have h1:=hf 1 _ _ _ rfl;have h2:=hf 2 _ _ _ rfl;have h3:=hf 3 _ _ _ rfl;have h4:=hf 4 _ _ _ rfl;have h5:=hf 5 _ _ _ rfl;have h6:=hf 6 _ _ _ rfl
   simp only at hx
   have hD:Rows.uptoBulk D=Rows.uptoBulk y0.1+(Rows.uptoBulk y1.1+(Rows.uptoBulk y2.1+(Rows.uptoBulk y3.1+(Rows.uptoBulk y4.1+(Rows.uptoBulk y5.1+(Rows.uptoBulk y6.1+0))))))+1:=by
    rw [hx];simp only [fq,qO,Rows.uptoBulk,Rows.uptoBulkAll]
   obtain ⟨k0,e0,d0,-⟩:=DataW.trod_int underlying3 h0;obtain ⟨k1,e1,d1,-⟩:=DataW.trod_int underlying3 h1;obtain ⟨k2,e2,d2,-⟩:=DataW.trod_int underlying3 h2;obtain ⟨s,e3,d3,-⟩:=DataW.trod_string underlying9 h3;obtain ⟨hd,p,d,l,e4,rh,sh⟩:=OJ h4;obtain ⟨fl,fv,e5,rf,sf⟩:=tV (dat:=ay.dat) (sz:=11) (by omega) underlying22 Qw h5 (fun n cs' D' dM hh hlt=>ih n cs' D' dM hh (by omega))
   obtain ⟨rs,rv,e6,rr,sr⟩:=tV (dat:=aX.dat) (sz:=6) (by omega) underlying66 aeN h6 (fun n cs' D' dM hh hlt=>by
    obtain ⟨xs,m,hx,hl,hxl,hf⟩:=tX arw hh
    match cs',hl,xs,hxl with
    | [a0,a1,a2,a3,a4,a5],_,[w0,w1],_ =>
     have g0:=hf 0 _ _ _ rfl;have g1:=hf 1 _ _ _ rfl
     simp only at hx
     have hD':Rows.uptoBulk D'=Rows.uptoBulk w0.1+(Rows.uptoBulk w1.1+0)+1:=by
      rw [hx];simp only [fq,qO,Rows.uptoBulk,Rows.uptoBulkAll]
     obtain ⟨hd2,p2,d2',l2,q0,rh2,sh2⟩:=OJ g0
     obtain ⟨cl,cv,q1,rc,sc⟩:=tV (dat:=bC.dat) (sz:=7) (by omega) underlying72 aeG g1 (fun n cs'' D'' ati EH hlt2=>by
      obtain ⟨xs,m,hx2,hl2,anq,hf2⟩:=tX arj EH
      match cs'',hl2,xs,anq with
      | [b0,b1,b2,b3,b4,b5,b6],_,[v0,v1,v2],_ =>
       have u0:=hf2 0 _ _ _ rfl;have u1:=hf2 1 _ _ _ rfl;have u2:=hf2 2 _ _ _ rfl
       simp only at hx2
       have atp:Rows.uptoBulk D''=Rows.uptoBulk v0.1+(Rows.uptoBulk v1.1+(Rows.uptoBulk v2.1+0))+1:=by
        rw [hx2];simp only [fq,qO,Rows.uptoBulk,Rows.uptoBulkAll]
       obtain ⟨j0,t0,z0,-⟩:=DataW.trod_int underlying3 u0;obtain ⟨hd3,p3,d3',l3,t1,rh3,sh3⟩:=OJ u1;obtain ⟨RY,fv3,t2,rf3,sf3⟩:=tV (dat:=ay.dat) (sz:=11) (by omega) underlying22 Qw u2 (fun n cs3 D3 Pl3 hh3 hlt3=>ih n cs3 D3 Pl3 hh3 (by omega))
       simp at t0 t1 t2
       obtain ⟨rfl,rfl,rfl,rfl,rfl⟩:=t1;subst t0 t2;have hz:=CJ (bC.mk j0 hd3 RY)
       simp only [bC.head,bC.flow] at hz
       have bz:Rows.uptoBulk v0.1=1:=by rw [z0];rfl
       exact ⟨bC.mk j0 hd3 RY,aW.KM (x:=bC.mk j0 hd3 RY) rh3 rf3,by simp only [cu] at hz;omega⟩)
     simp at q0 q1
     obtain ⟨rfl,rfl,rfl,rfl,rfl⟩:=q0;subst q1;have hz:=CK (aX.mk hd2 cl)
     simp only [aX.head,aX.cells] at hz
     exact ⟨aX.mk hd2 cl,aW.KN (x:=aX.mk hd2 cl) rh2 rc,by simp only [iK] at hz;omega⟩)
   simp at e0 e1 e2 e3 e4 e5 e6
   obtain ⟨rfl,rfl,rfl,rfl,rfl⟩:=e4;subst e0 e1 e2 e3 e5 e6;have hz:=yJ (ay.mk k0 k1 k2 s hd fl rs)
   simp only [ay.text,ay.head,ay.flow,ay.rows] at hz
   have b0:Rows.uptoBulk y0.1=1:=by rw [d0];rfl
   have b1:Rows.uptoBulk y1.1=1:=by rw [d1];rfl
   have b2:Rows.uptoBulk y2.1=1:=by rw [d2];rfl
   have b3:Rows.uptoBulk y3.1=s.size+1:=by rw [d3];show s.data.toList.length+1=s.data.size+1;rw [sP]
   exact ⟨ay.mk k0 k1 k2 s hd fl rs,aW.mkItem (x:=ay.mk k0 k1 k2 s hd fl rs) rh rf rr,by simp only [cu,gK] at hz;omega⟩
theorem apx {n:Nat} {cs:List aj} {x:DataW H × List MemPlace} (h:DataW.trod enc prog W base spare held n 22 cs=some x):∃ (l:List ay) (v:aj),cs=[v]∧au (pz W) (.sl 11 (l.map ay.dat)) v∧cu l+8≤8*Rows.uptoBulk x.1 :=
 tV (dat:=ay.dat) (sz:=11) (by omega) underlying22 Qw h (fun n cs' D' dM hh _=>abC _ n cs' D' dM hh (Nat.lt_succ_self _))
end
end
section
open Go.ChangeShapes Go.RowKit Go.Deep
theorem Cx {ρ:Type} {dat:ρ→List Dat}:∀ {l:List ρ} {x:ρ},x∈l→bY (dat x)+1≤eG (l.map dat)
 | y :: l,x,h=>by
  rw [fq,eG]
  rcases ko.1 h with rfl|h
  ·omega
  have:=Cx (dat:=dat) h;omega
section
variable {H:Type} {enc:TypeId × aj→H} {W:World} {base:Nat} {spare:Nat→Bool} {held:Bool}
theorem arA:rz prog 192 6 [(3,0,1),(3,1,1),(9,2,1),(3,3,1),(3,4,1),(23,5,1)]:=⟨by kernel_rfl,by kernel_rfl,by kernel_rfl⟩
theorem aeP:prog.cellsOf 192=6:=by kernel_rfl
theorem apE {n:Nat} {cs:List aj} {D:DataW H} {Pl:List MemPlace} (h:DataW.trod enc prog W base spare held n 192 cs=some (D,Pl)):∃ r:bS,aW (pz W) r.dat cs∧bY r.dat+1≤8*Rows.uptoBulk D:=by
 obtain ⟨xs,m,hx,hl,hxl,hf⟩:=tX arA h
 match cs,hl,xs,hxl with
 | [c0,c1,c2,c3,c4,c5],_,[y0,y1,y2,y3,y4,y5],_ =>
  have h0:=hf 0 _ _ _ rfl;have h1:=hf 1 _ _ _ rfl;have h2:=hf 2 _ _ _ rfl;have h3:=hf 3 _ _ _ rfl;have h4:=hf 4 _ _ _ rfl;have h5:=hf 5 _ _ _ rfl
  simp only at hx
  have hD:Rows.uptoBulk D=Rows.uptoBulk y0.1+(Rows.uptoBulk y1.1+(Rows.uptoBulk y2.1+(Rows.uptoBulk y3.1+(Rows.uptoBulk y4.1+(Rows.uptoBulk y5.1+0)))))+1:=by rw [hx];simp only [fq,qO,Rows.uptoBulk,Rows.uptoBulkAll]
  obtain ⟨k0,e0,d0,-⟩:=DataW.trod_int underlying3 h0;obtain ⟨k1,e1,d1,-⟩:=DataW.trod_int underlying3 h1;obtain ⟨k2,e2,d2,-⟩:=DataW.trod_string underlying9 h2;obtain ⟨k3,e3,d3,-⟩:=DataW.trod_int underlying3 h3;obtain ⟨k4,e4,d4,-⟩:=DataW.trod_int underlying3 h4;obtain ⟨k5,q5,e5,r5,d5⟩:=tV (dat:=aT.dat) (sz:=2) (by omega) underlying23 Xn h5 (fun n cs' D Pl hh _=>abD hh)
  simp at e0 e1 e2 e3 e4 e5
  subst e0 e1 e2 e3 e4 e5
  have b0:Rows.uptoBulk y0.1=1:=by rw [d0];rfl
  have b1:Rows.uptoBulk y1.1=1:=by rw [d1];rfl
  have b2:Rows.uptoBulk y2.1=k2.size+1:=by rw [d2];show k2.data.toList.length+1=k2.data.size+1;rw [sP]
  have b3:Rows.uptoBulk y3.1=1:=by rw [d3];rfl
  have b4:Rows.uptoBulk y4.1=1:=by rw [d4];rfl
  refine ⟨⟨k0,k1,k2,k3,k4,k5⟩,?_,?_⟩
  ·exact ⟨_,_,rfl,(by simp [au,Value.oneCell']),⟨_,_,rfl,(by simp [au,Value.oneCell']),⟨_,_,rfl,(by simp [au,Value.oneCell']),⟨_,_,rfl,(by simp [au,Value.oneCell']),⟨_,_,rfl,(by simp [au,Value.oneCell']),⟨_,_,rfl,r5,rfl⟩⟩⟩⟩⟩⟩
  simp only [bS.dat,bY,lu];omega
theorem ars:rz prog 96 4 [(3,0,1),(3,1,1),(9,2,1),(3,3,1)]:=⟨by kernel_rfl,by kernel_rfl,by kernel_rfl⟩
theorem aeM:prog.cellsOf 96=4:=by kernel_rfl
theorem apz {n:Nat} {cs:List aj} {D:DataW H} {Pl:List MemPlace} (h:DataW.trod enc prog W base spare held n 96 cs=some (D,Pl)):∃ r:iZ,aW (pz W) r.dat cs∧bY r.dat+1≤8*Rows.uptoBulk D:=by
 obtain ⟨xs,m,hx,hl,hxl,hf⟩:=tX ars h
 match cs,hl,xs,hxl with
 | [c0,c1,c2,c3],_,[y0,y1,y2,y3],_ =>
  have h0:=hf 0 _ _ _ rfl;have h1:=hf 1 _ _ _ rfl;have h2:=hf 2 _ _ _ rfl;have h3:=hf 3 _ _ _ rfl
  simp only at hx
  have hD:Rows.uptoBulk D=Rows.uptoBulk y0.1+(Rows.uptoBulk y1.1+(Rows.uptoBulk y2.1+(Rows.uptoBulk y3.1+0)))+1:=by rw [hx];simp only [fq,qO,Rows.uptoBulk,Rows.uptoBulkAll]
  obtain ⟨k0,e0,d0,-⟩:=DataW.trod_int underlying3 h0;obtain ⟨k1,e1,d1,-⟩:=DataW.trod_int underlying3 h1;obtain ⟨k2,e2,d2,-⟩:=DataW.trod_string underlying9 h2;obtain ⟨k3,e3,d3,-⟩:=DataW.trod_int underlying3 h3
  simp at e0 e1 e2 e3
  subst e0 e1 e2 e3
  have b0:Rows.uptoBulk y0.1=1:=by rw [d0];rfl
  have b1:Rows.uptoBulk y1.1=1:=by rw [d1];rfl
  have b2:Rows.uptoBulk y2.1=k2.size+1:=by rw [d2];show k2.data.toList.length+1=k2.data.size+1;rw [sP]
  have b3:Rows.uptoBulk y3.1=1:=by rw [d3];rfl
  refine ⟨⟨k0,k1,k2,k3⟩,?_,?_⟩
  ·exact ⟨_,_,rfl,(by simp [au,Value.oneCell']),⟨_,_,rfl,(by simp [au,Value.oneCell']),⟨_,_,rfl,(by simp [au,Value.oneCell']),⟨_,_,rfl,(by simp [au,Value.oneCell']),rfl⟩⟩⟩⟩
  simp only [iZ.dat,bY,lu];omega
theorem arq:rz prog 93 2 [(3,0,1),(91,1,1)]:=⟨by kernel_rfl,by kernel_rfl,by kernel_rfl⟩
theorem aeL:prog.cellsOf 93=2:=by kernel_rfl
theorem apA {n:Nat} {cs:List aj} {D:DataW H} {Pl:List MemPlace} (h:DataW.trod enc prog W base spare held n 93 cs=some (D,Pl)):∃ r:eD,aW (pz W) r.dat cs∧bY r.dat+1≤8*Rows.uptoBulk D:=by
 obtain ⟨xs,m,hx,hl,hxl,hf⟩:=tX arq h
 match cs,hl,xs,hxl with
 | [c0,c1],_,[y0,y1],_ =>
  have h0:=hf 0 _ _ _ rfl;have h1:=hf 1 _ _ _ rfl
  simp only at hx
  have hD:Rows.uptoBulk D=Rows.uptoBulk y0.1+(Rows.uptoBulk y1.1+0)+1:=by rw [hx];simp only [fq,qO,Rows.uptoBulk,Rows.uptoBulkAll]
  obtain ⟨k0,e0,d0,-⟩:=DataW.trod_int underlying3 h0;obtain ⟨k1,q1,e1,r1,d1⟩:=tV (dat:=iZ.dat) (sz:=4) (by omega) underlying91 aeM h1 (fun n cs' D Pl hh _=>apz hh)
  simp at e0 e1
  subst e0 e1
  have b0:Rows.uptoBulk y0.1=1:=by rw [d0];rfl
  refine ⟨⟨k0,k1⟩,?_,?_⟩
  ·exact ⟨_,_,rfl,(by simp [au,Value.oneCell']),⟨_,_,rfl,r1,rfl⟩⟩
  simp only [eD.dat,bY,lu];omega
theorem ark:rz prog 107 6 [(3,0,1),(3,1,1),(9,2,1),(3,3,1),(9,4,1),(4,5,1)]:=⟨by kernel_rfl,by kernel_rfl,by kernel_rfl⟩
theorem aeH:prog.cellsOf 107=6:=by kernel_rfl
theorem apt {n:Nat} {cs:List aj} {D:DataW H} {Pl:List MemPlace} (h:DataW.trod enc prog W base spare held n 107 cs=some (D,Pl)):∃ r:fD,aW (pz W) r.dat cs∧bY r.dat+1≤8*Rows.uptoBulk D:=by
 obtain ⟨xs,m,hx,hl,hxl,hf⟩:=tX ark h
 match cs,hl,xs,hxl with
 | [c0,c1,c2,c3,c4,c5],_,[y0,y1,y2,y3,y4,y5],_ =>
  have h0:=hf 0 _ _ _ rfl;have h1:=hf 1 _ _ _ rfl;have h2:=hf 2 _ _ _ rfl;have h3:=hf 3 _ _ _ rfl;have h4:=hf 4 _ _ _ rfl;have h5:=hf 5 _ _ _ rfl
  simp only at hx
  have hD:Rows.uptoBulk D=Rows.uptoBulk y0.1+(Rows.uptoBulk y1.1+(Rows.uptoBulk y2.1+(Rows.uptoBulk y3.1+(Rows.uptoBulk y4.1+(Rows.uptoBulk y5.1+0)))))+1:=by rw [hx];simp only [fq,qO,Rows.uptoBulk,Rows.uptoBulkAll]
  obtain ⟨k0,e0,d0,-⟩:=DataW.trod_int underlying3 h0;obtain ⟨k1,e1,d1,-⟩:=DataW.trod_int underlying3 h1;obtain ⟨k2,e2,d2,-⟩:=DataW.trod_string underlying9 h2;obtain ⟨k3,e3,d3,-⟩:=DataW.trod_int underlying3 h3;obtain ⟨k4,e4,d4,-⟩:=DataW.trod_string underlying9 h4;obtain ⟨k5,e5,d5⟩:=DataW.trod_bool underlying4 h5
  simp at e0 e1 e2 e3 e4 e5
  subst e0 e1 e2 e3 e4 e5
  have b0:Rows.uptoBulk y0.1=1:=by rw [d0];rfl
  have b1:Rows.uptoBulk y1.1=1:=by rw [d1];rfl
  have b2:Rows.uptoBulk y2.1=k2.size+1:=by rw [d2];show k2.data.toList.length+1=k2.data.size+1;rw [sP]
  have b3:Rows.uptoBulk y3.1=1:=by rw [d3];rfl
  have b4:Rows.uptoBulk y4.1=k4.size+1:=by rw [d4];show k4.data.toList.length+1=k4.data.size+1;rw [sP]
  have b5:Rows.uptoBulk y5.1=1:=by rw [d5];rfl
  refine ⟨⟨k0,k1,k2,k3,k4,k5⟩,?_,?_⟩
  ·exact ⟨_,_,rfl,(by simp [au,Value.oneCell']),⟨_,_,rfl,(by simp [au,Value.oneCell']),⟨_,_,rfl,(by simp [au,Value.oneCell']),⟨_,_,rfl,(by simp [au,Value.oneCell']),⟨_,_,rfl,(by simp [au,Value.oneCell']),⟨_,_,rfl,(by simp [au,Value.oneCell']),rfl⟩⟩⟩⟩⟩⟩
  simp only [fD.dat,bY,lu];omega
theorem arB:rz prog 110 2 [(9,0,1),(9,1,1)]:=⟨by kernel_rfl,by kernel_rfl,by kernel_rfl⟩
theorem aeR:prog.cellsOf 110=2:=by kernel_rfl
theorem apF {n:Nat} {cs:List aj} {D:DataW H} {Pl:List MemPlace} (h:DataW.trod enc prog W base spare held n 110 cs=some (D,Pl)):∃ r:iB,aW (pz W) r.dat cs∧bY r.dat+1≤8*Rows.uptoBulk D:=by
 obtain ⟨xs,m,hx,hl,hxl,hf⟩:=tX arB h
 match cs,hl,xs,hxl with
 | [c0,c1],_,[y0,y1],_ =>
  have h0:=hf 0 _ _ _ rfl;have h1:=hf 1 _ _ _ rfl
  simp only at hx
  have hD:Rows.uptoBulk D=Rows.uptoBulk y0.1+(Rows.uptoBulk y1.1+0)+1:=by rw [hx];simp only [fq,qO,Rows.uptoBulk,Rows.uptoBulkAll]
  obtain ⟨k0,e0,d0,-⟩:=DataW.trod_string underlying9 h0;obtain ⟨k1,e1,d1,-⟩:=DataW.trod_string underlying9 h1
  simp at e0 e1
  subst e0 e1
  have b0:Rows.uptoBulk y0.1=k0.size+1:=by rw [d0];show k0.data.toList.length+1=k0.data.size+1;rw [sP]
  have b1:Rows.uptoBulk y1.1=k1.size+1:=by rw [d1];show k1.data.toList.length+1=k1.data.size+1;rw [sP]
  refine ⟨⟨k0,k1⟩,?_,?_⟩
  ·exact ⟨_,_,rfl,(by simp [au,Value.oneCell']),⟨_,_,rfl,(by simp [au,Value.oneCell']),rfl⟩⟩
  simp only [iB.dat,bY,lu];omega
theorem arx:rz prog 102 3 [(3,0,1),(9,1,1),(3,2,1)]:=⟨by kernel_rfl,by kernel_rfl,by kernel_rfl⟩
theorem aeO:prog.cellsOf 102=3:=by kernel_rfl
theorem apC {n:Nat} {cs:List aj} {D:DataW H} {Pl:List MemPlace} (h:DataW.trod enc prog W base spare held n 102 cs=some (D,Pl)):∃ r:bX,aW (pz W) r.dat cs∧bY r.dat+1≤8*Rows.uptoBulk D:=by
 obtain ⟨xs,m,hx,hl,hxl,hf⟩:=tX arx h
 match cs,hl,xs,hxl with
 | [c0,c1,c2],_,[y0,y1,y2],_ =>
  have h0:=hf 0 _ _ _ rfl;have h1:=hf 1 _ _ _ rfl;have h2:=hf 2 _ _ _ rfl
  simp only at hx
  have hD:Rows.uptoBulk D=Rows.uptoBulk y0.1+(Rows.uptoBulk y1.1+(Rows.uptoBulk y2.1+0))+1:=by rw [hx];simp only [fq,qO,Rows.uptoBulk,Rows.uptoBulkAll]
  obtain ⟨k0,e0,d0,-⟩:=DataW.trod_int underlying3 h0;obtain ⟨k1,e1,d1,-⟩:=DataW.trod_string underlying9 h1;obtain ⟨k2,e2,d2,-⟩:=DataW.trod_int underlying3 h2
  simp at e0 e1 e2
  subst e0 e1 e2
  have b0:Rows.uptoBulk y0.1=1:=by rw [d0];rfl
  have b1:Rows.uptoBulk y1.1=k1.size+1:=by rw [d1];show k1.data.toList.length+1=k1.data.size+1;rw [sP]
  have b2:Rows.uptoBulk y2.1=1:=by rw [d2];rfl
  refine ⟨⟨k0,k1,k2⟩,?_,?_⟩
  ·exact ⟨_,_,rfl,(by simp [au,Value.oneCell']),⟨_,_,rfl,(by simp [au,Value.oneCell']),⟨_,_,rfl,(by simp [au,Value.oneCell']),rfl⟩⟩⟩
  simp only [bX.dat,bY,lu];omega
theorem arz:rz prog 36 4 [(31,0,1),(32,1,1),(33,2,1),(34,3,1)]:=⟨by kernel_rfl,by kernel_rfl,by kernel_rfl⟩
structure Qk (s:zZ) (n:Nat):Prop where
 st:eG (s.styles.map bS.dat)≤n
 li:eG (s.lists.map eD.dat)≤n
 cm:eG (s.comments.map fD.dat)≤n
 va:eG (s.vars.map iB.dat)≤n
theorem Qk.zn {s:zZ} {n:Nat} (h:Qk s n) (hn:n≤4294967296):Ql s∧s.styles.length≤4294967296:=by
 obtain ⟨h1,h2,h3,h4⟩:=h;have l1:=oM (s.styles.map bS.dat);have l2:=oM (s.lists.map eD.dat);have l3:=oM (s.comments.map fD.dat);have l4:=oM (s.vars.map iB.dat);rw [bM] at l1 l2 l3 l4;refine ⟨⟨fun x hx=>?_,by omega,fun x hx y hy=>?_,by omega,fun x hx=>?_,by omega,fun x hx=>?_,fun x hx=>?_,fun x hx=>?_⟩,by omega⟩
 ·have:=Cx (dat:=bS.dat) hx
  simp only [bS.dat,bY,lu] at this;omega
 ·have:=Cx (dat:=eD.dat) hx
  simp only [eD.dat,bY,lu] at this
  have h5:=Cx (dat:=iZ.dat) hy
  simp only [iZ.dat,bY,lu] at h5;omega
 ·have:=Cx (dat:=fD.dat) hx
  simp only [fD.dat,bY,lu] at this;omega
 ·have:=Cx (dat:=iB.dat) hx
  simp only [iB.dat,bY,lu] at this;omega
 ·have:=Cx (dat:=bS.dat) hx;have h5:=oM (x.props.map aT.dat);rw [bM] at h5
  simp only [bS.dat,bY,lu] at this;omega
 have:=Cx (dat:=eD.dat) hx;have h5:=oM (x.levels.map iZ.dat);rw [bM] at h5
 simp only [eD.dat,bY,lu] at this;omega
theorem apD {n:Nat} {cs:List aj} {x:DataW H × List MemPlace} (h:DataW.trod enc prog W base spare held n 36 cs=some x):∃ (s:zZ) (a b c d:aj),cs=[a,b,c,d]∧xK (pz W) s a b c d∧Qk s (8*Rows.uptoBulk x.1):=by
 obtain ⟨xs,m,hx,hl,hxl,hf⟩:=tX arz h
 match cs,hl,xs,hxl with
 | [c0,c1,c2,c3],_,[y0,y1,y2,y3],_ =>
  have h0:=hf 0 _ _ _ rfl;have h1:=hf 1 _ _ _ rfl;have h2:=hf 2 _ _ _ rfl;have h3:=hf 3 _ _ _ rfl;obtain ⟨k0,q0,e0,r0,d0⟩:=tV (dat:=bS.dat) (sz:=6) (by omega) underlying31 aeP h0 (fun n cs' D Pl hh _=>apE hh);obtain ⟨k1,q1,e1,r1,d1⟩:=tV (dat:=eD.dat) (sz:=2) (by omega) underlying32 aeL h1 (fun n cs' D Pl hh _=>apA hh);obtain ⟨k2,q2,e2,r2,d2⟩:=tV (dat:=fD.dat) (sz:=6) (by omega) underlying33 aeH h2 (fun n cs' D Pl hh _=>apt hh);obtain ⟨k3,q3,e3,r3,d3⟩:=tV (dat:=iB.dat) (sz:=2) (by omega) underlying34 aeR h3 (fun n cs' D Pl hh _=>apF hh)
  simp at e0 e1 e2 e3
  subst e0 e1 e2 e3
  have hD:Rows.uptoBulk x.1=Rows.uptoBulk y0.1+(Rows.uptoBulk y1.1+(Rows.uptoBulk y2.1+(Rows.uptoBulk y3.1+0)))+1:=by rw [hx];simp only [fq,qO,Rows.uptoBulk,Rows.uptoBulkAll]
  exact ⟨⟨k0,k1,k2,k3⟩,_,_,_,_,rfl,⟨r0,r1,r2,r3⟩,⟨by show eG (k0.map _)≤_;omega,by show eG (k1.map _)≤_;omega,by show eG (k2.map _)≤_;omega,by show eG (k3.map _)≤_;omega⟩⟩
theorem aco:rz prog 38 11 [(22,0,1),(29,1,5),(30,6,1),(36,7,4)]:=⟨by kernel_rfl,by kernel_rfl,by kernel_rfl⟩
theorem Cu {G:GH} {sz:Nat} {rs:List (List Dat)} {v:aj} (h:au G (.sl sz rs) v):∃ x,v=aM x:=by
 obtain ⟨a,n,c,rfl⟩:=h.form;exact ⟨(a,n,c),rfl⟩
theorem apv {n:Nat} {cs:List aj} {x:DataW H × List MemPlace} (h:DataW.trod enc prog W base spare held n 38 cs=some x) (hb:Rows.uptoBulk x.1≤1048576):∃ (D:gy) (d:gG),cs=D.cells∧iG (pz W) D d∧xE d∧cu d.flow≤8388608∧kV d.fin≤8388608:=by
 obtain ⟨xs,m,hx,hl,hxl,hf⟩:=tX aco h
 match cs,hl,xs,hxl with
 | [c0,c1,c2,c3,c4,c5,c6,c7,c8,c9,c10],_,[y0,y1,y2,y3],_ =>
  have h0:=hf 0 _ _ _ rfl;have h1:=hf 1 _ _ _ rfl;have h2:=hf 2 _ _ _ rfl;have h3:=hf 3 _ _ _ rfl;obtain ⟨l,q0,e0,r0,d0⟩:=apx h0;obtain ⟨hd,p,dd,ll,e1,r1,d1⟩:=OJ h1;obtain ⟨rv,q2,e2,r2,d2⟩:=tV (dat:=bX.dat) (sz:=3) (by omega) underlying30 aeO h2 (fun n cs' D Pl hh _=>apC hh);obtain ⟨s,a,b,c,d,e3,r3,d3⟩:=apD h3
  simp at e0 e1 e2 e3
  obtain ⟨rfl,rfl,rfl,rfl,rfl⟩:=e1;obtain ⟨rfl,rfl,rfl,rfl⟩:=e3;subst e0 e2
  have hD:Rows.uptoBulk x.1=Rows.uptoBulk y0.1+(Rows.uptoBulk y1.1+(Rows.uptoBulk y2.1+(Rows.uptoBulk y3.1+0)))+1:=by rw [hx];simp only [fq,qO,Rows.uptoBulk,Rows.uptoBulkAll]
  obtain ⟨x0,rfl⟩:=Cu r0;obtain ⟨x1,rfl⟩:=Cu r1.props;obtain ⟨x2,rfl⟩:=Cu r1.bL;obtain ⟨x3,rfl⟩:=Cu r1.layers;obtain ⟨x4,rfl⟩:=Cu r2;obtain ⟨x5,rfl⟩:=Cu r3.st;obtain ⟨x6,rfl⟩:=Cu r3.li;obtain ⟨x7,rfl⟩:=Cu r3.cm;obtain ⟨x8,rfl⟩:=Cu r3.va;obtain ⟨hz1,hz2⟩:=d3.zn (by omega);have l2:=oM (rv.map bX.dat);rw [bM] at l2;refine ⟨⟨x0,x1,x2,x3,x4,x5,x6,x7,x8,hd.marks.ins,hd.marks.move⟩,⟨l,hd,rv,s⟩,rfl,⟨r0,r1,rfl,rfl,r2,r3⟩,⟨by show cu l≤_;omega,by show kV hd≤_;omega,by show rv.length≤_;omega,fun x hx=>?_,hz2,hz1⟩,by show cu l≤_;omega,by show kV hd≤_;omega⟩;have:=Cx (dat:=bX.dat) hx
  simp only [bX.dat,bY,lu] at this
  omega
end
end
section
open Go.ChangeShapes Go.RowKit Go.Deep
section
variable {H:Type} {enc:TypeId × aj→H} {W:World} {base:Nat} {spare:Nat→Bool} {held:Bool}
theorem aeJ:prog.cellsOf 3=1:=by kernel_rfl
theorem apw {n:Nat} {cs:List aj} {x:DataW H × List MemPlace} (h:DataW.trod enc prog W base spare held n 41 cs=some x) :
  ∃ (l:List Int) (v:aj),cs=[v]∧au (pz W) (.sl 1 (l.map fun k=>[li k])) v∧eG (l.map fun k=>[li k])+8≤8*Rows.uptoBulk x.1 :=
 tV (dat:=fun k:Int=>[li k]) (sz:=1) (by omega) underlying41 aeJ h (fun n cs' D Pl hh _=>by
  obtain ⟨k,e,d,-⟩:=DataW.trod_int underlying3 hh
  have b:Rows.uptoBulk (D,Pl).1=1:=by rw [d];rfl
  dsimp only at b
  exact ⟨k,by rw [e];exact ⟨_,_,rfl,(by simp [au,Value.oneCell']),rfl⟩,by rw [b];simp [bY,lu]⟩)
end
end
end Go.Proofs.YtdiflmikikiedaaGreat
