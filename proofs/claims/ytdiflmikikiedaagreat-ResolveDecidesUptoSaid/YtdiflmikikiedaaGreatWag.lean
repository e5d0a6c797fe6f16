/-
  What the claim stands on, part 7: Brs Bri.
-/
import Derived.Test.YtdiflmikikiedaaGreatWaf
namespace Go.Proofs.YtdiflmikikiedaaGreat
set_option linter.all false
open Go.Proofs.Tryz
set_option maxRecDepth 20000
set_option maxHeartbeats 4000000
section
open Go.ChangeShapes Go.RowKit Go.Deep
theorem Cq {ρ:Type} {dat:ρ→List Dat}:∀ {l:List ρ} {x:ρ},x∈l→bY (dat x)+1≤eG (l.map dat)
 | y :: l,x,h=>by
  rw [eZ,eG]
  rcases kg.1 h with rfl|h
  ·omega
  have:=Cq (dat:=dat) h;omega
section
variable {H:Type} {enc:TypeId × aj→H} {W:World} {base:Nat} {spare:Nat→Bool} {held:Bool}
theorem aqT:qK prog 192 6 [(3,0,1),(3,1,1),(9,2,1),(3,3,1),(3,4,1),(23,5,1)]:=⟨by kernel_rfl,by kernel_rfl,by kernel_rfl⟩
theorem aeu:prog.cellsOf 192=6:=by kernel_rfl
theorem apb {n:Nat} {cs:List aj} {D:DataW H} {Pl:List MemPlace} (h:DataW.trod enc prog W base spare held n 192 cs=some (D,Pl)):∃ r:bS,aU (oH W) r.dat cs∧bY r.dat+1≤8*Rows.uptoBulk D:=by
 obtain ⟨xs,m,hx,hl,hxl,hf⟩:=rY aqT h
 match cs,hl,xs,hxl with
 | [c0,c1,c2,c3,c4,c5],_,[y0,y1,y2,y3,y4,y5],_ =>
  have h0:=hf 0 _ _ _ rfl;have h1:=hf 1 _ _ _ rfl;have h2:=hf 2 _ _ _ rfl;have h3:=hf 3 _ _ _ rfl;have h4:=hf 4 _ _ _ rfl;have h5:=hf 5 _ _ _ rfl
  simp only at hx
  have hD:Rows.uptoBulk D=Rows.uptoBulk y0.1+(Rows.uptoBulk y1.1+(Rows.uptoBulk y2.1+(Rows.uptoBulk y3.1+(Rows.uptoBulk y4.1+(Rows.uptoBulk y5.1+0)))))+1:=by rw [hx];simp only [eZ,qx,Rows.uptoBulk,Rows.uptoBulkAll]
  obtain ⟨k0,e0,d0,-⟩:=DataW.trod_int underlying3 h0;obtain ⟨k1,e1,d1,-⟩:=DataW.trod_int underlying3 h1;obtain ⟨k2,e2,d2,-⟩:=DataW.trod_string underlying9 h2;obtain ⟨k3,e3,d3,-⟩:=DataW.trod_int underlying3 h3;obtain ⟨k4,e4,d4,-⟩:=DataW.trod_int underlying3 h4;obtain ⟨k5,q5,e5,r5,d5⟩:=tQ (dat:=aT.dat) (sz:=2) (by omega) underlying23 WW h5 (fun n cs' D Pl hh _=>abk hh)
  simp at e0 e1 e2 e3 e4 e5
  subst e0 e1 e2 e3 e4 e5
  have b0:Rows.uptoBulk y0.1=1:=by rw [d0];rfl
  have b1:Rows.uptoBulk y1.1=1:=by rw [d1];rfl
  have b2:Rows.uptoBulk y2.1=k2.size+1:=by rw [d2];show k2.data.toList.length+1=k2.data.size+1;rw [sK]
  have b3:Rows.uptoBulk y3.1=1:=by rw [d3];rfl
  have b4:Rows.uptoBulk y4.1=1:=by rw [d4];rfl
  refine ⟨⟨k0,k1,k2,k3,k4,k5⟩,?_,?_⟩
  ·exact ⟨_,_,rfl,(by simp [au,Value.oneCell']),⟨_,_,rfl,(by simp [au,Value.oneCell']),⟨_,_,rfl,(by simp [au,Value.oneCell']),⟨_,_,rfl,(by simp [au,Value.oneCell']),⟨_,_,rfl,(by simp [au,Value.oneCell']),⟨_,_,rfl,r5,rfl⟩⟩⟩⟩⟩⟩
  simp only [bS.dat,bY,lu];omega
theorem aqN:qK prog 96 4 [(3,0,1),(3,1,1),(9,2,1),(3,3,1)]:=⟨by kernel_rfl,by kernel_rfl,by kernel_rfl⟩
theorem aep:prog.cellsOf 96=4:=by kernel_rfl
theorem aoW {n:Nat} {cs:List aj} {D:DataW H} {Pl:List MemPlace} (h:DataW.trod enc prog W base spare held n 96 cs=some (D,Pl)):∃ r:iX,aU (oH W) r.dat cs∧bY r.dat+1≤8*Rows.uptoBulk D:=by
 obtain ⟨xs,m,hx,hl,hxl,hf⟩:=rY aqN h
 match cs,hl,xs,hxl with
 | [c0,c1,c2,c3],_,[y0,y1,y2,y3],_ =>
  have h0:=hf 0 _ _ _ rfl;have h1:=hf 1 _ _ _ rfl;have h2:=hf 2 _ _ _ rfl;have h3:=hf 3 _ _ _ rfl
  simp only at hx
  have hD:Rows.uptoBulk D=Rows.uptoBulk y0.1+(Rows.uptoBulk y1.1+(Rows.uptoBulk y2.1+(Rows.uptoBulk y3.1+0)))+1:=by rw [hx];simp only [eZ,qx,Rows.uptoBulk,Rows.uptoBulkAll]
  obtain ⟨k0,e0,d0,-⟩:=DataW.trod_int underlying3 h0;obtain ⟨k1,e1,d1,-⟩:=DataW.trod_int underlying3 h1;obtain ⟨k2,e2,d2,-⟩:=DataW.trod_string underlying9 h2;obtain ⟨k3,e3,d3,-⟩:=DataW.trod_int underlying3 h3
  simp at e0 e1 e2 e3
  subst e0 e1 e2 e3
  have b0:Rows.uptoBulk y0.1=1:=by rw [d0];rfl
  have b1:Rows.uptoBulk y1.1=1:=by rw [d1];rfl
  have b2:Rows.uptoBulk y2.1=k2.size+1:=by rw [d2];show k2.data.toList.length+1=k2.data.size+1;rw [sK]
  have b3:Rows.uptoBulk y3.1=1:=by rw [d3];rfl
  refine ⟨⟨k0,k1,k2,k3⟩,?_,?_⟩
  ·exact ⟨_,_,rfl,(by simp [au,Value.oneCell']),⟨_,_,rfl,(by simp [au,Value.oneCell']),⟨_,_,rfl,(by simp [au,Value.oneCell']),⟨_,_,rfl,(by simp [au,Value.oneCell']),rfl⟩⟩⟩⟩
  simp only [iX.dat,bY,lu];omega
theorem aqM:qK prog 93 2 [(3,0,1),(91,1,1)]:=⟨by kernel_rfl,by kernel_rfl,by kernel_rfl⟩
theorem aeo:prog.cellsOf 93=2:=by kernel_rfl
theorem aoX {n:Nat} {cs:List aj} {D:DataW H} {Pl:List MemPlace} (h:DataW.trod enc prog W base spare held n 93 cs=some (D,Pl)):∃ r:eD,aU (oH W) r.dat cs∧bY r.dat+1≤8*Rows.uptoBulk D:=by
 obtain ⟨xs,m,hx,hl,hxl,hf⟩:=rY aqM h
 match cs,hl,xs,hxl with
 | [c0,c1],_,[y0,y1],_ =>
  have h0:=hf 0 _ _ _ rfl;have h1:=hf 1 _ _ _ rfl
  simp only at hx
  have hD:Rows.uptoBulk D=Rows.uptoBulk y0.1+(Rows.uptoBulk y1.1+0)+1:=by rw [hx];simp only [eZ,qx,Rows.uptoBulk,Rows.uptoBulkAll]
  obtain ⟨k0,e0,d0,-⟩:=DataW.trod_int underlying3 h0;obtain ⟨k1,q1,e1,r1,d1⟩:=tQ (dat:=iX.dat) (sz:=4) (by omega) underlying91 aep h1 (fun n cs' D Pl hh _=>aoW hh)
  simp at e0 e1
  subst e0 e1
  have b0:Rows.uptoBulk y0.1=1:=by rw [d0];rfl
  refine ⟨⟨k0,k1⟩,?_,?_⟩
  ·exact ⟨_,_,rfl,(by simp [au,Value.oneCell']),⟨_,_,rfl,r1,rfl⟩⟩
  simp only [eD.dat,bY,lu];omega
theorem aqH:qK prog 107 6 [(3,0,1),(3,1,1),(9,2,1),(3,3,1),(9,4,1),(4,5,1)]:=⟨by kernel_rfl,by kernel_rfl,by kernel_rfl⟩
theorem aek:prog.cellsOf 107=6:=by kernel_rfl
theorem aoR {n:Nat} {cs:List aj} {D:DataW H} {Pl:List MemPlace} (h:DataW.trod enc prog W base spare held n 107 cs=some (D,Pl)):∃ r:fE,aU (oH W) r.dat cs∧bY r.dat+1≤8*Rows.uptoBulk D:=by
 obtain ⟨xs,m,hx,hl,hxl,hf⟩:=rY aqH h
 match cs,hl,xs,hxl with
 | [c0,c1,c2,c3,c4,c5],_,[y0,y1,y2,y3,y4,y5],_ =>
  have h0:=hf 0 _ _ _ rfl;have h1:=hf 1 _ _ _ rfl;have h2:=hf 2 _ _ _ rfl;have h3:=hf 3 _ _ _ rfl;have h4:=hf 4 _ _ _ rfl;have h5:=hf 5 _ _ _ rfl
  simp only at hx
  have hD:Rows.uptoBulk D=Rows.uptoBulk y0.1+(Rows.uptoBulk y1.1+(Rows.uptoBulk y2.1+(Rows.uptoBulk y3.1+(Rows.uptoBulk y4.1+(Rows.uptoBulk y5.1+0)))))+1:=by rw [hx];simp only [eZ,qx,Rows.uptoBulk,Rows.uptoBulkAll]
  obtain ⟨k0,e0,d0,-⟩:=DataW.trod_int underlying3 h0;obtain ⟨k1,e1,d1,-⟩:=DataW.trod_int underlying3 h1;obtain ⟨k2,e2,d2,-⟩:=DataW.trod_string underlying9 h2;obtain ⟨k3,e3,d3,-⟩:=DataW.trod_int underlying3 h3;obtain ⟨k4,e4,d4,-⟩:=DataW.trod_string underlying9 h4;obtain ⟨k5,e5,d5⟩:=DataW.trod_bool underlying4 h5
  simp at e0 e1 e2 e3 e4 e5
  subst e0 e1 e2 e3 e4 e5
  have b0:Rows.uptoBulk y0.1=1:=by rw [d0];rfl
  have b1:Rows.uptoBulk y1.1=1:=by rw [d1];rfl
  have b2:Rows.uptoBulk y2.1=k2.size+1:=by rw [d2];show k2.data.toList.length+1=k2.data.size+1;rw [sK]
  have b3:Rows.uptoBulk y3.1=1:=by rw [d3];rfl
  have b4:Rows.uptoBulk y4.1=k4.size+1:=by rw [d4];show k4.data.toList.length+1=k4.data.size+1;rw [sK]
  have b5:Rows.uptoBulk y5.1=1:=by rw [d5];rfl
  refine ⟨⟨k0,k1,k2,k3,k4,k5⟩,?_,?_⟩
  ·exact ⟨_,_,rfl,(by simp [au,Value.oneCell']),⟨_,_,rfl,(by simp [au,Value.oneCell']),⟨_,_,rfl,(by simp [au,Value.oneCell']),⟨_,_,rfl,(by simp [au,Value.oneCell']),⟨_,_,rfl,(by simp [au,Value.oneCell']),⟨_,_,rfl,(by simp [au,Value.oneCell']),rfl⟩⟩⟩⟩⟩⟩
  simp only [fE.dat,bY,lu];omega
theorem aqU:qK prog 110 2 [(9,0,1),(9,1,1)]:=⟨by kernel_rfl,by kernel_rfl,by kernel_rfl⟩
theorem aew:prog.cellsOf 110=2:=by kernel_rfl
theorem apc {n:Nat} {cs:List aj} {D:DataW H} {Pl:List MemPlace} (h:DataW.trod enc prog W base spare held n 110 cs=some (D,Pl)):∃ r:iy,aU (oH W) r.dat cs∧bY r.dat+1≤8*Rows.uptoBulk D:=by
 obtain ⟨xs,m,hx,hl,hxl,hf⟩:=rY aqU h
 match cs,hl,xs,hxl with
 | [c0,c1],_,[y0,y1],_ =>
  have h0:=hf 0 _ _ _ rfl;have h1:=hf 1 _ _ _ rfl
  simp only at hx
  have hD:Rows.uptoBulk D=Rows.uptoBulk y0.1+(Rows.uptoBulk y1.1+0)+1:=by rw [hx];simp only [eZ,qx,Rows.uptoBulk,Rows.uptoBulkAll]
  obtain ⟨k0,e0,d0,-⟩:=DataW.trod_string underlying9 h0;obtain ⟨k1,e1,d1,-⟩:=DataW.trod_string underlying9 h1
  simp at e0 e1
  subst e0 e1
  have b0:Rows.uptoBulk y0.1=k0.size+1:=by rw [d0];show k0.data.toList.length+1=k0.data.size+1;rw [sK]
  have b1:Rows.uptoBulk y1.1=k1.size+1:=by rw [d1];show k1.data.toList.length+1=k1.data.size+1;rw [sK]
  refine ⟨⟨k0,k1⟩,?_,?_⟩
  ·exact ⟨_,_,rfl,(by simp [au,Value.oneCell']),⟨_,_,rfl,(by simp [au,Value.oneCell']),rfl⟩⟩
  simp only [iy.dat,bY,lu];omega
theorem aqR:qK prog 102 3 [(3,0,1),(9,1,1),(3,2,1)]:=⟨by kernel_rfl,by kernel_rfl,by kernel_rfl⟩
theorem aes:prog.cellsOf 102=3:=by kernel_rfl
theorem aoZ {n:Nat} {cs:List aj} {D:DataW H} {Pl:List MemPlace} (h:DataW.trod enc prog W base spare held n 102 cs=some (D,Pl)):∃ r:bX,aU (oH W) r.dat cs∧bY r.dat+1≤8*Rows.uptoBulk D:=by
 obtain ⟨xs,m,hx,hl,hxl,hf⟩:=rY aqR h
 match cs,hl,xs,hxl with
 | [c0,c1,c2],_,[y0,y1,y2],_ =>
  have h0:=hf 0 _ _ _ rfl;have h1:=hf 1 _ _ _ rfl;have h2:=hf 2 _ _ _ rfl
  simp only at hx
  have hD:Rows.uptoBulk D=Rows.uptoBulk y0.1+(Rows.uptoBulk y1.1+(Rows.uptoBulk y2.1+0))+1:=by rw [hx];simp only [eZ,qx,Rows.uptoBulk,Rows.uptoBulkAll]
  obtain ⟨k0,e0,d0,-⟩:=DataW.trod_int underlying3 h0;obtain ⟨k1,e1,d1,-⟩:=DataW.trod_string underlying9 h1;obtain ⟨k2,e2,d2,-⟩:=DataW.trod_int underlying3 h2
  simp at e0 e1 e2
  subst e0 e1 e2
  have b0:Rows.uptoBulk y0.1=1:=by rw [d0];rfl
  have b1:Rows.uptoBulk y1.1=k1.size+1:=by rw [d1];show k1.data.toList.length+1=k1.data.size+1;rw [sK]
  have b2:Rows.uptoBulk y2.1=1:=by rw [d2];rfl
  refine ⟨⟨k0,k1,k2⟩,?_,?_⟩
  ·exact ⟨_,_,rfl,(by simp [au,Value.oneCell']),⟨_,_,rfl,(by simp [au,Value.oneCell']),⟨_,_,rfl,(by simp [au,Value.oneCell']),rfl⟩⟩⟩
  simp only [bX.dat,bY,lu];omega
theorem aqS:qK prog 36 4 [(31,0,1),(32,1,1),(33,2,1),(34,3,1)]:=⟨by kernel_rfl,by kernel_rfl,by kernel_rfl⟩
structure P9 (s:zU) (n:Nat):Prop where
 st:eG (s.styles.map bS.dat)≤n
 li:eG (s.lists.map eD.dat)≤n
 cm:eG (s.comments.map fE.dat)≤n
 va:eG (s.vars.map iy.dat)≤n
theorem P9.zn {s:zU} {n:Nat} (h:P9 s n) (hn:n≤4294967296):Qa s∧s.styles.length≤4294967296:=by
 obtain ⟨h1,h2,h3,h4⟩:=h;have l1:=oq (s.styles.map bS.dat);have l2:=oq (s.lists.map eD.dat);have l3:=oq (s.comments.map fE.dat);have l4:=oq (s.vars.map iy.dat);rw [bM] at l1 l2 l3 l4;refine ⟨⟨fun x hx=>?_,by omega,fun x hx y hy=>?_,by omega,fun x hx=>?_,by omega,fun x hx=>?_,fun x hx=>?_,fun x hx=>?_⟩,by omega⟩
 ·have:=Cq (dat:=bS.dat) hx
  simp only [bS.dat,bY,lu] at this;omega
 ·have:=Cq (dat:=eD.dat) hx
  simp only [eD.dat,bY,lu] at this
  have h5:=Cq (dat:=iX.dat) hy
  simp only [iX.dat,bY,lu] at h5;omega
 ·have:=Cq (dat:=fE.dat) hx
  simp only [fE.dat,bY,lu] at this;omega
 ·have:=Cq (dat:=iy.dat) hx
  simp only [iy.dat,bY,lu] at this;omega
 ·have:=Cq (dat:=bS.dat) hx;have h5:=oq (x.props.map aT.dat);rw [bM] at h5
  simp only [bS.dat,bY,lu] at this;omega
 have:=Cq (dat:=eD.dat) hx;have h5:=oq (x.levels.map iX.dat);rw [bM] at h5
 simp only [eD.dat,bY,lu] at this;omega
theorem apa {n:Nat} {cs:List aj} {x:DataW H × List MemPlace} (h:DataW.trod enc prog W base spare held n 36 cs=some x):∃ (s:zU) (a b c d:aj),cs=[a,b,c,d]∧xC (oH W) s a b c d∧P9 s (8*Rows.uptoBulk x.1):=by
 obtain ⟨xs,m,hx,hl,hxl,hf⟩:=rY aqS h
 match cs,hl,xs,hxl with
 | [c0,c1,c2,c3],_,[y0,y1,y2,y3],_ =>
  have h0:=hf 0 _ _ _ rfl;have h1:=hf 1 _ _ _ rfl;have h2:=hf 2 _ _ _ rfl;have h3:=hf 3 _ _ _ rfl;obtain ⟨k0,q0,e0,r0,d0⟩:=tQ (dat:=bS.dat) (sz:=6) (by omega) underlying31 aeu h0 (fun n cs' D Pl hh _=>apb hh);obtain ⟨k1,q1,e1,r1,d1⟩:=tQ (dat:=eD.dat) (sz:=2) (by omega) underlying32 aeo h1 (fun n cs' D Pl hh _=>aoX hh);obtain ⟨k2,q2,e2,r2,d2⟩:=tQ (dat:=fE.dat) (sz:=6) (by omega) underlying33 aek h2 (fun n cs' D Pl hh _=>aoR hh);obtain ⟨k3,q3,e3,r3,d3⟩:=tQ (dat:=iy.dat) (sz:=2) (by omega) underlying34 aew h3 (fun n cs' D Pl hh _=>apc hh)
  simp at e0 e1 e2 e3
  subst e0 e1 e2 e3
  have hD:Rows.uptoBulk x.1=Rows.uptoBulk y0.1+(Rows.uptoBulk y1.1+(Rows.uptoBulk y2.1+(Rows.uptoBulk y3.1+0)))+1:=by rw [hx];simp only [eZ,qx,Rows.uptoBulk,Rows.uptoBulkAll]
  exact ⟨⟨k0,k1,k2,k3⟩,_,_,_,_,rfl,⟨r0,r1,r2,r3⟩,⟨by show eG (k0.map _)≤_;omega,by show eG (k1.map _)≤_;omega,by show eG (k2.map _)≤_;omega,by show eG (k3.map _)≤_;omega⟩⟩
theorem abP:qK prog 38 11 [(22,0,1),(29,1,5),(30,6,1),(36,7,4)]:=⟨by kernel_rfl,by kernel_rfl,by kernel_rfl⟩
theorem Cm {G:GH} {sz:Nat} {rs:List (List Dat)} {v:aj} (h:au G (.sl sz rs) v):∃ x,v=aM x:=by
 obtain ⟨a,n,c,rfl⟩:=h.form;exact ⟨(a,n,c),rfl⟩
theorem aoT {n:Nat} {cs:List aj} {x:DataW H × List MemPlace} (h:DataW.trod enc prog W base spare held n 38 cs=some x) (hb:Rows.uptoBulk x.1≤1048576):∃ (D:iE) (d:gI),cs=D.cells∧jP (oH W) D d∧xk d∧bZ d.flow≤8388608∧kU d.fin≤8388608:=by
 obtain ⟨xs,m,hx,hl,hxl,hf⟩:=rY abP h
 match cs,hl,xs,hxl with
 | [c0,c1,c2,c3,c4,c5,c6,c7,c8,c9,c10],_,[y0,y1,y2,y3],_ =>
  have h0:=hf 0 _ _ _ rfl;have h1:=hf 1 _ _ _ rfl;have h2:=hf 2 _ _ _ rfl;have h3:=hf 3 _ _ _ rfl;obtain ⟨l,q0,e0,r0,d0⟩:=aoU h0;obtain ⟨hd,p,dd,ll,e1,r1,d1⟩:=Oz h1;obtain ⟨rv,q2,e2,r2,d2⟩:=tQ (dat:=bX.dat) (sz:=3) (by omega) underlying30 aes h2 (fun n cs' D Pl hh _=>aoZ hh);obtain ⟨s,a,b,c,d,e3,r3,d3⟩:=apa h3
  simp at e0 e1 e2 e3
  obtain ⟨rfl,rfl,rfl,rfl,rfl⟩:=e1;obtain ⟨rfl,rfl,rfl,rfl⟩:=e3;subst e0 e2
  have hD:Rows.uptoBulk x.1=Rows.uptoBulk y0.1+(Rows.uptoBulk y1.1+(Rows.uptoBulk y2.1+(Rows.uptoBulk y3.1+0)))+1:=by rw [hx];simp only [eZ,qx,Rows.uptoBulk,Rows.uptoBulkAll]
  obtain ⟨x0,rfl⟩:=Cm r0;obtain ⟨x1,rfl⟩:=Cm r1.props;obtain ⟨x2,rfl⟩:=Cm r1.bL;obtain ⟨x3,rfl⟩:=Cm r1.layers;obtain ⟨x4,rfl⟩:=Cm r2;obtain ⟨x5,rfl⟩:=Cm r3.st;obtain ⟨x6,rfl⟩:=Cm r3.li;obtain ⟨x7,rfl⟩:=Cm r3.cm;obtain ⟨x8,rfl⟩:=Cm r3.va;obtain ⟨hz1,hz2⟩:=d3.zn (by omega);have l2:=oq (rv.map bX.dat);rw [bM] at l2;refine ⟨⟨x0,x1,x2,x3,x4,x5,x6,x7,x8,hd.marks.ins,hd.marks.move⟩,⟨l,hd,rv,s⟩,rfl,⟨r0,r1,rfl,rfl,r2,r3⟩,⟨by show bZ l≤_;omega,by show kU hd≤_;omega,by show rv.length≤_;omega,fun x hx=>?_,hz2,hz1⟩,by show bZ l≤_;omega,by show kU hd≤_;omega⟩;have:=Cq (dat:=bX.dat) hx
  simp only [bX.dat,bY,lu] at this
  omega
end
end
section
open Go.ChangeShapes Go.RowKit Go.Deep
section
variable {H:Type} {enc:TypeId × aj→H} {W:World} {base:Nat} {spare:Nat→Bool} {held:Bool}
theorem aem:prog.cellsOf 3=1:=by kernel_rfl
theorem abh {n:Nat} {cs:List aj} {x:DataW H × List MemPlace} (h:DataW.trod enc prog W base spare held n 41 cs=some x) :
  ∃ (l:List Int) (v:aj),cs=[v]∧au (oH W) (.sl 1 (l.map fun k=>[li k])) v∧eG (l.map fun k=>[li k])+8≤8*Rows.uptoBulk x.1 :=
 tQ (dat:=fun k:Int=>[li k]) (sz:=1) (by omega) underlying41 aem h (fun n cs' D Pl hh _=>by
  obtain ⟨k,e,d,-⟩:=DataW.trod_int underlying3 hh
  have b:Rows.uptoBulk (D,Pl).1=1:=by rw [d];rfl
  dsimp only at b
  exact ⟨k,by rw [e];exact ⟨_,_,rfl,(by simp [au,Value.oneCell']),rfl⟩,by rw [b];simp [bY,lu]⟩)
theorem abO:qK prog 43 2 [(41,0,1),(41,1,1)]:=⟨by kernel_rfl,by kernel_rfl,by kernel_rfl⟩
theorem rd_dec {n:Nat} {cs:List aj} {x:DataW H × List MemPlace} (h:DataW.trod enc prog W base spare held n 43 cs=some x) (hb:Rows.uptoBulk x.1≤1048576):∃ (A R:List Int) (va vr:aj),cs=[va,vr]∧Bc (oH W) A R va vr:=by
 obtain ⟨xs,m,hx,hl,hxl,hf⟩:=rY abO h
 match cs,hl,xs,hxl with
 | [c0,c1],_,[y0,y1],_ =>
  have h0:=hf 0 _ _ _ rfl;have h1:=hf 1 _ _ _ rfl
  have hD:Rows.uptoBulk x.1=Rows.uptoBulk y0.1+(Rows.uptoBulk y1.1+0)+1:=by rw [hx];simp only [eZ,qx,Rows.uptoBulk,Rows.uptoBulkAll]
  obtain ⟨A,va,e0,r0,d0⟩:=abh h0;obtain ⟨R,vr,e1,r1,d1⟩:=abh h1
  simp at e0 e1
  subst e0 e1;have l0:=oq (A.map fun k=>[li k]);have l1:=oq (R.map fun k=>[li k]);rw [bM] at l0 l1;exact ⟨A,R,_,_,rfl,r0,r1,by omega,by omega⟩
end
end
end Go.Proofs.YtdiflmikikiedaaGreat
