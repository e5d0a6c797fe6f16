/-
  What the claim stands on, part 5: Vis Okd Brd Ins Lf13 Rws Itm Its Rvs Chd Fz13 Eqi Mst.
-/
import Derived.Test.YtlnhhlighgaapaaGreatWkd
import Derived.ProofKit
import Derived.Deep.Slices
import Derived.Laws.StructEq
namespace Go.Proofs.YtlnhhlighgaapaaGreat
open Go.Proofs.Tryz
section
open Go.RowKit
theorem TQ:∀ args w,(callFunc 189 args).run prog w=.ok (.enter 189 args) w:=enters func189 rfl (by kernel_rfl)
mutual
/-- The ids in items, in document order. -/
def zV:ay→List Int
 | .mk k _ i _ _ f r=>(if k=6∨k=7 then [i] else [])++((if k=6 then jA f else [])++(if k=7 then qp r else []))
def jA:List ay→List Int
 | []=>[]
 | x :: r=>zV x++jA r
def Cq:bJ→List Int
 | .mk _ c=>qL c
def qp:List bJ→List Int
 | []=>[]
 | x :: r=>Cq x++qp r
def Co:bB→List Int
 | .mk i _ f=>i :: jA f
def qL:List bB→List Int
 | []=>[]
 | x :: r=>Co x++qL r
end
theorem acG (x:ay):zV x=(if x.kind=6∨x.kind=7 then [x.id] else [])++((if x.kind=6 then jA x.flow else [])++(if x.kind=7 then qp x.rows else [])):=by cases x;rw [zV];rfl
theorem LB (x:bJ):Cq x=qL x.cells:=by cases x;rw [Cq];rfl
theorem LA (x:bB):Co x=x.id :: jA x.flow:=by cases x;rw [Co];rfl
def DK (i:Int):AP:=fun args _=>args=[vi i]
def Td (n:Nat):Prop:=∀ (fv:aj) (Gi:GH) (xs:List AP) (J:Nat→GH→OL→Prop) (Jx:GH→OL→Prop) (G:GH) (L:OL) (w0:World) (j:Nat) (l:List ay) (v:aj),
 (∀ b o,Gi b=some o→G b=some o)→Fq prog fv Gi xs J Jx→H7 J→Ip Jx→J j G L→jQ G L w0→aB G (.sl 11 (l.map ay.dat)) v→bM l < n→(∀ i a,(jA l)[i]?=some a→xs[j+i]?=some (DK a)) →
 Calls prog 189 #[v,fv] w0 (jk w0 G L fun u G' L'=>∃ b,u=.bool b∧(b=true→J (j+(jA l).length) G' L')∧(b=false→Jx G' L'))
set_option maxHeartbeats 1000000 in
theorem arw {n:Nat} (ih:Td n) (hn:n≤4294967296):Td (n+1):=by
 intro fv Gi xs J Jx G L w0 j0 l v hGi hcb nk hJx hJ0 hO hv hz hx0;obtain ⟨A,c,rfl,hc1,hc2,hg⟩:=hv.slice;rw [bZ] at *;have hll:=Fj l;refine mH (N:=74) (T:=[(0,_),(1,_)]) func189 rfl ntmps189 rfl rfl hO ?_;intro a H;refine kP H (SR fun _ K1=>ak K1 rfl (SQ fun _ K2=>SR fun _ K3=>Rm rfl (Rl iN rfl (Rm rfl (Kz K3 (SB ?_))))));clear H K1 K3;intro a H;skip;refine fH (ι:=Nat × Nat × OL × GH) (Tc:=[(1,_),(11,_),(12,_)]) (Lc:=[]) (fun gh=>[(13,vi gh.1)]) (fun gh=>[]++gh.2.2.1) (fun gh=>gh.2.2.2) (fun gh=>gh.1≤l.length∧(∀ b o,G b=some o→gh.2.2.2 b=some o)∧Now xs DK J (j0+(jA l).length) gh.2.1 (jA (l.drop gh.1)) gh.2.2.2 gh.2.2.1) (fun gh=>l.length - gh.1) ((0,j0,L,G)) (by exact (H).sub ⟨rfl,rfl,rfl,rfl,av⟩) ?_ ?_
 ·exact ⟨by omega,fun _ _ h=>h,⟨hJ0,hx0,rfl⟩⟩
 clear H;intro gh a w hI H;obtain ⟨k,j,Lt,g⟩:=gh;dsimp only at hI H;obtain ⟨hk,hgm,cO⟩:=hI;dsimp only [lca,aS] at H;refine kP H (SR fun _ K4=>Rc rfl (Kz K4 (SQ fun _ K5=>Cd rfl ?_ ?_))) <;> clear H K4
 ·intro eO a H
  try have ny:=dT eO
  have hk2:k < l.length:=by omega
  obtain ⟨b,o,pA,pn,pc,dA,dn,dc,yA,yn,yc,fA,fn,fc,rA,rn,rc,rfl,hrow,hhd,hfl,hrw⟩:=EB hk2 hg;replace hrow:=fun j u hj=>aF hgm (hrow j u hj);have hrn:=hrw.len;rw [bZ] at hrn;subst hrn;have hrs:=Fp l[k].rows;have hsz1:=Sl hk2;rw [kR hk2] at cO
  simp only [jA,acG,mG] at cO
  refine kP H (Kc K5 (SQ fun _ K6=>SB (SR fun _ K7=>Ri iN dB rfl rfl ?_)));clear H K5;intro a H;refine bD dB (cs:=[_,_,_,_,_,_,_,_,_,_,_]) H wn rfl rfl (fun j v hj=>H.hp.aH (hrow j v hj)) rfl ?_;clear H;intro a H;refine dR dB H wn rfl ?_;clear H;intro b6 a w hb6 H;refine bO dB 0 (vs:=[_,_,_,_,_,_,_,_,_,_,_]) _ H wn rfl rfl rfl rfl rfl rfl rfl rfl ?_;clear H;intro w H;dsimp only [List.set,setRow] at H;refine K7 _ _ ?_;clear K7;refine kP H (SQ fun _ K8=>SR fun _ K9=>aW gG aD 0 rfl rfl (Rc rfl (Rm rfl (Sp 20 rfl ?_ ?_)))) <;> clear H
  ·intro h20 a H
   try have rP:=dT h20
   rw [au (Or.inl rP),au rP,ah (by omega)] at cO
   simp only [nV,mo] at cO
   refine kH H (aT h20 rfl (Pt h20 rfl (Rm rfl ?_)));clear H;intro a H;refine mE H (wg H rfl rfl rfl) rfl rfl ?_;clear H;intro a H;refine GZ qg H (wg H rfl rfl rfl) rfl rfl ?_;clear H;intro a H;refine Af aD H (wg H rfl rfl rfl) rfl (H.hp.pQ 0 rfl rfl) rfl ?_;clear H;intro a H;refine xU (Li:=[_]) (L:=Lt) H (wg H rfl rfl rfl) rfl rfl (hcb _ _ _ _ _ ⟨_,cO.head,rfl⟩ (fun b o h=>hgm b o (hGi b o h)) cO.now (Hp.owns (Li:=[_]) H.hp)) rfl ?_;clear H;rintro v29 Ar Ed a w ⟨Py,rfl,hb1,hb2⟩ ER H;refine Bl H (wg H rfl rfl rfl) rfl rfl ?_;clear H;intro a H;refine kH H (Pt rfl rfl (Kz K9 (Cd rfl ?_ ?_))) <;> clear H K9
   ·intro h31 a H
    try have p31:=dT h31
    refine kP H (SR fun _ aZ=>ak aZ rfl ?_);clear H aZ;intro a H;refine lr H results189 rfl ?_
    first
     | exact H.hp.dh (L':=Ed) (by repeat (first|exact dx _|apply List.Sublist.cons)) ⟨_,rfl,fun e=>(by cases e),fun _=>hb2 (by simpa using h31)⟩
     | exact H.hp.dh (L':=Ij) (by repeat (first|exact dx _|apply List.Sublist.cons)) ⟨_,rfl,fun e=>(by cases e),fun _=>hb4 (by simpa using nI)⟩
     | exact H.hp.dh (L':=Ik) (by repeat (first|exact dx _|apply List.Sublist.cons)) ⟨_,rfl,fun e=>(by cases e),fun _=>hb6 (by simpa using h64)⟩
     | exact H.hp.dh (L':=Il) (by repeat (first|exact dx _|apply List.Sublist.cons)) ⟨_,rfl,fun e=>(by cases e),fun _=>xE (by simpa using pI)⟩
     | exact H.hp.dh (L':=Lt) (by repeat (first|exact dx _|apply List.Sublist.cons)) ⟨_,rfl,fun _=>(by rw [gy (by omega),jA] at cO;have:=cO.len;simp only [List.length_nil,ou] at this;rw [← this];exact cO.now),fun e=>(by cases e)⟩
   intro h31 a H
   try have p31:=dF h31
   have zT:=cO.step (hb1 (by simpa using h31));have jX:∀ b o,G b=some o→Ar b=some o:=fun b o h=>ER b o (hgm b o h);refine kP H (Kc K8 (SQ fun _ bN=>SR fun _ bQ=>aW gG aD 0 rfl rfl (Rc rfl (Rm rfl (YF yI h20 rfl (YO iM 0 h20 rfl (YM h20 rfl ?_)))))));clear H K8;intro a H;refine iH TQ (Li:=[_]) (L:=Ed) H (wg H rfl rfl h20) rfl (ih fv Gi xs J Jx _ _ _ (j+1) l[k].flow _ (fun b o h=>jX b o (hGi b o h)) hcb nk hJx zT.now (Hp.owns (Li:=[_]) H.hp) (hfl.mono jX) (by omega) zT.part) rfl ?_;clear H;rintro v39 YH Ij a w ⟨b39,rfl,hb3,hb4⟩ abV H;refine kH H (YN h20 rfl (Pt h20 rfl (Kz bQ (Cd rfl ?_ ?_)))) <;> clear H bQ
   ·intro nI a H
    try have p41:=dT nI
    refine kP H (SR fun _ bT=>ak bT rfl ?_);clear H bT;intro a H;refine lr H results189 rfl ?_
    first
     | exact H.hp.dh (L':=Ed) (by repeat (first|exact dx _|apply List.Sublist.cons)) ⟨_,rfl,fun e=>(by cases e),fun _=>hb2 (by simpa using h31)⟩
     | exact H.hp.dh (L':=Ij) (by repeat (first|exact dx _|apply List.Sublist.cons)) ⟨_,rfl,fun e=>(by cases e),fun _=>hb4 (by simpa using nI)⟩
     | exact H.hp.dh (L':=Ik) (by repeat (first|exact dx _|apply List.Sublist.cons)) ⟨_,rfl,fun e=>(by cases e),fun _=>hb6 (by simpa using h64)⟩
     | exact H.hp.dh (L':=Il) (by repeat (first|exact dx _|apply List.Sublist.cons)) ⟨_,rfl,fun e=>(by cases e),fun _=>xE (by simpa using pI)⟩
     | exact H.hp.dh (L':=Lt) (by repeat (first|exact dx _|apply List.Sublist.cons)) ⟨_,rfl,fun _=>(by rw [gy (by omega),jA] at cO;have:=cO.len;simp only [List.length_nil,ou] at this;rw [← this];exact cO.now),fun e=>(by cases e)⟩
   intro nI a H
   try have p41:=dF nI
   refine kP H (Kc bN (SQ fun _ cu=>SR fun _ dL=>aW gG aD 0 rfl rfl (Rc rfl (Kz dL (Cd rfl ?_ ?_))))) <;> clear H bN dL
   ·intro lX a H
    try have p44:=dT lX
    refine eD ?_;refine K6 _ _ ?_;clear K6;refine kP H (SC (Rd rfl (Rm rfl ?_)));clear H;intro a H;refine aI ?_;refine dP ((k+1,j+1+(jA l[k].flow).length,Ij,YH)) (by exact (H.dK (Pl:=[_]) (dw:=[]) [] (by decide) rfl).sub ⟨rfl,rfl,rfl,rfl,av⟩) ?_ ?_
    ·(try dsimp only);exact ⟨by omega,fun b o h=>abV b o (jX b o h),zT.jump (hb3 (by simpa using nI))⟩
    first|omega|(dsimp only;omega)
   intro lX a H
   try have p44:=dF lX
   exact absurd (show l[k].kind=7 by omega) (by omega)
  intro h20 a H
  try have rP:=dF h20
  refine kH H (YF gG h20 rfl (YO aD 0 h20 rfl (YC h20 rfl (Pf h20 rfl (Rm rfl (Sp 25 rfl ?_ ?_)))))) <;> clear H
  ·intro gZ a H
   try have p25:=dT gZ
   rw [au (Or.inr p25),ah rP,au p25] at cO
   simp only [nV,mo] at cO
   refine kH H (YM gZ rfl (YF qg gZ rfl (YO aD 0 gZ rfl ?_)));clear H;intro a H;refine xU (Li:=[_]) (L:=Lt) H (wg H rfl rfl gZ) rfl rfl (hcb _ _ _ _ _ ⟨_,cO.head,rfl⟩ (fun b o h=>hgm b o (hGi b o h)) cO.now (Hp.owns (Li:=[_]) H.hp)) rfl ?_;clear H;rintro v29 Ar Ed a w ⟨Py,rfl,hb1,hb2⟩ ER H;refine kH H (YN gZ rfl (Pt gZ rfl (Kz K9 (Cd rfl ?_ ?_)))) <;> clear H K9
   ·intro h31 a H
    try have p31:=dT h31
    refine kP H (SR fun _ dO=>ak dO rfl ?_);clear H dO;intro a H;refine lr H results189 rfl ?_
    first
     | exact H.hp.dh (L':=Ed) (by repeat (first|exact dx _|apply List.Sublist.cons)) ⟨_,rfl,fun e=>(by cases e),fun _=>hb2 (by simpa using h31)⟩
     | exact H.hp.dh (L':=Ij) (by repeat (first|exact dx _|apply List.Sublist.cons)) ⟨_,rfl,fun e=>(by cases e),fun _=>hb4 (by simpa using nI)⟩
     | exact H.hp.dh (L':=Ik) (by repeat (first|exact dx _|apply List.Sublist.cons)) ⟨_,rfl,fun e=>(by cases e),fun _=>hb6 (by simpa using h64)⟩
     | exact H.hp.dh (L':=Il) (by repeat (first|exact dx _|apply List.Sublist.cons)) ⟨_,rfl,fun e=>(by cases e),fun _=>xE (by simpa using pI)⟩
     | exact H.hp.dh (L':=Lt) (by repeat (first|exact dx _|apply List.Sublist.cons)) ⟨_,rfl,fun _=>(by rw [gy (by omega),jA] at cO;have:=cO.len;simp only [List.length_nil,ou] at this;rw [← this];exact cO.now),fun e=>(by cases e)⟩
   intro h31 a H
   try have p31:=dF h31
   have zT:=cO.step (hb1 (by simpa using h31));have jX:∀ b o,G b=some o→Ar b=some o:=fun b o h=>ER b o (hgm b o h);refine kP H (Kc K8 (SQ fun _ dJ=>SR fun _ dW=>aW gG aD 0 rfl rfl (Rc rfl (Rm rfl (aT h20 rfl (aP h20 rfl (Pf h20 rfl (Kz dW (Cf rfl rfl (Kc dJ (SQ fun _ eG=>SR fun _ eB=>aW gG aD 0 rfl rfl (Rc rfl (Kz eB (Cd rfl ?_ ?_)))))))))))))) <;> clear H K8 dW dJ eB
   ·intro lX a H
    try have p44:=dT lX
    exact absurd p25 p44
   intro lX a H
   try have p44:=dF lX
   refine kP H (Kc eG (SR fun _ eH=>aW rC rR 0 rfl rfl (Rl jH rfl (Rm rfl (Kz eH (SB ?_))))));clear H eG eH;intro a H;skip;refine fH (ι:=Nat × Nat × OL × GH) (Tc:=[(1,_),(11,_),(12,_),(13,_),(46,_),(47,_)]) (Lc:=[(_,_)]) (fun gh=>[(48,vi gh.1)]) (fun gh=>[]++gh.2.2.1) (fun gh=>gh.2.2.2) (fun gh=>gh.1≤l[k].rows.length∧(∀ b o,G b=some o→gh.2.2.2 b=some o)∧Now xs DK J (j0+(jA l).length) gh.2.1 (qp (l[k].rows.drop gh.1)++jA (l.drop (k+1))) gh.2.2.2 gh.2.2.1) (fun gh=>l[k].rows.length - gh.1) ((0,j+1,Ed,Ar)) (by exact (H).sub ⟨rfl,rfl,rfl,rfl,rfl,rfl,rfl,av⟩) ?_ ?_
   ·exact ⟨by omega,jX,zT⟩
   clear H;intro gh a w hI H;obtain ⟨rk,j3,Lt3,g3⟩:=gh;dsimp only at hI H;obtain ⟨QT,sK,Ch⟩:=hI;dsimp only [lca,aS] at H;refine kP H (SR fun _ fO=>Rc rfl (Kz fO (SQ fun _ gJ=>Cd rfl ?_ ?_))) <;> clear H fO
   ·intro qI a H
    try have p49:=dT qI
    have hk3:rk < l[k].rows.length:=by omega
    obtain ⟨b2,o2,qA,qn,qc,eA,en,ec,zA,zn,zc,cA,cn,cc,rfl,hrow,DJ,hcl⟩:=GV hk3 hrw.at_;replace hrow:=fun j u hj=>aF sK (hrow j u hj);have hcn:=hcl.len;rw [bZ] at hcn;subst hcn;have hsz2:=Mk hk3;have hcs:=Fh l[k].rows[rk].cells;rw [kR hk3] at Ch
    simp only [qp,LB,mG] at Ch
    refine kP H (Kc gJ (SQ fun _ gT=>SB (SR fun _ gM=>Ri jH iI rfl rfl ?_)));clear H gJ;intro a H;refine bD iI (cs:=[_,_,_,_,_,_]) H wn rfl rfl (fun j v hj=>H.hp.aH (hrow j v hj)) rfl ?_;clear H;intro a H;refine dR iI H wn rfl ?_;clear H;intro b8 a w xE H;refine bO iI 0 (vs:=[_,_,_,_,_,_]) _ H wn rfl rfl rfl rfl rfl rfl rfl rfl ?_;clear H;intro w H;dsimp only [List.set,setRow] at H;refine gM _ _ ?_;clear gM;refine kP H (SR fun _ jh=>aW qG qU 0 rfl rfl (Rl kV rfl (Rm rfl (Kz jh (SB ?_)))));clear H jh;intro a H;skip;refine fH (ι:=Nat × Nat × OL × GH) (Tc:=[(1,_),(11,_),(12,_),(13,_),(46,_),(47,_),(48,_),(53,_),(54,_)]) (Lc:=[(_,_),(_,_)]) (fun gh=>[(55,vi gh.1)]) (fun gh=>[]++gh.2.2.1) (fun gh=>gh.2.2.2) (fun gh=>gh.1≤l[k].rows[rk].cells.length∧(∀ b o,G b=some o→gh.2.2.2 b=some o)∧Now xs DK J (j0+(jA l).length) gh.2.1 (qL (l[k].rows[rk].cells.drop gh.1)++(qp (l[k].rows.drop (rk+1))++jA (l.drop (k+1)))) gh.2.2.2 gh.2.2.1) (fun gh=>l[k].rows[rk].cells.length - gh.1) ((0,j3,Lt3,g3)) (by exact (H).sub ⟨rfl,rfl,rfl,rfl,rfl,rfl,rfl,rfl,rfl,rfl,av⟩) ?_ ?_
    ·exact ⟨by omega,sK,Ch⟩
    clear H;intro gh a w hI H;obtain ⟨ck,j4,Lt4,g4⟩:=gh;dsimp only at hI H;obtain ⟨hck,wz,xI⟩:=hI;dsimp only [lca,aS] at H;refine kP H (SR fun _ jo=>Rc rfl (Kz jo (SQ fun _ iU=>Cd rfl ?_ ?_))) <;> clear H jo
    ·intro qJ a H
     try have p56:=dT qJ
     have hk4:ck < l[k].rows[rk].cells.length:=by omega
     obtain ⟨b3,o3,sA,sn,sc,tA,tn,tc,uA,un,uc,gA,gn,gc,rfl,hrow,hch,hcf⟩:=Eo hk4 hcl.at_;replace hrow:=fun j u hj=>aF wz (hrow j u hj);have Ju:=Mi hk4;rw [kR hk4] at xI
     simp only [qL,LA,mG,nV] at xI
     refine kP H (Kc iU (SQ fun _ kX=>SB (SR fun _ kY=>Ri kV iy rfl rfl ?_)));clear H iU;intro a H;refine bD iy (cs:=[_,_,_,_,_,_,_]) H wn rfl rfl (fun j v hj=>H.hp.aH (hrow j v hj)) rfl ?_;clear H;intro a H;refine dR iy H wn rfl ?_;clear H;intro b10 a w KP H;refine bO iy 0 (vs:=[_,_,_,_,_,_,_]) _ H wn rfl rfl rfl rfl rfl rfl rfl rfl ?_;clear H;intro w H;dsimp only [List.set,setRow] at H;refine kY _ _ ?_;clear kY;refine kP H (SR fun _ jT=>Rm rfl (aW AO aD 0 rfl rfl ?_));clear H;intro a H;refine xU (Li:=[_,_,_]) (L:=Lt4) H wn rfl rfl (hcb _ _ _ _ _ ⟨_,xI.head,rfl⟩ (fun b o h=>wz b o (hGi b o h)) xI.now (Hp.owns (Li:=[_,_,_]) H.hp)) rfl ?_;clear H;rintro v62 YP Ik a w ⟨ZB,rfl,hb5,hb6⟩ NW H;refine kH H (Rn rfl (Rm rfl (Sp 64 rfl ?_ ?_))) <;> clear H
     ·intro h64 a H
      try have p64:=dT h64
      refine kH H (aT h64 rfl (aP h64 rfl (Pt h64 rfl (Kz jT (Ct rfl rfl (SR fun _ lG=>ak lG rfl ?_))))));clear H jT lG;intro a H;refine lr H results189 rfl ?_
      first
       | exact H.hp.dh (L':=Ed) (by repeat (first|exact dx _|apply List.Sublist.cons)) ⟨_,rfl,fun e=>(by cases e),fun _=>hb2 (by simpa using h31)⟩
       | exact H.hp.dh (L':=Ij) (by repeat (first|exact dx _|apply List.Sublist.cons)) ⟨_,rfl,fun e=>(by cases e),fun _=>hb4 (by simpa using nI)⟩
       | exact H.hp.dh (L':=Ik) (by repeat (first|exact dx _|apply List.Sublist.cons)) ⟨_,rfl,fun e=>(by cases e),fun _=>hb6 (by simpa using h64)⟩
       | exact H.hp.dh (L':=Il) (by repeat (first|exact dx _|apply List.Sublist.cons)) ⟨_,rfl,fun e=>(by cases e),fun _=>xE (by simpa using pI)⟩
       | exact H.hp.dh (L':=Lt) (by repeat (first|exact dx _|apply List.Sublist.cons)) ⟨_,rfl,fun _=>(by rw [gy (by omega),jA] at cO;have:=cO.len;simp only [List.length_nil,ou] at this;rw [← this];exact cO.now),fun e=>(by cases e)⟩
     intro h64 a H
     try have p64:=dF h64
     have V5:=xI.step (hb5 (by simpa using h64));refine kH H (YF AQ h64 rfl (YO iM 0 h64 rfl (YM h64 rfl ?_)));clear H;intro a H;refine iH TQ (Li:=[_,_,_]) (L:=Ik) H (wg H rfl rfl h64) rfl (ih fv Gi xs J Jx _ _ _ (j4+1) l[k].rows[rk].cells[ck].flow _ (fun b o h=>NW b o (wz b o (hGi b o h))) hcb nk hJx V5.now (Hp.owns (Li:=[_,_,_]) H.hp) ((hcf.mono wz).mono NW) (by omega) V5.part) rfl ?_;clear H;rintro v68 G68 Il a w ⟨b68,rfl,tV,xE⟩ amc H;refine kH H (YN h64 rfl (Pf h64 rfl (Kz jT (Cd rfl ?_ ?_)))) <;> clear H jT
     ·intro pI a H
      try have p70:=dT pI
      refine kP H (SR fun _ lH=>ak lH rfl ?_);clear H lH;intro a H;refine lr H results189 rfl ?_
      first
       | exact H.hp.dh (L':=Ed) (by repeat (first|exact dx _|apply List.Sublist.cons)) ⟨_,rfl,fun e=>(by cases e),fun _=>hb2 (by simpa using h31)⟩
       | exact H.hp.dh (L':=Ij) (by repeat (first|exact dx _|apply List.Sublist.cons)) ⟨_,rfl,fun e=>(by cases e),fun _=>hb4 (by simpa using nI)⟩
       | exact H.hp.dh (L':=Ik) (by repeat (first|exact dx _|apply List.Sublist.cons)) ⟨_,rfl,fun e=>(by cases e),fun _=>hb6 (by simpa using h64)⟩
       | exact H.hp.dh (L':=Il) (by repeat (first|exact dx _|apply List.Sublist.cons)) ⟨_,rfl,fun e=>(by cases e),fun _=>xE (by simpa using pI)⟩
       | exact H.hp.dh (L':=Lt) (by repeat (first|exact dx _|apply List.Sublist.cons)) ⟨_,rfl,fun _=>(by rw [gy (by omega),jA] at cO;have:=cO.len;simp only [List.length_nil,ou] at this;rw [← this];exact cO.now),fun e=>(by cases e)⟩
     intro pI a H
     try have p70:=dF pI
     refine kP H (Kc kX (SC (Rd rfl (Rm rfl ?_))));clear H kX;intro a H;refine aI ?_;refine dP ((ck+1,j4+1+(jA l[k].rows[rk].cells[ck].flow).length,Il,G68)) (by exact (H.dK (Pl:=[_,_,_]) (dw:=[_,_]) [1,2] (by decide) rfl).sub ⟨rfl,rfl,rfl,rfl,rfl,rfl,rfl,rfl,rfl,rfl,av⟩) ?_ ?_
     ·(try dsimp only);exact ⟨by omega,fun b o h=>amc b o (NW b o (wz b o h)),V5.jump (tV (by simpa using pI))⟩
     first|omega|(dsimp only;omega)
    intro qJ a H
    try have p56:=dF qJ
    refine eD ?_;refine gT _ _ ?_;clear gT;refine kP H (SC (Rd rfl (Rm rfl ?_)));clear H;intro a H;refine aI ?_;refine dP ((rk+1,j4,Lt4,g4)) (by exact (H.dK (Pl:=[_,_]) (dw:=[_]) [1] (by decide) rfl).sub ⟨rfl,rfl,rfl,rfl,rfl,rfl,rfl,av⟩) ?_ ?_
    ·(try dsimp only);exact ⟨by omega,wz,by rw [gy (by omega),qL,mo] at xI;exact xI⟩
    first|omega|(dsimp only;omega)
   intro qI a H
   try have p49:=dF qI
   refine eD ?_;refine K6 _ _ ?_;clear K6;refine kP H (SC (Rd rfl (Rm rfl ?_)));clear H;intro a H;refine aI ?_;refine dP ((k+1,j3,Lt3,g3)) (by exact (H.dK (Pl:=[_]) (dw:=[]) [] (by decide) rfl).sub ⟨rfl,rfl,rfl,rfl,av⟩) ?_ ?_
   ·(try dsimp only);exact ⟨by omega,sK,by rw [gy (by omega),qp,mo] at Ch;exact Ch⟩
   first|omega|(dsimp only;omega)
  intro gZ a H
  try have p25:=dF gZ
  rw [ah (by omega),ah rP,ah p25] at cO
  simp only [mo] at cO
  refine kH H (aT gZ rfl (aP gZ rfl (Pf gZ rfl (Kz K9 (Cf rfl rfl (Kc K8 (SQ fun _ kL=>SR fun _ mQ=>aW gG aD 0 rfl rfl (Rc rfl (Rm rfl (aT h20 rfl (aP h20 rfl (Pf h20 rfl (Kz mQ (Cf rfl rfl (Kc kL (SQ fun _ mR=>SR fun _ nD=>aW gG aD 0 rfl rfl (Rc rfl (Kz nD (Cd rfl ?_ ?_))))))))))))))))))) <;> clear H K9 K8 mQ kL nD
  ·intro lX a H
   try have p44:=dT lX
   refine eD ?_;refine K6 _ _ ?_;clear K6;refine kP H (SC (Rd rfl (Rm rfl ?_)));clear H;intro a H;refine aI ?_;refine dP ((k+1,j,Lt,g)) (by exact (H.dK (Pl:=[_]) (dw:=[]) [] (by decide) rfl).sub ⟨rfl,rfl,rfl,rfl,av⟩) ?_ ?_
   ·(try dsimp only);exact ⟨by omega,hgm,cO⟩
   first|omega|(dsimp only;omega)
  intro lX a H
  try have p44:=dF lX
  exact absurd p25 p44
 intro eO a H
 try have ny:=dF eO
 refine eD ?_;refine K2 _ _ ?_;clear K2;refine kP H (SR fun _ rX=>ak rX rfl ?_);clear H rX;intro a H;refine lr H results189 rfl ?_
 first
  | exact H.hp.dh (L':=Ed) (by repeat (first|exact dx _|apply List.Sublist.cons)) ⟨_,rfl,fun e=>(by cases e),fun _=>hb2 (by simpa using h31)⟩
  | exact H.hp.dh (L':=Ij) (by repeat (first|exact dx _|apply List.Sublist.cons)) ⟨_,rfl,fun e=>(by cases e),fun _=>hb4 (by simpa using nI)⟩
  | exact H.hp.dh (L':=Ik) (by repeat (first|exact dx _|apply List.Sublist.cons)) ⟨_,rfl,fun e=>(by cases e),fun _=>hb6 (by simpa using h64)⟩
  | exact H.hp.dh (L':=Il) (by repeat (first|exact dx _|apply List.Sublist.cons)) ⟨_,rfl,fun e=>(by cases e),fun _=>xE (by simpa using pI)⟩
  | exact H.hp.dh (L':=Lt) (by repeat (first|exact dx _|apply List.Sublist.cons)) ⟨_,rfl,fun _=>(by rw [gy (by omega),jA] at cO;have:=cO.len;simp only [List.length_nil,ou] at this;rw [← this];exact cO.now),fun e=>(by cases e)⟩
theorem aeZ:∀ n:Nat,n≤4294967297→Td n
 | 0,_=>fun _ _ _ _ _ _ _ _ _ _ _ _ _ _ _ _ _ _ _ h=>absurd h (by omega)
 | n+1,hn=>arw (aeZ n (by omega)) (by omega)
end
section
open Go.RowKit
theorem tq {r:CR} {f:CS→CR} {s':CS} (h:gK r f=(0,s')):r.1=0∧f r.2=(0,s'):=by
 unfold gK at h
 split at h
 ·rename_i h1;rw [h] at h1;exact absurd rfl h1
 rename_i h1;exact ⟨gF.1 h1,h⟩
theorem aag {r:CR} (h:r.1=0):r=(0,r.2):=Prod.ext h rfl
structure nO (a b c:List Int):Prop where
 eq:c=a++b
 nd:a.Nodup→c.Nodup
 pos:∀ i∈b,1≤i∧i≤1073741824
theorem nO.nil (a:List Int):nO a [] a:=⟨by simp,fun h=>h,fun i h=>by cases h⟩
theorem nO.trans {a b c d e:List Int} (h:nO a b c) (g:nO c d e):nO a (b++d) e:=⟨by rw [g.eq,h.eq,mG],fun h1=>g.nd (h.nd h1),fun i hi=>(gu.1 hi).elim (h.pos i) (g.pos i)⟩
theorem nO.id {a:List Int} {x:Int} (h:nZ a x=0):nO a [x] (kg a x):=by
 unfold kg
 rw [au h]
 unfold nZ at h
 by_cases h1:1≤x∧x≤1073741824
 ·rw [ah (fun h'=>h' h1)] at h
  by_cases h2:x∈a
  ·rw [au h2] at h;cases h
  exact ⟨rfl,fun h3=>List.nodup_append.2 ⟨h3,by simp,fun u hu v hv=>by rw [uo.1 hv];exact fun e=>h2 (e ▸ hu)⟩,fun i hi=>by rw [uo.1 hi];exact h1⟩
 rw [au h1] at h;cases h
theorem nO.jL {s s':CS} {x:Int} (h:jL s x=(0,s')):nO s.bE [x] s'.bE:=by
 unfold Go.Proofs.YtlnhhlighgaapaaGreat.jL at h
 injection h with h1 h2
 rw [← h2];exact nO.id h1
theorem apa {body note:Bool} {t k i:Int} {s s':CS} (h:kU body note t k i s=(0,s')):nO s.bE (if k=6∨k=7 then [i] else []) s'.bE:=by
 unfold kU at h
 by_cases h3:k=3
 ·rw [au h3] at h;injection h with _ h2;rw [ah (by omega),← h2];exact nO.nil _
 rw [ah h3] at h
 by_cases h6:k=6
 ·rw [au h6] at h;rw [au (.inl h6)];exact nO.jL (tq h).2
 rw [ah h6] at h
 by_cases h7:k=7
 ·rw [au h7] at h;rw [au (.inr h7)];exact nO.jL (tq h).2
 rw [ah h7] at h;rw [ah (by omega)]
 by_cases h8:k=8
 ·rw [au h8] at h;injection h with _ h2;rw [← h2];exact nO.nil _
 rw [ah h8] at h;injection h with _ h2;rw [← h2];exact nO.nil _
theorem adT {n:Nat} {f:CS→CR} {s s':CS} (h:lC n f s=(0,s')):n≠0∧f s=(0,s'):=by
 unfold lC at h
 split at h
 ·cases h
 rename_i h1
 split at h
 ·cases h
 exact ⟨h1,h⟩
mutual
theorem ajQ (C:gQ) (body note:Bool) (t:Int):∀ (x:ay) (s s':CS),fK C body note t x s=(0,s')→nO s.bE (zV x) s'.bE
 | .mk k c i tx h f r,s,s',e=>by
  have hf:=Qb C false true t f;have hr:=aaR C note (t+1) r;rw [fK] at e;obtain ⟨-,e⟩:=tq e;obtain ⟨e1,e⟩:=tq e;obtain ⟨-,e⟩:=tq e;have h1:=apa (aag e1);rw [zV];refine h1.trans ?_
  by_cases h6:k=6
  ·rw [au h6] at e ⊢;rw [ah (show ¬ k=7 by omega),pW];exact hf _ _ e
  rw [ah h6] at e ⊢;rw [mo]
  by_cases h7:k=7
  ·rw [au h7] at e ⊢;exact hr _ _ (adT e).2
  rw [ah h7] at e ⊢
  injection e with _ e
  rw [← e];exact nO.nil _
theorem ajR (C:gQ) (note:Bool) (t:Int):∀ (x:bJ) (s s':CS),DW C note t x s=(0,s')→nO s.bE (Cq x) s'.bE
 | .mk h cs,s,s',e=>by
  have hc:=aaQ C note t cs;rw [JU] at e;rw [Cq];exact hc _ _ (tq e).2
theorem ajP (C:gQ) (note:Bool) (t:Int):∀ (x:bB) (s s':CS),cellC C note t x s=(0,s')→nO s.bE (Co x) s'.bE
 | .mk i h f,s,s',e=>by
  have hf:=Qb C false note t f;rw [AB] at e;dsimp only [bB.id,bB.head,bB.flow] at e;obtain ⟨e1,e⟩:=tq e;have h1:=nO.jL (s':=(jL s i).2) (Prod.ext e1 rfl);rw [Co];exact h1.trans (hf _ _ (tq e).2)
theorem Qb (C:gQ) (body note:Bool) (t:Int):∀ (l:List ay) (s s':CS),iG C body note t l s=(0,s')→nO s.bE (jA l) s'.bE
 | [],s,s',e=>by rw [iG] at e;injection e with _ e;rw [← e];exact nO.nil _
 | x :: r,s,s',e=>by
  rw [iG] at e;obtain ⟨e1,e⟩:=tq e;rw [jA];exact (ajQ C body note t x s _ (Prod.ext e1 rfl)).trans (Qb C body note t r _ _ e)
theorem aaR (C:gQ) (note:Bool) (t:Int):∀ (l:List bJ) (s s':CS),iw C note t l s=(0,s')→nO s.bE (qp l) s'.bE
 | [],s,s',e=>by rw [iw] at e;injection e with _ e;rw [← e];exact nO.nil _
 | x :: r,s,s',e=>by
  rw [iw] at e;obtain ⟨e1,e⟩:=tq e;rw [qp];exact (ajR C note t x s _ (Prod.ext e1 rfl)).trans (aaR C note t r _ _ e)
theorem aaQ (C:gQ) (note:Bool) (t:Int):∀ (l:List bB) (s s':CS),nQ C note t l s=(0,s')→nO s.bE (qL l) s'.bE
 | [],s,s',e=>by rw [nQ] at e;injection e with _ e;rw [← e];exact nO.nil _
 | x :: r,s,s',e=>by
  rw [nQ] at e;obtain ⟨e1,e⟩:=tq e;rw [qL];exact (ajP C note t x s _ (Prod.ext e1 rfl)).trans (aaQ C note t r _ _ e)
end
def jU (l:List ay):Prop:=∃ (C:gQ) (body note:Bool) (t:Int) (s s':CS),iG C body note t l s=(0,s')
structure CZ (x:ay):Prop where
 txt:rV x.text=true
 kd:1≤x.kind∧x.kind≤8
 XC:x.kind≠7→x.rows=[]
 fl0:x.kind≠6→x.flow=[]
 fl:jU x.flow
 rw:∀ r∈x.rows,∀ c∈r.cells,jU c.flow
theorem aov:jU []:=⟨⟨[],[],[]⟩,false,false,0,⟨0,[]⟩,⟨0,[]⟩,by rw [iG]⟩
theorem aks {x:ay} (h:jW x=0):rV x.text=true∧(1≤x.kind∧x.kind≤8)∧(x.kind≠7→x.rows=[])∧(x.kind≠6→x.flow=[]):=by
 unfold jW at h
 split at h
 ·cases h
 rename_i h1
 split at h
 ·cases h
 rename_i h2
 split at h
 ·cases h
 rename_i h3
 have hk:decide (1≤x.kind∧x.kind≤8)=true:=by
  cases hd:decide (1≤x.kind∧x.kind≤8)
  ·rw [hd] at h1;exact absurd rfl h1
  rfl
 refine ⟨by simpa using h3,pE hk,fun h7=>?_,fun h6=>?_⟩
 ·rw [Bool.not_eq_true] at h2
  unfold wY at h2
  simp only [Bool.or_eq_false_iff] at h2
  have h4:=h2.2;rw [gq h7,vR,uq] at h4;exact List.length_eq_zero_iff.1 (by omega)
 rw [Bool.not_eq_true] at h2
 unfold wY at h2
 simp only [Bool.or_eq_false_iff] at h2
 have h4:=h2.1.2;rw [gq h6,vR,uq] at h4;exact List.length_eq_zero_iff.1 (by omega)
theorem cells_ok {C:gQ} {note:Bool} {t:Int}:∀ {l:List bB} {s s':CS},nQ C note t l s=(0,s')→∀ c∈l,jU c.flow
 | [],_,_,_,_,h=>by cases h
 | x :: r,s,s',e,c,h=>by
  rw [nQ] at e;obtain ⟨e1,e⟩:=tq e
  rcases nE.1 h with rfl|h
  ·have e2:cellC C note t c s=(0,(cellC C note t c s).2):=Prod.ext e1 rfl
   generalize (cellC C note t c s).2=s2 at e2
   rw [AB] at e2;exact ⟨C,false,note,t,_,_,(tq (tq e2).2).2⟩
  exact cells_ok e c h
theorem adU {C:gQ} {note:Bool} {t:Int}:∀ {l:List bJ} {s s':CS},iw C note t l s=(0,s')→∀ r∈l,∀ c∈r.cells,jU c.flow
 | [],_,_,_,_,h=>by cases h
 | x :: r,s,s',e,q,h=>by
  rw [iw] at e;obtain ⟨e1,e⟩:=tq e
  rcases nE.1 h with rfl|h
  ·have e2:DW C note t q s=(0,(DW C note t q s).2):=Prod.ext e1 rfl
   generalize (DW C note t q s).2=s2 at e2
   rw [JU] at e2;exact cells_ok (tq e2).2
  exact adU e q h
theorem jU.head {x:ay} {l:List ay} (h:jU (x :: l)):CZ x∧jU l:=by
 obtain ⟨C,body,note,t,s,s',e⟩:=h;rw [iG] at e;obtain ⟨e1,e⟩:=tq e;have e2:fK C body note t x s=(0,(fK C body note t x s).2):=Prod.ext e1 rfl
 generalize (fK C body note t x s).2=s2 at e2
 refine ⟨?_,⟨C,body,note,t,_,_,e⟩⟩;rw [Oq] at e2;obtain ⟨f1,e2⟩:=tq e2;(iterate 2 obtain ⟨-,e2⟩:=tq e2);obtain ⟨h1,h2,h3,h4⟩:=aks f1;refine ⟨h1,h2,h3,h4,?_,?_⟩
 ·by_cases h6:x.kind=6
  ·rw [au h6] at e2;exact ⟨_,_,_,_,_,_,e2⟩
  rw [h4 h6];exact aov
 by_cases h7:x.kind=7
 ·rw [ah (by omega),au h7] at e2;exact adU (adT e2).2
 rw [h3 h7];exact fun _ h=>by cases h
theorem jU.tail {x:ay} {l:List ay} (h:jU (x :: l)):jU l:=h.head.2
theorem jU.mem:∀ {l:List ay} {x:ay},jU l→x∈l→CZ x
 | y :: l,x,h,hx=>by
  rcases nE.1 hx with rfl|hx
  ·exact h.head.1
  exact jU.mem h.head.2 hx
theorem CZ.e {x:ay} (h:CZ x):Bv x=0:=by unfold Bv Mf;rw [au h.txt];split <;> rfl
theorem CZ.n1 {x:ay} (h:CZ x):n1 x=gP x:=by unfold Go.Proofs.YtlnhhlighgaapaaGreat.n1;rw [au h.e]
theorem jU.div {l:List ay} (h:jU l):yG l=true:=by
 unfold yG
 rw [pV];exact fun x hx=>gq (h.mem hx).e
theorem jU.len {l:List ay} (h:jU l):yT l=vM l:=by unfold yT;rw [au h.div]
mutual
theorem arG (note:Bool) (t:Int):∀ x:ay,((Al note t x).map jM.id).Sublist (zV x)
 | .mk k c i tx h f r=>by
  have hf:=Sk true t f;have hr:=afk note t r;rw [Al,zV]
  by_cases h6:k=6
  ·rw [au h6,au (.inl h6),au h6,ah (by omega),pW];exact List.Sublist.cons_cons _ hf
  rw [ah h6,ah h6,mo]
  by_cases h7:k=7
  ·rw [au h7,au h7,au (.inr h7)];exact List.Sublist.cons _ hr
  rw [ah h7];exact List.nil_sublist _
theorem Sk (note:Bool) (t:Int):∀ l:List ay,((kJ note t l).map jM.id).Sublist (jA l)
 | []=>by rw [kJ];exact List.nil_sublist _
 | x :: l=>by
  rw [kJ,jA,nP];exact (arG note t x).append (Sk note t l)
theorem arH (note:Bool) (t:Int):∀ x:bJ,((Am note t x).map jM.id).Sublist (Cq x)
 | .mk h cs=>by rw [Am,Cq];exact afj note t cs
theorem afk (note:Bool) (t:Int):∀ l:List bJ,((qW note t l).map jM.id).Sublist (qp l)
 | []=>by rw [qW];exact List.nil_sublist _
 | x :: l=>by
  rw [qW,qp,nP];exact (arH note t x).append (afk note t l)
theorem arF (note:Bool) (t:Int):∀ x:bB,((Ak note t x).map jM.id).Sublist (Co x)
 | .mk i h f=>by rw [Ak,Co];exact List.Sublist.cons_cons _ (Sk note (t+1) f)
theorem afj (note:Bool) (t:Int):∀ l:List bB,((rW note t l).map jM.id).Sublist (qL l)
 | []=>by rw [rW];exact List.nil_sublist _
 | x :: l=>by
  rw [rW,qL,nP];exact (arF note t x).append (afj note t l)
end
structure zC (l:List ay):Prop where
 ok:jU l
 nd:(jA l).Nodup
 pos:∀ i∈jA l,1≤i∧i≤1073741824
theorem zC.of {C:gQ} {body note:Bool} {t n:Int} {l:List ay} {s':CS} (h:iG C body note t l ⟨n,[]⟩=(0,s')):zC l:=by
 have he:=Qb C body note t l _ _ h;have hn:=he.nd List.nodup_nil;rw [he.eq] at hn;exact ⟨⟨C,body,note,t,_,_,h⟩,by simpa using hn,he.pos⟩
theorem zC.ids {l:List ay} (h:zC l):((jS l).map jM.id).Nodup:=by
 have hs:=Sk false 0 l;rw [jS,fJ,List.nodup_cons];exact ⟨fun hm=>by have:=h.pos _ (hs.subset hm);dsimp only at this;omega,hs.nodup h.nd⟩
theorem aki {L:List jM} (hn:(L.map jM.id).Nodup) {F:jM} (hF:F∈L):L.find? (fun f=>decide (f.id=F.id))=some F:=by
 induction L with
 | nil=>cases hF
 | cons E L ih =>
  rw [fJ,List.nodup_cons] at hn;rw [List.find?_cons]
  rcases nE.1 hF with rfl|hF
  ·simp
  have:E.id≠F.id:=fun e=>hn.1 (e ▸ List.mem_map_of_mem hF);rw [iC this];exact ih hn.2 hF
end
section
open Go.ChangeShapes Go.RowKit Go.Deep
abbrev sJ (W:World):GH:=fun k=>W.heap[k]?
theorem akw {W:World} {b o:Nat} {v:aj} (h:W.cell? ⟨b,o,none⟩=some v):aH (sJ W) b o=some v:=by
 unfold World.cell? at h
 unfold aH sJ
 split at h
 ·rename_i c e f hh
  simp only at hh
  rw [hh];simpa using h
 cases h
theorem acZ {α:Type} {p:Nat→α→Prop}:∀ n:Nat,(∀ i,i < n→∃ x,p i x)→∃ l:List α,l.length=n∧∀ i x,l[i]?=some x→p i x
 | 0,_=>⟨[],rfl,fun i x h=>by simp at h⟩
 | n+1,h=>by
  obtain ⟨l,hl,hp⟩:=acZ n (fun i hi=>h i (by omega));obtain ⟨x,hx⟩:=h n (by omega);refine ⟨l++[x],by simp [hl],fun i y hy=>?_⟩
  by_cases hi:i < l.length
  ·exact hp i y (by rwa [Ei hi] at hy)
  rw [BF (by omega)] at hy
  have hin:i - l.length=0:=by
   have:=(mM.1 hy).1
   simp at this;omega
  rw [hin] at hy
  simp only [FN,pU] at hy
  subst hy;rw [show i=n by omega];exact hx
theorem agj {H:Type} (d:DataW H):1≤Rows.uptoBulk d:=by
 cases d <;> (try simp only [Rows.uptoBulk]) <;> (try omega)
 rename_i x;cases x <;> simp only [Rows.uptoBulk] <;> omega
theorem ZN {H ρ:Type} {dat:ρ→List Dat}:∀ (rs:List ρ) (D:Nat→DataW H),(∀ i r,rs[i]?=some r→dG (dat r)+1≤8*Rows.uptoBulk (D i))→fB (rs.map dat)≤8*Rows.uptoBulkAll ((List.range rs.length).map D)
 | [],D,_=>iK _
 | r :: rs,D,h=>by
  have h0:=h 0 r rfl;have hp:=agj (D 0);have ih:=ZN rs (fun i=>D (i+1)) (fun i r hr=>h (i+1) r (by simpa using hr));rw [nG,List.range_succ_eq_map]
  simp only [fJ,List.map_map,fB,Rows.uptoBulkAll]
  have e:(List.map (D ∘ Nat.succ) (List.range rs.length))=(List.map (fun i=>D (i+1)) (List.range rs.length)):=rfl;rw [e];omega
theorem ZM {H:Type} {D:Nat→DataW H}:∀ {n i:Nat},i < n→Rows.uptoBulk (D i)≤Rows.uptoBulkAll ((List.range n).map D)
 | 0,i,h=>absurd h (by omega)
 | n+1,i,h=>by
  have key:∀ (l m:List (DataW H)),Rows.uptoBulkAll (l++m)=Rows.uptoBulkAll l+Rows.uptoBulkAll m:=by
   intro l m
   induction l with
   | nil=>simp [Rows.uptoBulkAll]
   | cons x l ih=>simp only [nV,Rows.uptoBulkAll,ih];omega
  rw [List.range_succ,nP,key]
  by_cases hi:i < n
  ·have:=ZM (D:=D) hi;omega
  have:i=n:=by omega
  subst this
  simp only [fJ,wR,Rows.uptoBulkAll];omega
section
variable {H:Type} {enc:TypeId × aj→H} {P:Program} {W:World} {base:Nat} {spare:Nat→Bool} {held:Bool}
theorem xR {ρ:Type} {dat:ρ→List Dat} {t e:TypeId} {sz:Nat} (hsz:0 < sz) {fuel:Nat} {cs:List aj} {x:DataW H × List MemPlace} (ht:P.underlying t=some (.slice e)) (hc:P.cellsOf e=sz) (h:DataW.trod enc P W base spare held fuel t cs=some x)
  (row:∀ n cs' D Pl,DataW.trod enc P W base spare held n e cs'=some (D,Pl)→Rows.uptoBulk D < Rows.uptoBulk x.1→∃ r:ρ,bH (sJ W) (dat r) cs'∧dG (dat r)+1≤8*Rows.uptoBulk D) :
  ∃ (rs:List ρ) (v:aj),cs=[v]∧aB (sJ W) (.sl sz (rs.map dat)) v∧fB (rs.map dat)+8≤8*Rows.uptoBulk x.1:=by
 rcases open_slice ht h with ⟨rfl,rfl⟩|⟨a,len,cap,m,n,D,Pl,rfl,hb,hl,hm,hmm,rfl,hx⟩
 ·exact ⟨[],_,rfl,aB.jP rfl (by decide),by simp [fB,Rows.uptoBulk]⟩
 obtain ⟨rs,hrl,hrs⟩:=acZ (p:=fun i (r:ρ)=>∃ cs',W.cells? base (a.add (i*sz)) sz=some cs'∧bH (sJ W) (dat r) cs'∧dG (dat r)+1≤8*Rows.uptoBulk (D i)) len (fun i hi=>by
  have him:i < m:=by rw [hmm];split <;> omega
  obtain ⟨cs',h1,h2⟩:=hx i him;rw [hc] at h1;have hb1:=ZM (D:=D) hi;obtain ⟨r,hr1,hr2⟩:=row n cs' (D i) (Pl i) h2 (by simp only [Rows.uptoBulk];omega)
  exact ⟨r,cs',h1,hr1,hr2⟩)
 refine ⟨rs,_,rfl,?_,?_⟩
 ·simp only [aB,bZ]
  refine ⟨some a,cap,by rw [hrl],by omega,hm,fun hne=>?_⟩;obtain ⟨b,off,spot⟩:=a
  have hlen:0 < rs.length:=by cases rs with|nil=>simp at hne|cons _ _=>simp
  obtain ⟨cs0,h1,-,-⟩:=hrs 0 rs[0] (gD hlen);obtain ⟨-,hl0,hg0⟩:=World.cells?_some h1
  have hspot:spot=none:=by
   have h3:=hg0 0 hsz;rw [gD (by omega)] at h3
   simpa [Addr.add] using World.cell?_spot h3
  subst hspot;refine ⟨b,off,rfl,nU.mk fun k r hk=>?_⟩;rw [qY] at hk;obtain ⟨y,hy,rfl⟩:=qC.1 hk;obtain ⟨cs',h2,h3,-⟩:=hrs k y hy;obtain ⟨-,hl1,hg1⟩:=World.cells?_some h2;refine ⟨cs',hl1,fun j u hj=>akw ?_,h3⟩
  have hj2:j < sz:=by rw [← hl1];exact (mM.1 hj).1
  have:=hg1 j hj2;rw [add_add,Go.WideShapes.add_plain] at this;rw [show off+k*sz+j=off+(k*sz+j) by omega,this];exact hj
 have:=ZN rs D (fun i r hr=>(hrs i r hr).choose_spec.2.2);rw [hrl] at this
 simp only [Rows.uptoBulk];omega
end
structure uQ (P:Program) (t:TypeId) (sz:Nat) (fs:List (TypeId × Nat × Nat)):Prop where
 und:P.underlying t=some (.struct (P.fieldsOf t))
 cells:P.cellsOf t=sz
 F5:(P.fieldsOf t).toList.map (fun f=>(f.type,f.offset,P.cellsOf f.type))=fs
theorem wE {P:Program} {H:Type} {enc:TypeId × aj→H} {W:World} {base:Nat} {spare:Nat→Bool} {held:Bool} {t:TypeId} {sz fuel:Nat} {fs:List (TypeId × Nat × Nat)} {cs:List aj} {x:DataW H × List MemPlace} (hs:uQ P t sz fs) (h:DataW.trod enc P W base spare held fuel t cs=some x) :
  ∃ (xs:List (DataW H × List MemPlace)) (n:Nat),x.1=.agg (xs.map (·.1))∧cs.length=sz∧xs.length=fs.length∧∀ (i:Nat) (ti:TypeId) (off k:Nat),fs[i]?=some (ti,off,k)→DataW.trod enc P W base spare held n ti ((cs.drop off).take k)=xs[i]?:=by
 obtain ⟨xs,n,-,rfl,hl,hxl,hf⟩:=DataW.trod_struct hs.und h;refine ⟨xs,n,rfl,by rw [hl,hs.cells],by rw [hxl,← hs.F5];simp,fun i ti off k hi=>?_⟩;rw [← hs.F5,qY] at hi;obtain ⟨f,hf1,hf2⟩:=qC.1 hi
 simp only [jc] at hf2
 obtain ⟨rfl,rfl,rfl⟩:=hf2;exact hf i f (by simpa using hf1)
section
variable {H:Type} {enc:TypeId × aj→H} {W:World} {base:Nat} {spare:Nat→Bool} {held:Bool}
theorem aqm:uQ prog 40 2 [(3,0,1),(3,1,1)]:=⟨by kernel_rfl,by kernel_rfl,by kernel_rfl⟩
theorem adS {n:Nat} {cs:List aj} {D:DataW H} {Pl:List MemPlace} (h:DataW.trod enc prog W base spare held n 40 cs=some (D,Pl)):∃ r:jq,bH (sJ W) r.dat cs∧dG r.dat+1≤8*Rows.uptoBulk D:=by
 obtain ⟨xs,m,hx,hl,hxl,hf⟩:=wE aqm h
 match cs,hl,xs,hxl with
 | [c0,c1],_,[y0,y1],_ =>
  have h0:=hf 0 _ _ _ rfl;have h1:=hf 1 _ _ _ rfl;obtain ⟨k0,e0,d0,-⟩:=DataW.trod_int underlying3 h0;obtain ⟨k1,e1,d1,-⟩:=DataW.trod_int underlying3 h1
  simp at e0 e1
  subst e0 e1
  simp only at hx
  refine ⟨⟨k0,k1⟩,?_,?_⟩
  ·simp [bH,jq.dat,aB,Value.oneCell']
  rw [hx];simp [d0,d1,jq.dat,dG,sS,Rows.uptoBulk,Rows.uptoBulkAll]
theorem aqf:uQ prog 214 2 [(3,0,1),(3,1,1)]:=⟨by kernel_rfl,by kernel_rfl,by kernel_rfl⟩
theorem apk {n:Nat} {cs:List aj} {D:DataW H} {Pl:List MemPlace} (h:DataW.trod enc prog W base spare held n 214 cs=some (D,Pl)):∃ r:kK,bH (sJ W) r.dat cs∧dG r.dat+1≤8*Rows.uptoBulk D:=by
 obtain ⟨xs,m,hx,hl,hxl,hf⟩:=wE aqf h
 match cs,hl,xs,hxl with
 | [c0,c1],_,[y0,y1],_ =>
  have h0:=hf 0 _ _ _ rfl;have h1:=hf 1 _ _ _ rfl;obtain ⟨k0,e0,d0,-⟩:=DataW.trod_int underlying3 h0;obtain ⟨k1,e1,d1,-⟩:=DataW.trod_int underlying3 h1
  simp at e0 e1
  subst e0 e1
  simp only at hx
  refine ⟨⟨k0,k1⟩,?_,?_⟩
  ·simp [bH,kK.dat,aB,Value.oneCell']
  rw [hx];simp [d0,d1,kK.dat,dG,sS,Rows.uptoBulk,Rows.uptoBulkAll]
theorem aqi:uQ prog 217 4 [(3,0,1),(3,1,1),(3,2,1),(4,3,1)]:=⟨by kernel_rfl,by kernel_rfl,by kernel_rfl⟩
theorem apn {n:Nat} {cs:List aj} {D:DataW H} {Pl:List MemPlace} (h:DataW.trod enc prog W base spare held n 217 cs=some (D,Pl)):∃ r:ku,bH (sJ W) r.dat cs∧dG r.dat+1≤8*Rows.uptoBulk D:=by
 obtain ⟨xs,m,hx,hl,hxl,hf⟩:=wE aqi h
 match cs,hl,xs,hxl with
 | [c0,c1,c2,c3],_,[y0,y1,y2,y3],_ =>
  have h0:=hf 0 _ _ _ rfl;have h1:=hf 1 _ _ _ rfl;have h2:=hf 2 _ _ _ rfl;have h3:=hf 3 _ _ _ rfl;obtain ⟨k0,e0,d0,-⟩:=DataW.trod_int underlying3 h0;obtain ⟨k1,e1,d1,-⟩:=DataW.trod_int underlying3 h1;obtain ⟨k2,e2,d2,-⟩:=DataW.trod_int underlying3 h2;obtain ⟨k3,e3,d3⟩:=DataW.trod_bool underlying4 h3
  simp at e0 e1 e2 e3
  subst e0 e1 e2 e3
  simp only at hx
  refine ⟨⟨k0,k1,k2,k3⟩,?_,?_⟩
  ·simp [bH,ku.dat,aB,Value.oneCell']
  rw [hx];simp [d0,d1,d2,d3,ku.dat,dG,sS,Rows.uptoBulk,Rows.uptoBulkAll]
theorem aql:uQ prog 29 4 [(3,0,1),(3,1,1),(26,2,1),(27,3,1)]:=⟨by kernel_rfl,by kernel_rfl,by kernel_rfl⟩
theorem aqg:uQ prog 31 5 [(25,0,1),(29,1,4)]:=⟨by kernel_rfl,by kernel_rfl,by kernel_rfl⟩
theorem ZX:prog.cellsOf 40=2:=by kernel_rfl
theorem agz:prog.cellsOf 214=2:=by kernel_rfl
theorem agA:prog.cellsOf 217=4:=by kernel_rfl
theorem RH {n:Nat} {cs:List aj} {x:DataW H × List MemPlace} (h:DataW.trod enc prog W base spare held n 31 cs=some x):∃ (r:jJ) (p d l:aj),cs=[p,vi r.marks.ins,vi r.marks.move,d,l]∧mF (sJ W) r p d l∧pR r+15≤8*Rows.uptoBulk x.1:=by
 obtain ⟨xs,m,hx,hl,hxl,hf⟩:=wE aqg h
 match cs,hl,xs,hxl with
 | [c0,c1,c2,c3,c4],_,[y0,y1],_ =>
  have h0:=hf 0 _ _ _ rfl;have h1:=hf 1 _ _ _ rfl;obtain ⟨ps,pv,e0,rp,sp⟩:=xR (dat:=jq.dat) (sz:=2) (by omega) underlying25 ZX h0 (fun n cs' D Pl hh _=>adS hh);obtain ⟨zs,m2,hz,hzl,hzx,Lm⟩:=wE aql h1
  match zs,hzx with
  | [z0,z1,z2,z3],_ =>
   have g0:=Lm 0 _ _ _ rfl;have g1:=Lm 1 _ _ _ rfl;have g2:=Lm 2 _ _ _ rfl;have g3:=Lm 3 _ _ _ rfl;obtain ⟨k0,e1,d0,-⟩:=DataW.trod_int underlying3 g0;obtain ⟨k1,e2,d1,-⟩:=DataW.trod_int underlying3 g1;obtain ⟨ds,dv,e3,rd,sd⟩:=xR (dat:=kK.dat) (sz:=2) (by omega) underlying26 agz g2 (fun n cs' D Pl hh _=>apk hh);obtain ⟨ls,lv,e4,rl,sl⟩:=xR (dat:=ku.dat) (sz:=4) (by omega) underlying27 agA g3 (fun n cs' D Pl hh _=>apn hh)
   simp at e0 e1 e2 e3 e4
   subst e0 e1 e2 e3 e4;refine ⟨⟨ps,⟨k0,k1,ds,ls⟩⟩,_,_,_,rfl,⟨rp,rd,rl⟩,?_⟩;have WC:=CP ⟨ps,⟨k0,k1,ds,ls⟩⟩
   simp only at WC
   rw [hx]
   simp only [fJ,wR,Rows.uptoBulk,Rows.uptoBulkAll,hz,d0,d1]
   omega
theorem aqh:uQ prog 35 11 [(3,0,1),(3,1,1),(3,2,1),(9,3,1),(31,4,5),(32,9,1),(33,10,1)]:=⟨by kernel_rfl,by kernel_rfl,by kernel_rfl⟩
theorem aqn:uQ prog 171 6 [(31,0,5),(169,5,1)]:=⟨by kernel_rfl,by kernel_rfl,by kernel_rfl⟩
theorem aqd:uQ prog 174 7 [(3,0,1),(31,1,5),(32,6,1)]:=⟨by kernel_rfl,by kernel_rfl,by kernel_rfl⟩
theorem Tn:prog.cellsOf 35=11:=by kernel_rfl
theorem agD:prog.cellsOf 171=6:=by kernel_rfl
theorem agx:prog.cellsOf 174=7:=by kernel_rfl
theorem adR:∀ (N:Nat) (n:Nat) (cs:List aj) (D:DataW H) (Pl:List MemPlace),DataW.trod enc prog W base spare held n 35 cs=some (D,Pl)→Rows.uptoBulk D < N→∃ r:ay,bH (sJ W) r.dat cs∧dG r.dat+1≤8*Rows.uptoBulk D
 | 0,_,_,_,_,_,hN=>absurd hN (by omega)
 | N+1,n,cs,D,Pl,h,hN=>by
  have ih:=adR N;obtain ⟨xs,m,hx,hl,hxl,hf⟩:=wE aqh h
  match cs,hl,xs,hxl with
  | [c0,c1,c2,c3,c4,c5,c6,c7,c8,c9,c10],_,[y0,y1,y2,y3,y4,y5,y6],_ =>
   have h0:=hf 0 _ _ _ rfl;have h1:=hf 1 _ _ _ rfl;have h2:=hf 2 _ _ _ rfl;have h3:=hf 3 _ _ _ rfl;have h4:=hf 4 _ _ _ rfl;have h5:=hf 5 _ _ _ rfl;have h6:=hf 6 _ _ _ rfl
   simp only at hx
   have hD:Rows.uptoBulk D=Rows.uptoBulk y0.1+(Rows.uptoBulk y1.1+(Rows.uptoBulk y2.1+(Rows.uptoBulk y3.1+(Rows.uptoBulk y4.1+(Rows.uptoBulk y5.1+(Rows.uptoBulk y6.1+0))))))+1:=by
    rw [hx];simp only [fJ,wR,Rows.uptoBulk,Rows.uptoBulkAll]
   obtain ⟨k0,e0,d0,-⟩:=DataW.trod_int underlying3 h0;obtain ⟨k1,e1,d1,-⟩:=DataW.trod_int underlying3 h1;obtain ⟨k2,e2,d2,-⟩:=DataW.trod_int underlying3 h2;obtain ⟨s,e3,d3,-⟩:=DataW.trod_string underlying9 h3;obtain ⟨hd,p,d,l,e4,rh,sh⟩:=RH h4;obtain ⟨fl,fv,e5,rf,sf⟩:=xR (dat:=ay.dat) (sz:=11) (by omega) underlying32 Tn h5 (fun n cs' D' dw hh hlt=>ih n cs' D' dw hh (by omega))
   obtain ⟨rs,rv,e6,rr,sr⟩:=xR (dat:=bJ.dat) (sz:=6) (by omega) underlying33 agD h6 (fun n cs' D' dw hh hlt=>by
    obtain ⟨xs,m,hx,hl,hxl,hf⟩:=wE aqn hh
    match cs',hl,xs,hxl with
    | [a0,a1,a2,a3,a4,a5],_,[w0,w1],_ =>
     have g0:=hf 0 _ _ _ rfl;have g1:=hf 1 _ _ _ rfl
     simp only at hx
     have hD':Rows.uptoBulk D'=Rows.uptoBulk w0.1+(Rows.uptoBulk w1.1+0)+1:=by
      rw [hx];simp only [fJ,wR,Rows.uptoBulk,Rows.uptoBulkAll]
     obtain ⟨hd2,p2,d2',l2,q0,rh2,sh2⟩:=RH g0
     obtain ⟨cl,cv,q1,rc,sc⟩:=xR (dat:=bB.dat) (sz:=7) (by omega) underlying169 agx g1 (fun n cs'' D'' ase Jh hlt2=>by
      obtain ⟨xs,m,hx2,hl2,anc,hf2⟩:=wE aqd Jh
      match cs'',hl2,xs,anc with
      | [b0,b1,b2,b3,b4,b5,b6],_,[v0,v1,v2],_ =>
       have u0:=hf2 0 _ _ _ rfl;have u1:=hf2 1 _ _ _ rfl;have u2:=hf2 2 _ _ _ rfl
       simp only at hx2
       have asr:Rows.uptoBulk D''=Rows.uptoBulk v0.1+(Rows.uptoBulk v1.1+(Rows.uptoBulk v2.1+0))+1:=by
        rw [hx2];simp only [fJ,wR,Rows.uptoBulk,Rows.uptoBulkAll]
       obtain ⟨j0,t0,z0,-⟩:=DataW.trod_int underlying3 u0;obtain ⟨hd3,p3,d3',l3,t1,rh3,sh3⟩:=RH u1;obtain ⟨Uz,fv3,t2,rf3,sf3⟩:=xR (dat:=ay.dat) (sz:=11) (by omega) underlying32 Tn u2 (fun n cs3 D3 Pl3 hh3 hlt3=>ih n cs3 D3 Pl3 hh3 (by omega))
       simp at t0 t1 t2
       obtain ⟨rfl,rfl,rfl,rfl,rfl⟩:=t1;subst t0 t2;have hz:=uM (bB.mk j0 hd3 Uz)
       simp only [bB.head,bB.flow] at hz
       have bz:Rows.uptoBulk v0.1=1:=by rw [z0];rfl
       exact ⟨bB.mk j0 hd3 Uz,bH.Ox (x:=bB.mk j0 hd3 Uz) rh3 rf3,by simp only [bM] at hz;omega⟩)
     simp at q0 q1
     obtain ⟨rfl,rfl,rfl,rfl,rfl⟩:=q0;subst q1;have hz:=uN (bJ.mk hd2 cl)
     simp only [bJ.head,bJ.cells] at hz
     exact ⟨bJ.mk hd2 cl,bH.WY (x:=bJ.mk hd2 cl) rh2 rc,by simp only [iD] at hz;omega⟩)
   simp at e0 e1 e2 e3 e4 e5 e6
   obtain ⟨rfl,rfl,rfl,rfl,rfl⟩:=e4;subst e0 e1 e2 e3 e5 e6;have hz:=oK (ay.mk k0 k1 k2 s hd fl rs)
   simp only [ay.text,ay.head,ay.flow,ay.rows] at hz
   have b0:Rows.uptoBulk y0.1=1:=by rw [d0];rfl
   have b1:Rows.uptoBulk y1.1=1:=by rw [d1];rfl
   have b2:Rows.uptoBulk y2.1=1:=by rw [d2];rfl
   have b3:Rows.uptoBulk y3.1=s.size+1:=by rw [d3];show s.data.toList.length+1=s.data.size+1;rw [Az]
   exact ⟨ay.mk k0 k1 k2 s hd fl rs,bH.mkItem (x:=ay.mk k0 k1 k2 s hd fl rs) rh rf rr,by simp only [bM,fq] at hz;omega⟩
theorem apm {n:Nat} {cs:List aj} {x:DataW H × List MemPlace} (h:DataW.trod enc prog W base spare held n 32 cs=some x):∃ (l:List ay) (v:aj),cs=[v]∧aB (sJ W) (.sl 11 (l.map ay.dat)) v∧bM l+8≤8*Rows.uptoBulk x.1 :=
 xR (dat:=ay.dat) (sz:=11) (by omega) underlying32 Tn h (fun n cs' D' dw hh _=>adR _ n cs' D' dw hh (Nat.lt_succ_self _))
end
end
section
open Go.RowKit
theorem OY:prog.underlying 69=some (.slice 54):=by kernel_rfl
theorem Ue:∀ args w,(callFunc 84 args).run prog w=.ok (.enter 84 args) w:=enters func84 rfl (by kernel_rfl)
section
variable {N:Nat} {D:List Deferred} {w0:World} {F:Nat→Prop} {G0 G:GH} {A B C:OL} {T:List (Nat × aj)} {a:Act} {w:World}
theorem St.XV (h:St N D w0 F G0 G (A++(B++C)) T a w):St N D w0 F G0 G ((A++C)++B) T a w:=h.perm (by rw [mG];exact List.Perm.append_left A Da)
theorem St.XU (h:St N D w0 F G0 G ((A++C)++B) T a w):St N D w0 F G0 G (A++(B++C)) T a w:=h.perm (by rw [mG];exact List.Perm.append_left A Da)
end
theorem adr {x:ay} (h:CZ x):sZ x=n1 x:=by rw [h.n1];rfl
abbrev tF (l:List ((Int × Int) × ay)):List ((Int × Int) × ay):=l.filter ET
theorem aqL {f:Int} {at_:Int} {x:ay}:tF (vI f at_ x)=(if x.kind=7 then [((f,at_),x)] else [])++((if x.kind=6 then tF (eZ x.id 0 x.flow) else [])++(if x.kind=7 then tF (nL x.rows) else [])):=by
 obtain ⟨k,c,i,t,h,fl,r⟩:=x
 simp only [vI,ay.kind,ay.id,ay.flow,ay.rows]
 by_cases h6:k=6
 ·subst h6;simp [tF,ET,ay.kind]
 by_cases h7:k=7
 ·subst h7;simp [tF,ET,ay.kind]
 simp [h6,h7,tF]
def Cx (p:Int × Int):List Dat:=[li p.1,li p.2]
theorem apd {G:GH} (a b:Int):bH G (Cx (a,b)) [vi a,vi b]:=⟨_,_,rfl,⟨rfl,rfl⟩,_,_,rfl,⟨rfl,rfl⟩,rfl⟩
structure FL (g:GH) (v u:aj) (R:List ((Int × Int) × ay)) (xs ys:List aj) (La Lb:OL):Prop where
 it:iP 35 11 v R.length xs La
 ic:ji g 11 (R.map fun q=>q.2.dat) xs
 ps:iP 54 2 u R.length ys Lb
 pc:ji g 2 (R.map fun q=>Cx q.1) ys
theorem FL.mono {g g':GH} {v u:aj} {R:List ((Int × Int) × ay)} {xs ys:List aj} {La Lb:OL} (h:FL g v u R xs ys La Lb) (hm:∀ b o,g b=some o→g' b=some o):FL g' v u R xs ys La Lb:=⟨h.it,h.ic.mono hm,h.ps,h.pc.mono hm⟩
def zy (T:List ((Int × Int) × ay)) (u:aj) (G':GH):Prop:=∃ a b,u=.tuple #[a,b]∧aB G' (.sl 11 (T.map fun q=>q.2.dat)) a∧aB G' (.sl 2 (T.map fun q=>Cx q.1)) b
theorem zy.mono {T:List ((Int × Int) × ay)} {u:aj} {G G':GH} (hm:∀ b o,G b=some o→G' b=some o) (h:zy T u G):zy T u G':=let ⟨a,b,h1,h2,h3⟩:=h;⟨a,b,h1,h2.mono hm,h3.mono hm⟩
def SF (m:Nat):Prop:=∀ (G:GH) (w0:World),Hold G w0→∀ (f:Int) (l:List ay) (v:aj),aB G (.sl 11 (l.map ay.dat)) v→jU l→bM l < m →
 Calls prog 84 #[vi f,v] w0 (bR w0 G (zy (tF (eZ f 0 l))))
theorem XY (a b:List ((Int × Int) × ay)):tF (a++b)=tF a++tF b:=List.filter_append ..
theorem XZ (f t:Int) (l:List ay):(tF (eZ f t l)).length≤bM l:=Nat.le_trans (List.length_filter_le _ _) (OH f t l)
theorem aoi (x:ay):n1 x+bM x.flow+fq x.rows < dG x.dat:=by
 have h1:=oK x;have h2:=FR x.text
 unfold n1 gP;split <;> (try split) <;> omega
set_option maxHeartbeats 4000000 in
theorem anw {m:Nat} (ih:SF m) (hm:m≤4294967296):SF (m+1):=by
 intro G w0 hG f l v hu hok hz;obtain ⟨A,c,rfl,hc1,hc2,hg⟩:=hu.slice;rw [bZ] at *;have hll:=Fj l;have hml:maxLen=9223372036854775807:=rfl;have hbn:=XZ f 0 l;refine eN [(0,_),(1,_)] func84 rfl ntmps84 rfl rfl hG ?_;intro a H;refine kP H (SR fun _ K1=>Ra rfl (ak K1 rfl (SR fun _ K2=>ak K2 rfl (SQ fun _ K3=>SR fun _ K4=>ak K4 rfl (SB ?_)))));clear H K1 K2 K4;intro a H;skip;refine fH (ι:=Nat × Nat × List ((Int × Int) × ay) × aj × aj × List aj × List aj × OL × OL × GH) (Tc:=[(0,_),(1,_)]) (Lc:=[]) (fun (gh:Nat × Nat × List ((Int × Int) × ay) × aj × aj × List aj × List aj × OL × OL × GH)=>[(4,gh.2.2.2.1),(5,gh.2.2.2.2.1),(6,vi gh.2.1),(7,vi gh.1)]) (fun (gh:Nat × Nat × List ((Int × Int) × ay) × aj × aj × List aj × List aj × OL × OL × GH)=>[]++(gh.2.2.2.2.2.2.2.1++gh.2.2.2.2.2.2.2.2.1)) (fun (gh:Nat × Nat × List ((Int × Int) × ay) × aj × aj × List aj × List aj × OL × OL × GH)=>gh.2.2.2.2.2.2.2.2.2) (fun (gh:Nat × Nat × List ((Int × Int) × ay) × aj × aj × List aj × List aj × OL × OL × GH)=>gh.1≤l.length∧FL gh.2.2.2.2.2.2.2.2.2 gh.2.2.2.1 gh.2.2.2.2.1 gh.2.2.1 gh.2.2.2.2.2.1 gh.2.2.2.2.2.2.1 gh.2.2.2.2.2.2.2.1 gh.2.2.2.2.2.2.2.2.1∧gh.2.2.1++tF (eZ f gh.2.1 (l.drop gh.1))=tF (eZ f 0 l)∧(∀ b o,G b=some o→gh.2.2.2.2.2.2.2.2.2 b=some o)∧gh.2.1+bM (l.drop gh.1)≤4294967296∧jU (l.drop gh.1)) (fun (gh:Nat × Nat × List ((Int × Int) × ay) × aj × aj × List aj × List aj × OL × OL × GH)=>l.length - gh.1) ((0,0,[],.slice none 0 0,.slice none 0 0,[],[],[],[],G)) (by exact (H).sub ⟨rfl,rfl,rfl,rfl,rfl,rfl,av⟩) ?_ ?_
 ·exact ⟨iK _,⟨iP.nil,ji.nil,iP.nil,ji.nil⟩,rfl,fun _ _ h=>h,by dsimp only;rw [lK];omega,hok⟩
 clear H;intro gh a w hI H;obtain ⟨k,at_,R,v4,v5,xs,ys,La,Lb,g⟩:=gh;dsimp only at hI H;obtain ⟨hk,hr1,hX,hgm,hat,hok1⟩:=hI;obtain ⟨v4A,v4c,rfl,-,-⟩:=hr1.it.shape;obtain ⟨v5A,v5c,rfl,-,-⟩:=hr1.ps.shape
 have hRl:R.length≤bM l:=by
  have:=aC List.length hX;rw [lJ] at this;omega
 dsimp only [lca,aS] at H;refine kP H (SQ fun _ K5=>SR fun _ K6=>Rm rfl (Rm rfl (Rl iN rfl (Rc rfl (Kz K6 (Cd rfl ?_ ?_)))))) <;> clear H K6
 ·intro h20 a H
  try have rP:=dT h20
  have hk2:k < l.length:=by omega
  obtain ⟨b,o,pA,pn,pc,dA,dn,dc,yA,yn,yc,fA,fn,fc,rA,rn,rc,rfl,hrow,hhd,hfl,hrw⟩:=EB hk2 hg;have abM:bH g l[k].dat _:=bH.mkItem (hhd.mono hgm) (hfl.mono hgm) (hrw.mono hgm);replace hrow:=fun j u hj=>aF hgm (hrow j u hj);replace hfl:=hfl.mono hgm;replace hrw:=hrw.mono hgm;have hrn:=hrw.len;rw [bZ] at hrn;subst hrn;have hzs:=Yp hk2;have hzi:=oK l[k];have Jy:=Mj (jr hk2);have hna:=aoi l[k];have hpart:=hu.part k (k+1) (by omega) (by rw [bZ];omega);rw [kR hk2] at hok1;obtain ⟨hox,hok2⟩:=hok1.head;rw [kR hk2,eZ,adr hox,XY,aqL,show (at_:Int)+(n1 l[k]:Int)=((at_+n1 l[k]:Nat):Int) by push_cast;rfl] at hX
  have he1:((l.map ay.dat).drop k).take 1=[l[k]].map ay.dat:=by rw [kR (by simpa using hk2)];simp
  obtain ⟨x,hx⟩:∃ x,x=l[k]:=⟨_,rfl⟩;rw [← hx] at hX hrow hhd hfl hrw hzs hzi Jy hna he1 hox abM;have hrl:=Fp x.rows;have hb6:=XZ x.id 0 x.flow
  have hc3:¬ c=k:=by omega
  refine kP H (Kc K5 (SQ fun _ K7=>SB (SR fun _ K8=>Rm rfl (Rm rfl (Ri iN dB rfl rfl ?_)))));clear H K5;intro a H;refine bD dB (cs:=[vi x.kind,vi x.code,vi x.id,.string x.text,.slice pA pn pc,vi x.head.marks.ins,vi x.head.marks.move,.slice dA dn dc,.slice yA yn yc,.slice fA fn fc,.slice rA x.rows.length rc]) H wn rfl rfl (fun j v hj=>H.hp.aH (hrow j v hj)) rfl ?_;clear H;intro a H;refine dR dB H wn rfl ?_;clear H;intro b8 a w xE H;refine bO dB 0 (vs:=[_,_,_,_,_,_,_,_,_,_,_]) _ H wn rfl rfl rfl rfl rfl rfl rfl rfl ?_;clear H;intro w H;dsimp only [List.set,setRow] at H;refine K8 _ _ ?_;clear K8;refine oO (ι:=List ((Int × Int) × ay) × aj × aj × List aj × List aj × OL × OL) (Tc:=[(0,_),(1,_),(6,_),(7,_),(8,_)]) (Lc:=[(_,_)]) (fun (gh:List ((Int × Int) × ay) × aj × aj × List aj × List aj × OL × OL)=>[(4,gh.2.1),(5,gh.2.2.1)]) (fun (gh:List ((Int × Int) × ay) × aj × aj × List aj × List aj × OL × OL)=>[]++(gh.2.2.2.2.2.1++gh.2.2.2.2.2.2)) (fun (gh:List ((Int × Int) × ay) × aj × aj × List aj × List aj × OL × OL)=>g) (fun (gh:List ((Int × Int) × ay) × aj × aj × List aj × List aj × OL × OL)=>FL g gh.2.1 gh.2.2.1 gh.1 gh.2.2.2.1 gh.2.2.2.2.1 gh.2.2.2.2.2.1 gh.2.2.2.2.2.2∧gh.1=R++(if x.kind=7 then [((f,(at_:Int)),x)] else [])∧gh.1.length≤R.length+1) (by exact (H).sub ⟨rfl,rfl,rfl,rfl,rfl,av⟩) ?_ ?_
  ·skip;refine kP H (SR fun _ K9=>aW gG aD 0 rfl rfl (Rc rfl (Kz K9 (Cd rfl ?_ ?_)))) <;> clear H K9
   ·intro UZ a H
    try have p29:=dT UZ
    refine kP H (SC (Rm rfl ?_));clear H;intro a H;refine bD dB (cs:=[_,_,_,_,_,_,_,_,_,_,_]) H wn rfl rfl (H.hp.eu 0 rfl rfl) rfl ?_;clear H;intro a H;refine jF iN dB [_,_,_,_,_,_,_,_,_,_,_] [_,_,_,_,_,_,_,_,_,_,_] H wn rfl rfl rfl rfl rfl (by intro i q h;match i,h with|0,h=>exact h|n+1,h=>simp at h) rfl rfl ?_;clear H;intro b32 a w asD H;refine xS (Li:=[_,_]++Lb) (Lo:=La) (news:=[vi x.kind,vi x.code,vi x.id,.string x.text,.slice pA pn pc,vi x.head.marks.ins,vi x.head.marks.move,.slice dA dn dc,.slice yA yn yc,.slice fA fn fc,.slice rA x.rows.length rc]) iN dB rfl rfl (St.XV (A:=[_,_]) H) wn rfl rfl hr1.it rfl (H.hp.eu 0 rfl rfl) rfl (by omega) (by omega) rfl ?_;clear H;intro v33 Zg a w amy H;replace H:=St.XU (A:=[_,_]) H;dsimp only [lca,aS] at H;refine kH H (Rm rfl (Rm rfl (Rm rfl ?_)));clear H;intro a H;refine lY JZ [_,_] H wn rfl rfl rfl rfl ?_;clear H;intro a H;refine jF OY iW [_,_] [_,_] H wn rfl rfl rfl rfl rfl (by intro i q h;match i,h with|0,h=>exact h|n+1,h=>simp at h) rfl rfl ?_;clear H;intro b38 a w asF H;refine xS (Li:=[_,_,_]++Zg) (Lo:=Lb) (news:=[vi f,vi at_]) OY iW rfl rfl (St.un (A:=[_,_,_]) H) wn rfl rfl hr1.ps rfl (H.hp.eu 0 rfl rfl) rfl (by omega) (by omega) rfl ?_;clear H;intro v39 afD a w amA H;replace H:=H.assoc;dsimp only [lca,aS] at H;refine kH H (Ra rfl (Ra rfl ?_));clear H;intro a H;refine aI ?_;refine ⟨(R++[((f,(at_:Int)),x)],v33,v39,xs++[vi x.kind,vi x.code,vi x.id,.string x.text,.slice pA pn pc,vi x.head.marks.ins,vi x.head.marks.move,.slice dA dn dc,.slice yA yn yc,.slice fA fn fc,.slice rA x.rows.length rc],ys++[vi f,vi at_],Zg,afD),by exact (H.dK (Pl:=[_,_,_]) (dw:=[_]) [2] (by decide) rfl).sub ⟨rfl,rfl,rfl,rfl,rfl,rfl,rfl,av⟩,?_⟩;(try dsimp only);exact ⟨⟨by rw [lJ];exact amy,by rw [nP];exact hr1.ic.snoc abM rfl,by rw [lJ];exact amA,by rw [nP];exact hr1.pc.snoc (apd _ _) rfl⟩,by rw [au p29],by simp⟩
   intro UZ a H
   try have p29:=dF UZ
   refine fI ?_;refine ⟨(R,_,_,xs,ys,La,Lb),by exact (H).sub ⟨rfl,rfl,rfl,rfl,rfl,rfl,rfl,av⟩,?_⟩;(try dsimp only);exact ⟨hr1,by rw [ah p29,pW],by omega⟩
  clear H;intro gh a w hI H;obtain ⟨R2,v7,v8,xs2,ys2,Zf,SI⟩:=gh;dsimp only at hI H;obtain ⟨hr2,hR2,akV⟩:=hI;obtain ⟨v7A,v7c,rfl,-,-⟩:=hr2.it.shape;obtain ⟨v8A,v8c,rfl,-,-⟩:=hr2.ps.shape;dsimp only [lca,aS] at H;refine oO (ι:=List ((Int × Int) × ay) × aj × aj × List aj × List aj × OL × OL × GH) (Tc:=[(0,_),(1,_),(6,_),(7,_),(8,_)]) (Lc:=[(_,_)]) (fun (gh:List ((Int × Int) × ay) × aj × aj × List aj × List aj × OL × OL × GH)=>[(4,gh.2.1),(5,gh.2.2.1)]) (fun (gh:List ((Int × Int) × ay) × aj × aj × List aj × List aj × OL × OL × GH)=>[]++(gh.2.2.2.2.2.1++gh.2.2.2.2.2.2.1)) (fun (gh:List ((Int × Int) × ay) × aj × aj × List aj × List aj × OL × OL × GH)=>gh.2.2.2.2.2.2.2) (fun (gh:List ((Int × Int) × ay) × aj × aj × List aj × List aj × OL × OL × GH)=>FL gh.2.2.2.2.2.2.2 gh.2.1 gh.2.2.1 gh.1 gh.2.2.2.1 gh.2.2.2.2.1 gh.2.2.2.2.2.1 gh.2.2.2.2.2.2.1∧gh.1=R2++(if x.kind=6 then tF (eZ x.id 0 x.flow) else [])∧gh.1.length≤R.length+1+bM x.flow∧(∀ b o,g b=some o→gh.2.2.2.2.2.2.2 b=some o)) (by exact (H).sub ⟨rfl,rfl,rfl,rfl,rfl,av⟩) ?_ ?_
  ·skip;refine kP H (SR fun _ aZ=>aW gG aD 0 rfl rfl (Rc rfl (Kz aZ (Cd rfl ?_ ?_)))) <;> clear H aZ
   ·intro Ca a H
    try have p42:=dT Ca
    refine kP H (SR fun _ bN=>aW qg aD 0 rfl rfl (aW yI iM 0 rfl rfl ?_));clear H;intro a H;refine s_call Ue H wn rfl (ih _ _ H.ro x.id x.flow _ hfl hox.fl (by omega)) rfl ?_;clear H;rintro v48 YJ a w ⟨a48,c48,rfl,hpa,hpb⟩ QC H;obtain ⟨A48,n48,q48,rfl⟩:=hpa.form;obtain ⟨B48,k48,r48,rfl⟩:=hpb.form
    obtain rfl:n48=(tF (eZ x.id 0 x.flow)).length:=by simpa using hpa.len
    obtain rfl:k48=(tF (eZ x.id 0 x.flow)).length:=by simpa using hpb.len
    refine kH H (Rm rfl ?_);clear H;intro a H;(iterate 2 refine lD H wn rfl rfl rfl ?_;clear H;intro a H);refine kH H (Ra rfl (ak bN rfl (SC (Rm rfl (Rm rfl ?_)))));clear H bN;intro a H;refine JW (Li:=[_]++SI) (Lo:=Zf) iN dB rfl rfl (St.XV (A:=[_]) H) wn rfl rfl hr2.it hpa (by omega) (by omega) rfl ?_;clear H;intro v53 Zi aoq a w amC alE H;replace H:=St.XU (A:=[_]) H;dsimp only [lca,aS] at H;refine kH H (Rm rfl (Rm rfl ?_));clear H;intro a H;refine JW (Li:=[_]++Zi) (Lo:=SI) OY iW rfl rfl (St.un (A:=[_]) H) wn rfl rfl hr2.ps hpb (by omega) (by omega) rfl ?_;clear H;intro v56 afE aor a w amD alF H;replace H:=H.assoc;dsimp only [lca,aS] at H;refine kH H (Ra rfl (Ra rfl ?_));clear H;intro a H;refine aI ?_;refine ⟨(R2++tF (eZ x.id 0 x.flow),v53,v56,xs2++aoq,ys2++aor,Zi,afE,YJ),by exact (H).sub ⟨rfl,rfl,rfl,rfl,rfl,rfl,rfl,av⟩,?_⟩;(try dsimp only);exact ⟨⟨by rw [lJ];exact amC,by rw [nP];exact (hr2.ic.mono QC).append alE,by rw [lJ];exact amD,by rw [nP];exact (hr2.pc.mono QC).append alF⟩,by rw [au p42],by rw [lJ];omega,QC⟩
   intro Ca a H
   try have p42:=dF Ca
   refine fI ?_;refine ⟨(R2,_,_,xs2,ys2,Zf,SI,g),by exact (H).sub ⟨rfl,rfl,rfl,rfl,rfl,rfl,rfl,av⟩,?_⟩;(try dsimp only);exact ⟨hr2,by rw [ah p42,pW],by omega,fun _ _ h=>h⟩
  clear H;intro gh a w hI H;obtain ⟨R3,v9,v10,O4,ys3,La3,Lb3,g3⟩:=gh;dsimp only at hI H;obtain ⟨hr3,Gm,akW,hg3⟩:=hI;obtain ⟨v9A,v9c,rfl,-,-⟩:=hr3.it.shape;obtain ⟨atB,atC,rfl,-,-⟩:=hr3.ps.shape;dsimp only [lca,aS] at H;refine kP H (SQ fun _ bQ=>SR fun _ bT=>ak bT rfl (SB ?_));clear H bT;intro a H;skip;refine fH (ι:=Nat × List ((Int × Int) × ay) × aj × aj × List aj × List aj × OL × OL × GH) (Tc:=[(0,_),(1,_),(6,_),(7,_),(8,_)]) (Lc:=[(_,_)]) (fun (gh:Nat × List ((Int × Int) × ay) × aj × aj × List aj × List aj × OL × OL × GH)=>[(4,gh.2.2.1),(5,gh.2.2.2.1),(11,vi gh.1)]) (fun (gh:Nat × List ((Int × Int) × ay) × aj × aj × List aj × List aj × OL × OL × GH)=>[]++(gh.2.2.2.2.2.2.1++gh.2.2.2.2.2.2.2.1)) (fun (gh:Nat × List ((Int × Int) × ay) × aj × aj × List aj × List aj × OL × OL × GH)=>gh.2.2.2.2.2.2.2.2) (fun (gh:Nat × List ((Int × Int) × ay) × aj × aj × List aj × List aj × OL × OL × GH)=>gh.1≤x.rows.length∧FL gh.2.2.2.2.2.2.2.2 gh.2.2.1 gh.2.2.2.1 gh.2.1 gh.2.2.2.2.1 gh.2.2.2.2.2.1 gh.2.2.2.2.2.2.1 gh.2.2.2.2.2.2.2.1∧(x.kind=7→gh.2.1++tF (nL (x.rows.drop gh.1))=R3++tF (nL x.rows))∧(x.kind≠7→gh.2.1=R3)∧(∀ b o,g3 b=some o→gh.2.2.2.2.2.2.2.2 b=some o)∧gh.2.1.length+fq (x.rows.drop gh.1)≤R3.length+fq x.rows) (fun (gh:Nat × List ((Int × Int) × ay) × aj × aj × List aj × List aj × OL × OL × GH)=>x.rows.length - gh.1) ((0,R3,_,_,O4,ys3,La3,Lb3,g3)) (by exact (H).sub ⟨rfl,rfl,rfl,rfl,rfl,rfl,rfl,rfl,av⟩) ?_ ?_
  ·exact ⟨iK _,hr3,fun _=>rfl,fun _=>rfl,fun _ _ h=>h,by dsimp only;rw [lK];omega⟩
  clear H;intro gh a w hI H;obtain ⟨rk,R4,v11,v12,Mh,ys4,SH,SK,g4⟩:=gh;dsimp only at hI H;obtain ⟨QT,hr4,Vq,yO,hg4,Vr⟩:=hI;obtain ⟨atF,atG,rfl,-,-⟩:=hr4.it.shape;obtain ⟨atK,atL,rfl,-,-⟩:=hr4.ps.shape;dsimp only [lca,aS] at H;refine kP H (SQ fun _ cu=>SR fun _ dL=>aW gG aD 0 rfl rfl (Rc rfl (Rm rfl (Sp 60 rfl ?_ ?_)))) <;> clear H
  ·intro fU a H
   try have p60:=dT fU
   refine kH H (YM fU rfl (YF rC fU rfl (YO rR 0 fU rfl (YL jH fU rfl (YC fU rfl (Pt fU rfl (Kz dL (Cd rfl ?_ ?_)))))))) <;> clear H dL
   ·intro qm a H
    try have p66:=dT qm
    have hk3:rk < x.rows.length:=by omega
    have VP:x.kind=7:=by first|assumption|omega
    obtain ⟨b2,o2,qA,qn,qc,eA,en,ec,zA,zn,zc,cA,cn,cc,rfl,hrow2,DJ,hcl⟩:=GV hk3 ((hrw.mono hg3).mono hg4).at_;have hcn:=hcl.len;rw [bZ] at hcn;subst hcn;have hcs:=Fh x.rows[rk].cells;have WE:=Yr hk3;have WG:=uN x.rows[rk];have hsz2:=Mk hk3;have hoc:=hox.rw _ (jr hk3);obtain ⟨y,hy⟩:∃ y,y=x.rows[rk]:=⟨_,rfl⟩;rw [← hy] at hrow2 DJ hcl hcs WE WG hsz2 hoc;refine kP H (Kc cu (SQ fun _ dO=>SB (SR fun _ dJ=>ak dJ rfl (SB ?_))));clear H cu dJ;intro a H;skip;refine fH (ι:=Nat × List ((Int × Int) × ay) × aj × aj × List aj × List aj × OL × OL × GH) (Tc:=[(0,_),(1,_),(6,_),(7,_),(8,_),(11,_)]) (Lc:=[(_,_)]) (fun (gh:Nat × List ((Int × Int) × ay) × aj × aj × List aj × List aj × OL × OL × GH)=>[(4,gh.2.2.1),(5,gh.2.2.2.1),(12,vi gh.1)]) (fun (gh:Nat × List ((Int × Int) × ay) × aj × aj × List aj × List aj × OL × OL × GH)=>[]++(gh.2.2.2.2.2.2.1++gh.2.2.2.2.2.2.2.1)) (fun (gh:Nat × List ((Int × Int) × ay) × aj × aj × List aj × List aj × OL × OL × GH)=>gh.2.2.2.2.2.2.2.2) (fun (gh:Nat × List ((Int × Int) × ay) × aj × aj × List aj × List aj × OL × OL × GH)=>gh.1≤y.cells.length∧FL gh.2.2.2.2.2.2.2.2 gh.2.2.1 gh.2.2.2.1 gh.2.1 gh.2.2.2.2.1 gh.2.2.2.2.2.1 gh.2.2.2.2.2.2.1 gh.2.2.2.2.2.2.2.1∧gh.2.1++(tF (jm (y.cells.drop gh.1))++tF (nL (x.rows.drop (rk+1))))=R4++(tF (jm y.cells)++tF (nL (x.rows.drop (rk+1))))∧(∀ b o,g4 b=some o→gh.2.2.2.2.2.2.2.2 b=some o)∧gh.2.1.length+iD (y.cells.drop gh.1)+fq (x.rows.drop (rk+1))≤R3.length+fq x.rows) (fun (gh:Nat × List ((Int × Int) × ay) × aj × aj × List aj × List aj × OL × OL × GH)=>y.cells.length - gh.1) ((0,R4,_,_,Mh,ys4,SH,SK,g4)) (by exact (H).sub ⟨rfl,rfl,rfl,rfl,rfl,rfl,rfl,rfl,rfl,av⟩) ?_ ?_
    ·exact ⟨iK _,hr4,rfl,fun _ _ h=>h,by dsimp only;rw [lK];omega⟩
    clear H;intro gh a w hI H;obtain ⟨ck,R5,v13,v14,xs5,ys5,Zh,SL,g5⟩:=gh;dsimp only at hI H;obtain ⟨hck,Jt,hx5,hg5,aby⟩:=hI;obtain ⟨atO,atP,rfl,-,-⟩:=Jt.it.shape;obtain ⟨atS,atT,rfl,-,-⟩:=Jt.ps.shape;have r5:aH g5 b2 (o2+rk*6+5)=some (.slice cA y.cells.length cc):=aF hg5 (hrow2 5 _ rfl);dsimp only [lca,aS] at H;refine kP H (SQ fun _ dW=>SR fun _ eG=>Rm rfl (aW rC rR 0 rfl rfl (Rm rfl (Ri jH iI rfl rfl (Rf qG rfl (Rg qU rfl (by assumption) ?_))))));clear H;intro a H;refine kH H (Rl kV rfl (Rc rfl (Kz eG (Cd rfl ?_ ?_)))) <;> clear H eG
    ·intro vw a H
     try have DV:=dT vw
     have hk4:ck < y.cells.length:=by omega
     obtain ⟨b3,o3,sA,sn,sc,tA,tn,tc,uA,un,uc,gA,gn,gc,rfl,hrow3,hch,hcf⟩:=Eo hk4 (hcl.mono hg5).at_;have hzc:=Yn hk4;have hzz:=uM y.cells[ck];have Ju:=Mi hk4;have hoz:=hoc _ (jr hk4);rw [kR hk4,Xr,XY,mG] at hx5;obtain ⟨z,hzy⟩:∃ z,z=y.cells[ck]:=⟨_,rfl⟩;rw [← hzy] at hx5 hrow3 hch hcf hzc hzz Ju hoz;have tV:=XZ z.id 0 z.flow;refine kP H (Kc dW (SQ fun _ eB=>SB (SQ fun _ eH=>?_)));clear H dW;intro a H
     have oH:∀ (bL:Nat) (v:aj) (G G':GH),(∀ k o,G k=some o→G' k=some o)→(fun (bL:Nat) (v:aj) (G:GH)=>match bL with|0=>v=(aK b8 10)|1=>v=.slice (some ⟨b2,o2,none⟩) x.rows.length rc|2=>v=vi rk|3=>v=(aK b2 (o2+rk*6))|4=>v=(aK b2 (o2+rk*6+5))|5=>v=.slice (some ⟨b3,o3,none⟩) y.cells.length cc|6=>v=vi ck|7=>v=(aK b3 (o3+ck*7))|8=>v=(aK b3 (o3+ck*7+0))|9=>v=vi z.id|10=>v=(aK b8 10)|11=>v=.slice (some ⟨b2,o2,none⟩) x.rows.length rc|12=>v=vi rk|13=>v=(aK b2 (o2+rk*6))|14=>v=(aK b2 (o2+rk*6+5))|15=>v=.slice (some ⟨b3,o3,none⟩) y.cells.length cc|16=>v=vi ck|17=>v=(aK b3 (o3+ck*7))|18=>v=(aK b3 (o3+ck*7+6))|19=>v=.slice gA gn gc|20=>zy (tF (eZ z.id 0 z.flow)) v G|21=>zy (tF (eZ z.id 0 z.flow)) v G|22=>aB G (.sl 11 ((tF (eZ z.id 0 z.flow)).map fun q=>q.2.dat)) v|23=>aB G (.sl 2 ((tF (eZ z.id 0 z.flow)).map fun q=>Cx q.1)) v|24=>aB G (.sl 11 ((tF (eZ z.id 0 z.flow)).map fun q=>q.2.dat)) v|_=>True) bL v G→(fun (bL:Nat) (v:aj) (G:GH)=>match bL with|0=>v=(aK b8 10)|1=>v=.slice (some ⟨b2,o2,none⟩) x.rows.length rc|2=>v=vi rk|3=>v=(aK b2 (o2+rk*6))|4=>v=(aK b2 (o2+rk*6+5))|5=>v=.slice (some ⟨b3,o3,none⟩) y.cells.length cc|6=>v=vi ck|7=>v=(aK b3 (o3+ck*7))|8=>v=(aK b3 (o3+ck*7+0))|9=>v=vi z.id|10=>v=(aK b8 10)|11=>v=.slice (some ⟨b2,o2,none⟩) x.rows.length rc|12=>v=vi rk|13=>v=(aK b2 (o2+rk*6))|14=>v=(aK b2 (o2+rk*6+5))|15=>v=.slice (some ⟨b3,o3,none⟩) y.cells.length cc|16=>v=vi ck|17=>v=(aK b3 (o3+ck*7))|18=>v=(aK b3 (o3+ck*7+6))|19=>v=.slice gA gn gc|20=>zy (tF (eZ z.id 0 z.flow)) v G|21=>zy (tF (eZ z.id 0 z.flow)) v G|22=>aB G (.sl 11 ((tF (eZ z.id 0 z.flow)).map fun q=>q.2.dat)) v|23=>aB G (.sl 2 ((tF (eZ z.id 0 z.flow)).map fun q=>Cx q.1)) v|24=>aB G (.sl 11 ((tF (eZ z.id 0 z.flow)).map fun q=>q.2.dat)) v|_=>True) bL v G':=by
      intro bL v G G' hm h
      match bL,h with
      | 0,h=>exact h
      | 1,h=>exact h
      | 2,h=>exact h
      | 3,h=>exact h
      | 4,h=>exact h
      | 5,h=>exact h
      | 6,h=>exact h
      | 7,h=>exact h
      | 8,h=>exact h
      | 9,h=>exact h
      | 10,h=>exact h
      | 11,h=>exact h
      | 12,h=>exact h
      | 13,h=>exact h
      | 14,h=>exact h
      | 15,h=>exact h
      | 16,h=>exact h
      | 17,h=>exact h
      | 18,h=>exact h
      | 19,h=>exact h
      | 20,h=>exact zy.mono hm h
      | 21,h=>exact zy.mono hm h
      | 22,h=>exact aB.mono hm h
      | 23,h=>exact aB.mono hm h
      | 24,h=>exact aB.mono hm h
      | 25,h=>exact trivial
      | _+26,h=>exact trivial
     refine BH (hmx) [[],[0],[],[0,1,2],(ra 0 4),(ra 0 5),[],(ra 0 7),(ra 0 8),(ra 0 9),[],[10],[],[10,11,12],(ra 10 4),(ra 10 5),[],(ra 10 7),(ra 10 8),(ra 10 9),(ra 0 20),(ra 0 21),(ra 0 22),(ra 0 22),(ra 0 23),(ra 0 25)] [25] (by kernel_rfl) (by kernel_rfl) (fun (bL:Nat) (v:aj) (G:GH)=>match bL with|0=>v=(aK b8 10)|1=>v=.slice (some ⟨b2,o2,none⟩) x.rows.length rc|2=>v=vi rk|3=>v=(aK b2 (o2+rk*6))|4=>v=(aK b2 (o2+rk*6+5))|5=>v=.slice (some ⟨b3,o3,none⟩) y.cells.length cc|6=>v=vi ck|7=>v=(aK b3 (o3+ck*7))|8=>v=(aK b3 (o3+ck*7+0))|9=>v=vi z.id|10=>v=(aK b8 10)|11=>v=.slice (some ⟨b2,o2,none⟩) x.rows.length rc|12=>v=vi rk|13=>v=(aK b2 (o2+rk*6))|14=>v=(aK b2 (o2+rk*6+5))|15=>v=.slice (some ⟨b3,o3,none⟩) y.cells.length cc|16=>v=vi ck|17=>v=(aK b3 (o3+ck*7))|18=>v=(aK b3 (o3+ck*7+6))|19=>v=.slice gA gn gc|20=>zy (tF (eZ z.id 0 z.flow)) v G|21=>zy (tF (eZ z.id 0 z.flow)) v G|22=>aB G (.sl 11 ((tF (eZ z.id 0 z.flow)).map fun q=>q.2.dat)) v|23=>aB G (.sl 2 ((tF (eZ z.id 0 z.flow)).map fun q=>Cx q.1)) v|24=>aB G (.sl 11 ((tF (eZ z.id 0 z.flow)).map fun q=>q.2.dat)) v|_=>True) oH H ?_ ?_
     ·clear H;refine aG ?_ ?_ ?_ ?_ (aG ?_ ?_ ?_ ?_ (aG ?_ ?_ ?_ ?_ (aG ?_ ?_ ?_ ?_ (aG ?_ ?_ ?_ ?_ (aG ?_ ?_ ?_ ?_ (bG ?_ (bG (cZ rfl) dU)))))))
      ·refine bC [] rfl trivial (by kernel_rfl) oH rfl rfl ?_;intro aQ a w G1 hG HT H fin;exact kH H (Rf rC rfl fun _ H=>fin H iJ rfl)
      ·refine bC [(0,81,_)] rfl ⟨fun _ _ h=>h,av⟩ (by kernel_rfl) oH rfl rfl ?_;intro aQ a w G1 hG HT H fin;exact kH H (Ro rR 0 rfl fun _ H=>fin H iJ rfl)
      ·refine bC [] rfl trivial (by kernel_rfl) oH rfl rfl ?_;intro aQ a w G1 hG HT H fin;exact kH H (Rm rfl fun _ H=>fin H iJ rfl)
      ·refine bC [(1,82,_),(2,83,_)] rfl ⟨fun _ _ h=>h,fun _ _ h=>h,av⟩ (by kernel_rfl) oH rfl rfl ?_;intro aQ a w G1 hG HT H fin;exact kH H (Ri jH iI rfl rfl fun _ H=>fin H iJ rfl)
      ·refine bC [(3,84,_)] rfl ⟨fun _ _ h=>h,av⟩ (by kernel_rfl) oH rfl rfl ?_;intro aQ a w G1 hG HT H fin;exact kH H (Rf qG rfl fun _ H=>fin H iJ rfl)
      ·refine bC [(4,85,_)] rfl ⟨fun _ _ h=>h,av⟩ (by kernel_rfl) oH rfl rfl ?_;intro aQ a w G1 hG HT H fin;exact kH H (Rg qU rfl (aF hG r5) fun _ H=>fin H iJ rfl)
      ·refine bC [] rfl trivial (by kernel_rfl) oH rfl rfl ?_;intro aQ a w G1 hG HT H fin;exact kH H (Rm rfl fun _ H=>fin H iJ rfl)
      ·refine bC [(5,86,_),(6,87,_)] rfl ⟨fun _ _ h=>h,fun _ _ h=>h,av⟩ (by kernel_rfl) oH rfl rfl ?_;intro aQ a w G1 hG HT H fin;exact kH H (Ri kV iy rfl rfl fun _ H=>fin H iJ rfl)
      ·refine bC [(7,88,_)] rfl ⟨fun _ _ h=>h,av⟩ (by kernel_rfl) oH rfl rfl ?_;intro aQ a w G1 hG HT H fin;exact kH H (Rf AO rfl fun _ H=>fin H iJ rfl)
      ·refine bC [(8,89,_)] rfl ⟨fun _ _ h=>h,av⟩ (by kernel_rfl) oH rfl rfl ?_;intro aQ a w G1 hG HT H fin;exact kH H (Rg aD rfl (aF hG (hrow3 0 _ rfl)) fun _ H=>fin H iJ rfl)
      ·refine bC [] rfl trivial (by kernel_rfl) oH rfl rfl ?_;intro aQ a w G1 hG HT H fin;exact kH H (Rf rC rfl fun _ H=>fin H iJ rfl)
      ·refine bC [(10,91,_)] rfl ⟨fun _ _ h=>h,av⟩ (by kernel_rfl) oH rfl rfl ?_;intro aQ a w G1 hG HT H fin;exact kH H (Ro rR 0 rfl fun _ H=>fin H iJ rfl)
      ·refine bC [] rfl trivial (by kernel_rfl) oH rfl rfl ?_;intro aQ a w G1 hG HT H fin;exact kH H (Rm rfl fun _ H=>fin H iJ rfl)
      ·refine bC [(11,92,_),(12,93,_)] rfl ⟨fun _ _ h=>h,fun _ _ h=>h,av⟩ (by kernel_rfl) oH rfl rfl ?_;intro aQ a w G1 hG HT H fin;exact kH H (Ri jH iI rfl rfl fun _ H=>fin H iJ rfl)
      ·refine bC [(13,94,_)] rfl ⟨fun _ _ h=>h,av⟩ (by kernel_rfl) oH rfl rfl ?_;intro aQ a w G1 hG HT H fin;exact kH H (Rf qG rfl fun _ H=>fin H iJ rfl)
      ·refine bC [(14,95,_)] rfl ⟨fun _ _ h=>h,av⟩ (by kernel_rfl) oH rfl rfl ?_;intro aQ a w G1 hG HT H fin;exact kH H (Rg qU rfl (aF hG r5) fun _ H=>fin H iJ rfl)
      ·refine bC [] rfl trivial (by kernel_rfl) oH rfl rfl ?_;intro aQ a w G1 hG HT H fin;exact kH H (Rm rfl fun _ H=>fin H iJ rfl)
      ·refine bC [(15,96,_),(16,97,_)] rfl ⟨fun _ _ h=>h,fun _ _ h=>h,av⟩ (by kernel_rfl) oH rfl rfl ?_;intro aQ a w G1 hG HT H fin;exact kH H (Ri kV iy rfl rfl fun _ H=>fin H iJ rfl)
      ·refine bC [(17,98,_)] rfl ⟨fun _ _ h=>h,av⟩ (by kernel_rfl) oH rfl rfl ?_;intro aQ a w G1 hG HT H fin;exact kH H (Rf AQ rfl fun _ H=>fin H iJ rfl)
      ·refine bC [(18,99,_)] rfl ⟨fun _ _ h=>h,av⟩ (by kernel_rfl) oH rfl rfl ?_;intro aQ a w G1 hG HT H fin;exact kH H (Rg iM rfl (aF hG (hrow3 6 _ rfl)) fun _ H=>fin H iJ rfl)
      ·refine bC [(9,90,_),(19,100,_)] rfl ⟨fun _ _ h=>h,fun _ _ h=>h,av⟩ (by kernel_rfl) oH rfl rfl ?_;intro aQ a w G1 hG HT H fin;refine s_call Ue H wn rfl (ih _ _ H.ro z.id z.flow _ (hcf.mono hG) hoz (by omega)) rfl ?_;clear H;rintro aty arV a w QK akA H;exact fin H akA (QK)
      ·intro aQ a w G1 _ bK hc hG HT hv;have H:=HT;clear bK;obtain ⟨atu,amI,QK⟩:=hv 20 101 (hc 20 (by decide)) rfl;(try dsimp only at QK);obtain ⟨asf,asj,rfl,hpa,hpb⟩:=QK;have H:=H.mh amI;have Hb:=H.full;have H:=Hb;clear hc;refine kH H (Rm rfl ?_);clear H;intro a H;refine aI ⟨rfl,?_⟩;exact iL (by kernel_rfl) oH rfl rfl HT Hb hG hv (fun _ _ h=>h) (⟨_,_,rfl,hpa,hpb⟩) H
      ·intro aQ a w G1 _ bK hc hG HT hv;have H:=HT;clear bK;obtain ⟨u80,Wx,Og⟩:=hv 21 80 (hc 21 (by decide)) rfl;(try dsimp only at Og);obtain ⟨a80,c80,rfl,mq,hqb⟩:=Og;have H:=H.mh Wx;have Hb:=H.full;have H:=Hb;clear hc;refine lD H wn rfl rfl rfl ?_;clear H;intro a H;refine aI ⟨rfl,?_⟩;exact iL (by kernel_rfl) oH rfl rfl HT Hb hG hv (fun _ _ h=>h) (mq) H
      ·intro aQ a w G1 _ bK hc hG HT hv;have H:=HT;clear bK;obtain ⟨u80,Wx,Og⟩:=hv 21 80 (hc 21 (by decide)) rfl;(try dsimp only at Og);obtain ⟨a80,c80,rfl,mq,hqb⟩:=Og;have H:=H.mh Wx;have Hb:=H.full;have H:=Hb;clear hc;refine lD H wn rfl rfl rfl ?_;clear H;intro a H;refine aI ⟨rfl,?_⟩;exact iL (by kernel_rfl) oH rfl rfl HT Hb hG hv (fun _ _ h=>h) (hqb) H
      intro aQ a w G1 _ bK hc hG HT hv;have H:=HT;clear bK;obtain ⟨atv,amJ,acd⟩:=hv 22 102 (hc 22 (by decide)) rfl;(try dsimp only at acd);have H:=H.mh amJ;have Hb:=H.full;have H:=Hb;clear hc;refine kH H (Ra rfl ?_);clear H;intro a H;refine aI ⟨rfl,?_⟩;exact iL (by kernel_rfl) oH rfl rfl HT Hb hG hv (fun _ _ h=>h) (acd) H
     clear H;intro a w G U4 H hv;obtain ⟨u13,amN,QM⟩:=hv 24 13 (by decide) rfl;(try dsimp only at QM);have H:=H.mh amN;obtain ⟨atw,amK,QL⟩:=hv 23 103 (by decide) rfl;(try dsimp only at QL);have H:=H.mh amK;clear hv;refine kH H (Ra rfl ?_);clear H;intro a H;refine aI ⟨rfl,?_⟩;refine eH _ _ ?_;clear eH;obtain ⟨A13,n13,c13,rfl⟩:=QM.form;obtain ⟨arU,n103,asl,rfl⟩:=QL.form
     obtain rfl:n13=(tF (eZ z.id 0 z.flow)).length:=by simpa using QM.len
     obtain rfl:n103=(tF (eZ z.id 0 z.flow)).length:=by simpa using QL.len
     refine kP H (SC (Rm rfl (Rm rfl ?_)));clear H;intro a H;refine JW (Li:=[_]++SL) (Lo:=Zh) iN dB rfl rfl (St.XV (A:=[_]) H) wn rfl rfl Jt.it QM (by omega) (by omega) rfl ?_;clear H;intro arp Ze aoo a w amv alB H;replace H:=St.XU (A:=[_]) H;dsimp only [lca,aS] at H;refine kH H (Rm rfl (Rm rfl ?_));clear H;intro a H;refine JW (Li:=[_]++Ze) (Lo:=SL) OY iW rfl rfl (St.un (A:=[_]) H) wn rfl rfl Jt.ps QL (by omega) (by omega) rfl ?_;clear H;intro v109 afC aop a w amw alC H;replace H:=H.assoc;dsimp only [lca,aS] at H;refine kH H (Ra rfl (aM eB rfl (SC (Rm rfl (Rd rfl (Ra rfl ?_))))));clear H eB;intro a H;refine aI ?_;refine dP ((ck+1,R5++tF (eZ z.id 0 z.flow),arp,v109,xs5++aoo,ys5++aop,Ze,afC,_)) (by exact (H).sub ⟨rfl,rfl,rfl,rfl,rfl,rfl,rfl,rfl,rfl,av⟩) ?_ ?_
     ·(try dsimp only);exact ⟨by omega,⟨by rw [lJ];exact amv,by rw [nP];exact (Jt.ic.mono U4).append alB,by rw [lJ];exact amw,by rw [nP];exact (Jt.pc.mono U4).append alC⟩,by rw [← hx5,mG],fun b o h=>U4 b o (hg5 b o h),by rw [lJ];omega⟩
     first|omega|(dsimp only;omega)
    intro vw a H
    try have DV:=dF vw
    have NH:y.cells.drop ck=[]:=gy (by omega);refine eD ?_;refine dO _ _ ?_;clear dO;refine kP H (SC (Rm rfl (Rd rfl (Ra rfl ?_))));clear H;intro a H;refine aI ?_;refine dP ((rk+1,R5,_,_,xs5,ys5,Zh,SL,g5)) (by exact (H).sub ⟨rfl,rfl,rfl,rfl,rfl,rfl,rfl,rfl,av⟩) ?_ ?_
    ·(try dsimp only);exact ⟨by omega,Jt,fun h7=>by rw [← Vq h7,kR hk3,nL,adC,XY,← hy,← hx5,NH,jm];rfl,fun h7=>absurd VP h7,fun b o h=>hg5 b o (hg4 b o h),by rw [NH] at aby;simp only [iD,wR,fB] at aby;omega⟩
    first|omega|(dsimp only;omega)
   intro qm a H
   try have p66:=dF qm
   refine eD ?_;refine bQ _ _ ?_;clear bQ;refine kP H (SR fun _ fO=>Rm rfl (Rm rfl (Rm rfl (Rd rfl ?_))));clear H;intro a H;refine RS iN dB k (k+1) H wn rfl rfl rfl rfl (by omega) (by omega) (by omega) rfl ?_;clear H;intro a H;rw [ah hc3,zD,add_lit,Ej] at H;refine s_call Ng H wn rfl (Ou _ _ H.ro [x] _ (by have h:=hpart;rw [ah hc3,zD,add_lit,Ej,he1] at h;exact ((h.mono hgm).mono hg3).mono hg4) (by show 1+dG x.dat+0≤_;omega)) rfl ?_;clear H;rintro aeX afA a w ⟨rfl,aky⟩ NS H;rw [Q0] at H;refine kH H (Rm rfl ?_);clear H;intro a H;(iterate 2 refine lD H wn rfl rfl rfl ?_;clear H;intro a H);refine kH H (Ra rfl (ak fO rfl (SC (Rm rfl (Rm rfl (Rd rfl (aM K7 rfl (SC (Rm rfl (Rd rfl (Ra rfl ?_)))))))))));clear H fO K7;intro a H;refine aI ?_;refine dP ((k+1,at_+n1 x,R4,_,_,Mh,ys4,SH,SK,_)) (by exact (H.dK (Pl:=[_]) (dw:=[]) [] (by decide) rfl).sub ⟨rfl,rfl,rfl,rfl,rfl,rfl,av⟩) ?_ ?_
   ·try dsimp only
    exact ⟨by omega,hr4.mono NS,by
    rw [← hX]
    by_cases h6:x.kind=6
    ·rw [yO (by omega),Gm,au h6,hR2,ah (by omega)];simp [h6]
    rw [ah h6,pW] at Gm
    by_cases h7:x.kind=7
    ·have e:=Vq h7;rw [gy (by first|omega|(exfalso;simp_all;done)),nL,tF,List.filter_nil,pW] at e;rw [e,Gm,hR2,au h7];simp [h7]
    rw [yO h7,Gm,hR2,ah h7];simp [h6,h7],fun b o h=>NS b o (hg4 b o (hg3 b o (hgm b o h))),by push_cast;omega,hok2⟩
   first|omega|(dsimp only;omega)
  intro fU a H
  try have p60:=dF fU
  refine kH H (aT fU rfl (aP fU rfl (Pf fU rfl (Kz dL (Cf rfl rfl ?_)))));clear H dL;intro a H;refine eD ?_;refine bQ _ _ ?_;clear bQ;refine kP H (SR fun _ gJ=>Rm rfl (Rm rfl (Rm rfl (Rd rfl ?_))));clear H;intro a H;refine RS iN dB k (k+1) H wn rfl rfl rfl rfl (by omega) (by omega) (by omega) rfl ?_;clear H;intro a H;rw [ah hc3,zD,add_lit,Ej] at H;refine s_call Ng H wn rfl (Ou _ _ H.ro [x] _ (by have h:=hpart;rw [ah hc3,zD,add_lit,Ej,he1] at h;exact ((h.mono hgm).mono hg3).mono hg4) (by show 1+dG x.dat+0≤_;omega)) rfl ?_;clear H;rintro aeX afA a w ⟨rfl,aky⟩ NS H;rw [Q0] at H;refine kH H (Rm rfl ?_);clear H;intro a H;(iterate 2 refine lD H wn rfl rfl rfl ?_;clear H;intro a H);refine kH H (Ra rfl (ak gJ rfl (SC (Rm rfl (Rm rfl (Rd rfl (aM K7 rfl (SC (Rm rfl (Rd rfl (Ra rfl ?_)))))))))));clear H gJ K7;intro a H;refine aI ?_;refine dP ((k+1,at_+n1 x,R4,_,_,Mh,ys4,SH,SK,_)) (by exact (H.dK (Pl:=[_]) (dw:=[]) [] (by decide) rfl).sub ⟨rfl,rfl,rfl,rfl,rfl,rfl,av⟩) ?_ ?_
  ·try dsimp only
   exact ⟨by omega,hr4.mono NS,by
   rw [← hX]
   by_cases h6:x.kind=6
   ·rw [yO (by omega),Gm,au h6,hR2,ah (by omega)];simp [h6]
   rw [ah h6,pW] at Gm
   by_cases h7:x.kind=7
   ·have e:=Vq h7;rw [gy (by first|omega|(exfalso;simp_all;done)),nL,tF,List.filter_nil,pW] at e;rw [e,Gm,hR2,au h7];simp [h7]
   rw [yO h7,Gm,hR2,ah h7];simp [h6,h7],fun b o h=>NS b o (hg4 b o (hg3 b o (hgm b o h))),by push_cast;omega,hok2⟩
  first|omega|(dsimp only;omega)
 intro h20 a H
 try have rP:=dF h20
 refine eD ?_;refine K3 _ _ ?_;clear K3;refine kP H (SR fun _ gT=>Rm rfl (Rm rfl (Ra rfl (ak gT rfl ?_))));clear H gT;intro a H;refine dM ?_;refine (gN H results84 (.cons (bP H rfl) (.cons (bP H rfl) .nil)) ?_).1;rw [gy (by omega),eZ,tF,List.filter_nil,pW] at hX;obtain ⟨Gr,hmr,hrep,H⟩:=St.zM (Li:=La) H hr1.ps (rows:=R.map fun q=>Cx q.1) (by simp) hr1.pc;obtain ⟨Gs,hms,ams,H⟩:=St.zM (Li:=[]) H hr1.it (rows:=R.map fun q=>q.2.dat) (by simp) (hr1.ic.mono hmr);exact H.rt ⟨_,_,rfl,by rw [← hX];exact ams,by rw [← hX];exact hrep.mono hms⟩
theorem acR:∀ m:Nat,m≤4294967297→SF m
 | 0,_=>fun _ _ _ _ _ _ _ _ h=>absurd h (by omega)
 | m+1,hm=>anw (acR m (by omega)) (by omega)
theorem aqM (G:GH) (w0:World) (hG:Hold G w0) (D:kN) (l:List ay) (hv:aB G (.sl 11 (l.map ay.dat)) (dD D.f)) (hok:jU l) (hz:bM l≤4294967295) :
  Calls prog 28 #[D.val] w0 (bR w0 G (zy (jG l))):=by
 refine eN [(0,_)] func28 rfl ntmps28 rfl rfl hG ?_;intro a H;refine dz (fun _ K1=>?_);refine eU (cs:=[_,_,_,_,_,_,_,_,_,_,_]) H wn rfl rfl rfl ?_;clear H;intro b1 a w hb1 H;refine kH H (Ra rfl (ak K1 rfl (SR fun _ K2=>aW BP iM 0 rfl rfl ?_)));clear H K1;intro a H;refine s_call Ue H wn rfl (acR 4294967297 (by omega) _ _ H.ro 0 l _ hv hok (by omega)) rfl ?_;clear H;rintro v6 G6 a w ⟨a6,c6,rfl,hpa,hpb⟩ KY H;(iterate 2 refine lD H wn rfl rfl rfl ?_;clear H;intro a H);refine kH H (Ra rfl (ak K2 rfl ?_));clear H K2;intro a H;refine dM ?_;refine (gN H results28 (.cons (bP H rfl) (.cons (bP H rfl) .nil)) ?_).1;exact H.rt ⟨_,_,rfl,hpa,hpb⟩
end
section
open Go.RowKit
abbrev GR (p:jN):Int × List ay:=(p.id,p.items)
abbrev F4 (F:jM):Int × List ay:=(F.id,F.items)
mutual
theorem agl (f:Int) (at_:Nat) (note:Bool) (t:Int):∀ x:ay,(Em f at_ note t x).map GR=(Al note t x).map F4
 | .mk k c i tx h fl r=>by
  have hf:=PK i true t 0 fl;have hr:=ZP f at_ note t r;rw [Em,Al]
  by_cases h6:k=6
  ·rw [au h6,au h6,fJ,fJ,hf]
  rw [ah h6,ah h6]
  by_cases h7:k=7
  ·rw [au h7,au h7,hr]
  rw [ah h7,ah h7];rfl
theorem PK (f:Int) (note:Bool) (t:Int):∀ (at_:Nat) (l:List ay),(rz f note t at_ l).map GR=(kJ note t l).map F4
 | _,[]=>by rw [rz,kJ];rfl
 | at_,x :: l=>by rw [rz,kJ,nP,nP,agl f at_ note t x,PK f note t (at_+n1 x) l]
theorem agm (f:Int) (at_:Nat) (note:Bool) (t:Int):∀ x:bJ,(En f at_ note (t+1) x).map GR=(Am note t x).map F4
 | .mk h cs=>by rw [En,Am];exact ZO f at_ note t cs
theorem ZP (f:Int) (at_:Nat) (note:Bool) (t:Int):∀ l:List bJ,(tC f at_ note (t+1) l).map GR=(qW note t l).map F4
 | []=>by rw [tC,qW];rfl
 | x :: l=>by rw [tC,qW,nP,nP,agm f at_ note t x,ZP f at_ note t l]
theorem agk (f:Int) (at_:Nat) (note:Bool) (t:Int):∀ x:bB,(El f at_ note (t+1) x).map GR=(Ak note t x).map F4
 | .mk i h fl=>by rw [El,Ak,fJ,fJ,PK i note (t+1) 0 fl]
theorem ZO (f:Int) (at_:Nat) (note:Bool) (t:Int):∀ l:List bB,(vT f at_ note (t+1) l).map GR=(rW note t l).map F4
 | []=>by rw [vT,rW];rfl
 | x :: l=>by rw [vT,rW,nP,nP,agk f at_ note t x,ZO f at_ note t l]
end
abbrev jK (l:List ay):List jN:=yC ⟨0,l,-1,0,false,0⟩
theorem bw (l:List ay):(jK l).map GR=(jS l).map F4:=by
 rw [jK,yC,jS,fJ,fJ,PK 0 false 0 0 l]
theorem MV (l:List ay):(jK l).length=(jS l).length:=by simpa using aC List.length (bw l)
theorem Tj {l:List ay} {i:Nat} (h:i < (jK l).length):(jK l)[i].id=((jS l)[i]'(by rw [← MV];exact h)).id∧(jK l)[i].items=((jS l)[i]'(by rw [← MV];exact h)).items:=by
 have e:((jK l).map GR)[i]?=((jS l).map F4)[i]?:=by rw [bw]
 rw [qY,qY,gD h,gD (by rw [← MV];exact h)] at e
 simp only [zD,pU,jc] at e
 exact e
theorem akn {l:List ay} (h:zC l) {i:Nat} (hi:i < (jK l).length):Dm l (jK l)[i].id=some (jK l)[i].items:=by
 have hi2:i < (jS l).length:=by rw [← MV];exact hi
 obtain ⟨e1,e2⟩:=Tj hi
 unfold Dm
 rw [e1,aki h.ids (jr hi2),e2]
 rfl
abbrev LC (f t id:Int) (L:List ((Int × Int) × ay)):Prop:=∃ x,((f,t),x)∈L∧pK id x=true
theorem GK {id:Int} {x:ay}:pK id x=true↔x.id=id∨∃ r∈x.rows,∃ c∈r.cells,c.id=id:=by
 unfold pK
 rw [Bool.or_eq_true,decide_eq_true_iff,List.findIdx?_isSome,List.any_eq_true];refine or_congr Iff.rfl ?_
 constructor
 ·rintro ⟨r,hr,h⟩
  unfold LD at h
  rw [List.findIdx?_isSome,List.any_eq_true] at h;obtain ⟨c,hc,h⟩:=h;exact ⟨r,hr,c,hc,pE h⟩
 rintro ⟨r,hr,c,hc,h⟩;refine ⟨r,hr,?_⟩
 unfold LD
 rw [List.findIdx?_isSome,List.any_eq_true];exact ⟨c,hc,gq h⟩
abbrev jC (cs:List bB):List Int:=cs.flatMap fun c=>jA c.flow
abbrev jR (rs:List bJ):List Int:=rs.flatMap fun r=>jC r.cells
theorem LG:∀ cs:List bB,∀ i∈jC cs,i∈qL cs
 | [],i,h=>by simp [jC] at h
 | c :: cs,i,h=>by
  rw [qL,LA]
  simp only [jC,List.flatMap_cons,gu] at h
  rcases h with h|h
  ·exact gu.2 (.inl (lg _ h))
  exact gu.2 (.inr (LG cs i h))
theorem Ot:∀ rs:List bJ,∀ i∈jR rs,i∈qp rs
 | [],i,h=>by simp [jR] at h
 | r :: rs,i,h=>by
  rw [qp,LB]
  simp only [jR,List.flatMap_cons,gu] at h
  rcases h with h|h
  ·exact gu.2 (.inl (LG _ i h))
  exact gu.2 (.inr (Ot rs i h))
theorem PO:∀ {cs:List bB} {c:bB},c∈cs→c.id∈qL cs
 | d :: cs,c,h=>by
  rw [qL,LA]
  rcases nE.1 h with rfl|h
  ·exact gu.2 (.inl jd)
  exact gu.2 (.inr (PO h))
theorem Tp:∀ {rs:List bJ} {r:bJ} {c:bB},r∈rs→c∈r.cells→c.id∈qp rs
 | q :: rs,r,c,h,hc=>by
  rw [qp,LB]
  rcases nE.1 h with rfl|h
  ·exact gu.2 (.inl (PO hc))
  exact gu.2 (.inr (Tp h hc))
theorem Z5:∀ {cs:List bB} {c:bB},(qL cs).Nodup→c∈cs→c.id∉jC cs
 | d :: cs,c,hn,h=>by
  rw [qL,LA,List.nodup_append] at hn;obtain ⟨h1,h2,h3⟩:=hn;rw [List.nodup_cons] at h1
  simp only [jC,List.flatMap_cons,gu,not_or]
  rcases nE.1 h with rfl|h
  ·exact ⟨h1.1,fun hm=>h3 _ jd _ (LG cs _ hm) rfl⟩
  exact ⟨fun hm=>h3 _ (lg _ hm) _ (PO h) rfl,Z5 h2 h⟩
theorem Z6:∀ {rs:List bJ} {r:bJ} {c:bB},(qp rs).Nodup→r∈rs→c∈r.cells→c.id∉jR rs
 | q :: rs,r,c,hn,h,hc=>by
  rw [qp,LB,List.nodup_append] at hn;obtain ⟨h1,h2,h3⟩:=hn
  simp only [jR,List.flatMap_cons,gu,not_or]
  rcases nE.1 h with rfl|h
  ·exact ⟨Z5 h1 hc,fun hm=>h3 _ (PO hc) _ (Ot rs _ hm) rfl⟩
  exact ⟨fun hm=>h3 _ (LG _ _ hm) _ (Tp h hc) rfl,Z6 h2 h hc⟩
mutual
theorem adH {f t:Int} {id:Int} {a:(Int × Int) × ay}:∀ {x:ay},CZ x→a∈vI f t x→pK id a.2=true→id∈zV x
 | .mk k c i tx h fl r,hx,ha,hi=>by
  have hf:jU fl:=hx.fl;have hw:∀ q∈r,∀ c∈q.cells,jU c.flow:=hx.rw;have h0:=hx.XC
  simp only [ay.kind,ay.rows] at h0
  rw [vI] at ha;rw [zV]
  by_cases h6:k=6
  ·rw [au h6] at ha;rw [au (.inl h6),au h6]
   rcases nE.1 ha with rfl|ha
   ·rcases GK.1 hi with e|⟨q,hq,_⟩
    ·rw [← e];exact gu.2 (.inl (uo.2 rfl))
    simp only [ay.rows] at hq;rw [h0 (by omega)] at hq;cases hq
   exact gu.2 (.inr (gu.2 (.inl (LQ hf ha hi))))
  rw [ah h6] at ha
  by_cases h7:k=7
  ·rw [au h7] at ha;rw [au (.inr h7),ah h6,au h7,mo]
   rcases nE.1 ha with rfl|ha
   ·rcases GK.1 hi with e|⟨q,hq,c,hc,e⟩
    ·rw [← e];exact gu.2 (.inl (uo.2 rfl))
    rw [← e];exact gu.2 (.inr (Tp hq hc))
   exact gu.2 (.inr (Ot _ _ (Rx hw ha hi)))
  rw [ah h7] at ha;cases ha
theorem LQ {f t:Int} {id:Int} {a:(Int × Int) × ay}:∀ {l:List ay},jU l→a∈eZ f t l→pK id a.2=true→id∈jA l
 | [],_,ha,_=>by rw [eZ] at ha;cases ha
 | x :: l,hl,ha,hi=>by
  obtain ⟨hx,hl⟩:=hl.head;rw [eZ] at ha;rw [jA]
  rcases gu.1 ha with ha|ha
  ·exact gu.2 (.inl (adH hx ha hi))
  exact gu.2 (.inr (LQ hl ha hi))
theorem adI {id:Int} {a:(Int × Int) × ay}:∀ {x:bJ},(∀ c∈x.cells,jU c.flow)→a∈xP x→pK id a.2=true→id∈jC x.cells
 | .mk h cs,hx,ha,hi=>by rw [xP] at ha;exact Xt hx ha hi
theorem Rx {id:Int} {a:(Int × Int) × ay}:∀ {l:List bJ},(∀ r∈l,∀ c∈r.cells,jU c.flow)→a∈nL l→pK id a.2=true→id∈jR l
 | [],_,ha,_=>by rw [nL] at ha;cases ha
 | x :: l,hx,ha,hi=>by
  rw [nL] at ha
  simp only [jR,List.flatMap_cons,gu]
  rcases gu.1 ha with ha|ha
  ·exact .inl (adI (hx x jd) ha hi)
  exact .inr (Rx (fun r hr=>hx r (lg _ hr)) ha hi)
theorem adG {id:Int} {a:(Int × Int) × ay}:∀ {x:bB},jU x.flow→a∈wC x→pK id a.2=true→id∈jA x.flow
 | .mk i h fl,hx,ha,hi=>by rw [wC] at ha;exact LQ hx ha hi
theorem Xt {id:Int} {a:(Int × Int) × ay}:∀ {l:List bB},(∀ c∈l,jU c.flow)→a∈jm l→pK id a.2=true→id∈jC l
 | [],_,ha,_=>by rw [jm] at ha;cases ha
 | x :: l,hx,ha,hi=>by
  rw [jm] at ha
  simp only [jC,List.flatMap_cons,gu]
  rcases gu.1 ha with ha|ha
  ·exact .inl (adG (hx x jd) ha hi)
  exact .inr (Xt (fun r hr=>hx r (lg _ hr)) ha hi)
end
abbrev Uq (id:Int) (L:List ((Int × Int) × ay)):Prop:=∀ a b,a∈L→b∈L→pK id a.2=true→pK id b.2=true→a=b
theorem Sd {id:Int} {L M:List ((Int × Int) × ay)} (h1:Uq id L) (h2:Uq id M) (h:∀ a∈L,∀ b∈M,pK id a.2=true→pK id b.2=true→False):Uq id (L++M):=by
 intro a b ha hb ia ib
 rcases gu.1 ha with ha|ha <;> rcases gu.1 hb with hb|hb
 ·exact h1 a b ha hb ia ib
 ·exact (h a ha b hb ia ib).elim
 ·exact (h b hb a ha ib ia).elim
 exact h2 a b ha hb ia ib
theorem aeU {id:Int} {a:(Int × Int) × ay} {L:List ((Int × Int) × ay)} (h1:Uq id L) (h:pK id a.2=true→∀ b∈L,pK id b.2=true→False):Uq id (a :: L) :=
 Sd (L:=[a]) (fun x y hx hy _ _=>by rw [uo.1 hx,uo.1 hy]) h1 (fun x hx b hb ix ib=>by rw [uo.1 hx] at ix;exact h ix b hb ib)
mutual
theorem arn {f t:Int} (id:Int):∀ {x:ay},CZ x→(zV x).Nodup→Uq id (vI f t x)
 | .mk k c i tx h fl r,hx,hn=>by
  have hf:jU fl:=hx.fl;have hw:∀ q∈r,∀ c∈q.cells,jU c.flow:=hx.rw;have h0:=hx.XC
  simp only [ay.kind,ay.rows] at h0
  rw [zV] at hn;rw [vI]
  by_cases h6:k=6
  ·rw [au (.inl h6),au h6,ah (by omega),pW,List.singleton_append,List.nodup_cons] at hn;rw [au h6];refine aeU (OZ id hf hn.2) fun ia b hb ib=>?_
   rcases GK.1 ia with e|⟨q,hq,_⟩
   ·exact hn.1 (by have:=LQ hf hb ib;rw [← e] at this;exact this)
   simp only [ay.rows] at hq;rw [h0 (by omega)] at hq;cases hq
  rw [ah h6]
  by_cases h7:k=7
  ·rw [au (.inr h7),ah h6,au h7,mo,List.singleton_append,List.nodup_cons] at hn;rw [au h7];refine aeU (aeV id hw hn.2) fun ia b hb ib=>?_;have hj:=Rx hw hb ib
   rcases GK.1 ia with e|⟨q,hq,c,hc,e⟩
   ·rw [← e] at hj;exact hn.1 (Ot _ _ hj)
   rw [← e] at hj;exact Z6 hn.2 hq hc hj
  rw [ah h7];exact fun a b ha=>by cases ha
theorem OZ {f t:Int} (id:Int):∀ {l:List ay},jU l→(jA l).Nodup→Uq id (eZ f t l)
 | [],_,_=>by rw [eZ];exact fun a b ha=>by cases ha
 | x :: l,hl,hn=>by
  obtain ⟨hx,hl⟩:=hl.head;rw [jA,List.nodup_append] at hn;rw [eZ];exact Sd (arn id hx hn.1) (OZ id hl hn.2.1) fun a ha b hb ia ib=>hn.2.2 _ (adH hx ha ia) _ (LQ hl hb ib) rfl
theorem aro (id:Int):∀ {x:bJ},(∀ c∈x.cells,jU c.flow)→(Cq x).Nodup→Uq id (xP x)
 | .mk h cs,hx,hn=>by rw [Cq] at hn;rw [xP];exact aeT id hx hn
theorem aeV (id:Int):∀ {l:List bJ},(∀ r∈l,∀ c∈r.cells,jU c.flow)→(qp l).Nodup→Uq id (nL l)
 | [],_,_=>by rw [nL];exact fun a b ha=>by cases ha
 | x :: l,hx,hn=>by
  rw [qp,List.nodup_append] at hn;rw [nL];exact Sd (aro id (hx x jd) hn.1) (aeV id (fun r hr=>hx r (lg _ hr)) hn.2.1) fun a ha b hb ia ib=>hn.2.2 _ (by rw [LB];exact LG _ _ (adI (hx x jd) ha ia)) _ (Ot _ _ (Rx (fun r hr=>hx r (lg _ hr)) hb ib)) rfl
theorem arl (id:Int):∀ {x:bB},jU x.flow→(Co x).Nodup→Uq id (wC x)
 | .mk i h fl,hx,hn=>by rw [Co,List.nodup_cons] at hn;rw [wC];exact OZ id hx hn.2
theorem aeT (id:Int):∀ {l:List bB},(∀ c∈l,jU c.flow)→(qL l).Nodup→Uq id (jm l)
 | [],_,_=>by rw [jm];exact fun a b ha=>by cases ha
 | x :: l,hx,hn=>by
  rw [qL,List.nodup_append] at hn;rw [jm];exact Sd (arl id (hx x jd) hn.1) (aeT id (fun r hr=>hx r (lg _ hr)) hn.2.1) fun a ha b hb ia ib=>hn.2.2 _ (by rw [LA];exact lg _ (adG (hx x jd) ha ia)) _ (LG _ _ (Xt (fun r hr=>hx r (lg _ hr)) hb ib)) rfl
end
mutual
theorem agf {f:Int} {at_:Nat} {note:Bool} {t:Int} {p:jN}:∀ {x:ay},CZ x→p∈Em f at_ note t x→LC p.flow p.at_ p.id (vI f at_ x)
 | .mk k c i tx h fl r,hx,hp=>by
  have hf:jU fl:=hx.fl;have hw:∀ q∈r,∀ c∈q.cells,jU c.flow:=hx.rw;rw [Em] at hp;rw [vI]
  by_cases h6:k=6
  ·rw [au h6] at hp;rw [au h6]
   rcases nE.1 hp with rfl|hp
   ·exact ⟨_,jd,GK.2 (.inl rfl)⟩
   obtain ⟨y,h1,h2⟩:=PI (at_:=0) hf hp;exact ⟨y,lg _ h1,h2⟩
  rw [ah h6] at hp ⊢
  by_cases h7:k=7
  ·rw [au h7] at hp ⊢
   rcases ZL hw hp with ⟨e1,e2,q,hq,d,hd,e⟩|⟨y,h1,h2⟩
   ·exact ⟨.mk k c i tx h fl r,by rw [e1,e2];exact jd,GK.2 (.inr ⟨q,hq,d,hd,e⟩)⟩
   exact ⟨y,lg _ h1,h2⟩
  rw [ah h7] at hp;cases hp
theorem PI {f:Int} {note:Bool} {t:Int} {p:jN}:∀ {at_:Nat} {l:List ay},jU l→p∈rz f note t at_ l→LC p.flow p.at_ p.id (eZ f at_ l)
 | _,[],_,hp=>by rw [rz] at hp;cases hp
 | at_,x :: l,hl,hp=>by
  obtain ⟨hx,hl⟩:=hl.head;rw [rz] at hp;rw [eZ,adr hx,show (at_:Int)+(n1 x:Int)=((at_+n1 x:Nat):Int) by push_cast;rfl]
  rcases gu.1 hp with hp|hp
  ·obtain ⟨y,h1,h2⟩:=agf hx hp;exact ⟨y,gu.2 (.inl h1),h2⟩
  obtain ⟨y,h1,h2⟩:=PI hl hp;exact ⟨y,gu.2 (.inr h1),h2⟩
theorem agh {f:Int} {at_:Nat} {note:Bool} {t:Int} {p:jN}:∀ {x:bJ},(∀ c∈x.cells,jU c.flow)→p∈En f at_ note t x→(p.flow=f∧p.at_=at_∧∃ c∈x.cells,c.id=p.id)∨LC p.flow p.at_ p.id (xP x)
 | .mk h cs,hx,hp=>by rw [En] at hp;rw [xP];exact ZK hx hp
theorem ZL {f:Int} {at_:Nat} {note:Bool} {t:Int} {p:jN}:∀ {l:List bJ},(∀ r∈l,∀ c∈r.cells,jU c.flow)→p∈tC f at_ note t l→(p.flow=f∧p.at_=at_∧∃ r∈l,∃ c∈r.cells,c.id=p.id)∨LC p.flow p.at_ p.id (nL l)
 | [],_,hp=>by rw [tC] at hp;cases hp
 | x :: l,hx,hp=>by
  rw [tC] at hp;rw [nL]
  rcases gu.1 hp with hp|hp
  ·rcases agh (hx x jd) hp with ⟨e1,e2,c,hc,e⟩|⟨y,h1,h2⟩
   ·exact .inl ⟨e1,e2,x,jd,c,hc,e⟩
   exact .inr ⟨y,gu.2 (.inl h1),h2⟩
  rcases ZL (fun r hr=>hx r (lg _ hr)) hp with ⟨e1,e2,q,hq,c,hc,e⟩|⟨y,h1,h2⟩
  ·exact .inl ⟨e1,e2,q,lg _ hq,c,hc,e⟩
  exact .inr ⟨y,gu.2 (.inr h1),h2⟩
theorem agd {f:Int} {at_:Nat} {note:Bool} {t:Int} {p:jN}:∀ {x:bB},jU x.flow→p∈El f at_ note t x→(p.flow=f∧p.at_=at_∧x.id=p.id)∨LC p.flow p.at_ p.id (wC x)
 | .mk i h fl,hx,hp=>by
  rw [El] at hp;rw [wC]
  rcases nE.1 hp with rfl|hp
  ·exact .inl ⟨rfl,rfl,rfl⟩
  exact .inr (PI (at_:=0) hx hp)
theorem ZK {f:Int} {at_:Nat} {note:Bool} {t:Int} {p:jN}:∀ {l:List bB},(∀ c∈l,jU c.flow)→p∈vT f at_ note t l→(p.flow=f∧p.at_=at_∧∃ c∈l,c.id=p.id)∨LC p.flow p.at_ p.id (jm l)
 | [],_,hp=>by rw [vT] at hp;cases hp
 | x :: l,hx,hp=>by
  rw [vT] at hp;rw [jm]
  rcases gu.1 hp with hp|hp
  ·rcases agd (hx x jd) hp with ⟨e1,e2,e⟩|⟨y,h1,h2⟩
   ·exact .inl ⟨e1,e2,x,jd,e⟩
   exact .inr ⟨y,gu.2 (.inl h1),h2⟩
  rcases ZK (fun r hr=>hx r (lg _ hr)) hp with ⟨e1,e2,c,hc,e⟩|⟨y,h1,h2⟩
  ·exact .inl ⟨e1,e2,c,lg _ hc,e⟩
  exact .inr ⟨y,gu.2 (.inr h1),h2⟩
end
theorem adL {l:List ay} (h:zC l) {id:Int} {a:(Int × Int) × ay} (ha:a∈eZ 0 0 l) (hi:pK id a.2=true):sP l id=some a.1:=by
 unfold sP
 cases hf:(eZ 0 0 l).find? fun a=>pK id a.2 with
 | none=>exact absurd hi (by simpa using List.find?_eq_none.1 hf a ha)
 | some b =>
  have hb:=List.find?_some hf;rw [OZ id h.ok h.nd b a (List.mem_of_find?_eq_some hf) ha hb hi]
  rfl
theorem adK {l:List ay} (h:zC l) {id:Int} (hi:id∉jA l):sP l id=none:=by
 unfold sP
 rw [Option.map_eq_none_iff,List.find?_eq_none];exact fun a ha hx=>hi (LQ h.ok ha (by simpa using hx))
theorem aoU {l:List ay} (h:zC l):sP l 0=none:=adK h fun hm=>by have:=h.pos _ hm;omega
theorem adJ {l:List ay} (h:zC l) {i:Nat} (hi:i < (jK l).length):sP l (jK l)[i].id=if 0 < i then some ((jK l)[i].flow,(jK l)[i].at_) else none:=by
 cases i with
 | zero=>rw [ah (by omega)];exact aoU h
 | succ i =>
  rw [au (by omega)]
  have hm:(jK l)[i+1]∈rz 0 false 0 0 l:=by simp only [jK,yC,List.getElem_cons_succ];exact jr _
  obtain ⟨x,h1,h2⟩:=PI (at_:=0) h.ok hm;exact adL h h1 h2
theorem aez {l:List ay} (h:zC l) {a:(Int × Int) × ay} (ha:a∈jG l):CG l a.2.id=some a.2∧sP l a.2.id=some a.1:=by
 have hp:=X5 ha;have hi:pK a.2.id a.2=true:=GK.2 (.inl rfl);refine ⟨?_,adL h hp hi⟩
 unfold CG
 cases hf:(jG l).find? fun b=>decide (b.2.id=a.2.id) with
 | none=>exact absurd (List.find?_eq_none.1 hf a ha) (by simp)
 | some b =>
  have hb:=List.find?_some hf;rw [OZ a.2.id h.ok h.nd b a (X5 (List.mem_of_find?_eq_some hf)) hp (GK.2 (.inl (pE hb))) hi]
  rfl
abbrev tI (id:Int) (L:List ((Int × Int) × ay)):Prop:=∃ a∈L,a.2.kind=7∧a.2.id=id
mutual
theorem anm (f t:Int) (note:Bool) (tt id:Int):∀ x:ay,id∈zV x→id∈(Al note tt x).map jM.id∨tI id (vI f t x)
 | .mk k c i tx h fl r,hm=>by
  have hf:=QW i 0 true tt id fl;have hr:=acM note tt id r;rw [zV] at hm;rw [Al,vI]
  by_cases h6:k=6
  ·rw [au (.inl h6),au h6,ah (show ¬ k=7 by omega),pW,List.singleton_append] at hm;rw [au h6,au h6,fJ]
   rcases nE.1 hm with rfl|hm
   ·exact .inl jd
   rcases hf hm with h1|⟨a,h1,h2⟩
   ·exact .inl (lg _ h1)
   exact .inr ⟨a,lg _ h1,h2⟩
  rw [ah h6,ah h6]
  by_cases h7:k=7
  ·rw [au (.inr h7),ah h6,au h7,mo,List.singleton_append] at hm;rw [au h7,au h7]
   rcases nE.1 hm with rfl|hm
   ·exact .inr ⟨_,jd,h7,rfl⟩
   rcases hr hm with h1|⟨a,h1,h2⟩
   ·exact .inl h1
   exact .inr ⟨a,lg _ h1,h2⟩
  rw [ah (by omega),ah h6,ah h7] at hm;cases hm
theorem QW (f:Int) (t:Int) (note:Bool) (tt id:Int):∀ l:List ay,id∈jA l→id∈(kJ note tt l).map jM.id∨tI id (eZ f t l)
 | [],hm=>by rw [jA] at hm;cases hm
 | x :: l,hm=>by
  rw [jA] at hm;rw [kJ,eZ,nP]
  rcases gu.1 hm with hm|hm
  ·rcases anm f t note tt id x hm with h1|⟨a,h1,h2⟩
   ·exact .inl (gu.2 (.inl h1))
   exact .inr ⟨a,gu.2 (.inl h1),h2⟩
  rcases QW f (t+sZ x) note tt id l hm with h1|⟨a,h1,h2⟩
  ·exact .inl (gu.2 (.inr h1))
  exact .inr ⟨a,gu.2 (.inr h1),h2⟩
theorem ano (note:Bool) (tt id:Int):∀ x:bJ,id∈Cq x→id∈(Am note tt x).map jM.id∨tI id (xP x)
 | .mk h cs,hm=>by rw [Cq] at hm;rw [Am,xP];exact acL note tt id cs hm
theorem acM (note:Bool) (tt id:Int):∀ l:List bJ,id∈qp l→id∈(qW note tt l).map jM.id∨tI id (nL l)
 | [],hm=>by rw [qp] at hm;cases hm
 | x :: l,hm=>by
  rw [qp] at hm;rw [qW,nL,nP]
  rcases gu.1 hm with hm|hm
  ·rcases ano note tt id x hm with h1|⟨a,h1,h2⟩
   ·exact .inl (gu.2 (.inl h1))
   exact .inr ⟨a,gu.2 (.inl h1),h2⟩
  rcases acM note tt id l hm with h1|⟨a,h1,h2⟩
  ·exact .inl (gu.2 (.inr h1))
  exact .inr ⟨a,gu.2 (.inr h1),h2⟩
theorem anl (note:Bool) (tt id:Int):∀ x:bB,id∈Co x→id∈(Ak note tt x).map jM.id∨tI id (wC x)
 | .mk i h fl,hm=>by
  have hf:=QW i 0 note (tt+1) id fl;rw [Co] at hm;rw [Ak,wC,fJ]
  rcases nE.1 hm with rfl|hm
  ·exact .inl jd
  rcases hf hm with h1|h1
  ·exact .inl (lg _ h1)
  exact .inr h1
theorem acL (note:Bool) (tt id:Int):∀ l:List bB,id∈qL l→id∈(rW note tt l).map jM.id∨tI id (jm l)
 | [],hm=>by rw [qL] at hm;cases hm
 | x :: l,hm=>by
  rw [qL] at hm;rw [rW,jm,nP]
  rcases gu.1 hm with hm|hm
  ·rcases anl note tt id x hm with h1|⟨a,h1,h2⟩
   ·exact .inl (gu.2 (.inl h1))
   exact .inr ⟨a,gu.2 (.inl h1),h2⟩
  rcases acL note tt id l hm with h1|⟨a,h1,h2⟩
  ·exact .inl (gu.2 (.inr h1))
  exact .inr ⟨a,gu.2 (.inr h1),h2⟩
end
theorem ZG (l:List ay):(jK l).map jN.id=(jS l).map jM.id:=by
 have h:=aC (List.map Prod.fst) (bw l)
 simpa [List.map_map,Function.comp_def] using h
def OO (l:List ay) (id:Int):Bool:=(jK l).any fun p=>decide (p.id=id)
def OM (l:List ay) (id:Int):Bool:=(jG l).any fun a=>decide (a.2.id=id)
theorem Zx {α:Type} (g:α→Int) (id:Int) (l:List α):(l.any fun x=>decide (g x=id))=(l.map g).any fun q=>decide (q=id):=by
 rw [List.any_map];rfl
theorem Uw {α:Type} (p:α→Bool):∀ l:List α,(l.find? p).isSome=l.any p
 | []=>rfl
 | x :: l=>by
  rw [List.find?_cons,List.any_cons,← Uw p l]
  cases p x <;> rfl
theorem abj {l:List ay} (id:Int):(Dm l id).isSome=OO l id:=by
 unfold Dm OO
 rw [Option.isSome_map,Uw,Zx jM.id,Zx jN.id,ZG]
theorem aeA {l:List ay} (id:Int):(CG l id).isSome=OM l id:=by
 unfold CG OM
 rw [Option.isSome_map,Uw]
theorem aoT {l:List ay} (h:zC l) (id:Int):(sP l id).isSome=(decide (id≠0) && (OO l id || OM l id)):=by
 rw [rZ,qD,Bool.or_eq_true,decide_eq_true_iff]
 unfold OO OM
 rw [List.any_eq_true,List.any_eq_true]
 constructor
 ·intro hs
  have hm:id∈jA l:=Decidable.byContradiction fun hn=>by rw [adK h hn] at hs;cases hs
  refine ⟨fun e=>by have:=h.pos _ hm;omega,?_⟩
  rcases QW 0 0 false 0 id l hm with h1|⟨a,h1,h2,h3⟩
  ·have h4:id∈(jK l).map jN.id:=by rw [ZG,jS,fJ];exact lg _ h1
   obtain ⟨p,hp,e⟩:=List.mem_map.1 h4;exact .inl ⟨p,hp,gq e⟩
  exact .inr ⟨a,List.mem_filter.2 ⟨h1,gq h2⟩,gq h3⟩
 rintro ⟨h0,⟨p,hp,e⟩|⟨a,ha,e⟩⟩
 ·obtain ⟨i,hi,rfl⟩:=List.getElem_of_mem hp;have e:=pE e;have hb:=adJ h hi;rw [e] at hb;rw [hb]
  by_cases hz:0 < i
  ·rw [au hz];rfl
  obtain rfl:i=0:=by omega
  exact absurd e.symm h0
 have e:=pE e;have:=(aez h ha).2;rw [e] at this;rw [this];rfl
end
section
open Go.RowKit
theorem KA:∀ args w,(callFunc 64 args).run prog w=.ok (.enter 64 args) w:=enters func64 rfl (by kernel_rfl)
theorem TR:∀ args w,(callFunc 198 args).run prog w=.ok (.enter 198 args) w:=enters func198 rfl (by kernel_rfl)
theorem Nf:∀ args w,(callFunc 66 args).run prog w=.ok (.enter 66 args) w:=enters func66 rfl (by kernel_rfl)
theorem KU (G:GH) (L:OL) (w0:World) (st:List cK) (li:List eT) (rv:List fF) (b ms ml mr mb mu:Nat) (n:Int) (hck:yh G st li rv ms ml mr mu) (hO:jQ G (gY b ms ml mr mb mu n :: L) w0)
  (e:Int) (h:jJ) (p d l:aj) (hh:mF G h p d l) (hz:pR h≤4294967296) :
  Calls prog 64 #[(aK b 0),vi e,Dw h p d l] w0 (jk w0 G (gY b ms ml mr mb mu n :: L) fun v G' L'=>G=G'∧L'=gY b ms ml mr mb mu n :: L∧v=vi (gB (aN st li rv) e h)):=by
 have hm:=GH.Kl G (o:=(gY b ms ml mr mb mu n).2) (hO.sep _ jd);exact (alM (G.add b (gY b ms ml mr mb mu n).2) w0 hO.add st li rv b ms ml mr mb mu n (hck.mono hm) (GH.MN _ _ _) e h p d l (hh.mono hm) hz).mono fun _ _=>XA (b:=b) (o:=(gY b ms ml mr mb mu n).2) (R':=fun v=>v=vi (gB (aN st li rv) e h)) hO fun _ _ h=>h
abbrev O6 (b ms ml mr mb mu:Nat) (L:OL) (r:CR):aj→OL→Prop:=fun u L'=>∃ s:CS,u=vi r.1∧L'=gY b ms ml mr mb mu s.n :: (mb,gW (ig s.bE)) :: L∧(r.1=0→s=r.2)
def Ke (m:Nat):Prop:=∀ (G:GH) (L:OL) (w0:World) (st:List cK) (li:List eT) (rv:List fF) (b ms ml mr mb mu:Nat) (s:CS) (l:List ay) (v:aj) (body note:Bool) (t:Int),
 yh G st li rv ms ml mr mu→jQ G (gY b ms ml mr mb mu s.n :: (mb,gW (ig s.bE)) :: L) w0→aB G (.sl 11 (l.map ay.dat)) v→bM l < m→0≤t→t≤4→0≤s.n→s.n+(bM l:Nat)≤1099511627776 →
 Calls prog 66 #[(aK b 0),v,.agg #[.bool body,.bool note,vi t]] w0 (jk w0 G (gY b ms ml mr mb mu s.n :: (mb,gW (ig s.bE)) :: L) fun u G' L'=>G=G'∧O6 b ms ml mr mb mu L (iG (aN st li rv) body note t l s) u L')
theorem rows_ok {m:Nat} (ih:Ke m) (hm:m≤4294967296) (Gt:GH) (L:OL) (w0:World) (st:List cK) (li:List eT) (rv:List fF) (b ms ml mr mb mu:Nat) (s:CS) (l:List bJ) (v:aj) (note:Bool) (t:Int)
  (hck:yh Gt st li rv ms ml mr mu) (hO:jQ Gt (gY b ms ml mr mb mu s.n :: (mb,gW (ig s.bE)) :: L) w0) (hv:aB Gt (.sl 6 (l.map bJ.dat)) v) (hz:fq l < m) (ht0:0≤t) (Ck:t≤4) (hs0:0≤s.n) (hs1:s.n+(fq l:Nat)≤1099511627776) :
  Calls prog 199 #[(aK b 0),v,.agg #[.bool false,.bool note,vi t]] w0 (jk w0 Gt (gY b ms ml mr mb mu s.n :: (mb,gW (ig s.bE)) :: L) fun u G' L'=>O6 b ms ml mr mb mu L (lC l.length (fun s=>iw (aN st li rv) note t l s) s) u L'):=by
 obtain ⟨A,c,rfl,hc1,hc2,hg⟩:=hv.slice;rw [bZ] at *;have hll:=Fp l;refine mH (N:=77) (T:=[(0,_),(1,_),(2,_)]) func199 rfl ntmps199 rfl rfl hO ?_;intro a H;refine dz (fun _ K1=>?_);refine eU (cs:=[_,_,_]) H wn rfl rfl rfl ?_;clear H;intro b5 a w hb5 H;refine kH H (ak K1 rfl (SQ fun _ K2=>SR fun _ K3=>Rm rfl (Rl jH rfl (Rc rfl (Kz K3 (Cd rfl ?_ ?_)))))) <;> clear H K1 K3
 ·intro dS a H
  try have mJ:=dT dS
  refine aO (fun _ K4=>?_);have hE:lC l.length (fun s=>iw (aN st li rv) note t l s) s=(11,s):=au (by omega);exact kP H (SC (aM K4 rfl (LR results199 rfl fun H=>H.hp.dh (L':=gY b ms ml mr mb mu s.n :: (mb,gW (ig s.bE)) :: L) (by repeat (first|exact dx _|apply List.Sublist.cons)) ⟨s,by rw [hE],rfl,fun h=>by rw [hE]⟩)))
 intro dS a H
 try have mJ:=dF dS
 refine kP H (Kc K2 (SQ fun _ K5=>SR fun _ K6=>Rm rfl (Rl jH rfl (Rc rfl (Kz K6 (Cd rfl ?_ ?_)))))) <;> clear H K2 K6
 ·intro h20 a H
  try have rP:=dT h20
  refine aO (fun _ K7=>?_)
  have hE:lC l.length (fun s=>iw (aN st li rv) note t l s) s=(9,s):=by rw [lC,ah (by omega),au (by omega)]
  exact kP H (SC (aM K7 rfl (LR results199 rfl fun H=>H.hp.dh (L':=gY b ms ml mr mb mu s.n :: (mb,gW (ig s.bE)) :: L) (by repeat (first|exact dx _|apply List.Sublist.cons)) ⟨s,by rw [hE],rfl,fun h=>by rw [hE]⟩)))
 intro h20 a H
 try have rP:=dF h20
 refine kP H (Kc K5 (SQ fun _ K8=>SQ fun _ K9=>?_));clear H K5;intro a H
 have hE:lC l.length (fun s=>iw (aN st li rv) note t l s) s=iw (aN st li rv) note t l s:=by rw [lC,ah (by omega),ah (by omega)]
 refine kP H (SC (Rm rfl (Rl jH rfl (Rm rfl (Kn K9 (SB ?_))))));clear H K9;intro a H;skip;refine fH (ι:=Nat × CS × GH) (Tc:=[(0,_),(5,_),(21,_),(22,_)]) (Lc:=[(_,_)]) (fun gh=>[(23,vi gh.1)]) (fun gh=>[gY b ms ml mr mb mu gh.2.1.n,(mb,gW (ig gh.2.1.bE))]++L) (fun gh=>gh.2.2) (fun gh=>gh.1≤l.length∧(∀ b o,Gt b=some o→gh.2.2 b=some o)∧iw (aN st li rv) note t l s=iw (aN st li rv) note t (l.drop gh.1) gh.2.1∧0≤gh.2.1.n∧gh.2.1.n+(fq (l.drop gh.1):Nat)≤1099511627776) (fun gh=>l.length - gh.1) ((0,s,Gt)) (by exact (H).sub ⟨rfl,rfl,rfl,rfl,rfl,av⟩) ?_ ?_
 ·exact ⟨iK _,fun _ _ h=>h,rfl,hs0,hs1⟩
 clear H;intro gh a w hI H;obtain ⟨k,s1,g⟩:=gh;dsimp only at hI H;obtain ⟨hk,hgm,hR,hn0,hn1⟩:=hI;dsimp only [lca,aS] at H;refine kP H (SR fun _ aZ=>Rc rfl (Kz aZ (SQ fun _ bN=>Cd rfl ?_ ?_))) <;> clear H aZ
 ·intro eP a H
  try have nA:=dT eP
  have hk2:k < l.length:=by omega
  have hsz:=Mk hk2;have hcs:=Fh l[k].cells
  have hdz:fq (l.drop k)=1+dG l[k].dat+fq (l.drop (k+1)):=by simp only [fq];rw [kR hk2,fJ,fB]
  have hrz:=uN l[k];obtain ⟨xb,xo,qA,qn,qc,eA,en,ec,zA,zn,zc,cA,cn,cc,rfl,hrow,DJ,hcl⟩:=GV hk2 hg;replace hrow:=fun j u hj=>aF hgm (hrow j u hj);replace DJ:=DJ.mono hgm;replace hcl:=hcl.mono hgm;have hcn:=hcl.len;rw [bZ] at hcn;subst hcn;have aly:=hck.mono hgm;rw [kR hk2,iw,JU] at hR;refine kP H (Kc bN (SQ fun _ bQ=>SB (SR fun _ bT=>Ri jH iI rfl rfl ?_)));clear H bN;intro a H;refine bD iI (cs:=[_,_,_,_,_,_]) H wn rfl rfl (fun j v hj=>H.hp.aH (hrow j v hj)) rfl ?_;clear H;intro a H;refine dR iI H wn rfl ?_;clear H;intro b8 a w xE H;refine bO iI 0 (vs:=[_,_,_,_,_,_]) _ H wn rfl rfl rfl rfl rfl rfl rfl rfl ?_;clear H;intro w H;dsimp only [List.set,setRow] at H;refine bT _ _ ?_;clear bT;refine aO (fun _ cu=>?_);refine aO (fun _ dL=>?_);refine dI hmx [[],[],[1],[0,1,2],[],[4],[4,5],[4,5,6],(ra 0 8),[],[9],[9,10],[9,10,11],(ra 0 13),(ra 0 14),(ra 0 15),(ra 0 16)] [14,15,16] (by kernel_rfl) [_,_,Dw l[k].head (.slice qA qn qc) (.slice eA en ec) (.slice zA zn zc),vi (gB (aN st li rv) 9 l[k].head),_,.slice cA l[k].cells.length cc,_,_,vi (bS (decide ((l[k].cells.length:Int)=0)) 11),_,.slice cA l[k].cells.length cc,_,_,vi (bS (decide (32 < (l[k].cells.length:Int))) 9)] H (aG (Z0 rfl (Rm rfl)) (Z0 rfl (Rf FV rfl)) ?_ ?_ (aG (Z0 rfl (Rf qG rfl)) (Z1 4 31 rfl (Ro qU 0 rfl)) (Z1 5 32 rfl (Rl kV rfl)) (Z1 6 33 rfl (Rc rfl)) (aG ?_ (Z0 rfl (Rf qG rfl)) (Z1 9 36 rfl (Ro qU 0 rfl)) (Z1 10 37 rfl (Rl kV rfl)) (aG (Z1 11 38 rfl (Rc rfl)) ?_ (cZ rfl) (cZ rfl) (bG (cZ rfl) dU))))) ?_
  ·refine eF 1 28 rfl rfl fun _ a w G1 hG HT H fin=>?_;refine bD nC (cs:=[_,_,_,_,_]) H wn rfl rfl (H.hp.eu 0 rfl rfl) rfl ?_;clear H;intro a H;exact fin H iJ rfl
  ·refine fu 0 27 2 29 rfl rfl fun _ a w G1 hG HT H fin=>?_;refine iH KA (Li:=[_,_]) (L:=gY b ms ml mr mb mu s1.n :: (mb,gW (ig s1.bE)) :: L) H wn rfl (KU _ _ _ st li rv b ms ml mr mb mu _ (aly.mono hG) (Hp.owns (Li:=[_,_]) H.hp) 9 l[k].head _ _ _ (DJ.mono hG) (by omega)) rfl ?_;clear H;rintro v30 _ _ a w ⟨rfl,rfl,rfl⟩ U6 H;dsimp only [lca,aS] at H;exact fin H U6 (rfl)
  ·refine eF 7 34 rfl rfl fun _ a w G1 hG HT H fin=>?_;refine s_call kS H wn rfl (kW _ _ H.ro _ 11) rfl ?_;clear H;rintro v35 YE a w ⟨rfl,-⟩ U7 H;exact fin H U7 (rfl)
  ·refine eF 12 39 rfl rfl fun _ a w G1 hG HT H fin=>?_;refine s_call kS H wn rfl (kW _ _ H.ro _ 9) rfl ?_;clear H;rintro v40 Pg a w ⟨rfl,-⟩ akJ H;exact fin H akJ (rfl)
  clear H;intro a w G wu H hv;have H:=H.aU (hv 3 30 rfl rfl) rfl;have H:=H.aU (hv 8 35 rfl rfl) rfl;have H:=H.aU (hv 13 40 rfl rfl) rfl;clear hv;refine jF rU jg [_,_,_] [_,_,_] H wn rfl rfl rfl rfl rfl (by intro i q h;match i,h with|0,h=>exact h|1,h=>exact h|2,h=>exact h|n+3,h=>simp at h) rfl rfl ?_;clear H;intro b41 a w asH H;obtain ⟨Mt,Dx,alk,H⟩:=H.fD;have NP:∀ b o,Gt b=some o→Mt b=some o:=fun b o h=>Dx _ _ (wu _ _ (hgm _ _ h));refine s_call tH H wn rfl (tJ _ _ H.ro _ _ (JD [gB (aN st li rv) 9 l[k].head,bS (decide ((l[k].cells.length:Int)=0)) 11,bS (decide (32 < (l[k].cells.length:Int))) 9] alk (show 3≤maxLen by decide))) rfl ?_;clear H;rintro v42 _ a w ⟨rfl,rfl⟩ - H;refine kH H (Ra rfl ?_);clear H;intro a H;refine aI ⟨rfl,?_⟩;refine dL _ _ ?_;clear dL;refine kP H (SR fun _ dO=>Rm rfl (Rc rfl (Kz dO (Cd rfl ?_ ?_)))) <;> clear H dO
  ·intro lX a H
   try have p44:=dT lX
   have e44:uh (aN st li rv) l[k].head l[k].cells.length≠0:=p44
   have hF1:(lC l.length (fun s=>iw (aN st li rv) note t l s) s).1=uh (aN st li rv) l[k].head l[k].cells.length:=by rw [hE,hR,uU (r:=(uh (aN st li rv) l[k].head l[k].cells.length,s1)) e44,uU e44]
   have hF2:(lC l.length (fun s=>iw (aN st li rv) note t l s) s).1=0→s1=(lC l.length (fun s=>iw (aN st li rv) note t l s) s).2:=fun h=>absurd (hF1.symm.trans h) e44;exact kP H (SR fun _ dJ=>Rm rfl (ak dJ rfl (LR results199 rfl fun H=>H.hp.dh (L':=gY b ms ml mr mb mu s1.n :: (mb,gW (ig s1.bE)) :: L) (by repeat (first|exact dx _|apply List.Sublist.cons)) ⟨s1,aC vi hF1.symm,rfl,hF2⟩)))
  intro lX a H
  try have p44:=dF lX
  have e44:uh (aN st li rv) l[k].head l[k].cells.length=0:=gF.1 p44;rw [uw (r:=(uh (aN st li rv) l[k].head l[k].cells.length,s1)) e44] at hR;dsimp only at hR;have alz:=hck.mono NP;replace hcl:=hcl.mono (fun b o h=>Dx _ _ (wu b o h));refine kP H (Kc cu (SR fun _ dW=>aW qG qU 0 rfl rfl (Rl kV rfl (Rm rfl (Kz dW (SB ?_))))));clear H cu dW;intro a H;skip;refine fH (ι:=Nat × CS × GH) (Tc:=[(0,_),(5,_),(21,_),(22,_),(23,_),(47,_),(48,_)]) (Lc:=[(_,_),(_,_)]) (fun gh=>[(49,vi gh.1)]) (fun gh=>[gY b ms ml mr mb mu gh.2.1.n,(mb,gW (ig gh.2.1.bE))]++L) (fun gh=>gh.2.2) (fun gh=>gh.1≤l[k].cells.length∧(∀ b o,Mt b=some o→gh.2.2 b=some o)∧iw (aN st li rv) note t l s=gK (nQ (aN st li rv) note t (l[k].cells.drop gh.1) gh.2.1) (fun s=>iw (aN st li rv) note t (l.drop (k+1)) s)∧0≤gh.2.1.n∧gh.2.1.n+(iD (l[k].cells.drop gh.1):Nat)+(fq (l.drop (k+1)):Nat)≤1099511627776) (fun gh=>l[k].cells.length - gh.1) ((0,s1,Mt)) (by exact (H).sub ⟨rfl,rfl,rfl,rfl,rfl,rfl,rfl,rfl,av⟩) ?_ ?_
  ·exact ⟨iK _,fun _ _ h=>h,hR,hn0,by dsimp only;rw [lK];omega⟩
  clear H;intro gh a w hI H;obtain ⟨c,s2,g2⟩:=gh;dsimp only at hI H;obtain ⟨hc,Qy,hR2,hm0,hm1⟩:=hI;have jX:=fun b o h=>Qy b o (NP b o h);dsimp only [lca,aS] at H;refine kP H (SR fun _ eG=>Rc rfl (Kz eG (SQ fun _ eB=>Cd rfl ?_ ?_))) <;> clear H eG
  ·intro h50 a H
   try have p50:=dT h50
   have hk4:c < l[k].cells.length:=by omega
   have amH:=Mi hk4
   have alK:iD (l[k].cells.drop c)=1+dG l[k].cells[c].dat+iD (l[k].cells.drop (c+1)):=by simp only [iD];rw [kR hk4,fJ,fB]
   have hcz:=uM l[k].cells[c];obtain ⟨b3',o3,sA,sn,sc,tA,tn,tc,uA,un,uc,gA,gn,gc,rfl,hrow,hch,hcf⟩:=Eo hk4 (hcl.mono Qy).at_;have VA:=alz.mono Qy;rw [kR hk4,nQ,AB] at hR2;obtain ⟨y,hy⟩:∃ y,y=l[k].cells[c]:=⟨_,rfl⟩;rw [← hy] at hR2 hrow hch hcf hcz amH alK;refine kP H (Kc eB (SQ fun _ eH=>SB (SR fun _ fO=>Ri kV iy rfl rfl ?_)));clear H eB;intro a H;refine bD iy (cs:=[_,_,_,_,_,_,_]) H wn rfl rfl (fun j v hj=>H.hp.aH (hrow j v hj)) rfl ?_;clear H;intro a H;refine dR iy H wn rfl ?_;clear H;intro b11 a w I8 H;refine bO iy 0 (vs:=[_,_,_,_,_,_,_]) _ H wn rfl rfl rfl rfl rfl rfl rfl rfl ?_;clear H;intro w H;dsimp only [List.set,setRow] at H;refine fO _ _ ?_;clear fO;refine kP H (SQ fun _ gJ=>SR fun _ gT=>Rm rfl (aW AO aD 0 rfl rfl ?_));clear H;intro a H;refine iH TR (Li:=[_,_,_]) (L:=gY b ms ml mr mb mu s2.n :: (mb,gW (ig s2.bE)) :: L) H wn rfl (Tq _ _ _ st li rv b ms ml mr mb mu _ s2.bE y.id VA (Hp.owns (Li:=[_,_,_]) H.hp)) rfl ?_;clear H;rintro v56 _ _ a w ⟨rfl,rfl,rfl⟩ - H;dsimp only [lca,aS] at H;refine kH H (ak gT rfl (SR fun _ gM=>Rm rfl (Rc rfl (Kz gM (Cd rfl ?_ ?_))))) <;> clear H gT gM
   ·intro jD a H
    try have p58:=dT jD
    have hF1:(lC l.length (fun s=>iw (aN st li rv) note t l s) s).1=nZ s2.bE y.id:=by rw [hE,hR2];simp [gK,jL,p58]
    have hF2:(lC l.length (fun s=>iw (aN st li rv) note t l s) s).1=0→(⟨s2.n,kg s2.bE y.id⟩:CS)=(lC l.length (fun s=>iw (aN st li rv) note t l s) s).2:=fun h=>absurd (hF1.symm.trans h) p58;exact kP H (SR fun _ jh=>Rm rfl (ak jh rfl (LR results199 rfl fun H=>H.hp.dh (L':=gY b ms ml mr mb mu s2.n :: (mb,gW (ig (kg s2.bE y.id))) :: L) (by repeat (first|exact dx _|apply List.Sublist.cons)) ⟨⟨s2.n,kg s2.bE y.id⟩,aC vi hF1.symm,rfl,hF2⟩)))
   intro jD a H
   try have p58:=dF jD
   have e58:nZ s2.bE y.id=0:=gF.1 p58;refine kP H (Kc gJ (SQ fun _ jo=>SR fun _ iU=>Rm rfl (Rf KE rfl ?_)));clear H gJ;intro a H;refine bD nC (cs:=[_,_,_,_,_]) H wn rfl rfl (H.hp.eu 0 rfl rfl) rfl ?_;clear H;intro a H;refine iH KA (Li:=[_,_,_]) (L:=gY b ms ml mr mb mu s2.n :: (mb,gW (ig (kg s2.bE y.id))) :: L) H wn rfl (KU _ _ _ st li rv b ms ml mr mb mu _ VA (Hp.owns (Li:=[_,_,_]) H.hp) 10 y.head _ _ _ hch (by omega)) rfl ?_;clear H;rintro v63 _ _ a w ⟨rfl,rfl,rfl⟩ - H;dsimp only [lca,aS] at H;refine kH H (ak iU rfl (SR fun _ kX=>Rm rfl (Rc rfl (Kz kX (Cd rfl ?_ ?_))))) <;> clear H iU kX
   ·intro lq a H
    try have p65:=dT lq
    have hF1:(lC l.length (fun s=>iw (aN st li rv) note t l s) s).1=gB (aN st li rv) 10 y.head:=by rw [hE,hR2];simp [gK,jL,e58,p65]
    have hF2:(lC l.length (fun s=>iw (aN st li rv) note t l s) s).1=0→(⟨s2.n,kg s2.bE y.id⟩:CS)=(lC l.length (fun s=>iw (aN st li rv) note t l s) s).2:=fun h=>absurd (hF1.symm.trans h) p65;exact kP H (SR fun _ kY=>Rm rfl (ak kY rfl (LR results199 rfl fun H=>H.hp.dh (L':=gY b ms ml mr mb mu s2.n :: (mb,gW (ig (kg s2.bE y.id))) :: L) (by repeat (first|exact dx _|apply List.Sublist.cons)) ⟨⟨s2.n,kg s2.bE y.id⟩,aC vi hF1.symm,rfl,hF2⟩)))
   intro lq a H
   try have p65:=dF lq
   have e65:gB (aN st li rv) 10 y.head=0:=gF.1 p65;refine kP H (Kc jo (SR fun _ jT=>Rm rfl (aW AQ iM 0 rfl rfl ?_)));clear H jo;intro a H;refine bD R7 (cs:=[_,_,_]) H wn rfl rfl (H.hp.eu 2 rfl rfl) rfl ?_;clear H;intro a H;refine iH Nf (Li:=[_,_,_]) (L:=gY b ms ml mr mb mu s2.n :: (mb,gW (ig (kg s2.bE y.id))) :: L) H wn rfl (ih _ _ _ st li rv b ms ml mr mb mu ⟨s2.n,kg s2.bE y.id⟩ y.flow _ false note t VA (Hp.owns (Li:=[_,_,_]) H.hp) hcf (by omega) ht0 Ck hm0 (by dsimp only;omega)) rfl ?_;clear H;rintro v71 _ _ a w ⟨rfl,s3,rfl,rfl,h3⟩ - H;dsimp only [lca,aS] at H;refine kH H (ak jT rfl (SR fun _ lG=>Rm rfl (Rc rfl (Kz lG (Cd rfl ?_ ?_))))) <;> clear H jT lG
   ·intro lM a H
    try have p73:=dT lM
    have hF1:(lC l.length (fun s=>iw (aN st li rv) note t l s) s).1=(iG (aN st li rv) false note t y.flow ⟨s2.n,kg s2.bE y.id⟩).1:=by rw [hE,hR2];simp [gK,jL,e58,e65,p73]
    have hF2:(lC l.length (fun s=>iw (aN st li rv) note t l s) s).1=0→s3=(lC l.length (fun s=>iw (aN st li rv) note t l s) s).2:=fun h=>absurd (hF1.symm.trans h) p73;exact kP H (SR fun _ lH=>Rm rfl (ak lH rfl (LR results199 rfl fun H=>H.hp.dh (L':=gY b ms ml mr mb mu s3.n :: (mb,gW (ig s3.bE)) :: L) (by repeat (first|exact dx _|apply List.Sublist.cons)) ⟨s3,aC vi hF1.symm,rfl,hF2⟩)))
   intro lM a H
   try have p73:=dF lM
   have TF:(iG (aN st li rv) false note t y.flow ⟨s2.n,kg s2.bE y.id⟩).1=0:=gF.1 p73;obtain ⟨hu1,hu2⟩:=Sc (aN st li rv) false note t y.flow ⟨s2.n,kg s2.bE y.id⟩;rw [← h3 TF] at hu1 hu2;dsimp only at hu1 hu2
   have hS:gK (gK (gK (jL s2 y.id) fun s=>gK (gB (aN st li rv) 10 y.head,s) fun s=>iG (aN st li rv) false note t y.flow s) fun s=>nQ (aN st li rv) note t (l[k].cells.drop (c+1)) s) (fun s=>iw (aN st li rv) note t (l.drop (k+1)) s)=gK (nQ (aN st li rv) note t (l[k].cells.drop (c+1)) s3) (fun s=>iw (aN st li rv) note t (l.drop (k+1)) s):=by
    rw [h3 TF];simp [gK,jL,e58,e65,TF]
   refine kP H (Kc eH (SC (Rd rfl (Rm rfl ?_))));clear H eH;intro a H;refine aI ?_;refine dP ((c+1,s3,g2)) (by exact (H.dK (Pl:=[_,_,_,_,_]) (dw:=[_,_,_,_]) [1,2,3,4] (by decide) rfl).sub ⟨rfl,rfl,rfl,rfl,rfl,rfl,rfl,rfl,av⟩) ?_ ?_
   ·(try dsimp only);exact ⟨by omega,Qy,hR2.trans hS,by omega,by omega⟩
   first|omega|(dsimp only;omega)
  intro h50 a H
  try have p50:=dF h50
  refine eD ?_;refine bQ _ _ ?_;clear bQ;refine kP H (SC (Rd rfl (Rm rfl ?_)));clear H;intro a H;refine aI ?_;refine dP ((k+1,s2,g2)) (by exact (H.dK (Pl:=[_,_,_,_]) (dw:=[_,_,_]) [1,2,3] (by decide) rfl).sub ⟨rfl,rfl,rfl,rfl,rfl,av⟩) ?_ ?_
  ·(try dsimp only);exact ⟨by omega,jX,by rw [hR2,gy (by omega),nQ,uw rfl],hm0,by omega⟩
  first|omega|(dsimp only;omega)
 intro eP a H
 try have nA:=dF eP
 refine eD ?_;refine K8 _ _ ?_;clear K8;refine aO (fun _ kL=>?_)
 have hF1:(lC l.length (fun s=>iw (aN st li rv) note t l s) s).1=0:=by rw [hE,hR,gy (by omega),iw]
 have hF2:(lC l.length (fun s=>iw (aN st li rv) note t l s) s).1=0→s1=(lC l.length (fun s=>iw (aN st li rv) note t l s) s).2:=fun h=>by rw [hE,hR,gy (by omega),iw]
 exact kP H (SC (aM kL rfl (LR results199 rfl fun H=>H.hp.dh (L':=gY b ms ml mr mb mu s1.n :: (mb,gW (ig s1.bE)) :: L) (by repeat (first|exact dx _|apply List.Sublist.cons)) ⟨s1,aC vi hF1.symm,rfl,hF2⟩)))
end
section
open Go.RowKit
theorem aiC:∀ args w,(callFunc 199 args).run prog w=.ok (.enter 199 args) w:=enters func199 rfl (by kernel_rfl)
theorem aiB:∀ args w,(callFunc 197 args).run prog w=.ok (.enter 197 args) w:=enters func197 rfl (by kernel_rfl)
theorem IL:dV prog 140 5 5:=⟨by kernel_rfl⟩
theorem ajT:dV prog 136 0 0:=⟨by kernel_rfl⟩
theorem aow {G:GH} {b:Nat} {x:Int} (h:G b=some (.cells #[vi x] 22 (0,0))):aB G (.sl 1 ([x].map fun k=>[li k])) (.slice (some ⟨b,0,none⟩) 1 1):=JD [x] h (show 1≤maxLen by decide)
theorem anC {m:Nat} (ih:Ke m) (hm:m≤4294967296) (Gt:GH) (L:OL) (w0:World) (st:List cK) (li:List eT) (rv:List fF) (b ms ml mr mb mu:Nat) (s:CS) (x:ay) (p d y f r:aj) (body note:Bool) (t:Int)
  (hck:yh Gt st li rv ms ml mr mu) (hO:jQ Gt (gY b ms ml mr mb mu s.n :: (mb,gW (ig s.bE)) :: L) w0) (hh:mF Gt x.head p d y) (hf:aB Gt (.sl 11 (x.flow.map ay.dat)) f) (hr:aB Gt (.sl 6 (x.rows.map bJ.dat)) r) (hz:dG x.dat≤m) (ht0:0≤t) (Ck:t≤4) (hs0:0≤s.n) (hs1:s.n+(dG x.dat:Nat)≤1099511627776) :
  Calls prog 140 #[(aK b 0),.agg #[vi x.kind,vi x.code,vi x.id,.string x.text,p,vi x.head.marks.ins,vi x.head.marks.move,d,y,f,r],.agg #[.bool body,.bool note,vi t]] w0 (jk w0 Gt (gY b ms ml mr mb mu s.n :: (mb,gW (ig s.bE)) :: L) fun u G' L'=>O6 b ms ml mr mb mu L (fK (aN st li rv) body note t x s) u L'):=by
 obtain ⟨pA,pn,pc,rfl⟩:=hh.props.form;obtain ⟨dA,dn,dc,rfl⟩:=hh.bU.form;obtain ⟨lA,ln,lc,rfl⟩:=hh.layers.form;obtain ⟨fA,fc,rfl,-⟩:=hf.slice;obtain ⟨rA,rc,rfl,-⟩:=hr.slice;(iterate 2 rw [bZ] at *);have hxz:=oK x;have hcl:=FR x.text
 have Wy:gP x≤x.text.size+1:=by unfold gP;split <;> omega
 have hE:=Oq (aN st li rv) body note t x s;refine mH (N:=117) (T:=[(0,_),(1,_),(2,_)]) func140 rfl ntmps140 rfl rfl hO ?_;intro a H;refine dz (fun _ K1=>?_);refine eU (cs:=[_,_,_,_,_,_,_,_,_,_,_]) H wn rfl rfl rfl ?_;clear H;intro b4 a w hb4 H;refine eU (cs:=[_,_,_]) H wn rfl rfl rfl ?_;clear H;intro b5 a w hb5 H;refine kH H (ak K1 rfl (SQ fun _ K2=>SR fun _ K3=>?_));clear H K1;intro a H;refine bD dB (cs:=[_,_,_,_,_,_,_,_,_,_,_]) H wn rfl rfl (H.hp.eu 1 rfl rfl) rfl ?_;clear H;intro a H;refine s_call aiB H wn rfl (akt _ _ H.ro x _ _ _ _ _ _ _ (by omega)) rfl ?_;clear H;rintro v15 _ a w ⟨rfl,rfl⟩ - H;refine kH H (ak K3 rfl (SR fun _ K4=>Rm rfl (Rc rfl (Kz K4 (Cd rfl ?_ ?_))))) <;> clear H K3 K4
 ·intro dS a H
  try have mJ:=dT dS
  rw [uU (r:=(jW x,s)) mJ] at hE;exact kP H (SR fun _ K5=>Rm rfl (ak K5 rfl (LR results140 rfl fun H=>H.hp.dh (L':=gY b ms ml mr mb mu s.n :: (mb,gW (ig s.bE)) :: L) (by repeat (first|exact dx _|apply List.Sublist.cons)) ⟨s,by rw [hE],rfl,fun h=>by rw [hE]⟩)))
 intro dS a H
 try have mJ:=dF dS
 rw [uw (r:=(jW x,s)) (gF.1 mJ)] at hE;dsimp only at hE;refine kP H (Kc K2 (SR fun _ K6=>Rm rfl (Rk rfl (aW IL aD 2 rfl rfl (Rd rfl (Rk rfl (Rf IL rfl ?_)))))));clear H K2;intro a H;refine bO aD 2 (vs:=[_]) _ H wn rfl rfl rfl rfl rfl rfl rfl rfl ?_;clear H;intro w H;dsimp only [List.set,setRow] at H;refine K6 _ _ ?_;clear K6;refine oO (ι:=CS × GH) (Tc:=[(0,_),(4,_),(5,_)]) (Lc:=[(_,_),(_,_)]) (fun gh=>[]) (fun gh=>[gY b ms ml mr mb mu gh.1.n,(mb,gW (ig gh.1.bE))]++L) (fun gh=>gh.2) (fun gh=>kU body note t x.kind x.id ⟨s.n+(gP x:Nat),s.bE⟩=(0,gh.1)∧(∀ b o,Gt b=some o→gh.2 b=some o)∧gh.1.n=s.n+(gP x:Nat)∧(x.kind=7→t < 4)) (by exact (H).sub ⟨rfl,rfl,rfl,av⟩) ?_ ?_
 ·skip;refine kP H (SR fun _ K7=>aW gG aD 1 rfl rfl (Kz K7 (SB (SR fun _ K8=>Rc rfl (ak K8 rfl (Cd rfl ?_ ?_)))))) <;> clear H K7 K8
  ·intro iE a H
   try have p28:=dT iE
   have hu:((gP x:Nat):Int)=yE x.text:=by rw [gP,au p28]
   refine kP H (SR fun _ K9=>aW uz gX 1 rfl rfl ?_);clear H;intro a H;refine s_call Qa H wn rfl (PV _ _ H.ro x.text (by omega)) rfl ?_;clear H;rintro v33 _ a w ⟨rfl,rfl⟩ - H;refine kH H (Rm rfl ?_);clear H;intro a H;(iterate 2 refine lD H wn rfl rfl rfl ?_;clear H;intro a H);refine kH H (Ra rfl (ak K9 rfl (SC (Rm rfl (Rk rfl (aW IL aD 2 rfl rfl (Rm rfl (Rs rfl (Rd rfl ?_)))))))));clear H K9;intro a H;rw [show s.n+1+((yE x.text:Int) - 1)=s.n+(gP x:Nat) by omega] at H;refine kH H (Rk rfl (Rf IL rfl ?_));clear H;intro a H;refine bO aD 2 (vs:=[_]) _ H wn rfl rfl rfl rfl rfl rfl rfl rfl ?_;clear H;intro w H;dsimp only [List.set,setRow] at H;refine aI ?_;refine ⟨(⟨s.n+(gP x:Nat),s.bE⟩,Gt),by exact (H).sub ⟨rfl,rfl,rfl,av⟩,?_⟩;(try dsimp only)
   first
   | exact ⟨by simp_all [kU,bS,gK,jL],fun _ _ h=>h,rfl,fun h7=>by first|omega|(exfalso;simp_all)⟩
   | exact ⟨by simp_all [kU,bS,gK,jL],zR,rfl,fun h7=>by first|omega|(exfalso;simp_all)⟩
  intro iE a H
  try have p28:=dF iE
  have hu:((gP x:Nat):Int)=1:=by rw [gP,ah p28];rfl
  rw [show s.n+1=s.n+((gP x:Nat):Int) by omega] at H;refine kP H (SR fun _ aZ=>Rc rfl (ak aZ rfl (Cd rfl ?_ ?_))) <;> clear H aZ
  ·intro h45 a H
   try have p45:=dT h45
   refine kP H (SR fun _ bN=>aW ajT nN 0 rfl rfl (Rn rfl (Kz bN (Cd rfl ?_ ?_)))) <;> clear H bN
   ·intro qI a H
    try have p49:=dT qI
    refine aO (fun _ bQ=>?_)
    have hF1:(fK (aN st li rv) body note t x s).1=19:=by rw [hE];simp [gK,kU,p45,bS,qI]
    have hF2:(fK (aN st li rv) body note t x s).1=0→(⟨s.n+(gP x:Nat),s.bE⟩:CS)=(fK (aN st li rv) body note t x s).2:=fun h=>absurd (hF1.symm.trans h) (by decide);exact kP H (SC (aM bQ rfl (LR results140 rfl fun H=>H.hp.dh (L':=gY b ms ml mr mb mu (s.n+(gP x:Nat)) :: (mb,gW (ig (s.bE))) :: L) (by repeat (first|exact dx _|apply List.Sublist.cons)) ⟨⟨s.n+(gP x:Nat),s.bE⟩,aC vi hF1.symm,rfl,hF2⟩)))
   intro qI a H
   try have p49:=dF qI
   refine fI ?_;refine ⟨(⟨s.n+(gP x:Nat),s.bE⟩,Gt),by exact (H).sub ⟨rfl,rfl,rfl,av⟩,?_⟩;(try dsimp only)
   first
   | exact ⟨by simp_all [kU,bS,gK,jL],fun _ _ h=>h,rfl,fun h7=>by first|omega|(exfalso;simp_all)⟩
   | exact ⟨by simp_all [kU,bS,gK,jL],zR,rfl,fun h7=>by first|omega|(exfalso;simp_all)⟩
  intro h45 a H
  try have p45:=dF h45
  refine kP H (SR fun _ bT=>Rc rfl (ak bT rfl (Cd rfl ?_ ?_))) <;> clear H bT
  ·intro h50 a H
   try have p50:=dT h50
   refine kP H (SQ fun _ cu=>SR fun _ dL=>aW Un nN 0 rfl rfl ?_);clear H;intro a H;refine s_call kS H wn rfl (kW _ _ H.ro _ 19) rfl ?_;clear H;rintro v54 _ a w ⟨rfl,rfl⟩ - H;refine jF rU jg [_] [_] H wn rfl rfl rfl rfl rfl (by intro i q h;match i,h with|0,h=>exact h|n+1,h=>simp at h) rfl rfl ?_;clear H;intro b55 a w asJ H;obtain ⟨SA,zR,aln,H⟩:=H.fD;refine s_call tH H wn rfl (tJ _ _ H.ro _ _ (aow aln)) rfl ?_;clear H;rintro v56 _ a w ⟨rfl,rfl⟩ - H;refine kH H (ak dL rfl (SR fun _ dO=>Rm rfl (Rc rfl (Kz dO (Cd rfl ?_ ?_))))) <;> clear H dL dO
   ·intro jD a H
    try have p58:=dT jD
    have e58:bS note 19≠0:=fun h=>p58 (by rw [h];rfl)
    have amW:bV [bS note 19]=bS note 19:=by simp [bV,e58]
    rw [amW] at H
    have hF1:(fK (aN st li rv) body note t x s).1=bS note 19:=by rw [hE];simp [gK,kU,p50,e58]
    have hF2:(fK (aN st li rv) body note t x s).1=0→(⟨s.n+(gP x:Nat),s.bE⟩:CS)=(fK (aN st li rv) body note t x s).2:=fun h=>absurd (hF1.symm.trans h) (e58);exact kP H (SR fun _ dJ=>Rm rfl (ak dJ rfl (LR results140 rfl fun H=>H.hp.dh (L':=gY b ms ml mr mb mu (s.n+(gP x:Nat)) :: (mb,gW (ig (s.bE))) :: L) (by repeat (first|exact dx _|apply List.Sublist.cons)) ⟨⟨s.n+(gP x:Nat),s.bE⟩,aC vi hF1.symm,rfl,hF2⟩)))
   intro jD a H
   try have p58:=dF jD
   have e58:bS note 19=0:=Decidable.byContradiction fun h=>p58 (by simp [bV,h]);refine kP H (Kc cu (SR fun _ dW=>Rm rfl (aW qg aD 1 rfl rfl ?_)));clear H cu;intro a H;refine iH TR (Li:=[_,_]) (L:=gY b ms ml mr mb mu _ :: (mb,gW (ig s.bE)) :: L) H wn rfl (Tq _ _ _ st li rv b ms ml mr mb mu _ s.bE x.id (hck.mono zR) (Hp.owns (Li:=[_,_]) H.hp)) rfl ?_;clear H;rintro v63 _ _ a w ⟨rfl,rfl,rfl⟩ - H;dsimp only [lca,aS] at H;refine kH H (ak dW rfl (SR fun _ eG=>Rm rfl (Rc rfl (Kz eG (Cd rfl ?_ ?_))))) <;> clear H dW eG
   ·intro lq a H
    try have p65:=dT lq
    have hF1:(fK (aN st li rv) body note t x s).1=nZ s.bE x.id:=by rw [hE];simp [gK,kU,p50,e58,jL,p65]
    have hF2:(fK (aN st li rv) body note t x s).1=0→(⟨s.n+(gP x:Nat),kg s.bE x.id⟩:CS)=(fK (aN st li rv) body note t x s).2:=fun h=>absurd (hF1.symm.trans h) (p65);exact kP H (SR fun _ eB=>Rm rfl (ak eB rfl (LR results140 rfl fun H=>H.hp.dh (L':=gY b ms ml mr mb mu (s.n+(gP x:Nat)) :: (mb,gW (ig (kg s.bE x.id))) :: L) (by repeat (first|exact dx _|apply List.Sublist.cons)) ⟨⟨s.n+(gP x:Nat),kg s.bE x.id⟩,aC vi hF1.symm,rfl,hF2⟩)))
   intro lq a H
   try have p65:=dF lq
   have e65:nZ s.bE x.id=0:=gF.1 p65;refine fI ?_;refine ⟨(⟨s.n+(gP x:Nat),kg s.bE x.id⟩,SA),by exact (H).sub ⟨rfl,rfl,rfl,av⟩,?_⟩;(try dsimp only)
   first
   | exact ⟨by simp_all [kU,bS,gK,jL],fun _ _ h=>h,rfl,fun h7=>by first|omega|(exfalso;simp_all)⟩
   | exact ⟨by simp_all [kU,bS,gK,jL],zR,rfl,fun h7=>by first|omega|(exfalso;simp_all)⟩
  intro h50 a H
  try have p50:=dF h50
  refine kP H (SR fun _ eH=>Rc rfl (ak eH rfl (Cd rfl ?_ ?_))) <;> clear H eH
  ·intro xC a H
   try have p67:=dT xC
   refine kP H (SQ fun _ fO=>SR fun _ gJ=>aW Nk aD 0 rfl rfl (Rc rfl (Kz gJ (Cd rfl ?_ ?_)))) <;> clear H gJ
   ·intro vv a H
    try have p71:=dT vv
    refine aO (fun _ gT=>?_)
    have hF1:(fK (aN st li rv) body note t x s).1=17:=by rw [hE];simp [gK,kU,p67,bS,p71]
    have hF2:(fK (aN st li rv) body note t x s).1=0→(⟨s.n+(gP x:Nat),s.bE⟩:CS)=(fK (aN st li rv) body note t x s).2:=fun h=>absurd (hF1.symm.trans h) (by decide);exact kP H (SC (aM gT rfl (LR results140 rfl fun H=>H.hp.dh (L':=gY b ms ml mr mb mu (s.n+(gP x:Nat)) :: (mb,gW (ig (s.bE))) :: L) (by repeat (first|exact dx _|apply List.Sublist.cons)) ⟨⟨s.n+(gP x:Nat),s.bE⟩,aC vi hF1.symm,rfl,hF2⟩)))
   intro vv a H
   try have p71:=dF vv
   have e71:¬ 4≤t:=by omega
   refine kP H (Kc fO (SR fun _ gM=>Rm rfl (aW qg aD 1 rfl rfl ?_)));clear H fO;intro a H;refine iH TR (Li:=[_,_]) (L:=gY b ms ml mr mb mu _ :: (mb,gW (ig s.bE)) :: L) H wn rfl (Tq _ _ _ st li rv b ms ml mr mb mu _ s.bE x.id hck (Hp.owns (Li:=[_,_]) H.hp)) rfl ?_;clear H;rintro v75 _ _ a w ⟨rfl,rfl,rfl⟩ - H;dsimp only [lca,aS] at H;refine kH H (ak gM rfl (SR fun _ jh=>Rm rfl (Rc rfl (Kz jh (Cd rfl ?_ ?_))))) <;> clear H gM jh
   ·intro vw a H
    try have DV:=dT vw
    have hF1:(fK (aN st li rv) body note t x s).1=nZ s.bE x.id:=by rw [hE];simp [gK,kU,p67,bS,e71,jL,DV]
    have hF2:(fK (aN st li rv) body note t x s).1=0→(⟨s.n+(gP x:Nat),kg s.bE x.id⟩:CS)=(fK (aN st li rv) body note t x s).2:=fun h=>absurd (hF1.symm.trans h) (DV);exact kP H (SR fun _ jo=>Rm rfl (ak jo rfl (LR results140 rfl fun H=>H.hp.dh (L':=gY b ms ml mr mb mu (s.n+(gP x:Nat)) :: (mb,gW (ig (kg s.bE x.id))) :: L) (by repeat (first|exact dx _|apply List.Sublist.cons)) ⟨⟨s.n+(gP x:Nat),kg s.bE x.id⟩,aC vi hF1.symm,rfl,hF2⟩)))
   intro vw a H
   try have DV:=dF vw
   have e77:nZ s.bE x.id=0:=gF.1 DV;refine fI ?_;refine ⟨(⟨s.n+(gP x:Nat),kg s.bE x.id⟩,Gt),by exact (H).sub ⟨rfl,rfl,rfl,av⟩,?_⟩;(try dsimp only)
   first
   | exact ⟨by simp_all [kU,bS,gK,jL],fun _ _ h=>h,rfl,fun h7=>by first|omega|(exfalso;simp_all)⟩
   | exact ⟨by simp_all [kU,bS,gK,jL],zR,rfl,fun h7=>by first|omega|(exfalso;simp_all)⟩
  intro xC a H
  try have p67:=dF xC
  refine kP H (SR fun _ iU=>Rc rfl (ak iU rfl (Cd rfl ?_ ?_))) <;> clear H iU
  ·intro jw a H
   try have Ab:=dT jw
   refine kP H (SR fun _ kX=>aW qg aD 1 rfl rfl ?_);clear H;intro a H;refine s_call zJ H wn rfl (zX _ _ H.ro x.id 1 1073741824) rfl ?_;clear H;rintro v83 _ a w ⟨rfl,rfl⟩ - H;refine kH H (Rn rfl (Kz kX (Cd rfl ?_ ?_))) <;> clear H kX
   ·intro h84 a H
    try have Xo:=dT h84
    refine aO (fun _ kY=>?_)
    have e84:¬ (1≤x.id∧x.id≤1073741824):=by have h0:=h84;simp at h0;omega
    have hF1:(fK (aN st li rv) body note t x s).1=18:=by rw [hE];simp [gK,kU,Ab,bS,e84]
    have hF2:(fK (aN st li rv) body note t x s).1=0→(⟨s.n+(gP x:Nat),s.bE⟩:CS)=(fK (aN st li rv) body note t x s).2:=fun h=>absurd (hF1.symm.trans h) (by decide);exact kP H (SC (aM kY rfl (LR results140 rfl fun H=>H.hp.dh (L':=gY b ms ml mr mb mu (s.n+(gP x:Nat)) :: (mb,gW (ig (s.bE))) :: L) (by repeat (first|exact dx _|apply List.Sublist.cons)) ⟨⟨s.n+(gP x:Nat),s.bE⟩,aC vi hF1.symm,rfl,hF2⟩)))
   intro h84 a H
   try have Xo:=dF h84
   refine fI ?_;refine ⟨(⟨s.n+(gP x:Nat),s.bE⟩,Gt),by exact (H).sub ⟨rfl,rfl,rfl,av⟩,?_⟩;(try dsimp only)
   first
   | exact ⟨by simp_all [kU,bS,gK,jL],fun _ _ h=>h,rfl,fun h7=>by first|omega|(exfalso;simp_all)⟩
   | exact ⟨by simp_all [kU,bS,gK,jL],zR,rfl,fun h7=>by first|omega|(exfalso;simp_all)⟩
  intro jw a H
  try have Ab:=dF jw
  refine fI ?_;refine ⟨(⟨s.n+(gP x:Nat),s.bE⟩,Gt),by exact (H).sub ⟨rfl,rfl,rfl,av⟩,?_⟩;(try dsimp only)
  first
  | exact ⟨by simp_all [kU,bS,gK,jL],fun _ _ h=>h,rfl,fun h7=>by first|omega|(exfalso;simp_all)⟩
  | exact ⟨by simp_all [kU,bS,gK,jL],zR,rfl,fun h7=>by first|omega|(exfalso;simp_all)⟩
 clear H;intro gh a w hI H;obtain ⟨s1,g⟩:=gh;dsimp only at hI H;obtain ⟨hP,zS,ate,ht7⟩:=hI;rw [hP,uw rfl] at hE;dsimp only at hE;replace hck:=hck.mono zS;replace hh:=hh.mono zS;replace hf:=hf.mono zS;replace hr:=hr.mono zS;dsimp only [lca,aS] at H;refine kP H (SQ fun _ jT=>SR fun _ lG=>Rm rfl (aW gG aD 1 rfl rfl (Rf Ew rfl ?_)));clear H;intro a H;refine bD nC (cs:=[_,_,_,_,_]) H wn rfl rfl (H.hp.eu 1 rfl rfl) rfl ?_;clear H;intro a H;refine iH KA (Li:=[_,_]) (L:=gY b ms ml mr mb mu s1.n :: (mb,gW (ig s1.bE)) :: L) H wn rfl (KU _ _ _ st li rv b ms ml mr mb mu _ hck (Hp.owns (Li:=[_,_]) H.hp) x.kind x.head _ _ _ hh (by omega)) rfl ?_;clear H;rintro v90 _ _ a w ⟨rfl,rfl,rfl⟩ - H;dsimp only [lca,aS] at H;refine kH H (ak lG rfl (SR fun _ lH=>Rm rfl (Rc rfl (Kz lH (Cd rfl ?_ ?_))))) <;> clear H lG lH
 ·intro zN a H
  try have LM:=dT zN
  have hF1:(fK (aN st li rv) body note t x s).1=gB (aN st li rv) x.kind x.head:=by rw [hE,uU (r:=(gB (aN st li rv) x.kind x.head,s1)) LM]
  have hF2:(fK (aN st li rv) body note t x s).1=0→s1=(fK (aN st li rv) body note t x s).2:=fun h=>absurd (hF1.symm.trans h) LM;exact kP H (SR fun _ kL=>Rm rfl (ak kL rfl (LR results140 rfl fun H=>H.hp.dh (L':=gY b ms ml mr mb mu (s1.n) :: (mb,gW (ig (s1.bE))) :: L) (by repeat (first|exact dx _|apply List.Sublist.cons)) ⟨s1,aC vi hF1.symm,rfl,hF2⟩)))
 intro zN a H
 try have LM:=dF zN
 rw [uw (r:=(gB (aN st li rv) x.kind x.head,s1)) (gF.1 LM)] at hE;dsimp only at hE;refine kP H (Kc jT (SQ fun _ mQ=>SR fun _ mR=>aW gG aD 1 rfl rfl (Kz mR (SB (SR fun _ nD=>Rc rfl (ak nD rfl (Cd rfl ?_ ?_))))))) <;> clear H jT mR nD
 ·intro vB a H
  try have OE:=dT vB
  rw [au OE] at hE;refine kP H (SR fun _ rX=>Rm rfl (aW yI iM 1 rfl rfl (aW Nk aD 0 rfl rfl ?_)));clear H;intro a H;refine lY Hf [_,_,_] H wn rfl rfl rfl rfl ?_;clear H;intro a H;refine iH Nf (Li:=[_,_]) (L:=gY b ms ml mr mb mu s1.n :: (mb,gW (ig s1.bE)) :: L) H wn rfl (ih _ _ _ st li rv b ms ml mr mb mu s1 x.flow _ false true t hck (Hp.owns (Li:=[_,_]) H.hp) hf (by omega) ht0 Ck (by omega) (by omega)) rfl ?_;clear H;rintro atA _ _ a w ⟨rfl,s3,rfl,rfl,h3⟩ - H;dsimp only [lca,aS] at H
  have hF1:(fK (aN st li rv) body note t x s).1=(iG (aN st li rv) false true t x.flow s1).1:=by rw [hE]
  have hF2:(fK (aN st li rv) body note t x s).1=0→s3=(fK (aN st li rv) body note t x s).2:=by rw [hE];exact h3
  exact kH H (ak rX rfl (LR results140 rfl fun H=>H.hp.dh (L':=gY b ms ml mr mb mu (s3.n) :: (mb,gW (ig (s3.bE))) :: L) (by repeat (first|exact dx _|apply List.Sublist.cons)) ⟨s3,aC vi hF1.symm,rfl,hF2⟩))
 intro vB a H
 try have OE:=dF vB
 rw [ah OE] at hE;refine kP H (SR fun _ wL=>Rc rfl (ak wL rfl (Cd rfl ?_ ?_))) <;> clear H wL
 ·intro tK a H
  try have LK:=dT tK
  rw [au LK] at hE;refine kP H (SR fun _ mg=>Rm rfl (aW rC rR 1 rfl rfl (aW Un nN 0 rfl rfl (aW Nk aD 0 rfl rfl (Rd rfl ?_)))));clear H;intro a H;refine lY Hf [_,_,_] H wn rfl rfl rfl rfl ?_;clear H;intro a H;refine iH aiC (Li:=[_,_]) (L:=gY b ms ml mr mb mu s1.n :: (mb,gW (ig s1.bE)) :: L) H wn rfl (rows_ok ih hm _ _ _ st li rv b ms ml mr mb mu s1 x.rows _ note (t+1) hck (Hp.owns (Li:=[_,_]) H.hp) hr (by omega) (by omega) (by have:=ht7 LK;omega) (by omega) (by omega)) rfl ?_;clear H;rintro aeX _ _ a w ⟨s3,rfl,rfl,h3⟩ - H;dsimp only [lca,aS] at H
  have hF1:(fK (aN st li rv) body note t x s).1=(lC x.rows.length (fun s=>iw (aN st li rv) note (t+1) x.rows s) s1).1:=by rw [hE]
  have hF2:(fK (aN st li rv) body note t x s).1=0→s3=(fK (aN st li rv) body note t x s).2:=by rw [hE];exact h3
  exact kH H (ak mg rfl (LR results140 rfl fun H=>H.hp.dh (L':=gY b ms ml mr mb mu (s3.n) :: (mb,gW (ig (s3.bE))) :: L) (by repeat (first|exact dx _|apply List.Sublist.cons)) ⟨s3,aC vi hF1.symm,rfl,hF2⟩))
 intro tK a H
 try have LK:=dF tK
 rw [ah LK] at hE
 have hF1:(fK (aN st li rv) body note t x s).1=0:=by rw [hE]
 have hF2:(fK (aN st li rv) body note t x s).1=0→s1=(fK (aN st li rv) body note t x s).2:=fun h=>by rw [hE]
 exact kP H (Kc mQ (SR fun _ zB=>ak zB rfl (LR results140 rfl fun H=>H.hp.dh (L':=gY b ms ml mr mb mu (s1.n) :: (mb,gW (ig (s1.bE))) :: L) (by repeat (first|exact dx _|apply List.Sublist.cons)) ⟨s1,aC vi hF1.symm,rfl,hF2⟩)))
end
section
open Go.RowKit
theorem ahT:∀ args w,(callFunc 140 args).run prog w=.ok (.enter 140 args) w:=enters func140 rfl (by kernel_rfl)
theorem ahS:∀ args w,(callFunc 139 args).run prog w=.ok (.enter 139 args) w:=enters func139 rfl (by kernel_rfl)
def YU (fv:aj) (Gi:GH) (n:Nat) (E:Nat→Int) {σ:Type} (B:σ→OL) (S:Nat→σ):Prop:=∀ i,i < n→∀ (G1:GH) (w1:World),(∀ b o,Gi b=some o→G1 b=some o)→jQ G1 (B (S i)) w1 →
 yg prog fv [vi i] w1 (jk w1 G1 (B (S i)) fun u G' L'=>∃ s,u=vi (E i)∧L'=B s∧(E i=0→s=S (i+1)))
theorem afQ (G:GH) (w0:World) {σ:Type} (B:σ→OL) (S:Nat→σ) (n:Nat) (E:Nat→Int) (fv:aj) (hO:jQ G (B (S 0)) w0) (hn:n≤4611686018427387904) (hf:YU fv G n E B S) :
  Calls prog 119 #[vi n,fv] w0 (jk w0 G (B (S 0)) fun u G' L'=>∃ s,u=vi (iQ E n)∧L'=B s∧(iQ E n=0→s=S n)):=by
 refine mH (N:=18) (T:=[(0,_),(1,_)]) func119 rfl ntmps119 rfl rfl hO ?_;intro a H;refine kP H (SR fun _ K1=>ak K1 rfl (SQ fun _ K2=>SR fun _ K3=>Rm rfl (Rm rfl (Kz K3 (SB ?_)))));clear H K1 K3;intro a H;skip;refine fH (ι:=Nat × GH) (Tc:=[(1,_),(7,_)]) (Lc:=[]) (fun gh=>[(8,vi gh.1)]) (fun gh=>[]++B (S gh.1)) (fun gh=>gh.2) (fun gh=>gh.1≤n∧bV (((List.range n).map E).drop gh.1)=iQ E n∧(∀ b o,G b=some o→gh.2 b=some o)) (fun gh=>n - gh.1) ((0,G)) (by exact (H).sub ⟨rfl,rfl,rfl,av⟩) ?_ ?_
 ·exact ⟨iK _,rfl,fun _ _ h=>h⟩
 clear H;intro gh a w hI H;obtain ⟨k,g⟩:=gh;dsimp only at hI H;obtain ⟨hk,he,hgm⟩:=hI;dsimp only [lca,aS] at H;refine kP H (SR fun _ K4=>Rc rfl (Kz K4 (SQ fun _ K5=>Cd rfl ?_ ?_))) <;> clear H K4
 ·intro h9 a H
  try have p9:=dT h9
  have hk2:k < n:=by omega
  refine kP H (Kc K5 (SQ fun _ K6=>SB (SR fun _ K7=>Rm rfl (ak K7 rfl (SR fun _ K8=>Rm rfl (Rm rfl ?_))))));clear H K5 K7;intro a H;refine xU (Li:=[]) (L:=B (S k)) H wn rfl rfl (hf k hk2 _ _ hgm (Hp.owns (Li:=[]) H.hp)) rfl ?_;clear H;rintro v13 CQ L13 a w ⟨s3,rfl,rfl,h3⟩ uI H;refine kH H (ak K8 rfl (SR fun _ K9=>Rm rfl (Rc rfl (Kz K9 (Cd rfl ?_ ?_))))) <;> clear H K8 K9
  ·intro jO a H
   try have qw:=dT jO
   have hE:iQ E n=E k:=by rw [qZ hk2,au qw] at he;exact he.symm
   exact kP H (SR fun _ aZ=>Rm rfl (ak aZ rfl (LR results119 rfl fun H=>H.hp.gL ⟨s3,by rw [hE],rfl,fun h=>absurd (hE.symm.trans h) qw⟩)))
  intro jO a H
  try have qw:=dF jO
  have hS:=h3 (gF.1 qw);subst hS;refine kP H (Kc K6 (SC (Rd rfl (Rm rfl ?_))));clear H K6;intro a H;refine aI ?_;refine dP ((k+1,CQ)) (by exact (H).sub ⟨rfl,rfl,rfl,av⟩) ?_ ?_
  ·(try dsimp only);exact ⟨by omega,by rw [qZ hk2,ah qw] at he;exact he,fun b o h=>uI b o (hgm b o h)⟩
  first|omega|(dsimp only;omega)
 intro h9 a H
 try have p9:=dF h9
 refine eD ?_;refine K2 _ _ ?_;clear K2;exact kP H (SR fun _ bN=>ak bN rfl (LR results119 rfl fun H=>H.hp.gL ⟨S n,aC vi (by rw [gy (by simp;omega)] at he;exact he),by rw [show k=n by omega],fun _=>rfl⟩))
abbrev PS (b ms ml mr mb mu:Nat) (L:OL) (s:CS):OL:=gY b ms ml mr mb mu s.n :: (mb,gW (ig s.bE)) :: L
theorem anB {m:Nat} (ih:Ke m) (hm:m≤4294967296) {G:GH} {L:OL} {st:List cK} {li:List eT} {rv:List fF} {b ms ml mr mb mu:Nat} {s:CS} {l:List ay} {v:aj} {body note:Bool} {t:Int} {x3 x4 x5:Nat}
  (hck:yh G st li rv ms ml mr mu) (h3:aH G x3 0=some (aK b 0)) (h4:aH G x4 0=some v) (h5:∀ (j:Nat) (u:aj),[.bool body,.bool note,vi t][j]?=some u→aH G x5 (0+j)=some u)
  (hv:aB G (.sl 11 (l.map ay.dat)) v) (hz:bM l≤m) (ht0:0≤t) (Ck:t≤4) (hs0:0≤s.n) (hs1:s.n+(bM l:Nat)≤1099511627776) :
  YU (.func (.func 139) #[] #[(aK x3 0),(aK x4 0),(aK x5 0)]) G l.length (Ev (fK (aN st li rv) body note t) l s) (PS b ms ml mr mb mu L) (sQ (fK (aN st li rv) body note t) l s):=by
 intro k hk G1 w0 NZ hO;refine mU (caps:=[(aK x3 0),(aK x4 0),(aK x5 0)]) ahS ?_;replace h3:=aF NZ h3;replace h4:=aF NZ h4;replace h5:=fun j u hj=>aF NZ (h5 j u hj);replace hck:=hck.mono NZ;replace hv:=hv.mono NZ;obtain ⟨A,c,rfl,hc1,hc2,hg⟩:=hv.slice;rw [bZ] at *;obtain ⟨o,xo,pA,pn,pc,dA,dn,dc,yA,yn,yc,fA,fn,fc,rA,rn,rc,rfl,hrow,hhd,hfl,hrw⟩:=EB hk hg;obtain ⟨hn0,hn1⟩:=aeS (aN st li rv) body note t l s k (by omega)
 have hdz:bM (l.drop k)=1+dG l[k].dat+bM (l.drop (k+1)):=by
  simp only [bM];rw [kR hk,fJ,fB]
 have Jy:=Mj (jr hk)
 have hE:Ev (fK (aN st li rv) body note t) l s k=(fK (aN st li rv) body note t l[k] (sQ (fK (aN st li rv) body note t) l s k)).1:=by unfold Ev;rw [gD hk]
 have hS:sQ (fK (aN st li rv) body note t) l s (k+1)=(fK (aN st li rv) body note t l[k] (sQ (fK (aN st li rv) body note t) l s k)).2:=by rw [sQ,gD hk]
 rw [hE,hS]
 generalize sQ (fK (aN st li rv) body note t) l s k=s1 at *
 refine mH (N:=13) (T:=[(0,_),(1,_),(2,_),(3,_)]) func139 rfl ntmps139 rfl rfl hO ?_;intro a H;refine kP H (SR fun _ K1=>ak K1 rfl (SQ fun _ K2=>?_));clear H K1;intro a H;refine dI hmx [[],[],[],[1,2],[1,2,3],[],(ra 0 6),(ra 0 7)] [6,7] (by kernel_rfl) [_,_,_,_,.agg #[vi l[k].kind,vi l[k].code,vi l[k].id,.string l[k].text,.slice pA pn pc,vi l[k].head.marks.ins,vi l[k].head.marks.move,.slice dA dn dc,.slice yA yn yc,.slice fA fn fc,.slice rA rn rc],.agg #[.bool body,.bool note,vi t]] H (aG (X0 rfl fun hG=>Rg Ma rfl (aF hG h3)) (X0 rfl fun hG=>Rg iM rfl (aF hG h4)) (Z0 rfl (Rm rfl)) (Z2 1 7 2 8 rfl (Ri iN dB rfl rfl)) (aG ?_ ?_ (cZ rfl) (cZ rfl) dU)) ?_
 ·refine eF 3 9 rfl rfl fun _ a w G1 hG HT H fin=>?_;refine bD dB (cs:=[_,_,_,_,_,_,_,_,_,_,_]) H wn rfl rfl (fun j v hj=>H.hp.aH (aF hG (hrow j v hj))) rfl ?_;clear H;intro a H;exact fin H iJ rfl
 ·refine Ee rfl fun _ a w G1 hG HT H fin=>?_;refine bD R7 (cs:=[.bool body,.bool note,vi t]) H wn rfl rfl (fun j v hj=>H.hp.aH (aF hG (h5 j v hj))) rfl ?_;clear H;intro a H;exact fin H iJ rfl
 clear H;intro a w G qK H hv;have H:=H.aU (hv 0 6 rfl rfl) rfl;have H:=H.aU (hv 4 10 rfl rfl) rfl;have H:=H.aU (hv 5 11 rfl rfl) rfl;clear hv;refine iH ahT (Li:=[]) (L:=PS b ms ml mr mb mu L s1) H wn rfl (anC ih hm _ _ _ st li rv b ms ml mr mb mu s1 l[k] _ _ _ _ _ body note t (hck.mono qK) (Hp.owns (Li:=[]) H.hp) (hhd.mono qK) (hfl.mono qK) (hrw.mono qK) (by omega) ht0 Ck (by omega) (by omega)) rfl ?_;clear H;rintro v12 _ _ a w ⟨s3,rfl,rfl,h12⟩ - H;dsimp only [List.nil_append] at H;refine kH H (Ra rfl ?_);clear H;intro a H;refine aI ⟨rfl,?_⟩;refine K2 _ _ ?_;clear K2;refine lr H results139 rfl ?_;exact H.hp.gL ⟨s3,rfl,rfl,h12⟩
theorem anE {m:Nat} (ih:Ke m) (hm:m≤4294967296):Ke (m+1):=by
 intro G L w0 st li rv b ms ml mr mb mu s l v body note t hck hO hv hz ht0 Ck hs0 hs1;obtain ⟨hA1,hA2⟩:=acT (aN st li rv) body note t l s;refine Calls.afZ (R:=fun u G' L'=>O6 b ms ml mr mb mu L (iG (aN st li rv) body note t l s) u L') ?_ fun _ _ _ h=>h;obtain ⟨A,c,rfl,hc1,hc2,-⟩:=hv.slice;rw [bZ] at *;have hll:=Fj l;refine mH (N:=11) (T:=[(0,_),(1,_),(2,_)]) func66 rfl ntmps66 rfl rfl hO ?_;intro a H;refine dz (fun _ K1=>?_);refine eU (cs:=[_]) H wn rfl rfl rfl ?_;clear H;intro b3 a w hb3 H;refine eU (cs:=[_]) H wn rfl rfl rfl ?_;clear H;intro b4 a w hb4 H;refine eU (cs:=[_,_,_]) H wn rfl rfl rfl ?_;clear H;intro b5 a w hb5 H;refine kH H (ak K1 rfl (SQ fun _ K2=>?_));clear H K1;intro a H;obtain ⟨Ga5,QG,zP,H⟩:=H.fD;obtain ⟨Ga4,Ld,Cc,H⟩:=H.fD;obtain ⟨Ga,Gy,Ja,H⟩:=H.fD;replace zP:=Gy _ _ (Ld _ _ zP);replace Cc:=Gy _ _ Cc;have hma:∀ b o,G b=some o→Ga b=some o:=fun b o h=>Gy _ _ (Ld _ _ (QG _ _ h))
 have g3:aH Ga b3 0=some (aK b 0):=by unfold aH;rw [Ja];rfl
 have g4:aH Ga b4 0=some (.slice A l.length c):=by unfold aH;rw [Cc];rfl
 have g5:∀ (j:Nat) (u:aj),[.bool body,.bool note,vi t][j]?=some u→aH Ga b5 (0+j)=some u:=by
  intro j u hj;unfold aH;rw [zP];simpa using hj
 have hcb:=anB (mb:=mb) (L:=L) (s:=s) ih hm (hck.mono hma) g3 g4 g5 (hv.mono hma) (by omega) ht0 Ck hs0 hs1;refine kP H (SC (Rg iM rfl (by assumption) ?_));clear H;intro a H;refine kH H (Rl iN rfl ?_);clear H;intro a H;refine qR H wn rfl rfl ?_;clear H;intro a H;refine iH Ky (Li:=[]) (L:=PS b ms ml mr mb mu L s) H wn rfl (afQ _ _ (PS b ms ml mr mb mu L) (sQ (fK (aN st li rv) body note t) l s) l.length (Ev (fK (aN st li rv) body note t) l s) _ (Hp.owns (Li:=[]) H.hp) (by omega) hcb) rfl ?_;clear H;rintro v10 _ _ a w ⟨s3,rfl,rfl,h10⟩ - H;dsimp only [List.nil_append] at H;exact kH H (aM K2 rfl (LR results66 rfl fun H=>H.hp.gL ⟨s3,by rw [hA1],rfl,fun h=>by rw [hA1] at h;exact (h10 h).trans (hA2 (hA1.trans h)).symm⟩))
theorem QY:∀ m:Nat,m≤4294967297→Ke m
 | 0,_=>fun _ _ _ _ _ _ _ _ _ _ _ _ _ _ _ _ _ _ _ _ _ h=>absurd h (by omega)
 | m+1,hm=>anE (QY m (by omega)) (by omega)
end
section
open Go.RowKit
theorem abd:dV prog 65 1 1:=⟨by kernel_rfl⟩
theorem Ut:dV prog 65 2 2:=⟨by kernel_rfl⟩
theorem ahP:∀ args w,(callFunc 135 args).run prog w=.ok (.enter 135 args) w:=enters func135 rfl (by kernel_rfl)
theorem ahO:∀ args w,(callFunc 134 args).run prog w=.ok (.enter 134 args) w:=enters func134 rfl (by kernel_rfl)
theorem apJ {G:GH} {bl:Nat} {l:List fF} {A:Option Addr} {n c:Nat} (hb:aH G bl 0=some (.slice A n c)) (hv:aB G (.sl 3 (l.map fF.dat)) (.slice A n c)):vP (.func (.func 135) #[] #[(aK bl 0)]) G l.length fun k=>(l[k]?.map fF.id).getD 0:=by
 intro k hk G1 w0 hm hG;refine mU (caps:=[(aK bl 0)]) ahP ?_;replace hb:=aF hm hb
 obtain rfl:n=l.length:=by have:=hv.len;simpa using this
 obtain ⟨b,o,rfl,hrow⟩:=LW (hv.mono hm) hk;have hq:=hrow 0 _ rfl;refine eN [(0,_),(1,_)] func135 rfl ntmps135 rfl rfl hG ?_;intro a H;refine kP H (SR fun _ K1=>ak K1 rfl (SR fun _ K2=>Rg zk rfl (by assumption) ?_));clear H K1;intro a H;refine kH H (Rm rfl (Ri zl Ah rfl rfl (Rf Ns rfl (Rg aD rfl (by assumption) ?_))));clear H;intro a H;exact kH H (ak K2 rfl (LR results135 rfl fun H=>H.rt (by dsimp only;rw [gD hk];rfl)))
def OJ (l:List fF) (i:Nat) (x:fF):Int:=bV [lQ (fun k=>(l[k]?.map fF.id).getD 0) i,bS (!qE x.author) 39,bS (!decide (0≤x.time∧x.time≤1099511627776)) 40]
def Ae (l:List fF) (i:Nat):Int:=match l[i]? with|some x=>OJ l i x|none=>0
theorem apx {G:GH} {bl:Nat} {l:List fF} {A:Option Addr} {n c:Nat} (hb:aH G bl 0=some (.slice A n c)) (hv:aB G (.sl 3 (l.map fF.dat)) (.slice A n c)) (hl:l.length≤4294967296) (ht:∀ x∈l,x.author.size < 4611686018427387904):vP (.func (.func 134) #[] #[(aK bl 0)]) G l.length (Ae l):=by
 intro k hk G1 w0 hm hG;refine mU (caps:=[(aK bl 0)]) ahO ?_;replace hb:=aF hm hb;replace hv:=hv.mono hm;have hcb:=apJ hb hv
 obtain rfl:n=l.length:=by have:=hv.len;simpa using this
 obtain ⟨b,o,rfl,hrow⟩:=LW hv hk;have hte:=ht _ (jr hk)
 have he:Ae l k=OJ l k l[k]:=by unfold Ae;rw [gD hk]
 obtain ⟨x,hx⟩:∃ x,x=l[k]:=⟨_,rfl⟩;rw [← hx] at hrow hte he;refine eN [(0,_),(1,_)] func134 rfl ntmps134 rfl rfl hG ?_;intro a H;refine kP H (SR fun _ K1=>ak K1 rfl (SQ fun _ K2=>?_));clear H K1;intro a H;have H:=H.sub (T':=[(0,_),(1,_)]) ⟨rfl,rfl,av⟩;refine dI hmx [[],[],[0,1],[],[],[3,4],[3,4,5],(ra 3 4),(ra 0 8),(ra 0 9),(ra 0 10),[],[],[11,12],[11,12,13],(ra 11 4),(ra 0 16),(ra 0 17),(ra 0 18),(ra 0 19),(ra 0 20),(ra 0 21)] [19,20,21] (by kernel_rfl) [_,.func (.func 135) #[] #[(aK bl 0)],vi (lQ (fun k=>(l[k]?.map fF.id).getD 0) k),_,_,_,_,_,.bool (qE x.author),_,vi (bS (!qE x.author) 39),_,_,_,_,_,.bool (decide (0≤x.time∧x.time≤1099511627776)),_,vi (bS (!decide (0≤x.time∧x.time≤1099511627776)) 40)] H (aG (Z0 rfl (Rm rfl)) ?_ ?_ (X0 rfl fun hG=>Rg zk rfl (aF hG hb)) (aG (Z0 rfl (Rm rfl)) (Z2 3 7 4 8 rfl (Ri zl Ah rfl rfl)) (Z1 5 9 rfl (Rf abd rfl)) (X1 6 10 rfl fun hG=>Rg gX rfl (aF hG (hrow 1 _ rfl))) (aG ?_ (Z1 8 12 rfl (Rn rfl)) ?_ (X0 rfl fun hG=>Rg zk rfl (aF hG hb)) (aG (Z0 rfl (Rm rfl)) (Z2 11 15 12 16 rfl (Ri zl Ah rfl rfl)) (Z1 13 17 rfl (Rf Ut rfl)) (X1 14 18 rfl fun hG=>Rg aD rfl (aF hG (hrow 2 _ rfl))) (aG ?_ (Z1 16 20 rfl (Rn rfl)) ?_ (cZ rfl) (bG (cZ rfl) (bG (cZ rfl) dU))))))) ?_
 ·refine Ee rfl fun _ a w G1 hG HT H fin=>?_;refine qR H wn rfl rfl ?_;clear H;intro a H;exact fin H iJ rfl
 ·refine fu 0 4 1 5 rfl rfl fun _ a w G1 hG HT H fin=>?_;refine s_call TI H wn rfl (WK _ _ H.ro k _ _ (by omega) (fun i hi=>(hcb.mono hG) i (by omega))) rfl ?_;clear H;rintro v6 G6 a w rfl lu H;exact fin H lu (rfl)
 ·refine eF 7 11 rfl rfl fun _ a w G1 hG HT H fin=>?_;refine s_call aas H wn rfl (Zz _ _ H.ro x.author hte) rfl ?_;clear H;rintro v12 Fu a w ⟨rfl,-⟩ oG H;exact fin H oG (rfl)
 ·refine eF 9 13 rfl rfl fun _ a w G1 hG HT H fin=>?_;refine s_call kS H wn rfl (kW _ _ H.ro _ 39) rfl ?_;clear H;rintro v14 Pb a w ⟨rfl,-⟩ Cb H;exact fin H Cb (rfl)
 ·refine eF 15 19 rfl rfl fun _ a w G1 hG HT H fin=>?_;refine s_call zJ H wn rfl (zX _ _ H.ro x.time 0 1099511627776) rfl ?_;clear H;rintro v20 Ms a w ⟨rfl,-⟩ akE H;exact fin H akE (rfl)
 ·refine eF 17 21 rfl rfl fun _ a w G1 hG HT H fin=>?_;refine s_call kS H wn rfl (kW _ _ H.ro _ 40) rfl ?_;clear H;rintro v22 G22 a w ⟨rfl,-⟩ yN H;exact fin H yN (rfl)
 clear H;intro a w G qK H hv;have H:=H.aU (hv 2 6 rfl rfl) rfl;have H:=H.aU (hv 10 14 rfl rfl) rfl;have H:=H.aU (hv 18 22 rfl rfl) rfl;clear hv;refine jF rU jg [_,_,_] [_,_,_] H wn rfl rfl rfl rfl rfl (by intro i q h;match i,h with|0,h=>exact h|1,h=>exact h|2,h=>exact h|n+3,h=>simp at h) rfl rfl ?_;clear H;intro b23 a w asB H;obtain ⟨G23,alX,alh,H⟩:=H.fD;refine s_call tH H wn rfl (tJ _ _ H.ro _ _ (JD [lQ (fun k=>(l[k]?.map fF.id).getD 0) k,bS (!qE x.author) 39,bS (!decide (0≤x.time∧x.time≤1099511627776)) 40] alh (show 3≤maxLen by decide))) rfl ?_;clear H;rintro v24 _ a w ⟨rfl,rfl⟩ - H;refine kH H (Ra rfl ?_);clear H;intro a H;refine aI ⟨rfl,?_⟩;refine K2 _ _ ?_;clear K2;refine lr H results134 rfl ?_;exact H.rt (by rw [he,OJ])
def zG (l:List fF):Int:=bV [bS (decide (256 < (l.length:Int))) 9,iQ (Ae l) (min l.length 256)]
theorem agQ (G:GH) (w0:World) (hG:Hold G w0) (l:List fF) (v:aj) (hv:aB G (.sl 3 (l.map fF.dat)) v) (hl:l.length≤4294967296) (ht:∀ x∈l,x.author.size < 4611686018427387904) :
  Calls prog 62 #[v] w0 (bR w0 G fun u G'=>u=vi (zG l)):=by
 obtain ⟨A,c,rfl,hc1,hc2,-⟩:=hv.slice;rw [bZ] at *;refine eN [(0,_)] func62 rfl ntmps62 rfl rfl hG ?_;intro a H;refine dz (fun _ K1=>?_);refine eU (cs:=[_]) H wn rfl rfl rfl ?_;clear H;intro b1 a w hb1 H;refine kH H (ak K1 rfl (SQ fun _ K2=>?_));clear H K1;intro a H;have H:=H.sub (T':=[(1,_)]) ⟨rfl,av⟩;obtain ⟨Ga,hma,hb1',H⟩:=H.fD
 have hbl:aH Ga b1 0=some (.slice A l.length c):=by unfold aH;rw [hb1'];rfl
 have hcb:=apx hbl (hv.mono hma) hl ht;refine dI hmx [[],[0],[0,1],[0,1,2],[],[4],[4,5],[],(ra 0 8),(ra 0 9),(ra 0 10),(ra 0 11)] [9,10,11] (by kernel_rfl) [_,_,_,vi (bS (decide (256 < (l.length:Int))) 9),_,_,vi ((min l.length 256:Nat):Int),.func (.func 134) #[] #[(aK b1 0)],vi (iQ (Ae l) (min l.length 256))] H (aG (X0 rfl fun hG=>Rg zk rfl (aF hG hbl)) (Z1 0 3 rfl (Rl zl rfl)) (Z1 1 4 rfl (Rc rfl)) ?_ (aG (X0 rfl fun hG=>Rg zk rfl (aF hG hbl)) (Z1 4 7 rfl (Rl zl rfl)) ?_ ?_ (aG ?_ (cZ rfl) (cZ rfl) (cZ rfl) dU))) ?_
 ·refine eF 2 5 rfl rfl fun _ a w G1 hG HT H fin=>?_;refine s_call kS H wn rfl (kW _ _ H.ro _ 9) rfl ?_;clear H;rintro v6 G6 a w ⟨rfl,-⟩ lu H;exact fin H lu (rfl)
 ·refine eF 5 8 rfl rfl fun _ a w G1 hG HT H fin=>?_;refine RP H wn rfl rfl rfl ?_;clear H;intro a H;exact fin H iJ (aC vi (by omega))
 ·refine Ee rfl fun _ a w G1 hG HT H fin=>?_;refine qR H wn rfl rfl ?_;clear H;intro a H;exact fin H iJ rfl
 ·refine fu 6 9 7 10 rfl rfl fun _ a w G1 hG HT H fin=>?_;refine s_call Ky H wn rfl (MP _ _ H.ro (min l.length 256) (Ae l) _ (by omega) ((hcb.mono hG).le (Nat.min_le_left _ _))) rfl ?_;clear H;rintro v11 zx a w rfl xD H;exact fin H xD (rfl)
 clear H;intro a w G qK H hv;have H:=H.aU (hv 3 6 rfl rfl) rfl;have H:=H.aU (hv 8 11 rfl rfl) rfl;clear hv;refine jF rU jg [_,_] [_,_] H wn rfl rfl rfl rfl rfl (by intro i q h;match i,h with|0,h=>exact h|1,h=>exact h|n+2,h=>simp at h) rfl rfl ?_;clear H;intro b12 a w Gp H;obtain ⟨Fu,Jj,I9,H⟩:=H.fD;refine s_call tH H wn rfl (tJ _ _ H.ro _ _ (Bo I9)) rfl ?_;clear H;rintro v13 _ a w ⟨rfl,rfl⟩ - H;refine kH H (Ra rfl ?_);clear H;intro a H;refine aI ⟨rfl,?_⟩;refine K2 _ _ ?_;clear K2;refine lr H results62 rfl ?_;exact H.rt rfl
theorem yK:∀ {l:List Int},bV l=0→∀ x∈l,x=0
 | [],_,_,h=>by cases h
 | e :: r,h,x,hx=>by
  unfold bV at h
  by_cases he:e=0
  ·rw [ah (fun h'=>h' he)] at h
   rcases nE.1 hx with rfl|hx
   ·exact he
   exact yK h x hx
  rw [au he] at h;exact absurd h he
theorem Zv {E:Nat→Int} {n:Nat} (h:iQ E n=0) (i:Nat) (hi:i < n):E i=0:=yK h _ (by simp;exact ⟨i,hi,rfl⟩)
theorem acN {id:Nat→Int} {i:Nat} (h:lQ id i=0):1≤id i∧id i≤1073741824∧(0 < i→id (i - 1) < id i):=by
 unfold lQ at h
 by_cases h1:1≤id i∧id i≤1073741824
 ·rw [ah (fun h'=>h' h1)] at h
  by_cases h2:0 < i∧id i=id (i - 1)
  ·rw [au h2] at h;cases h
  rw [ah h2] at h
  by_cases h3:0 < i∧id i < id (i - 1)
  ·rw [au h3] at h;cases h
  exact ⟨h1.1,h1.2,fun h0=>by omega⟩
 rw [au h1] at h;cases h
theorem acO {l:List Int} (h:∀ i (h:i+1 < l.length),l[i] < l[i+1]):Ap l:=by
 have hlt:∀ (j i:Nat) (hj:j < l.length) (hi:i < j),l[i] < l[j]:=by
  intro j
  induction j with
  | zero=>intro i _ hi;omega
  | succ j ih =>
   intro i hj hi;have h1:=h j hj
   by_cases e:i=j
   ·subst e;exact h1
   have:=ih i (by omega) (by omega);omega
 intro k hk hm;obtain ⟨i,hi,he⟩:=List.getElem_of_mem hm;rw [List.length_take] at hi;have:=hlt k i hk (by omega);rw [List.getElem_take] at he
 omega
theorem apy {l:List fF} (h:zG l=0):Ap (l.map fF.id):=by
 have h1:=yK h _ (jd);have h2:=yK h _ (lg _ jd)
 have hl:l.length≤256:=by
  unfold bS at h1
  by_cases hd:256 < (l.length:Int)
  ·rw [au (aJ hd)] at h1;cases h1
  omega
 refine acO fun i hi=>?_;rw [bZ] at hi;have h3:=Zv h2 (i+1) (by omega)
 unfold Ae at h3
 rw [gD hi] at h3;have h4:=(acN (yK h3 _ jd)).2.2 (by omega);rw [Nat.add_sub_cancel,gD hi,gD (show i < l.length by omega)] at h4
 simpa using h4
theorem anP {l:List eT} (h:wS l=0):Ap (l.map eT.id):=by
 have h1:=yK h _ (jd);have h2:=yK h _ (lg _ jd)
 have hl:l.length≤64:=by
  unfold bS at h1
  by_cases hd:64 < (l.length:Int)
  ·rw [au (aJ hd)] at h1;cases h1
  omega
 refine acO fun i hi=>?_;rw [bZ] at hi;have h3:=Zv h2 (i+1) (by omega)
 unfold yV at h3
 have h4:=(acN (yK h3 _ jd)).2.2 (by omega);rw [Nat.add_sub_cancel,gD hi,gD (show i < l.length by omega)] at h4
 simpa using h4
theorem aev {l:List cK} (h:gU l=0):Ap (l.map cK.id):=by
 unfold gU at h
 by_cases h1:128 < l.length
 ·rw [au h1] at h;cases h
 rw [ah h1] at h
 by_cases h2:uZ (Cv l) 0 l.length≠0
 ·rw [au h2] at h;exact absurd h h2
 intro k hk;rw [bZ] at hk;have:=adu (gF.1 h2) k hk;rw [← List.map_take,List.getElem_map];exact this
end
section
open Go.RowKit
theorem ajn:∀ args w,(callFunc 63 args).run prog w=.ok (.enter 63 args) w:=enters func63 rfl (by kernel_rfl)
theorem Yb:Ty prog 46 4 96 [.slice none 0 0,.slice none 0 0,.slice none 0 0,.slice none 0 0] true:=⟨by kernel_rfl,by kernel_rfl⟩
theorem aip:∀ args w,(callFunc 17 args).run prog w=.ok (.enter 17 args) w:=enters func17 rfl (by kernel_rfl)
theorem ajm:∀ args w,(callFunc 62 args).run prog w=.ok (.enter 62 args) w:=enters func62 rfl (by kernel_rfl)
theorem IV:dV prog 50 1 1:=⟨by kernel_rfl⟩
theorem Dl (e:Int):bV [e]=e:=by
 by_cases h:e=0 <;> simp [bV,h]
structure zw where
 flow:List ay
 fin:jJ
 revs:List fF
 mP:wO
structure D9 (G:GH) (D:kN) (d:zw):Prop where
 fl:aB G (.sl 11 (d.flow.map ay.dat)) (dD D.f)
 hd:mF G d.fin (dD D.p) (dD D.d) (dD D.y)
 ins:D.ins=d.fin.marks.ins
 mv:D.move=d.fin.marks.move
 rv:aB G (.sl 3 (d.revs.map fF.dat)) (dD D.r)
 st:Ef G d.mP (dD D.s1) (dD D.s2) (dD D.s3) (dD D.s4)
theorem Ef.mono {G G':GH} (hm:∀ b o,G b=some o→G' b=some o) {s:wO} {a b c d:aj} (h:Ef G s a b c d):Ef G' s a b c d:=⟨h.st.mono hm,h.li.mono hm,h.cm.mono hm,h.va.mono hm⟩
theorem D9.mono {G G':GH} (hm:∀ b o,G b=some o→G' b=some o) {D:kN} {d:zw} (h:D9 G D d):D9 G' D d:=⟨h.fl.mono hm,h.hd.mono hm,h.ins,h.mv,h.rv.mono hm,h.st.mono hm⟩
structure J9 (d:zw):Prop where
 fl:bM d.flow≤1073741824
 hd:pR d.fin≤4294967296
 rn:d.revs.length≤4294967296
 rt:∀ x∈d.revs,x.author.size < 4611686018427387904
 sn:d.mP.styles.length≤4294967296
 st:MK d.mP
abbrev zw.pF (d:zw):gQ:=aN d.mP.styles d.mP.lists d.revs
def tZ (m:Av):Bool:=decide ((m.ins≠0∨m.move≠0)∨0 < (m.bU.length:Int))
def jV (d:zw):Int:=bV [bV [lW d.mP,zG d.revs],bV [gB d.pF 3 d.fin,bS (tZ d.fin.marks) 21],(iG d.pF true false 0 d.flow ⟨0,[]⟩).1,bS (decide (16384 < (iG d.pF true false 0 d.flow ⟨0,[]⟩).2.n)) 9]
theorem agT (G:GH) (w0:World) (hG:Hold G w0) (D:kN) (d:zw) (hR:D9 G D d) (hz:J9 d) :
  Calls prog 20 #[D.val] w0 (bR w0 G fun u G'=>u=vi (jV d)):=by
 obtain ⟨df,dp,dd,dy,dr,d1,d2,d3,d4,ins,mv⟩:=D;obtain ⟨hfl,hhd,hin,hmv,oI,hst⟩:=hR;dsimp only at hfl hhd hin hmv oI hst;subst hin;subst hmv;obtain ⟨zf,zh,zr,zt,zs,zg⟩:=hz;have hdl:=hhd.bU.len;rw [bZ] at hdl
 have hdn:d.fin.marks.bU.length≤4294967296:=by
  have h1:=CP d.fin;have h2:=nM (d.fin.marks.bU.map kK.dat);rw [bZ] at h2;omega
 refine eN [(0,_)] func20 rfl ntmps20 rfl rfl hG ?_;intro a H;refine dz (fun _ K1=>?_);refine eU (cs:=[_,_,_,_,_,_,_,_,_,_,_]) H wn rfl rfl rfl ?_;clear H;intro b1 a w hb1 H;refine kH H (ak K1 rfl (SQ fun _ K2=>SQ fun _ K3=>?_));clear H K1;intro a H;refine dI hmx [[],[0],[0,1],[],[3],(ra 0 5),(ra 0 6),(ra 0 7),(ra 0 8)] [6,7,8] (by kernel_rfl) [_,.agg #[dD d1,dD d2,dD d3,dD d4],vi (lW d.mP),_,dD dr,vi (zG d.revs)] H (aG (Z0 rfl (Rf Ez rfl)) ?_ ?_ (Z0 rfl (Rf Ey rfl)) (aG (Z1 3 11 rfl (Ro zk 0 rfl)) ?_ (cZ rfl) (cZ rfl) (bG (cZ rfl) dU))) ?_
 ·refine eF 0 8 rfl rfl fun _ a w G1 hG HT H fin=>?_;refine bD Yb (cs:=[_,_,_,_]) H wn rfl rfl (H.hp.eu 0 rfl rfl) rfl ?_;clear H;intro a H;exact fin H iJ rfl
 ·refine eF 1 9 rfl rfl fun _ a w G1 hG HT H fin=>?_;refine s_call aip H wn rfl (agR _ _ H.ro d.mP _ _ _ _ (hst.mono hG) zg) rfl ?_;clear H;rintro v10 O9 a w rfl sH H;exact fin H sH (rfl)
 ·refine eF 4 12 rfl rfl fun _ a w G1 hG HT H fin=>?_;refine s_call ajm H wn rfl (agQ _ _ H.ro d.revs _ (oI.mono hG) zr zt) rfl ?_;clear H;rintro v13 CQ a w rfl F8 H;exact fin H F8 (rfl)
 clear H;intro a w G qK H hv;have H:=H.aU (hv 2 10 rfl rfl) rfl;have H:=H.aU (hv 5 13 rfl rfl) rfl;clear hv;refine jF rU jg [_,_] [_,_] H wn rfl rfl rfl rfl rfl (by intro i q h;match i,h with|0,h=>exact h|1,h=>exact h|n+2,h=>simp at h) rfl rfl ?_;clear H;intro b14 a w KS H;obtain ⟨Pb,NT,ald,H⟩:=H.fD;have hg1:=fun b o h=>NT b o (qK b o h);replace hfl:=hfl.mono hg1;replace hhd:=hhd.mono hg1;replace oI:=oI.mono hg1;replace hst:=hst.mono hg1;refine s_call tH H wn rfl (tJ _ _ H.ro _ _ (Bo ald)) rfl ?_;clear H;rintro v15 _ a w ⟨rfl,rfl⟩ - H;refine kH H (Ra rfl ?_);clear H;intro a H;refine aI ⟨rfl,?_⟩;refine K3 _ _ ?_;clear K3;refine kP H (SR fun _ K4=>Rm rfl (Rc rfl (Kz K4 (Cd rfl ?_ ?_)))) <;> clear H K4
 ·intro dS a H
  try have mJ:=dT dS
  have hE:jV d=bV [lW d.mP,zG d.revs]:=by rw [jV,bV,au mJ]
  exact kP H (SR fun _ K5=>Rm rfl (ak K5 rfl (LR results20 rfl fun H=>H.rt (by rw [hE]))))
 intro dS a H
 try have mJ:=dF dS
 have e1:=gF.1 mJ;have s1:=yK e1 _ jd;have s2:=yK e1 _ (lg _ jd);have t1:=yK s1 _ jd;have t2:=yK s1 _ (lg _ jd);refine fI ?_;refine K2 _ _ ?_;clear K2;refine dz (fun _ K6=>?_);refine bD mZ (cs:=[_,_,_,_,_,_,_,_,_,_,_]) H wn rfl rfl (H.hp.eu 0 rfl rfl) rfl ?_;clear H;intro a H;refine iH ajn (Li:=[_]) (L:=[]) H wn rfl (aon _ _ (Hp.owns (Li:=[_]) H.hp) ⟨df,dp,dd,dy,dr,d1,d2,d3,d4,d.fin.marks.ins,d.fin.marks.move⟩ d.mP.styles d.mP.lists d.revs hst.st hst.li oI (aev t1) (anP t2) (apy s2) zs zg.ln zr) rfl ?_;clear H;rintro v20 Ms _ a w ⟨b,ms,ml,mr,mb,mu,rfl,rfl,hck⟩ KW H;dsimp only [lca,aS] at H;replace hfl:=hfl.mono KW;replace hhd:=hhd.mono KW;refine kH H (ak K6 rfl (SR fun _ K7=>Rf IV rfl (Rf pG rfl ?_)));clear H K6;intro a H;refine bD Bp (cs:=[_,_,_,_]) H wn rfl rfl (H.hp.eu 0 rfl rfl) rfl ?_;clear H;intro a H;refine dR Bp H wn rfl ?_;clear H;intro b5 a w hb5 H;refine bO Bp 0 (vs:=[_,_,_,_]) _ H wn rfl rfl rfl rfl rfl rfl rfl rfl ?_;clear H;intro w H;dsimp only [List.set,setRow] at H;refine K7 _ _ ?_;clear K7;refine aO (fun _ K8=>?_);refine aO (fun _ K9=>?_)
 by_cases c0:d.fin.marks.ins≠0
 ·skip;have c1:d.fin.marks.ins≠0∨d.fin.marks.move≠0:=Or.inl c0;refine dI hmx [[],[],[1],[0,1,2],[],[4],[4,5],(ra 0 7),(ra 0 8),(ra 0 9),(ra 0 10),(ra 0 11),(ra 0 12),(ra 0 13),(ra 0 14),(ra 0 15),(ra 0 16),(ra 0 17),(ra 0 18),(ra 0 19),(ra 0 20),(ra 0 21)] [19,20,21] (by kernel_rfl) [_,_,Dw d.fin (dD dp) (dD dd) (dD dy),vi (gB d.pF 3 d.fin),_,vi d.fin.marks.ins,_,_,undef,undef,undef,.bool (decide (d.fin.marks.ins≠0∨d.fin.marks.move≠0)),_,undef,undef,undef,undef,.bool (tZ d.fin.marks),vi (bS (tZ d.fin.marks) 21)] H (aG (Z0 rfl (Rm rfl)) (Z0 rfl (Rf IV rfl)) ?_ ?_ (aG (Z0 rfl (Rf vg rfl)) (Z1 4 28 rfl (Ro aD 0 rfl)) (Z1 5 29 rfl (Rc rfl)) (Z1 6 30 rfl (Rm rfl)) (aG (bg (j:=7) (by kernel_rfl) (fun _ _ _ _ _ h=>h) rfl rfl rfl rfl rfl (fun _ _ h=>bq h (aL (aJ c0))) rfl (fun _=>rfl)) (bg (j:=7) (by kernel_rfl) (fun _ _ _ _ _ h=>h) rfl rfl rfl rfl rfl (fun _ _ h=>bq h (aL (aJ c0))) rfl (fun _=>rfl)) (bg (j:=7) (by kernel_rfl) (fun _ _ _ _ _ h=>h) rfl rfl rfl rfl rfl (fun _ _ h=>bq h (aL (aJ c0))) rfl (fun _=>rfl)) ?_ (aG (Z1 11 35 rfl (Rm rfl)) (bg (j:=12) (by kernel_rfl) (fun _ _ _ _ _ h=>h) rfl rfl rfl rfl rfl (fun _ _ h=>bq h (aL (aJ c1))) rfl (fun _=>rfl)) (bg (j:=12) (by kernel_rfl) (fun _ _ _ _ _ h=>h) rfl rfl rfl rfl rfl (fun _ _ h=>bq h (aL (aJ c1))) rfl (fun _=>rfl)) (bg (j:=12) (by kernel_rfl) (fun _ _ _ _ _ h=>h) rfl rfl rfl rfl rfl (fun _ _ h=>bq h (aL (aJ c1))) rfl (fun _=>rfl)) (aG (bg (j:=12) (by kernel_rfl) (fun _ _ _ _ _ h=>h) rfl rfl rfl rfl rfl (fun _ _ h=>bq h (aL (aJ c1))) rfl (fun _=>rfl)) ?_ ?_ (cZ rfl) (bG (cZ rfl) (bG (cZ rfl) dU))))))) ?_
  ·refine eF 1 25 rfl rfl fun _ a w G1 hG HT H fin=>?_;refine bD nC (cs:=[_,_,_,_,_]) H wn rfl rfl (H.hp.eu 1 rfl rfl) rfl ?_;clear H;intro a H;exact fin H iJ rfl
  ·refine fu 0 24 2 26 rfl rfl fun _ a w G1 hG HT H fin=>?_;refine iH KA (Li:=[_,_]) (L:=gY b ms ml mr mb mu 0 :: (mb,gW []) :: []) H wn rfl (KU _ _ _ d.mP.styles d.mP.lists d.revs b ms ml mr mb mu _ (hck.mono hG) (Hp.owns (Li:=[_,_]) H.hp) 3 d.fin _ _ _ (hhd.mono hG) zh) rfl ?_;clear H;rintro v27 _ _ a w ⟨rfl,rfl,rfl⟩ Nv H;dsimp only [lca,aS] at H;exact fin H Nv (rfl)
  ·refine fu 7 31 10 34 rfl rfl fun _ a w G1 hG HT H fin=>?_;refine kH H (Pt (aJ c0) rfl ?_);clear H;intro a H;exact fin H iJ (by show _=_;first|exact aL (aJ c1).symm|exact aL (by simp [c0]))
  ·refine fu 12 36 16 40 rfl rfl fun _ a w G1 hG HT H fin=>?_;refine kH H (Pt (aJ c1) rfl ?_);clear H;intro a H;exact fin H iJ (by show _=_;first|exact aL (gq (Or.inl c1)).symm|exact aL (by simp [tZ,c1]))
  ·refine eF 17 41 rfl rfl fun _ a w G1 hG HT H fin=>?_;refine s_call kS H wn rfl (kW _ _ H.ro _ 21) rfl ?_;clear H;rintro v42 Sw a w ⟨rfl,-⟩ I7 H;exact fin H I7 (rfl)
  clear H;intro a w G lu H hv;have H:=H.aU (hv 3 27 rfl rfl) rfl;have H:=H.aU (hv 18 42 rfl rfl) rfl;clear hv;refine jF rU jg [_,_] [_,_] H wn rfl rfl rfl rfl rfl (by intro i q h;match i,h with|0,h=>exact h|1,h=>exact h|n+2,h=>simp at h) rfl rfl ?_;clear H;intro Pz a w abA H;obtain ⟨CV,oU,NG,H⟩:=H.fD;have Gw:=fun b o h=>oU b o (lu b o h);replace hfl:=hfl.mono Gw;replace hck:=hck.mono Gw;refine s_call tH H wn rfl (tJ _ _ H.ro _ _ (Bo NG)) rfl ?_;clear H;rintro v44 _ a w ⟨rfl,rfl⟩ - H;refine kH H (Ra rfl ?_);clear H;intro a H;refine aI ⟨rfl,?_⟩;refine K9 _ _ ?_;clear K9;refine kP H (SR fun _ aZ=>Rm rfl (Rc rfl (Kz aZ (Cd rfl ?_ ?_)))) <;> clear H aZ
  ·intro h46 a H
   try have p46:=dT h46
   have hE:jV d=bV [gB d.pF 3 d.fin,bS (tZ d.fin.marks) 21]:=by rw [jV,bV,ah (by simpa using e1),bV,au p46]
   exact kP H (SR fun _ bN=>Rm rfl (ak bN rfl (LR results20 rfl fun H=>H.rt (by rw [hE]))))
  intro h46 a H
  try have p46:=dF h46
  have e2:=gF.1 p46;refine kP H (Kc K8 (SQ fun _ bQ=>SR fun _ bT=>Rm rfl (aW BP iM 1 rfl rfl ?_)));clear H K8;intro a H;refine lY Hf [_,_,_] H wn rfl rfl rfl rfl ?_;clear H;intro a H;refine iH Nf (Li:=[_,_]) (L:=gY b ms ml mr mb mu 0 :: (mb,gW []) :: []) H wn rfl (QY 4294967297 (by omega) _ _ _ d.mP.styles d.mP.lists d.revs b ms ml mr mb mu ⟨0,[]⟩ d.flow _ true false 0 hck (Hp.owns (Li:=[_,_]) H.hp) hfl (by omega) (by omega) (by omega) (by decide) (by dsimp only;omega)) rfl ?_;clear H;rintro v52 _ _ a w ⟨rfl,s3,rfl,rfl,h3⟩ - H;dsimp only [lca,aS] at H;refine kH H (ak bT rfl (SR fun _ cu=>Rm rfl (Rc rfl (Kz cu (Cd rfl ?_ ?_))))) <;> clear H bT cu
  ·intro iV a H
   try have p54:=dT iV
   have hE:jV d=(iG d.pF true false 0 d.flow ⟨0,[]⟩).1:=by rw [jV,bV,ah (by simpa using e1),bV,ah (by simpa using e2),bV,au p54]
   exact kP H (SR fun _ dL=>Rm rfl (ak dL rfl (LR results20 rfl fun H=>H.rt (by rw [hE]))))
  intro iV a H
  try have p54:=dF iV
  have e3:=gF.1 p54;have hs3:=h3 e3;subst hs3;refine kP H (Kc bQ (SR fun _ dO=>Rm rfl (Rk rfl (aW IL aD 2 rfl rfl (Rc rfl ?_)))));clear H bQ;intro a H;refine s_call kS H wn rfl (kW _ _ H.ro _ 9) rfl ?_;clear H;rintro v61 _ a w ⟨rfl,rfl⟩ - H
  have hE:jV d=bS (decide (16384 < (iG d.pF true false 0 d.flow ⟨0,[]⟩).2.n)) 9:=by rw [jV,bV,ah (by simpa using e1),bV,ah (by simpa using e2),bV,ah (by simpa using e3)];exact Dl _
  exact kH H (ak dO rfl (LR results20 rfl fun H=>H.rt (by rw [hE])))
 skip
 by_cases c1:d.fin.marks.ins≠0∨d.fin.marks.move≠0
 ·skip;refine dI hmx [[],[],[1],[0,1,2],[],[4],[4,5],(ra 0 7),(ra 0 8),(ra 0 9),(ra 0 10),(ra 0 11),(ra 0 12),(ra 0 13),(ra 0 14),(ra 0 15),(ra 0 16),(ra 0 17),(ra 0 18),(ra 0 19),(ra 0 20),(ra 0 21)] [19,20,21] (by kernel_rfl) [_,_,Dw d.fin (dD dp) (dD dd) (dD dy),vi (gB d.pF 3 d.fin),_,vi d.fin.marks.ins,_,_,_,vi d.fin.marks.move,_,.bool (decide (d.fin.marks.ins≠0∨d.fin.marks.move≠0)),_,undef,undef,undef,undef,.bool (tZ d.fin.marks),vi (bS (tZ d.fin.marks) 21)] H (aG (Z0 rfl (Rm rfl)) (Z0 rfl (Rf IV rfl)) ?_ ?_ (aG (Z0 rfl (Rf vg rfl)) (Z1 4 28 rfl (Ro aD 0 rfl)) (Z1 5 29 rfl (Rc rfl)) (Z1 6 30 rfl (Rm rfl)) (aG (Z1 7 31 rfl (YF wV (aR c0) rfl)) (Z2 8 32 7 31 rfl (YO aD 0 (aR c0) rfl)) (Z2 9 33 7 31 rfl (YC (aR c0) rfl)) ?_ (aG (Z1 11 35 rfl (Rm rfl)) (bg (j:=12) (by kernel_rfl) (fun _ _ _ _ _ h=>h) rfl rfl rfl rfl rfl (fun _ _ h=>bq h (aL (aJ c1))) rfl (fun _=>rfl)) (bg (j:=12) (by kernel_rfl) (fun _ _ _ _ _ h=>h) rfl rfl rfl rfl rfl (fun _ _ h=>bq h (aL (aJ c1))) rfl (fun _=>rfl)) (bg (j:=12) (by kernel_rfl) (fun _ _ _ _ _ h=>h) rfl rfl rfl rfl rfl (fun _ _ h=>bq h (aL (aJ c1))) rfl (fun _=>rfl)) (aG (bg (j:=12) (by kernel_rfl) (fun _ _ _ _ _ h=>h) rfl rfl rfl rfl rfl (fun _ _ h=>bq h (aL (aJ c1))) rfl (fun _=>rfl)) ?_ ?_ (cZ rfl) (bG (cZ rfl) (bG (cZ rfl) dU))))))) ?_
  ·refine eF 1 25 rfl rfl fun _ a w G1 hG HT H fin=>?_;refine bD nC (cs:=[_,_,_,_,_]) H wn rfl rfl (H.hp.eu 1 rfl rfl) rfl ?_;clear H;intro a H;exact fin H iJ rfl
  ·refine fu 0 24 2 26 rfl rfl fun _ a w G1 hG HT H fin=>?_;refine iH KA (Li:=[_,_]) (L:=gY b ms ml mr mb mu 0 :: (mb,gW []) :: []) H wn rfl (KU _ _ _ d.mP.styles d.mP.lists d.revs b ms ml mr mb mu _ (hck.mono hG) (Hp.owns (Li:=[_,_]) H.hp) 3 d.fin _ _ _ (hhd.mono hG) zh) rfl ?_;clear H;rintro v27 _ _ a w ⟨rfl,rfl,rfl⟩ Nv H;dsimp only [lca,aS] at H;exact fin H Nv (rfl)
  ·refine fu 7 31 10 34 rfl rfl fun _ a w G1 hG HT H fin=>?_;refine kH H (Pf (aR c0) rfl ?_);clear H;intro a H;exact fin H iJ (by show _=_;first|exact aL (aJ c1).symm|exact aL (by simp [c0]))
  ·refine fu 12 36 16 40 rfl rfl fun _ a w G1 hG HT H fin=>?_;refine kH H (Pt (aJ c1) rfl ?_);clear H;intro a H;exact fin H iJ (by show _=_;first|exact aL (gq (Or.inl c1)).symm|exact aL (by simp [tZ,c1]))
  ·refine eF 17 41 rfl rfl fun _ a w G1 hG HT H fin=>?_;refine s_call kS H wn rfl (kW _ _ H.ro _ 21) rfl ?_;clear H;rintro v42 Sw a w ⟨rfl,-⟩ I7 H;exact fin H I7 (rfl)
  clear H;intro a w G lu H hv;have H:=H.aU (hv 3 27 rfl rfl) rfl;have H:=H.aU (hv 18 42 rfl rfl) rfl;clear hv;refine jF rU jg [_,_] [_,_] H wn rfl rfl rfl rfl rfl (by intro i q h;match i,h with|0,h=>exact h|1,h=>exact h|n+2,h=>simp at h) rfl rfl ?_;clear H;intro Pz a w abA H;obtain ⟨CV,oU,NG,H⟩:=H.fD;have Gw:=fun b o h=>oU b o (lu b o h);replace hfl:=hfl.mono Gw;replace hck:=hck.mono Gw;refine s_call tH H wn rfl (tJ _ _ H.ro _ _ (Bo NG)) rfl ?_;clear H;rintro v44 _ a w ⟨rfl,rfl⟩ - H;refine kH H (Ra rfl ?_);clear H;intro a H;refine aI ⟨rfl,?_⟩;refine K9 _ _ ?_;clear K9;refine kP H (SR fun _ dJ=>Rm rfl (Rc rfl (Kz dJ (Cd rfl ?_ ?_)))) <;> clear H dJ
  ·intro h46 a H
   try have p46:=dT h46
   have hE:jV d=bV [gB d.pF 3 d.fin,bS (tZ d.fin.marks) 21]:=by rw [jV,bV,ah (by simpa using e1),bV,au p46]
   exact kP H (SR fun _ dW=>Rm rfl (ak dW rfl (LR results20 rfl fun H=>H.rt (by rw [hE]))))
  intro h46 a H
  try have p46:=dF h46
  have e2:=gF.1 p46;refine kP H (Kc K8 (SQ fun _ eG=>SR fun _ eB=>Rm rfl (aW BP iM 1 rfl rfl ?_)));clear H K8;intro a H;refine lY Hf [_,_,_] H wn rfl rfl rfl rfl ?_;clear H;intro a H;refine iH Nf (Li:=[_,_]) (L:=gY b ms ml mr mb mu 0 :: (mb,gW []) :: []) H wn rfl (QY 4294967297 (by omega) _ _ _ d.mP.styles d.mP.lists d.revs b ms ml mr mb mu ⟨0,[]⟩ d.flow _ true false 0 hck (Hp.owns (Li:=[_,_]) H.hp) hfl (by omega) (by omega) (by omega) (by decide) (by dsimp only;omega)) rfl ?_;clear H;rintro v52 _ _ a w ⟨rfl,s3,rfl,rfl,h3⟩ - H;dsimp only [lca,aS] at H;refine kH H (ak eB rfl (SR fun _ eH=>Rm rfl (Rc rfl (Kz eH (Cd rfl ?_ ?_))))) <;> clear H eB eH
  ·intro iV a H
   try have p54:=dT iV
   have hE:jV d=(iG d.pF true false 0 d.flow ⟨0,[]⟩).1:=by rw [jV,bV,ah (by simpa using e1),bV,ah (by simpa using e2),bV,au p54]
   exact kP H (SR fun _ fO=>Rm rfl (ak fO rfl (LR results20 rfl fun H=>H.rt (by rw [hE]))))
  intro iV a H
  try have p54:=dF iV
  have e3:=gF.1 p54;have hs3:=h3 e3;subst hs3;refine kP H (Kc eG (SR fun _ gJ=>Rm rfl (Rk rfl (aW IL aD 2 rfl rfl (Rc rfl ?_)))));clear H eG;intro a H;refine s_call kS H wn rfl (kW _ _ H.ro _ 9) rfl ?_;clear H;rintro v61 _ a w ⟨rfl,rfl⟩ - H
  have hE:jV d=bS (decide (16384 < (iG d.pF true false 0 d.flow ⟨0,[]⟩).2.n)) 9:=by rw [jV,bV,ah (by simpa using e1),bV,ah (by simpa using e2),bV,ah (by simpa using e3)];exact Dl _
  exact kH H (ak gJ rfl (LR results20 rfl fun H=>H.rt (by rw [hE])))
 skip;refine dI hmx [[],[],[1],[0,1,2],[],[4],[4,5],(ra 0 7),(ra 0 8),(ra 0 9),(ra 0 10),(ra 0 11),(ra 0 12),(ra 0 13),(ra 0 14),(ra 0 15),(ra 0 16),(ra 0 17),(ra 0 18),(ra 0 19),(ra 0 20),(ra 0 21)] [19,20,21] (by kernel_rfl) [_,_,Dw d.fin (dD dp) (dD dd) (dD dy),vi (gB d.pF 3 d.fin),_,vi d.fin.marks.ins,_,_,_,vi d.fin.marks.move,_,.bool (decide (d.fin.marks.ins≠0∨d.fin.marks.move≠0)),_,_,dD dd,vi d.fin.marks.bU.length,_,.bool (tZ d.fin.marks),vi (bS (tZ d.fin.marks) 21)] H (aG (Z0 rfl (Rm rfl)) (Z0 rfl (Rf IV rfl)) ?_ ?_ (aG (Z0 rfl (Rf vg rfl)) (Z1 4 28 rfl (Ro aD 0 rfl)) (Z1 5 29 rfl (Rc rfl)) (Z1 6 30 rfl (Rm rfl)) (aG (Z1 7 31 rfl (YF wV (aR c0) rfl)) (Z2 8 32 7 31 rfl (YO aD 0 (aR c0) rfl)) (Z2 9 33 7 31 rfl (YC (aR c0) rfl)) ?_ (aG (Z1 11 35 rfl (Rm rfl)) (Z1 12 36 rfl (YF mV (aR c1) rfl)) (Z2 13 37 12 36 rfl (YO mY 0 (aR c1) rfl)) ?_ (aG (Z2 15 39 12 36 rfl (YC (aR c1) rfl)) ?_ ?_ (cZ rfl) (bG (cZ rfl) (bG (cZ rfl) dU))))))) ?_
 ·refine eF 1 25 rfl rfl fun _ a w G1 hG HT H fin=>?_;refine bD nC (cs:=[_,_,_,_,_]) H wn rfl rfl (H.hp.eu 1 rfl rfl) rfl ?_;clear H;intro a H;exact fin H iJ rfl
 ·refine fu 0 24 2 26 rfl rfl fun _ a w G1 hG HT H fin=>?_;refine iH KA (Li:=[_,_]) (L:=gY b ms ml mr mb mu 0 :: (mb,gW []) :: []) H wn rfl (KU _ _ _ d.mP.styles d.mP.lists d.revs b ms ml mr mb mu _ (hck.mono hG) (Hp.owns (Li:=[_,_]) H.hp) 3 d.fin _ _ _ (hhd.mono hG) zh) rfl ?_;clear H;rintro v27 _ _ a w ⟨rfl,rfl,rfl⟩ Nv H;dsimp only [lca,aS] at H;exact fin H Nv (rfl)
 ·refine fu 7 31 10 34 rfl rfl fun _ a w G1 hG HT H fin=>?_;refine kH H (Pf (aR c0) rfl ?_);clear H;intro a H;exact fin H iJ (by show _=_;first|exact aL (aJ c1).symm|exact aL (by simp [c0]))
 ·refine fu 14 38 12 36 rfl rfl fun _ a w G1 hG HT H fin=>?_;refine kH H (YL lF (aR c1) rfl ?_);clear H;intro a H;exact fin H iJ (by show _=_;first|rfl|exact aC (fun n:Nat=>vi n) hdl)
 ·refine fu 12 36 16 40 rfl rfl fun _ a w G1 hG HT H fin=>?_;refine kH H (Pf (aR c1) rfl ?_);clear H;intro a H;exact fin H iJ (by show _=_;first|exact aL (gq (Or.inl c1)).symm|exact aL (by simp [tZ,c1]))
 ·refine eF 17 41 rfl rfl fun _ a w G1 hG HT H fin=>?_;refine s_call kS H wn rfl (kW _ _ H.ro _ 21) rfl ?_;clear H;rintro v42 Sw a w ⟨rfl,-⟩ I7 H;exact fin H I7 (rfl)
 clear H;intro a w G lu H hv;have H:=H.aU (hv 3 27 rfl rfl) rfl;have H:=H.aU (hv 18 42 rfl rfl) rfl;clear hv;refine jF rU jg [_,_] [_,_] H wn rfl rfl rfl rfl rfl (by intro i q h;match i,h with|0,h=>exact h|1,h=>exact h|n+2,h=>simp at h) rfl rfl ?_;clear H;intro Pz a w abA H;obtain ⟨CV,oU,NG,H⟩:=H.fD;have Gw:=fun b o h=>oU b o (lu b o h);replace hfl:=hfl.mono Gw;replace hck:=hck.mono Gw;refine s_call tH H wn rfl (tJ _ _ H.ro _ _ (Bo NG)) rfl ?_;clear H;rintro v44 _ a w ⟨rfl,rfl⟩ - H;refine kH H (Ra rfl ?_);clear H;intro a H;refine aI ⟨rfl,?_⟩;refine K9 _ _ ?_;clear K9;refine kP H (SR fun _ gT=>Rm rfl (Rc rfl (Kz gT (Cd rfl ?_ ?_)))) <;> clear H gT
 ·intro h46 a H
  try have p46:=dT h46
  have hE:jV d=bV [gB d.pF 3 d.fin,bS (tZ d.fin.marks) 21]:=by rw [jV,bV,ah (by simpa using e1),bV,au p46]
  exact kP H (SR fun _ gM=>Rm rfl (ak gM rfl (LR results20 rfl fun H=>H.rt (by rw [hE]))))
 intro h46 a H
 try have p46:=dF h46
 have e2:=gF.1 p46;refine kP H (Kc K8 (SQ fun _ jh=>SR fun _ jo=>Rm rfl (aW BP iM 1 rfl rfl ?_)));clear H K8;intro a H;refine lY Hf [_,_,_] H wn rfl rfl rfl rfl ?_;clear H;intro a H;refine iH Nf (Li:=[_,_]) (L:=gY b ms ml mr mb mu 0 :: (mb,gW []) :: []) H wn rfl (QY 4294967297 (by omega) _ _ _ d.mP.styles d.mP.lists d.revs b ms ml mr mb mu ⟨0,[]⟩ d.flow _ true false 0 hck (Hp.owns (Li:=[_,_]) H.hp) hfl (by omega) (by omega) (by omega) (by decide) (by dsimp only;omega)) rfl ?_;clear H;rintro v52 _ _ a w ⟨rfl,s3,rfl,rfl,h3⟩ - H;dsimp only [lca,aS] at H;refine kH H (ak jo rfl (SR fun _ iU=>Rm rfl (Rc rfl (Kz iU (Cd rfl ?_ ?_))))) <;> clear H jo iU
 ·intro iV a H
  try have p54:=dT iV
  have hE:jV d=(iG d.pF true false 0 d.flow ⟨0,[]⟩).1:=by rw [jV,bV,ah (by simpa using e1),bV,ah (by simpa using e2),bV,au p54]
  exact kP H (SR fun _ kX=>Rm rfl (ak kX rfl (LR results20 rfl fun H=>H.rt (by rw [hE]))))
 intro iV a H
 try have p54:=dF iV
 have e3:=gF.1 p54;have hs3:=h3 e3;subst hs3;refine kP H (Kc jh (SR fun _ kY=>Rm rfl (Rk rfl (aW IL aD 2 rfl rfl (Rc rfl ?_)))));clear H jh;intro a H;refine s_call kS H wn rfl (kW _ _ H.ro _ 9) rfl ?_;clear H;rintro v61 _ a w ⟨rfl,rfl⟩ - H
 have hE:jV d=bS (decide (16384 < (iG d.pF true false 0 d.flow ⟨0,[]⟩).2.n)) 9:=by rw [jV,bV,ah (by simpa using e1),bV,ah (by simpa using e2),bV,ah (by simpa using e3)];exact Dl _
 exact kH H (ak kY rfl (LR results20 rfl fun H=>H.rt (by rw [hE])))
end
section
open Go.RowKit
abbrev pq (n:Nat) (L:List ((Int × Int) × ay)):Prop:=∀ a∈L,dG a.2.dat≤n
theorem pq.nil (n:Nat):pq n []:=fun _ h=>by cases h
theorem pq.mono {n m:Nat} {L:List ((Int × Int) × ay)} (h:pq n L) (hn:n≤m):pq m L:=fun a ha=>Nat.le_trans (h a ha) hn
theorem pq.append {n:Nat} {A B:List ((Int × Int) × ay)} (h:pq n A) (g:pq n B):pq n (A++B):=fun a ha=>(gu.1 ha).elim (h a) (g a)
theorem pq.cons {n:Nat} {x:(Int × Int) × ay} {B:List ((Int × Int) × ay)} (h:dG x.2.dat≤n) (g:pq n B):pq n (x :: B):=fun a ha=>by
 rcases nE.1 ha with rfl|ha
 ·exact h
 exact g a ha
mutual
theorem apg (f t:Int):∀ x:ay,pq (dG x.dat) (vI f t x)
 | .mk k c i tx h fl r=>by
  have h4:=oK (.mk k c i tx h fl r);have hf:=RD i 0 fl;have hr:=adQ r;dsimp only [ay.text,ay.head,ay.flow,ay.rows] at h4;rw [vI]
  split
  ·exact pq.cons (dQ _) (hf.mono (by omega))
  split
  ·exact pq.cons (dQ _) (hr.mono (by omega))
  exact pq.nil _
theorem RD (f:Int):∀ (t:Int) (l:List ay),pq (bM l) (eZ f t l)
 | _,[]=>by rw [eZ];exact pq.nil _
 | t,x :: l=>by
  have h1:=apg f t x;have h2:=RD f (t+sZ x) l;rw [eZ]
  simp only [bM,fJ,fB] at *
  exact (h1.mono (by omega)).append (h2.mono (by omega))
theorem aph:∀ x:bJ,pq (dG x.dat) (xP x)
 | .mk h cs=>by
  have h4:=uN (.mk h cs);have hc:=adP cs;dsimp only [bJ.head,bJ.cells] at h4;rw [xP];exact hc.mono (by omega)
theorem adQ:∀ l:List bJ,pq (fq l) (nL l)
 | []=>by rw [nL];exact pq.nil _
 | x :: l=>by
  have h1:=aph x;have h2:=adQ l;rw [nL]
  simp only [fq,fJ,fB] at *
  exact (h1.mono (by omega)).append (h2.mono (by omega))
theorem apf:∀ x:bB,pq (dG x.dat) (wC x)
 | .mk i h f=>by
  have h4:=uM (.mk i h f);have hf:=RD i 0 f;dsimp only [bB.head,bB.flow] at h4;rw [wC];exact hf.mono (by omega)
theorem adP:∀ l:List bB,pq (iD l) (jm l)
 | []=>by rw [jm];exact pq.nil _
 | x :: l=>by
  have h1:=apf x;have h2:=adP l;rw [jm]
  simp only [iD,fJ,fB] at *
  exact (h1.mono (by omega)).append (h2.mono (by omega))
end
theorem X4 {l:List ay} {a:(Int × Int) × ay} (h:a∈jG l):dG a.2.dat≤bM l:=RD 0 0 l a (X5 h)
theorem aou {d:zw} (h:jV d=0):zC d.flow:=by
 have h1:=yK h _ (lg _ (lg _ jd));exact zC.of (aag h1)
theorem aga {G:GH} {A:List jN} {B:Option Addr} {n c k:Nat} (hv:aB G (.sl 6 (A.map jN.dat)) (.slice B n c)) (hk:k < A.length):∃ b o v,B=some ⟨b,o,none⟩∧(∀ j u,(A[k].cells v)[j]?=some u→aH G b (o+k*6+j)=some u)∧aB G (.sl 11 (A[k].items.map ay.dat)) v:=by
 obtain ⟨b,o,cs,h1,h2,h3,h4⟩:=hv.at_ k A[k].dat (by simp [hk]);obtain ⟨v,rfl,hr⟩:=jN.of h4;exact ⟨b,o,v,h1,h3,hr⟩
theorem apc {G:GH} {p:Int × Int} {cs:List aj} (h:bH G (Cx p) cs):cs=[vi p.1,vi p.2]:=by
 simp only [Cx,bH] at h
 obtain ⟨_,_,rfl,⟨rfl,-⟩,_,_,rfl,⟨rfl,-⟩,rfl⟩:=h
 rfl
theorem ape {G:GH} {A:List ((Int × Int) × ay)} {B:Option Addr} {n c k:Nat} (hv:aB G (.sl 2 (A.map fun q=>Cx q.1)) (.slice B n c)) (hk:k < A.length):∃ b o,B=some ⟨b,o,none⟩∧∀ j u,[vi A[k].1.1,vi A[k].1.2][j]?=some u→aH G b (o+k*2+j)=some u:=by
 obtain ⟨b,o,cs,h1,h2,h3,h4⟩:=hv.at_ k (Cx A[k].1) (by simp [hk]);obtain rfl:=apc h4;exact ⟨b,o,h1,h3⟩
theorem aqP {G:GH} {A:List ((Int × Int) × ay)} {B:Option Addr} {n c k:Nat} (hv:aB G (.sl 11 (A.map fun q=>q.2.dat)) (.slice B n c)) (hk:k < A.length):∃ b o cs,B=some ⟨b,o,none⟩∧(∀ j u,cs[j]?=some u→aH G b (o+k*11+j)=some u)∧bH G A[k].2.dat cs:=by
 obtain ⟨b,o,cs,h1,h2,h3,h4⟩:=hv.at_ k A[k].2.dat (by simp [hk]);exact ⟨b,o,cs,h1,h3,h4⟩
theorem acH {G:GH} {α:Type} {f:α→Int} {A:List α} {B:Option Addr} {n c k:Nat} (hv:aB G (.sl 1 (A.map fun q=>[li (f q)])) (.slice B n c)) (hk:k < A.length):∃ b o,B=some ⟨b,o,none⟩∧aH G b (o+k)=some (vi (f A[k])):=by
 obtain ⟨b,o,cs,h1,h2,h3,h4⟩:=hv.at_ k [li (f A[k])] (by simp [hk])
 simp only [bH] at h4
 obtain ⟨_,_,rfl,⟨rfl,-⟩,rfl⟩:=h4;exact ⟨b,o,h1,by simpa using h3 0 _ rfl⟩
end
section
open Go.RowKit
theorem TY:∀ args w,(callFunc 48 args).run prog w=.ok (.enter 48 args) w:=enters func48 rfl (by kernel_rfl)
theorem P6:∀ args w,(callFunc 31 args).run prog w=.ok (.enter 31 args) w:=enters func31 rfl (by kernel_rfl)
theorem aii:∀ args w,(callFunc 166 args).run prog w=.ok (.enter 166 args) w:=enters func166 rfl (by kernel_rfl)
theorem ajt:∀ args w,(callFunc 91 args).run prog w=.ok (.enter 91 args) w:=enters func91 rfl (by kernel_rfl)
theorem ajs:∀ args w,(callFunc 90 args).run prog w=.ok (.enter 90 args) w:=enters func90 rfl (by kernel_rfl)
theorem aij:∀ args w,(callFunc 167 args).run prog w=.ok (.enter 167 args) w:=enters func167 rfl (by kernel_rfl)
theorem aju:∀ args w,(callFunc 92 args).run prog w=.ok (.enter 92 args) w:=enters func92 rfl (by kernel_rfl)
theorem aaH:∀ args w,(callFunc 33 args).run prog w=.ok (.enter 33 args) w:=enters func33 rfl (by kernel_rfl)
theorem bytes_beq (p q:ByteArray):((p.toList == q.toList)=true)↔p=q:=by
 rw [ByteArray.toList_eq,ByteArray.toList_eq,beq_iff_eq];exact ⟨fun e=>Go.WideShapes.bytes_inj e,fun e=>by rw [e]⟩
theorem ay.eq_iff (a b:ay):((((((a.kind=b.kind∧a.code=b.code)∧a.id=b.id)∧a.text=b.text)∧a.head=b.head)∧a.flow=b.flow)∧a.rows=b.rows)↔a=b:=by
 cases a;cases b
 simp [ay.kind,ay.code,ay.id,ay.text,ay.head,ay.flow,ay.rows,and_assoc]
theorem bJ.eq_iff (a b:bJ):(a.head=b.head∧a.cells=b.cells)↔a=b:=by
 cases a;cases b
 simp [bJ.head,bJ.cells]
theorem bB.eq_iff (a b:bB):((a.id=b.id∧a.head=b.head)∧a.flow=b.flow)↔a=b:=by
 cases a;cases b
 simp [bB.id,bB.head,bB.flow,and_assoc]
def Ka (fv:aj) (G:GH) (d d':List Dat) (p:Prop):Prop:=∀ (G1:GH) (w1:World) (cs cs':List aj),(∀ b o,G b=some o→G1 b=some o)→Hold G1 w1→bH G1 d cs→bH G1 d' cs' →
 yg prog fv [.agg cs.toArray,.agg cs'.toArray] w1 (bR w1 G1 fun u G'=>∃ b,u=.bool b∧(b=true↔p))
theorem ajz (G:GH) (w0:World) (hG:Hold G w0) (A B:List ay) (v u fv:aj) (hv:aB G (.sl 11 (A.map ay.dat)) v) (hu:aB G (.sl 11 (B.map ay.dat)) u) (hf:∀ (i:Nat) (h1:i < A.length) (h2:i < B.length),Ka fv G A[i].dat B[i].dat (A[i]=B[i])) :
  Calls prog 90 #[v,u,fv] w0 (bR w0 G fun r G'=>∃ b,r=.bool b∧(b=true↔A=B)):=by
 obtain ⟨vA,vc,rfl,hc1,hc2,hg⟩:=hv.slice;obtain ⟨uA,uc,rfl,hd1,hd2,hh⟩:=hu.slice;have hml:maxLen=9223372036854775807:=rfl;(iterate 2 rw [bZ] at *);refine eN [(0,_),(1,_),(2,_)] func90 rfl ntmps90 rfl rfl hG ?_;intro a H;refine kP H (SR fun _ K1=>ak K1 rfl (SQ fun _ K2=>SR fun _ K3=>Rm rfl (Rl iN rfl (Rm rfl (Rl iN rfl (Rc rfl (Kz K3 (Cd rfl ?_ ?_)))))))) <;> clear H K1 K3
 ·intro eO a H
  try have ny:=dT eO
  exact kP H (SR fun _ K4=>ak K4 rfl (LR results90 rfl fun H=>H.rt ⟨false,rfl,by simp only [Aw,false_iff];exact fun e=>absurd (aC List.length e) (by omega)⟩))
 intro eO a H
 try have ny:=dF eO
 refine kP H (Kc K2 (SQ fun _ K5=>SR fun _ K6=>Rm rfl (Rl iN rfl (Rm rfl (Kz K6 (SB ?_))))));clear H K2 K6;intro a H;skip;refine fH (ι:=Nat × GH) (Tc:=[(1,_),(2,_),(15,_),(16,_)]) (Lc:=[]) (fun gh=>[(17,vi gh.1)]) (fun gh=>[]) (fun gh=>gh.2) (fun gh=>gh.1≤A.length∧A.take gh.1=B.take gh.1∧(∀ b o,G b=some o→gh.2 b=some o)) (fun gh=>A.length - gh.1) ((0,G)) (by exact (H).sub ⟨rfl,rfl,rfl,rfl,rfl,av⟩) ?_ ?_
 ·exact ⟨by omega,rfl,fun _ _ h=>h⟩
 clear H;intro gh a w hI H;obtain ⟨k,g⟩:=gh;dsimp only at hI H;obtain ⟨hk,hsame,hgm⟩:=hI;dsimp only [lca,aS] at H;refine kP H (SR fun _ K7=>Rc rfl (Kz K7 (SQ fun _ K8=>Cd rfl ?_ ?_))) <;> clear H K7
 ·intro h18 a H
  try have sO:=dT h18
  have hk2:k < A.length:=by omega
  have hk3:k < B.length:=by omega
  obtain ⟨b1,o1,cs1,rfl,NI,zU,hr1⟩:=hg k A[k].dat (by simp [hk2]);obtain ⟨pA,pn,pc,dA,dn,dc,yA,yn,yc,fA,fn,fc,rA,rn,rc,rfl,-⟩:=hr1.item;obtain ⟨b2,o2,cs2,rfl,NJ,hrow2,hr2⟩:=hh k B[k].dat (by simp [hk3]);obtain ⟨EY,GU,pc2,Es,FT,Et,Ht,Hw,Hu,IJ,IW,IK,rA2,rn2,rc2,rfl,-⟩:=hr2.item;refine kP H (Kc K8 (SQ fun _ K9=>SB (SR fun _ aZ=>Rm rfl (Ri iN dB rfl rfl ?_))));clear H K8;intro a H;refine bD dB (cs:=_) H wn rfl rfl (fun j v hj=>H.hp.aH (aF hgm (zU j v hj))) rfl ?_;clear H;intro a H;refine dR dB H wn rfl ?_;clear H;intro b8 a w xE H;refine kH H (Ra rfl ?_);clear H;intro a H;refine bO dB 0 (vs:=[_,_,_,_,_,_,_,_,_,_,_]) _ H wn rfl rfl rfl rfl rfl rfl rfl rfl ?_;clear H;intro w H;dsimp only [List.set,setRow] at H;refine aZ _ _ ?_;clear aZ;refine kP H (SR fun _ bN=>Rm rfl (Rm rfl (Ri iN dB rfl rfl ?_)));clear H;intro a H;refine bD dB (cs:=_) H wn rfl rfl (fun j v hj=>H.hp.aH (aF hgm (hrow2 j v hj))) rfl ?_;clear H;intro a H;refine dR dB H wn rfl ?_;clear H;intro b9 a w uG H;refine bO dB 0 (vs:=[_,_,_,_,_,_,_,_,_,_,_]) _ H wn rfl rfl rfl rfl rfl rfl rfl rfl ?_;clear H;intro w H;dsimp only [List.set,setRow] at H;refine bN _ _ ?_;clear bN;refine kP H (SR fun _ bQ=>Rm rfl ?_);clear H;intro a H;refine bD dB (cs:=[_,_,_,_,_,_,_,_,_,_,_]) H wn rfl rfl (H.hp.eu 1 rfl rfl) rfl ?_;clear H;intro a H;refine bD dB (cs:=[_,_,_,_,_,_,_,_,_,_,_]) H wn rfl rfl (H.hp.eu 0 rfl rfl) rfl ?_;clear H;intro a H;refine qP H wn rfl rfl (hf k hk2 hk3 _ _ _ _ hgm H.ro (hr1.mono hgm) (hr2.mono hgm)) rfl ?_;clear H;rintro v29 Ar a w ⟨Py,rfl,Gq⟩ ER H;refine kH H (Rn rfl (Kz bQ (Cd rfl ?_ ?_))) <;> clear H bQ
  ·intro kG a H
   exact kP H (SR fun _ bT=>ak bT rfl (LR results90 rfl fun H=>H.rt ⟨false,rfl,by simp only [Aw,false_iff];rintro rfl;exact absurd (Gq.2 rfl) (by simpa using kG)⟩))
  intro kG a H
  try have p30:=dF kG
  refine kP H (Kc K9 (SC (Rd rfl (Rm rfl ?_))));clear H K9;intro a H;refine aI ?_;refine dP ((k+1,Ar)) (by exact (H.dK (Pl:=[_,_]) (dw:=[]) [] (by decide) rfl).sub ⟨rfl,rfl,rfl,rfl,rfl,av⟩) ?_ ?_
  ·(try dsimp only);exact ⟨by omega,by rw [jZ hk2,jZ hk3,hsame,Gq.1 (by simpa using kG)],fun b o h=>ER b o (hgm b o h)⟩
  first|omega|(dsimp only;omega)
 intro h18 a H
 try have sO:=dF h18
 refine eD ?_;refine K5 _ _ ?_;clear K5;exact kP H (SR fun _ cu=>ak cu rfl (LR results90 rfl fun H=>H.rt ⟨true,rfl,by rw [kF (by omega),kF (by omega)] at hsame;simpa using hsame⟩))
theorem ajA (G:GH) (w0:World) (hG:Hold G w0) (A B:List bJ) (v u fv:aj) (hv:aB G (.sl 6 (A.map bJ.dat)) v) (hu:aB G (.sl 6 (B.map bJ.dat)) u) (hf:∀ (i:Nat) (h1:i < A.length) (h2:i < B.length),Ka fv G A[i].dat B[i].dat (A[i]=B[i])) :
  Calls prog 91 #[v,u,fv] w0 (bR w0 G fun r G'=>∃ b,r=.bool b∧(b=true↔A=B)):=by
 obtain ⟨vA,vc,rfl,hc1,hc2,hg⟩:=hv.slice;obtain ⟨uA,uc,rfl,hd1,hd2,hh⟩:=hu.slice;have hml:maxLen=9223372036854775807:=rfl;(iterate 2 rw [bZ] at *);refine eN [(0,_),(1,_),(2,_)] func91 rfl ntmps91 rfl rfl hG ?_;intro a H;refine kP H (SR fun _ K1=>ak K1 rfl (SQ fun _ K2=>SR fun _ K3=>Rm rfl (Rl jH rfl (Rm rfl (Rl jH rfl (Rc rfl (Kz K3 (Cd rfl ?_ ?_)))))))) <;> clear H K1 K3
 ·intro eO a H
  try have ny:=dT eO
  exact kP H (SR fun _ K4=>ak K4 rfl (LR results91 rfl fun H=>H.rt ⟨false,rfl,by simp only [Aw,false_iff];exact fun e=>absurd (aC List.length e) (by omega)⟩))
 intro eO a H
 try have ny:=dF eO
 refine kP H (Kc K2 (SQ fun _ K5=>SR fun _ K6=>Rm rfl (Rl jH rfl (Rm rfl (Kz K6 (SB ?_))))));clear H K2 K6;intro a H;skip;refine fH (ι:=Nat × GH) (Tc:=[(1,_),(2,_),(15,_),(16,_)]) (Lc:=[]) (fun gh=>[(17,vi gh.1)]) (fun gh=>[]) (fun gh=>gh.2) (fun gh=>gh.1≤A.length∧A.take gh.1=B.take gh.1∧(∀ b o,G b=some o→gh.2 b=some o)) (fun gh=>A.length - gh.1) ((0,G)) (by exact (H).sub ⟨rfl,rfl,rfl,rfl,rfl,av⟩) ?_ ?_
 ·exact ⟨by omega,rfl,fun _ _ h=>h⟩
 clear H;intro gh a w hI H;obtain ⟨k,g⟩:=gh;dsimp only at hI H;obtain ⟨hk,hsame,hgm⟩:=hI;dsimp only [lca,aS] at H;refine kP H (SR fun _ K7=>Rc rfl (Kz K7 (SQ fun _ K8=>Cd rfl ?_ ?_))) <;> clear H K7
 ·intro h18 a H
  try have sO:=dT h18
  have hk2:k < A.length:=by omega
  have hk3:k < B.length:=by omega
  obtain ⟨b1,o1,cs1,rfl,NI,zU,hr1⟩:=hg k A[k].dat (by simp [hk2]);obtain ⟨pA,pn,pc,dA,dn,dc,yA,yn,yc,fA,fn,fc,rfl,-⟩:=hr1.row;obtain ⟨b2,o2,cs2,rfl,NJ,hrow2,hr2⟩:=hh k B[k].dat (by simp [hk3]);obtain ⟨EY,GU,pc2,Es,FT,Et,Ht,Hw,Hu,IJ,IW,IK,rfl,-⟩:=hr2.row;refine kP H (Kc K8 (SQ fun _ K9=>SB (SR fun _ aZ=>Rm rfl (Ri jH iI rfl rfl ?_))));clear H K8;intro a H;refine bD iI (cs:=_) H wn rfl rfl (fun j v hj=>H.hp.aH (aF hgm (zU j v hj))) rfl ?_;clear H;intro a H;refine dR iI H wn rfl ?_;clear H;intro b8 a w xE H;refine kH H (Ra rfl ?_);clear H;intro a H;refine bO iI 0 (vs:=[_,_,_,_,_,_]) _ H wn rfl rfl rfl rfl rfl rfl rfl rfl ?_;clear H;intro w H;dsimp only [List.set,setRow] at H;refine aZ _ _ ?_;clear aZ;refine kP H (SR fun _ bN=>Rm rfl (Rm rfl (Ri jH iI rfl rfl ?_)));clear H;intro a H;refine bD iI (cs:=_) H wn rfl rfl (fun j v hj=>H.hp.aH (aF hgm (hrow2 j v hj))) rfl ?_;clear H;intro a H;refine dR iI H wn rfl ?_;clear H;intro b9 a w uG H;refine bO iI 0 (vs:=[_,_,_,_,_,_]) _ H wn rfl rfl rfl rfl rfl rfl rfl rfl ?_;clear H;intro w H;dsimp only [List.set,setRow] at H;refine bN _ _ ?_;clear bN;refine kP H (SR fun _ bQ=>Rm rfl ?_);clear H;intro a H;refine bD iI (cs:=[_,_,_,_,_,_]) H wn rfl rfl (H.hp.eu 1 rfl rfl) rfl ?_;clear H;intro a H;refine bD iI (cs:=[_,_,_,_,_,_]) H wn rfl rfl (H.hp.eu 0 rfl rfl) rfl ?_;clear H;intro a H;refine qP H wn rfl rfl (hf k hk2 hk3 _ _ _ _ hgm H.ro (hr1.mono hgm) (hr2.mono hgm)) rfl ?_;clear H;rintro v29 Ar a w ⟨Py,rfl,Gq⟩ ER H;refine kH H (Rn rfl (Kz bQ (Cd rfl ?_ ?_))) <;> clear H bQ
  ·intro kG a H
   exact kP H (SR fun _ bT=>ak bT rfl (LR results91 rfl fun H=>H.rt ⟨false,rfl,by simp only [Aw,false_iff];rintro rfl;exact absurd (Gq.2 rfl) (by simpa using kG)⟩))
  intro kG a H
  try have p30:=dF kG
  refine kP H (Kc K9 (SC (Rd rfl (Rm rfl ?_))));clear H K9;intro a H;refine aI ?_;refine dP ((k+1,Ar)) (by exact (H.dK (Pl:=[_,_]) (dw:=[]) [] (by decide) rfl).sub ⟨rfl,rfl,rfl,rfl,rfl,av⟩) ?_ ?_
  ·(try dsimp only);exact ⟨by omega,by rw [jZ hk2,jZ hk3,hsame,Gq.1 (by simpa using kG)],fun b o h=>ER b o (hgm b o h)⟩
  first|omega|(dsimp only;omega)
 intro h18 a H
 try have sO:=dF h18
 refine eD ?_;refine K5 _ _ ?_;clear K5;exact kP H (SR fun _ cu=>ak cu rfl (LR results91 rfl fun H=>H.rt ⟨true,rfl,by rw [kF (by omega),kF (by omega)] at hsame;simpa using hsame⟩))
theorem ajy (G:GH) (w0:World) (hG:Hold G w0) (A B:List bB) (v u fv:aj) (hv:aB G (.sl 7 (A.map bB.dat)) v) (hu:aB G (.sl 7 (B.map bB.dat)) u) (hf:∀ (i:Nat) (h1:i < A.length) (h2:i < B.length),Ka fv G A[i].dat B[i].dat (A[i]=B[i])) :
  Calls prog 166 #[v,u,fv] w0 (bR w0 G fun r G'=>∃ b,r=.bool b∧(b=true↔A=B)):=by
 obtain ⟨vA,vc,rfl,hc1,hc2,hg⟩:=hv.slice;obtain ⟨uA,uc,rfl,hd1,hd2,hh⟩:=hu.slice;have hml:maxLen=9223372036854775807:=rfl;(iterate 2 rw [bZ] at *);refine eN [(0,_),(1,_),(2,_)] func166 rfl ntmps166 rfl rfl hG ?_;intro a H;refine kP H (SR fun _ K1=>ak K1 rfl (SQ fun _ K2=>SR fun _ K3=>Rm rfl (Rl kV rfl (Rm rfl (Rl kV rfl (Rc rfl (Kz K3 (Cd rfl ?_ ?_)))))))) <;> clear H K1 K3
 ·intro eO a H
  try have ny:=dT eO
  exact kP H (SR fun _ K4=>ak K4 rfl (LR results166 rfl fun H=>H.rt ⟨false,rfl,by simp only [Aw,false_iff];exact fun e=>absurd (aC List.length e) (by omega)⟩))
 intro eO a H
 try have ny:=dF eO
 refine kP H (Kc K2 (SQ fun _ K5=>SR fun _ K6=>Rm rfl (Rl kV rfl (Rm rfl (Kz K6 (SB ?_))))));clear H K2 K6;intro a H;skip;refine fH (ι:=Nat × GH) (Tc:=[(1,_),(2,_),(15,_),(16,_)]) (Lc:=[]) (fun gh=>[(17,vi gh.1)]) (fun gh=>[]) (fun gh=>gh.2) (fun gh=>gh.1≤A.length∧A.take gh.1=B.take gh.1∧(∀ b o,G b=some o→gh.2 b=some o)) (fun gh=>A.length - gh.1) ((0,G)) (by exact (H).sub ⟨rfl,rfl,rfl,rfl,rfl,av⟩) ?_ ?_
 ·exact ⟨by omega,rfl,fun _ _ h=>h⟩
 clear H;intro gh a w hI H;obtain ⟨k,g⟩:=gh;dsimp only at hI H;obtain ⟨hk,hsame,hgm⟩:=hI;dsimp only [lca,aS] at H;refine kP H (SR fun _ K7=>Rc rfl (Kz K7 (SQ fun _ K8=>Cd rfl ?_ ?_))) <;> clear H K7
 ·intro h18 a H
  try have sO:=dT h18
  have hk2:k < A.length:=by omega
  have hk3:k < B.length:=by omega
  obtain ⟨b1,o1,cs1,rfl,NI,zU,hr1⟩:=hg k A[k].dat (by simp [hk2]);obtain ⟨pA,pn,pc,dA,dn,dc,yA,yn,yc,fA,fn,fc,rfl,-⟩:=hr1.cell;obtain ⟨b2,o2,cs2,rfl,NJ,hrow2,hr2⟩:=hh k B[k].dat (by simp [hk3]);obtain ⟨EY,GU,pc2,Es,FT,Et,Ht,Hw,Hu,IJ,IW,IK,rfl,-⟩:=hr2.cell;refine kP H (Kc K8 (SQ fun _ K9=>SB (SR fun _ aZ=>Rm rfl (Ri kV iy rfl rfl ?_))));clear H K8;intro a H;refine bD iy (cs:=_) H wn rfl rfl (fun j v hj=>H.hp.aH (aF hgm (zU j v hj))) rfl ?_;clear H;intro a H;refine dR iy H wn rfl ?_;clear H;intro b8 a w xE H;refine kH H (Ra rfl ?_);clear H;intro a H;refine bO iy 0 (vs:=[_,_,_,_,_,_,_]) _ H wn rfl rfl rfl rfl rfl rfl rfl rfl ?_;clear H;intro w H;dsimp only [List.set,setRow] at H;refine aZ _ _ ?_;clear aZ;refine kP H (SR fun _ bN=>Rm rfl (Rm rfl (Ri kV iy rfl rfl ?_)));clear H;intro a H;refine bD iy (cs:=_) H wn rfl rfl (fun j v hj=>H.hp.aH (aF hgm (hrow2 j v hj))) rfl ?_;clear H;intro a H;refine dR iy H wn rfl ?_;clear H;intro b9 a w uG H;refine bO iy 0 (vs:=[_,_,_,_,_,_,_]) _ H wn rfl rfl rfl rfl rfl rfl rfl rfl ?_;clear H;intro w H;dsimp only [List.set,setRow] at H;refine bN _ _ ?_;clear bN;refine kP H (SR fun _ bQ=>Rm rfl ?_);clear H;intro a H;refine bD iy (cs:=[_,_,_,_,_,_,_]) H wn rfl rfl (H.hp.eu 1 rfl rfl) rfl ?_;clear H;intro a H;refine bD iy (cs:=[_,_,_,_,_,_,_]) H wn rfl rfl (H.hp.eu 0 rfl rfl) rfl ?_;clear H;intro a H;refine qP H wn rfl rfl (hf k hk2 hk3 _ _ _ _ hgm H.ro (hr1.mono hgm) (hr2.mono hgm)) rfl ?_;clear H;rintro v29 Ar a w ⟨Py,rfl,Gq⟩ ER H;refine kH H (Rn rfl (Kz bQ (Cd rfl ?_ ?_))) <;> clear H bQ
  ·intro kG a H
   exact kP H (SR fun _ bT=>ak bT rfl (LR results166 rfl fun H=>H.rt ⟨false,rfl,by simp only [Aw,false_iff];rintro rfl;exact absurd (Gq.2 rfl) (by simpa using kG)⟩))
  intro kG a H
  try have p30:=dF kG
  refine kP H (Kc K9 (SC (Rd rfl (Rm rfl ?_))));clear H K9;intro a H;refine aI ?_;refine dP ((k+1,Ar)) (by exact (H.dK (Pl:=[_,_]) (dw:=[]) [] (by decide) rfl).sub ⟨rfl,rfl,rfl,rfl,rfl,av⟩) ?_ ?_
  ·(try dsimp only);exact ⟨by omega,by rw [jZ hk2,jZ hk3,hsame,Gq.1 (by simpa using kG)],fun b o h=>ER b o (hgm b o h)⟩
  first|omega|(dsimp only;omega)
 intro h18 a H
 try have sO:=dF h18
 refine eD ?_;refine K5 _ _ ?_;clear K5;exact kP H (SR fun _ cu=>ak cu rfl (LR results166 rfl fun H=>H.rt ⟨true,rfl,by rw [kF (by omega),kF (by omega)] at hsame;simpa using hsame⟩))
def HV (n:Nat):Prop:=∀ (G:GH) (w0:World),Hold G w0→∀ (A B:List ay) (v u:aj),aB G (.sl 11 (A.map ay.dat)) v→aB G (.sl 11 (B.map ay.dat)) u→bM A < n →
 Calls prog 31 #[v,u] w0 (bR w0 G fun r G'=>∃ b,r=.bool b∧(b=true↔A=B))
theorem ajw {n:Nat} (ih:HV n) (G:GH) (x y:bB) (hz:bM x.flow < n):Ka (.func (.func 167) #[] #[]) G x.dat y.dat (x=y):=by
 intro G1 w0 cs cs' hm hG h1 h2;refine mU (caps:=[]) aij ?_;obtain ⟨pA,pn,pc,dA,dn,dc,yA,yn,yc,fA,fn,fc,rfl,NQ,hf1⟩:=h1.cell;obtain ⟨EY,GU,pc2,Es,FT,Et,Ht,Hw,Hu,IJ,IW,IK,rfl,Jh,hf2⟩:=h2.cell;have he:=bB.eq_iff x y;refine eN [(0,_),(1,_)] func167 rfl ntmps167 rfl rfl hG ?_;intro a H;refine dz (fun _ K1=>?_);refine eU (cs:=[_,_,_,_,_,_,_]) H wn rfl rfl rfl ?_;clear H;intro b2 a w hb2 H;refine eU (cs:=[_,_,_,_,_,_,_]) H wn rfl rfl rfl ?_;clear H;intro b3 a w hb3 H;refine kH H (ak K1 rfl (SR fun _ K2=>aW AO aD 1 rfl rfl (aW AO aD 0 rfl rfl (Rc rfl (Rm rfl (Sp 10 rfl ?_ ?_)))))) <;> clear H K1
 ·intro h10 a H
  try have mX:=dT h10
  refine kH H (YF KE h10 rfl ?_);clear H;intro a H;refine bD nC (cs:=[_,_,_,_,_]) H (wg H rfl rfl h10) rfl rfl (H.hp.eu 1 rfl rfl) rfl ?_;clear H;intro a H;refine kH H (YF KE h10 rfl ?_);clear H;intro a H;refine bD nC (cs:=[_,_,_,_,_]) H (wg H rfl rfl h10) rfl rfl (H.hp.eu 0 rfl rfl) rfl ?_;clear H;intro a H;refine s_call TY H (wg H rfl rfl h10) rfl (Uh _ _ H.ro x.head y.head _ _ _ _ _ _ NQ Jh) rfl ?_;clear H;rintro vH GH a w rfl Dy H;refine kH H (Pt h10 rfl (Rm rfl (Sp 17 rfl ?_ ?_))) <;> clear H
  ·intro dS a H
   try have mJ:=dT dS
   refine kH H (YF AQ dS rfl (YO iM 1 dS rfl (YF AQ dS rfl (YO iM 0 dS rfl ?_))));clear H;intro a H;refine s_call P6 H (wg H rfl rfl dS) rfl (ih _ _ H.ro x.flow y.flow _ _ (hf1.mono Dy) (hf2.mono Dy) hz) rfl ?_;clear H;rintro vF GF a w ⟨bF,rfl,hbF⟩ QF H;exact kH H (Pt dS rfl (ak K2 rfl (LR results167 rfl fun H=>H.rt ⟨_,rfl,by rw [← he];simp_all⟩)))
  intro dS a H
  try have mJ:=dF dS
  exact kH H (aT dS rfl (aP dS rfl (Pf dS rfl (ak K2 rfl (LR results167 rfl fun H=>H.rt ⟨_,rfl,by rw [← he];simp_all⟩)))))
 intro h10 a H
 try have mX:=dF h10
 exact kH H (aT h10 rfl (aP h10 rfl (Pf h10 rfl (Rm rfl (aT rfl rfl (aP rfl rfl (Pf rfl rfl (ak K2 rfl (LR results167 rfl fun H=>H.rt ⟨_,rfl,by rw [← he];simp_all⟩)))))))))
theorem ajE {n:Nat} (ih:HV n) (hn:n≤4294967297) (G:GH) (x y:bJ) (hz:iD x.cells < n):Ka (.func (.func 92) #[] #[]) G x.dat y.dat (x=y):=by
 intro G1 w0 cs cs' hm hG h1 h2;refine mU (caps:=[]) aju ?_;obtain ⟨pA,pn,pc,dA,dn,dc,yA,yn,yc,fA,fn,fc,rfl,NQ,hf1⟩:=h1.row;obtain ⟨EY,GU,pc2,Es,FT,Et,Ht,Hw,Hu,IJ,IW,IK,rfl,Jh,hf2⟩:=h2.row;have he:=bJ.eq_iff x y;refine eN [(0,_),(1,_)] func92 rfl ntmps92 rfl rfl hG ?_;intro a H;refine dz (fun _ K1=>?_);refine eU (cs:=[_,_,_,_,_,_]) H wn rfl rfl rfl ?_;clear H;intro b2 a w hb2 H;refine eU (cs:=[_,_,_,_,_,_]) H wn rfl rfl rfl ?_;clear H;intro b3 a w hb3 H;refine kH H (ak K1 rfl (SR fun _ K2=>Rf FV rfl ?_));clear H K1;intro a H;refine bD nC (cs:=[_,_,_,_,_]) H wn rfl rfl (H.hp.eu 1 rfl rfl) rfl ?_;clear H;intro a H;refine kH H (Rf FV rfl ?_);clear H;intro a H;refine bD nC (cs:=[_,_,_,_,_]) H wn rfl rfl (H.hp.eu 0 rfl rfl) rfl ?_;clear H;intro a H;refine s_call TY H wn rfl (Uh _ _ H.ro x.head y.head _ _ _ _ _ _ NQ Jh) rfl ?_;clear H;rintro vH GH a w rfl Dy H;refine kH H (Rm rfl (Sp 10 rfl ?_ ?_)) <;> clear H
 ·intro h10 a H
  try have mX:=dT h10
  refine kH H (YF qG h10 rfl (YO qU 1 h10 rfl (YF qG h10 rfl (YO qU 0 h10 rfl ?_))));clear H;intro a H;refine s_call aii H (wg H rfl rfl h10) rfl (ajy _ _ H.ro x.cells y.cells _ _ _ (hf1.mono Dy) (hf2.mono Dy) (fun i h1 h2=>ajw ih _ _ _ (by have:=Mi h1;omega))) rfl ?_;clear H;rintro vF GF a w ⟨bF,rfl,hbF⟩ QF H;exact kH H (Pt h10 rfl (ak K2 rfl (LR results92 rfl fun H=>H.rt ⟨_,rfl,by rw [← he];simp_all⟩)))
 intro h10 a H
 try have mX:=dF h10
 exact kH H (aT h10 rfl (aP h10 rfl (Pf h10 rfl (ak K2 rfl (LR results92 rfl fun H=>H.rt ⟨_,rfl,by rw [← he];simp_all⟩)))))
theorem aaN {n:Nat} (ih:HV n) (hn:n≤4294967297) (G:GH) (w0:World) (hG:Hold G w0) (x y:ay) (cs cs':List aj) (h1:bH G x.dat cs) (h2:bH G y.dat cs') (hz:bM x.flow < n) (hr:fq x.rows < n) :
  Calls prog 33 #[.agg cs.toArray,.agg cs'.toArray] w0 (bR w0 G fun u G'=>∃ b,u=.bool b∧(b=true↔x=y)):=by
 obtain ⟨pA,pn,pc,dA,dn,dc,yA,yn,yc,fA,fn,fc,rA,rn,rc,rfl,NQ,hf1,hw1⟩:=h1.item;obtain ⟨EY,GU,pc2,Es,FT,Et,Ht,Hw,Hu,IJ,IW,IK,rA2,rn2,rc2,rfl,Jh,hf2,hw2⟩:=h2.item;have he:=ay.eq_iff x y;have hb:=bytes_beq x.text y.text;refine eN [(0,_),(1,_)] func33 rfl ntmps33 rfl rfl hG ?_;intro a H;refine dz (fun _ K1=>?_);refine eU (cs:=[_,_,_,_,_,_,_,_,_,_,_]) H wn rfl rfl rfl ?_;clear H;intro b2 a w hb2 H;refine eU (cs:=[_,_,_,_,_,_,_,_,_,_,_]) H wn rfl rfl rfl ?_;clear H;intro b3 a w hb3 H;refine kH H (ak K1 rfl (SR fun _ K2=>aW gG aD 1 rfl rfl (aW gG aD 0 rfl rfl (Rc rfl (Rm rfl (Sp 10 rfl ?_ ?_)))))) <;> clear H K1
 ·intro h10 a H
  try have mX:=dT h10
  refine kH H (YF BN h10 rfl (YO aD 1 h10 rfl (YF BN h10 rfl (YO aD 0 h10 rfl (YC h10 rfl (Pt h10 rfl (Rm rfl (Sp 17 rfl ?_ ?_)))))))) <;> clear H
  ·intro dS a H
   try have mJ:=dT dS
   refine kH H (YF qg dS rfl (YO aD 1 dS rfl (YF qg dS rfl (YO aD 0 dS rfl (YC dS rfl (Pt dS rfl (Rm rfl (Sp 24 rfl ?_ ?_)))))))) <;> clear H
   ·intro eP a H
    try have nA:=dT eP
    refine kH H (YF uz eP rfl (YO gX 1 eP rfl (YF uz eP rfl (YO gX 0 eP rfl ?_))));clear H;intro a H;refine GY H (wg H rfl rfl eP) rfl rfl rfl ?_;clear H;intro a H;refine kH H (Pt eP rfl (Rm rfl (Sp 31 rfl ?_ ?_))) <;> clear H
    ·intro h31 a H
     try have p31:=dT h31
     refine kH H (YF Ew h31 rfl ?_);clear H;intro a H;refine bD nC (cs:=[_,_,_,_,_]) H (wg H rfl rfl h31) rfl rfl (H.hp.eu 1 rfl rfl) rfl ?_;clear H;intro a H;refine kH H (YF Ew h31 rfl ?_);clear H;intro a H;refine bD nC (cs:=[_,_,_,_,_]) H (wg H rfl rfl h31) rfl rfl (H.hp.eu 0 rfl rfl) rfl ?_;clear H;intro a H;refine s_call TY H (wg H rfl rfl h31) rfl (Uh _ _ H.ro x.head y.head _ _ _ _ _ _ NQ Jh) rfl ?_;clear H;rintro vH GH a w rfl Dy H;refine kH H (Pt h31 rfl (Rm rfl (Sp 38 rfl ?_ ?_))) <;> clear H
     ·intro wm a H
      try have p38:=dT wm
      refine kH H (YF yI wm rfl (YO iM 1 wm rfl (YF yI wm rfl (YO iM 0 wm rfl ?_))));clear H;intro a H;refine s_call P6 H (wg H rfl rfl wm) rfl (ih _ _ H.ro x.flow y.flow _ _ (hf1.mono Dy) (hf2.mono Dy) hz) rfl ?_;clear H;rintro vF GF a w ⟨bF,rfl,hbF⟩ QF H;refine kH H (Pt wm rfl (Rm rfl (Sp 45 rfl ?_ ?_))) <;> clear H
      ·intro h45 a H
       try have p45:=dT h45
       refine kH H (YF rC h45 rfl (YO rR 1 h45 rfl (YF rC h45 rfl (YO rR 0 h45 rfl ?_))));clear H;intro a H;refine s_call ajt H (wg H rfl rfl h45) rfl (ajA _ _ H.ro x.rows y.rows _ _ _ ((hw1.mono Dy).mono QF) ((hw2.mono Dy).mono QF) (fun i h1 h2=>ajE ih hn _ _ _ (by have:=Mk h1;omega))) rfl ?_;clear H;rintro vW GW a w ⟨bW,rfl,hbW⟩ hmW H;exact kH H (Pt h45 rfl (ak K2 rfl (LR results33 rfl fun H=>H.rt ⟨_,rfl,by rw [← he];simp_all⟩)))
      intro h45 a H
      try have p45:=dF h45
      exact kH H (aT h45 rfl (aP h45 rfl (Pf h45 rfl (ak K2 rfl (LR results33 rfl fun H=>H.rt ⟨_,rfl,by rw [← he];simp_all⟩)))))
     intro wm a H
     try have p38:=dF wm
     exact kH H (aT wm rfl (aP wm rfl (Pf wm rfl (Rm rfl (aT rfl rfl (aP rfl rfl (Pf rfl rfl (ak K2 rfl (LR results33 rfl fun H=>H.rt ⟨_,rfl,by rw [← he];simp_all⟩)))))))))
    intro h31 a H
    try have p31:=dF h31
    exact kH H (aT h31 rfl (aP h31 rfl (Pf h31 rfl (Rm rfl (aT rfl rfl (aP rfl rfl (Pf rfl rfl (Rm rfl (aT rfl rfl (aP rfl rfl (Pf rfl rfl (ak K2 rfl (LR results33 rfl fun H=>H.rt ⟨_,rfl,by rw [← he];simp_all⟩)))))))))))))
   intro eP a H
   try have nA:=dF eP
   exact kH H (aT eP rfl (aP eP rfl (Pf eP rfl (Rm rfl (aT rfl rfl (aP rfl rfl (Pf rfl rfl (Rm rfl (aT rfl rfl (aP rfl rfl (Pf rfl rfl (Rm rfl (aT rfl rfl (aP rfl rfl (Pf rfl rfl (ak K2 rfl (LR results33 rfl fun H=>H.rt ⟨_,rfl,by rw [← he];simp_all⟩)))))))))))))))))
  intro dS a H
  try have mJ:=dF dS
  exact kH H (aT dS rfl (aP dS rfl (Pf dS rfl (Rm rfl (aT rfl rfl (aP rfl rfl (Pf rfl rfl (Rm rfl (aT rfl rfl (aP rfl rfl (Pf rfl rfl (Rm rfl (aT rfl rfl (aP rfl rfl (Pf rfl rfl (Rm rfl (aT rfl rfl (aP rfl rfl (Pf rfl rfl (ak K2 rfl (LR results33 rfl fun H=>H.rt ⟨_,rfl,by rw [← he];simp_all⟩)))))))))))))))))))))
 intro h10 a H
 try have mX:=dF h10
 refine kH H (aT h10 rfl (aP h10 rfl (Pf h10 rfl (Rm rfl (aT rfl rfl (aP rfl rfl (Pf rfl rfl (Rm rfl (aT rfl rfl (aP rfl rfl (Pf rfl rfl (Rm rfl (aT rfl rfl (aP rfl rfl (Pf rfl rfl (Rm rfl (aT rfl rfl (aP rfl rfl (Pf rfl rfl (Rm rfl (aT rfl rfl (aP rfl rfl ?_))))))))))))))))))))));clear H;intro a H;exact kH H (Pf rfl rfl (ak K2 rfl (LR results33 rfl fun H=>H.rt ⟨_,rfl,by rw [← he];simp_all⟩)))
theorem ajB {n:Nat} (ih:HV n) (hn:n≤4294967297) (G:GH) (x y:ay) (hz:bM x.flow < n) (hr:fq x.rows < n):Ka (.func (.func 33) #[] #[]) G x.dat y.dat (x=y):=by
 intro G1 w0 cs cs' hm hG h1 h2;exact mU (caps:=[]) aaH (aaN ih hn G1 w0 hG x y cs cs' h1 h2 hz hr)
theorem ajF {n:Nat} (ih:HV n) (hn:n≤4294967297):HV (n+1):=by
 intro G w0 hG A B v u hv hu hz;refine eN [(0,_),(1,_)] func31 rfl ntmps31 rfl rfl hG ?_;intro a H;refine kP H (SR fun _ K1=>ak K1 rfl (SR fun _ K2=>Rm rfl (Rm rfl ?_)));clear H K1;intro a H;refine s_call ajs H wn rfl (ajz _ _ H.ro A B _ _ _ hv hu (fun i h1 h2=>ajB ih hn _ _ _ (by have:=Sl h1;omega) (by have:=Sl h1;omega))) rfl ?_;clear H;rintro v7 G7 a w ⟨b7,rfl,tV⟩ uJ H;exact kH H (ak K2 rfl (LR results31 rfl fun H=>H.rt ⟨_,rfl,tV⟩))
theorem Uf:∀ n:Nat,n≤4294967298→HV n
 | 0,_=>fun _ _ _ _ _ _ _ _ _ h=>absurd h (by omega)
 | n+1,hn=>ajF (Uf n (by omega)) (by omega)
theorem aaO (G:GH) (w0:World) (hG:Hold G w0) (A B:List ay) (v u:aj) (hv:aB G (.sl 11 (A.map ay.dat)) v) (hu:aB G (.sl 11 (B.map ay.dat)) u) (hz:bM A≤4294967296) :
  Calls prog 31 #[v,u] w0 (bR w0 G fun r G'=>∃ b,r=.bool b∧(b=true↔A=B)):=Uf 4294967298 (by omega) G w0 hG A B v u hv hu (by omega)
theorem ajK (G:GH) (w0:World) (hG:Hold G w0) (x y:ay) (cs cs':List aj) (h1:bH G x.dat cs) (h2:bH G y.dat cs') (hz:dG x.dat≤4294967296) :
  Calls prog 33 #[.agg cs.toArray,.agg cs'.toArray] w0 (bR w0 G fun u G'=>∃ b,u=.bool b∧(b=true↔x=y)) :=
 aaN (Uf 4294967297 (by omega)) (by omega) G w0 hG x y cs cs' h1 h2 (by have:=oK x;omega) (by have:=oK x;omega)
end
section
open Go.RowKit
theorem T9:∀ args w,(callFunc 56 args).run prog w=.ok (.enter 56 args) w:=enters func56 rfl (by kernel_rfl)
theorem aaK:∀ args w,(callFunc 58 args).run prog w=.ok (.enter 58 args) w:=enters func58 rfl (by kernel_rfl)
theorem aaL:∀ args w,(callFunc 59 args).run prog w=.ok (.enter 59 args) w:=enters func59 rfl (by kernel_rfl)
theorem aqG {s:wO} (h:gU s.styles≠0):lW s=gU s.styles:=by rw [lW,bV,au h]
theorem XQ {s:wO} (h0:gU s.styles=0) (h:wS s.lists≠0):lW s=wS s.lists:=by rw [lW,bV,ah (by rw [h0];decide),bV,au h]
theorem J2 {s:wO} (h0:gU s.styles=0) (h1:wS s.lists=0) (h:uV s.comments≠0):lW s=uV s.comments:=by rw [lW,bV,ah (by rw [h0];decide),bV,ah (by rw [h1];decide),bV,au h]
theorem L8 {s:wO} (h0:gU s.styles=0) (h1:wS s.lists=0) (h2:uV s.comments=0):lW s=AL s.vars:=by
 rw [lW,bV,ah (by rw [h0];decide),bV,ah (by rw [h1];decide),bV,ah (by rw [h2];decide),bV,bV]
 split
 ·rfl
 rename_i h;exact (gF.1 h).symm
theorem Q6 {E:Nat→Int} {n m:Nat} (h:(m:Int) < n):bV [bS (decide ((m:Int) < (n:Int))) 9,iQ E (min n m)]=9:=by
 rw [gq h];rfl
theorem Q5 {E:Nat→Int} {n m:Nat} (h:¬ (m:Int) < n):bV [bS (decide ((m:Int) < (n:Int))) 9,iQ E (min n m)]=iQ E n:=by
 rw [iC h,bV,ah (by decide),bV,bV,show min n m=n by omega]
 split
 ·rfl
 rename_i h;exact (gF.1 h).symm
theorem zF {E:Nat→Int} {n k:Nat} (hk:k < n) (he:bV (((List.range n).map E).drop k)=iQ E n) (h:E k≠0):iQ E n=E k:=by
 rw [← he,qZ hk,au h]
theorem Pw {E:Nat→Int} {n k:Nat} (hk:k < n) (he:bV (((List.range n).map E).drop k)=iQ E n) (h:E k=0):bV (((List.range n).map E).drop (k+1))=iQ E n:=by
 rw [← he,qZ hk,ah (by rw [h];decide)]
theorem Pv {E:Nat→Int} {n k:Nat} (hk:n≤k) (he:bV (((List.range n).map E).drop k)=iQ E n):iQ E n=0:=by
 rw [← he,gy (by simpa using hk)];rfl
theorem wW {l:List Int} {e:Int} (h:e≠0):bV (e :: l)=e:=by rw [bV,au h]
theorem jv {l:List Int} {e:Int} (h:e=0):bV (e :: l)=bV l:=by rw [bV,ah (by rw [h];decide)]
theorem aem {α:Type} {l:List α} {p:α→Bool} {j:Nat} (h:j < l.length):((l.take (j+1)).findIdx? p).isSome=(((l.take j).findIdx? p).isSome || p l[j]):=by
 rw [jZ h,List.findIdx?_append]
 cases (l.take j).findIdx? p <;> simp [List.findIdx?_cons] <;> split <;> simp_all
set_option maxHeartbeats 4000000 in
theorem aog (G:GH) (w0:World) (hG:Hold G w0) (s:wO) (a b c d:aj) (hR:Ef G s a b c d) (hz:MK s) :
  Calls prog 18 #[.agg #[a,b,c,d]] w0 (bR w0 G fun u G'=>u=vi (lW s)):=by
 obtain ⟨sA,sc,rfl,-,-,-⟩:=hR.st.slice;obtain ⟨lA,lc,rfl,-,hlc,-⟩:=hR.li.slice;obtain ⟨cA,cc,rfl,-,hcc,-⟩:=hR.cm.slice;obtain ⟨vA,vc,rfl,-,hvc,-⟩:=hR.va.slice;have hml:maxLen=9223372036854775807:=rfl;have hl1:=hz.ln;have hl2:=hz.cn;have hl3:=hz.vn;refine eN [(0,_)] func18 rfl ntmps18 rfl rfl hG ?_;intro a H;refine dz (fun _ K1=>?_);refine eU (cs:=[_,_,_,_]) H wn rfl rfl rfl ?_;clear H;intro b1 a w hb1 H;refine kH H (ak K1 rfl (SQ fun _ K2=>SQ fun _ K3=>?_));clear H K1;intro a H;obtain ⟨Ga,hma,hb1',H⟩:=H.fD
 simp only [bZ] at hb1' hR
 have hc0:aH Ga b1 0=some (.slice sA s.styles.length sc):=by unfold aH;rw [hb1'];rfl
 have hc1:aH Ga b1 1=some (.slice lA s.lists.length lc):=by unfold aH;rw [hb1'];rfl
 have hc2:aH Ga b1 2=some (.slice cA s.comments.length cc):=by unfold aH;rw [hb1'];rfl
 have hc3:aH Ga b1 3=some (.slice vA s.vars.length vc):=by unfold aH;rw [hb1'];rfl
 have xG:=hR.li.mono hma;have hcm:=hR.cm.mono hma;have hva:=hR.va.mono hma;refine kP H (SC (Rf FY rfl (Rg rT rfl (by assumption) ?_)));clear H;intro a H;refine s_call aaI H wn rfl (Z4 _ _ H.ro s.styles _ (hR.st.mono hma) hz.sn) rfl ?_;clear H;rintro v19 YB a w rfl Jk H;replace hc1:=aF Jk hc1;replace hc2:=aF Jk hc2;replace hc3:=aF Jk hc3;replace xG:=xG.mono Jk;replace hcm:=hcm.mono Jk;replace hva:=hva.mono Jk;refine kH H (aM K3 rfl (SR fun _ K4=>Rm rfl (Rc rfl (Kz K4 (Cd rfl ?_ ?_))))) <;> clear H K3 K4
 ·intro h21 a H
  try have oV:=dT h21
  refine aO (fun _ K5=>?_);have e:lW s=gU s.styles:=aqG oV;exact kP H (SC (Rm rfl (aM K5 rfl (LR results18 rfl fun H=>H.rt (aC vi e.symm)))))
 intro h21 a H
 try have oV:=dF h21
 have e0:gU s.styles=0:=gF.1 oV;refine kP H (Kc K2 (SQ fun _ K6=>SR fun _ K7=>Rf BO rfl (Rg xV rfl (by assumption) ?_)));clear H K2;intro a H;refine kH H (Rl xW rfl (Rc rfl (Kz K7 (Cd rfl ?_ ?_)))) <;> clear H K7
 ·intro fV a H
  try have p26:=dT fV
  refine aO (fun _ K8=>?_)
  have e:lW s=9:=by
   have h:wS s.lists=9:=Q6 (m:=64) (by omega);rw [XQ e0 (by rw [h];decide),h]
  exact kP H (SC (aM K8 rfl (LR results18 rfl fun H=>H.rt (aC vi e.symm))))
 intro fV a H
 try have p26:=dF fV
 have Du:wS s.lists=iQ (yV s.lists) s.lists.length:=Q5 (m:=64) (by omega);refine kP H (Kc K6 (SQ fun _ K9=>SR fun _ aZ=>ak aZ rfl (SB ?_)));clear H K6 aZ;intro a H;skip;refine fH (ι:=Nat × GH) (Tc:=[(1,_)]) (Lc:=[]) (fun gh=>[(4,vi gh.1)]) (fun gh=>[]) (fun gh=>gh.2) (fun gh=>gh.1≤s.lists.length∧bV (((List.range s.lists.length).map (yV s.lists)).drop gh.1)=iQ (yV s.lists) s.lists.length∧(∀ b o,YB b=some o→gh.2 b=some o)) (fun gh=>s.lists.length - gh.1) ((0,YB)) (by exact (H).sub ⟨rfl,rfl,av⟩) ?_ ?_
 ·exact ⟨iK _,rfl,fun _ _ h=>h⟩
 clear H;intro gh a w hI H;obtain ⟨k,g⟩:=gh;dsimp only at hI H;obtain ⟨hk,he,hgm⟩:=hI;have alq:=aF hgm hc1;have abO:=xG.mono hgm;dsimp only [lca,aS] at H;refine kP H (SQ fun _ bN=>SR fun _ bQ=>Rm rfl (Rf BO rfl (Rg xV rfl (by assumption) ?_)));clear H;intro a H;refine kH H (Rl xW rfl (Rc rfl (Kz bQ (Cd rfl ?_ ?_)))) <;> clear H bQ
 ·intro h31 a H
  try have p31:=dT h31
  have hk2:k < s.lists.length:=by omega
  have hk1:k - 1 < s.lists.length:=by omega
  obtain ⟨lb,lo,B,d,rfl,hrow,hlv⟩:=JH abO hk2;obtain ⟨_,_,_,_,Jg,hrow',-⟩:=JH abO hk1
  injection Jg with Jg
  injection Jg with e1 e2
  subst e1;subst e2
  have hek:yV s.lists k=bV [lQ (fun k=>(s.lists[k]?.map eT.id).getD 0) k,fC s.lists[k].levels]:=by unfold yV;rw [gD hk2];rfl
  have hinc:xK s.lists[k].id s.lists[k - 1].id (decide ((k:Int)=0))=lQ (fun k=>(s.lists[k]?.map eT.id).getD 0) k:=by
   rw [← WI];(try dsimp only);rw [gD hk2,gD hk1];simp
  refine kP H (Kc bN (SQ fun _ bT=>SB (SR fun _ cu=>Rf BO rfl (Rg xV rfl (by assumption) ?_))));clear H bN;intro a H;refine kH H (Rm rfl (Ri xW Ag rfl rfl ?_));clear H;intro a H;refine bD Ag (cs:=[vi s.lists[k].id,.slice B s.lists[k].levels.length d]) H wn rfl rfl (fun j v hj=>H.hp.aH (hrow j v hj)) rfl ?_;clear H;intro a H;refine dR Ag H wn rfl ?_;clear H;intro b5 a w hb5 H;refine bO Ag 0 (vs:=[_,_]) _ H wn rfl rfl rfl rfl rfl rfl rfl rfl ?_;clear H;intro w H;dsimp only [List.set,setRow] at H;refine cu _ _ ?_;clear cu;refine aO (fun _ dL=>?_);refine aO (fun _ dO=>?_);refine dI hmx [[],[0],[],[2],[],[4],[4,5],(ra 2 5),(ra 2 6),(ra 2 7),[],[10],(ra 0 12),(ra 0 13)] [13] (by kernel_rfl) [_,vi s.lists[k].id,_,_,_,_,vi ((k - 1:Nat):Int),_,_,_,_,_,vi (lQ (fun k=>(s.lists[k]?.map eT.id).getD 0) k)] H (aG (Z0 rfl (Rf Ni rfl)) (Z1 0 39 rfl (Ro aD 0 rfl)) (Z0 rfl (Rf BO rfl)) (X1 2 41 rfl fun hG=>Rg xV rfl (aF hG alq)) (aG (Z0 rfl (Rm rfl)) (Z1 4 43 rfl (Rs rfl)) ?_ (Z2 3 42 6 45 rfl (Ri xW Ag rfl rfl)) (aG (Z1 7 46 rfl (Rf Ni rfl)) (X1 8 47 rfl fun hG=>Rg aD rfl (aF hG (hrow' 0 _ rfl))) (Z0 rfl (Rm rfl)) (Z1 10 49 rfl (Rc rfl)) (bG ?_ (bG (cZ rfl) dU))))) ?_
  ·refine eF 5 44 rfl rfl fun _ a w G1 hG HT H fin=>?_;refine He H wn rfl rfl rfl ?_;clear H;intro a H;exact fin H iJ (aC vi (by omega))
  ·refine sW 1 40 9 48 11 50 rfl rfl fun _ a w G1 hG HT H fin=>?_;refine s_call T9 H wn rfl (WJ _ _ H.ro s.lists[k].id s.lists[k - 1].id (decide ((k:Int)=0))) rfl ?_;clear H;rintro v51 G51 a w ⟨rfl,-⟩ akN H;exact fin H akN (aC vi hinc)
  clear H;intro a w G sH H hv;have H:=H.aU (hv 12 51 rfl rfl) rfl;clear hv;refine kH H (Ra rfl ?_);clear H;intro a H;refine aI ⟨rfl,?_⟩;refine dO _ _ ?_;clear dO;refine kP H (SR fun _ dJ=>Rm rfl (Rc rfl (Kz dJ (Cd rfl ?_ ?_)))) <;> clear H dJ
  ·intro gV a H
   try have p53:=dT gV
   refine aO (fun _ dW=>?_)
   have e:lW s=lQ (fun k=>(s.lists[k]?.map eT.id).getD 0) k:=by
    have h1:yV s.lists k=lQ (fun k=>(s.lists[k]?.map eT.id).getD 0) k:=by rw [hek,wW p53]
    have h2:wS s.lists=lQ (fun k=>(s.lists[k]?.map eT.id).getD 0) k:=by rw [Du,zF hk2 he (by rw [h1];exact p53),h1]
    rw [XQ e0 (by rw [h2];exact p53),h2]
   exact kP H (SC (Rm rfl (aM dW rfl (LR results18 rfl fun H=>H.rt (aC vi e.symm)))))
  intro gV a H
  try have p53:=dF gV
  refine kP H (Kc dL (SR fun _ eG=>aW Uk X9 0 rfl rfl ?_));clear H dL;intro a H;refine s_call aaJ H wn rfl (ZY _ _ H.ro s.lists[k].levels _ (hlv.mono sH) (hz.lt _ (jr hk2))) rfl ?_;clear H;rintro v57 G57 a w rfl ama H;refine kH H (ak eG rfl (SR fun _ eB=>Rm rfl (Rc rfl (Kz eB (Cd rfl ?_ ?_))))) <;> clear H eG eB
  ·intro jE a H
   try have p59:=dT jE
   refine aO (fun _ eH=>?_)
   have e:lW s=fC s.lists[k].levels:=by
    have h1:yV s.lists k=fC s.lists[k].levels:=by rw [hek,jv (gF.1 p53),wW p59]
    have h2:wS s.lists=fC s.lists[k].levels:=by rw [Du,zF hk2 he (by rw [h1];exact p59),h1]
    rw [XQ e0 (by rw [h2];exact p59),h2]
   exact kP H (SC (Rm rfl (aM eH rfl (LR results18 rfl fun H=>H.rt (aC vi e.symm)))))
  intro jE a H
  try have p59:=dF jE
  refine kP H (Kc bT (SC (Rm rfl (Rd rfl (Ra rfl ?_)))));clear H bT;intro a H;refine aI ?_;refine dP ((k+1,G57)) (by exact (H.dK (Pl:=[_]) (dw:=[]) [] (by decide) rfl).sub ⟨rfl,rfl,av⟩) ?_ ?_
  ·(try dsimp only);exact ⟨by omega,Pw hk2 he (by rw [hek,jv (gF.1 p53),jv (gF.1 p59)];rfl),fun b o h=>ama b o (sH b o (hgm b o h))⟩
  first|omega|(dsimp only;omega)
 intro h31 a H
 try have p31:=dF h31
 refine eD ?_;refine K9 _ _ ?_;clear K9;refine aO (fun _ fO=>?_);refine aO (fun _ gJ=>?_)
 have zO:wS s.lists=0:=by rw [Du,Pv (by omega) he]
 have alr:=aF hgm hc2;have alu:=aF hgm hc3;replace hcm:=hcm.mono hgm;replace hva:=hva.mono hgm;refine kP H (SC (Rf IQ rfl (Rg Br rfl (by assumption) ?_)));clear H;intro a H;refine kH H (Rl Ai rfl (Rc rfl (Kn gJ (Cd rfl ?_ ?_)))) <;> clear H gJ
 ·intro h64 a H
  try have p64:=dT h64
  refine aO (fun _ gT=>?_)
  have e:lW s=9:=by
   have h:uV s.comments=9:=Q6 (m:=1024) (by omega);rw [J2 e0 zO (by rw [h];decide),h]
  exact kP H (SC (aM gT rfl (LR results18 rfl fun H=>H.rt (aC vi e.symm))))
 intro h64 a H
 try have p64:=dF h64
 have I4:uV s.comments=iQ (uW s.comments) s.comments.length:=Q5 (m:=1024) (by omega);refine kP H (Kc fO (SQ fun _ gM=>SR fun _ jh=>ak jh rfl (SB ?_)));clear H fO jh;intro a H;skip;refine fH (ι:=Nat × GH) (Tc:=[(1,_)]) (Lc:=[]) (fun gh=>[(8,vi gh.1)]) (fun gh=>[]) (fun gh=>gh.2) (fun gh=>gh.1≤s.comments.length∧bV (((List.range s.comments.length).map (uW s.comments)).drop gh.1)=iQ (uW s.comments) s.comments.length∧(∀ b o,g b=some o→gh.2 b=some o)) (fun gh=>s.comments.length - gh.1) ((0,g)) (by exact (H).sub ⟨rfl,rfl,av⟩) ?_ ?_
 ·exact ⟨iK _,rfl,fun _ _ h=>h⟩
 clear H;intro gh a w hI H;obtain ⟨i,g2⟩:=gh;dsimp only at hI H;obtain ⟨hi,hce,jX⟩:=hI;have abB:=aF jX alr;have VB:=hcm.mono jX;dsimp only [lca,aS] at H;refine kP H (SQ fun _ jo=>SR fun _ iU=>Rm rfl (Rf IQ rfl (Rg Br rfl (by assumption) ?_)));clear H;intro a H;refine kH H (Rl Ai rfl (Rc rfl (Kz iU (Cd rfl ?_ ?_)))) <;> clear H iU
 ·intro iq a H
  try have p69:=dT iq
  have hi2:i < s.comments.length:=by omega
  have hi1:i - 1 < s.comments.length:=by omega
  obtain ⟨cb,co,rfl,abF,-⟩:=Kv VB hi2;obtain ⟨_,_,VE,alH,-⟩:=Kv VB hi1
  injection VE with VE
  injection VE with e1 e2
  subst e1;subst e2;have hte:=hz.ct _ (jr hi2);obtain ⟨x,hx⟩:∃ x,x=s.comments[i]:=⟨_,rfl⟩
  have Je:uW s.comments i=BI s.comments i x:=by unfold uW;rw [gD hi2,hx]
  have alS:xK x.id s.comments[i - 1].id (decide ((i:Int)=0))=lQ (fun k=>(s.comments[k]?.map jI.id).getD 0) i:=by
   rw [← WI];(try dsimp only);rw [gD hi2,gD hi1,hx];simp
  rw [← hx] at abF hte;refine kP H (Kc jo (SQ fun _ kX=>SB (SR fun _ kY=>Rf IQ rfl (Rg Br rfl (by assumption) ?_))));clear H jo;intro a H;refine kH H (Rm rfl (Ri Ai ze rfl rfl ?_));clear H;intro a H;refine bD ze (cs:=x.cells) H wn rfl rfl (fun j v hj=>H.hp.aH (abF j v hj)) rfl ?_;clear H;intro a H;refine dR ze H wn rfl ?_;clear H;intro b9 a w uG H;refine bO ze 0 (vs:=[_,_,_,_,_,_]) _ H wn rfl rfl rfl rfl rfl rfl rfl rfl ?_;clear H;intro w H;dsimp only [List.set,setRow] at H;refine kY _ _ ?_;clear kY;refine aO (fun _ jT=>?_);refine aO (fun _ lG=>?_);refine dI hmx [[],[0],[],[2],[],[4],[4,5],(ra 2 5),(ra 2 6),(ra 2 7),[],[10],(ra 0 12),(ra 0 13)] [13] (by kernel_rfl) [_,vi x.id,_,_,_,_,vi ((i - 1:Nat):Int),_,_,_,_,_,vi (lQ (fun k=>(s.comments[k]?.map jI.id).getD 0) i)] H (aG (Z0 rfl (Rf Nj rfl)) (Z1 0 77 rfl (Ro aD 0 rfl)) (Z0 rfl (Rf IQ rfl)) (X1 2 79 rfl fun hG=>Rg Br rfl (aF hG abB)) (aG (Z0 rfl (Rm rfl)) (Z1 4 81 rfl (Rs rfl)) ?_ (Z2 3 80 6 83 rfl (Ri Ai ze rfl rfl)) (aG (Z1 7 84 rfl (Rf Nj rfl)) (X1 8 85 rfl fun hG=>Rg aD rfl (aF hG (alH 0 _ rfl))) (Z0 rfl (Rm rfl)) (Z1 10 87 rfl (Rc rfl)) (bG ?_ (bG (cZ rfl) dU))))) ?_
  ·refine eF 5 82 rfl rfl fun _ a w G1 hG HT H fin=>?_;refine He H wn rfl rfl rfl ?_;clear H;intro a H;exact fin H iJ (aC vi (by omega))
  ·refine sW 1 78 9 86 11 88 rfl rfl fun _ a w G1 hG HT H fin=>?_;refine s_call T9 H wn rfl (WJ _ _ H.ro x.id s.comments[i - 1].id (decide ((i:Int)=0))) rfl ?_;clear H;rintro v89 YQ a w ⟨rfl,-⟩ akS H;exact fin H akS (aC vi alS)
  clear H;intro a w G yN H hv;have H:=H.aU (hv 12 89 rfl rfl) rfl;clear hv;refine kH H (Ra rfl ?_);clear H;intro a H;refine aI ⟨rfl,?_⟩;refine lG _ _ ?_;clear lG;refine kP H (SR fun _ lH=>Rm rfl (Rc rfl (Kz lH (Cd rfl ?_ ?_)))) <;> clear H lH
  ·intro AV a H
   try have Ac:=dT AV
   refine aO (fun _ kL=>?_)
   have e:lW s=lQ (fun k=>(s.comments[k]?.map jI.id).getD 0) i:=by
    have h1:uW s.comments i=lQ (fun k=>(s.comments[k]?.map jI.id).getD 0) i:=by rw [Je,BI,wW Ac]
    have h2:uV s.comments=lQ (fun k=>(s.comments[k]?.map jI.id).getD 0) i:=by rw [I4,zF hi2 hce (by rw [h1];exact Ac),h1]
    rw [J2 e0 zO (by rw [h2];exact Ac),h2]
   exact kP H (SC (Rm rfl (aM kL rfl (LR results18 rfl fun H=>H.rt (aC vi e.symm)))))
  intro AV a H
  try have Ac:=dF AV
  refine kP H (Kc jT (SR fun _ mQ=>aW Qd aD 0 rfl rfl (Rc rfl (ak mQ rfl (SQ fun _ mR=>SR fun _ nD=>ak nD rfl (SB ?_))))));clear H jT mQ nD;intro a H;skip;refine fH (ι:=Nat × Bool × GH) (Tc:=[(1,_),(8,_),(9,_)]) (Lc:=[(_,_)]) (fun gh=>[(11,.bool gh.2.1),(12,vi gh.1)]) (fun gh=>[]) (fun gh=>gh.2.2) (fun gh=>gh.1≤i∧gh.2.1=(decide (x.parent=0) || ((s.comments.take gh.1).findIdx? fun y=>decide (y.id=x.parent)).isSome)∧(∀ b o,g2 b=some o→gh.2.2 b=some o)) (fun gh=>i - gh.1) ((0,decide (x.parent=0),_)) (by exact (H).sub ⟨rfl,rfl,rfl,rfl,rfl,av⟩) ?_ ?_
  ·exact ⟨iK _,by simp,yN⟩
  clear H;intro gh a w hI H;obtain ⟨j,fb,g3⟩:=gh;dsimp only at hI H;obtain ⟨hj,KV,sK⟩:=hI;have als:=aF sK abB;dsimp only [lca,aS] at H;refine kP H (SQ fun _ rX=>SR fun _ wL=>Rm rfl (Rm rfl (Rc rfl (Kz wL (Cd rfl ?_ ?_))))) <;> clear H wL
  ·intro oQ a H
   try have OG:=dT oQ
   have hj2:j < i:=by omega
   have hj1:j < s.comments.length:=by omega
   obtain ⟨_,_,VF,alI,-⟩:=Kv (VB.mono sK) hj1
   injection VF with VF
   injection VF with e1 e2
   subst e1;subst e2;refine kP H (Kc rX (SQ fun _ mg=>SB ?_));clear H rX;intro a H
   by_cases f0:fb=true
   ·skip;refine dI hmx [[],[0],[0,1],[0,1,2],[0,1],(ra 0 5),(ra 0 6),(ra 0 7),[0,1],[0,1,8],(ra 0 10),(ra 0 11),(ra 0 12)] [12] (by kernel_rfl) [_,.bool (decide (fb=true)),undef,undef,undef,undef,undef,undef,undef,undef,undef,.bool (fb || decide (s.comments[j].id=x.parent))] H (aG (Z0 rfl (Rm rfl)) ?_ (bg (j:=1) (by kernel_rfl) (fun _ _ _ _ _ h=>h) rfl rfl rfl rfl rfl (fun _ _ h=>bq h (aL (aJ f0))) rfl (fun _=>rfl)) (bg (j:=1) (by kernel_rfl) (fun _ _ _ _ _ h=>h) rfl rfl rfl rfl rfl (fun _ _ h=>bq h (aL (aJ f0))) rfl (fun _=>rfl)) (aG (bg (j:=1) (by kernel_rfl) (fun _ _ _ _ _ h=>h) rfl rfl rfl rfl rfl (fun _ _ h=>bq h (aL (aJ f0))) rfl (fun _=>rfl)) (bg (j:=1) (by kernel_rfl) (fun _ _ _ _ _ h=>h) rfl rfl rfl rfl rfl (fun _ _ h=>bq h (aL (aJ f0))) rfl (fun _=>rfl)) (bg (j:=1) (by kernel_rfl) (fun _ _ _ _ _ h=>h) rfl rfl rfl rfl rfl (fun _ _ h=>bq h (aL (aJ f0))) rfl (fun _=>rfl)) (bg (j:=1) (by kernel_rfl) (fun _ _ _ _ _ h=>h) rfl rfl rfl rfl rfl (fun _ _ h=>bq h (aL (aJ f0))) rfl (fun _=>rfl)) (aG (bg (j:=1) (by kernel_rfl) (fun _ _ _ _ _ h=>h) rfl rfl rfl rfl rfl (fun _ _ h=>bq h (aL (aJ f0))) rfl (fun _=>rfl)) (bg (j:=1) (by kernel_rfl) (fun _ _ _ _ _ h=>h) rfl rfl rfl rfl rfl (fun _ _ h=>bq h (aL (aJ f0))) rfl (fun _=>rfl)) (bg (j:=1) (by kernel_rfl) (fun _ _ _ _ _ h=>h) rfl rfl rfl rfl rfl (fun _ _ h=>bq h (aL (aJ f0))) rfl (fun _=>rfl)) ?_ (bG (cZ rfl) dU)))) ?_
    ·refine eF 0 101 rfl rfl fun _ a w G1 hG HT H fin=>?_;refine kH H (Rm rfl ?_);clear H;intro a H;exact fin H iJ (by show _=_;simp)
    ·refine fu 1 102 10 111 rfl rfl fun _ a w G1 hG HT H fin=>?_;refine kH H (Pt (aJ f0) rfl ?_);clear H;intro a H;exact fin H iJ (aL (by first|(rw [f0];rfl)|(rw [Bool.eq_false_iff.2 f0];rfl)))
    clear H;intro a w G I6 H hv;have H:=H.aU (hv 11 112 rfl rfl) rfl;clear hv;refine kH H (Ra rfl ?_);clear H;intro a H;refine aI ⟨rfl,?_⟩;refine mg _ _ ?_;clear mg;refine kP H (SC (Rm rfl (Rd rfl (Ra rfl ?_))));clear H;intro a H;refine aI ?_;refine dP ((j+1,_,_)) (by exact (H).sub ⟨rfl,rfl,rfl,rfl,rfl,av⟩) ?_ ?_
    ·try dsimp only
     exact ⟨by omega,by rw [aem hj1,← Bool.or_assoc,← KV];cases fb <;> rfl,fun b o h=>I6 b o (sK b o h)⟩
    first|omega|(dsimp only;omega)
   skip;refine dI hmx [[],[0],[0,1],[0,1,2],[0,1],(ra 0 5),(ra 0 6),(ra 0 7),[0,1],[0,1,8],(ra 0 10),(ra 0 11),(ra 0 12)] [12] (by kernel_rfl) [_,.bool (decide (fb=true)),_,_,_,_,_,_,_,vi x.parent,_,.bool (fb || decide (s.comments[j].id=x.parent))] H (aG (Z0 rfl (Rm rfl)) ?_ (Z1 1 102 rfl (YF IQ (aR f0) rfl)) (X2 2 103 1 102 rfl fun hG=>YR Br (aR f0) rfl (aF hG als)) (aG (Z1 1 102 rfl (YM (aR f0) rfl)) (Z3 3 104 4 105 1 102 rfl (YI Ai ze (aR f0) rfl rfl)) (Z2 5 106 1 102 rfl (YF Nj (aR f0) rfl)) (X2 6 107 1 102 rfl fun hG=>YR aD (aR f0) rfl (aF hG (alI 0 _ rfl))) (aG (Z1 1 102 rfl (YF Qd (aR f0) rfl)) (Z2 8 109 1 102 rfl (YO aD 0 (aR f0) rfl)) (Z3 7 108 9 110 1 102 rfl (YC (aR f0) rfl)) ?_ (bG (cZ rfl) dU)))) ?_
   ·refine eF 0 101 rfl rfl fun _ a w G1 hG HT H fin=>?_;refine kH H (Rm rfl ?_);clear H;intro a H;exact fin H iJ (by show _=_;simp)
   ·refine fu 1 102 10 111 rfl rfl fun _ a w G1 hG HT H fin=>?_;refine kH H (Pf (aR f0) rfl ?_);clear H;intro a H;exact fin H iJ (aL (by first|(rw [f0];rfl)|(rw [Bool.eq_false_iff.2 f0];rfl)))
   clear H;intro a w G I6 H hv;have H:=H.aU (hv 11 112 rfl rfl) rfl;clear hv;refine kH H (Ra rfl ?_);clear H;intro a H;refine aI ⟨rfl,?_⟩;refine mg _ _ ?_;clear mg;refine kP H (SC (Rm rfl (Rd rfl (Ra rfl ?_))));clear H;intro a H;refine aI ?_;refine dP ((j+1,_,_)) (by exact (H).sub ⟨rfl,rfl,rfl,rfl,rfl,av⟩) ?_ ?_
   ·try dsimp only
    exact ⟨by omega,by rw [aem hj1,← Bool.or_assoc,← KV];cases fb <;> rfl,fun b o h=>I6 b o (sK b o h)⟩
   first|omega|(dsimp only;omega)
  intro oQ a H
  try have OG:=dF oQ
  refine eD ?_;refine mR _ _ ?_;clear mR;refine kP H (SQ fun _ zB=>SB (SQ fun _ wM=>?_));clear H;intro a H
  have hbef:fb=FQ s.comments i x:=by rw [KV,show j=i by omega];rfl
  refine kP H (SC (Rm rfl (Rn rfl (aM wM rfl (Cd rfl ?_ ?_))))) <;> clear H wM
  ·intro sG a H
   refine aO (fun _ Fx=>?_)
   have e:lW s=8:=by
    have h1:uW s.comments i=8:=by rw [Je,BI,jv (gF.1 Ac),← hbef,show (!fb)=true from sG];rfl
    have h2:uV s.comments=8:=by rw [I4,zF hi2 hce (by rw [h1];decide),h1]
    rw [J2 e0 zO (by rw [h2];decide),h2]
   exact kP H (SC (aM Fx rfl (LR results18 rfl fun H=>H.rt (aC vi e.symm))))
  intro sG a H
  try have GN:=dF sG
  have w8:bS (!FQ s.comments i x) 8=0:=by rw [← hbef,show (!fb)=false from sG];rfl
  refine kP H (SR fun _ CW=>aW aaV gX 0 rfl rfl ?_);clear H;intro a H;refine s_call aaK H wn rfl (Zy _ _ H.ro x.author hte.1) rfl ?_;clear H;rintro atE _ a w ⟨rfl,rfl⟩ - H;refine kH H (Rn rfl (ak CW rfl (Cd rfl ?_ ?_))) <;> clear H CW
  ·intro h116 a H
   refine aO (fun _ Bw=>?_)
   have e:lW s=39:=by
    have h1:uW s.comments i=39:=by rw [Je,BI,jv (gF.1 Ac),jv w8,show (!qE x.author)=true from h116];rfl
    have h2:uV s.comments=39:=by rw [I4,zF hi2 hce (by rw [h1];decide),h1]
    rw [J2 e0 zO (by rw [h2];decide),h2]
   exact kP H (SC (aM Bw rfl (LR results18 rfl fun H=>H.rt (aC vi e.symm))))
  intro h116 a H
  try have Rq:=dF h116
  have Hr:bS (!qE x.author) 39=0:=by rw [show (!qE x.author)=false from h116];rfl
  refine kP H (SR fun _ Au=>aW Ul aD 0 rfl rfl (Rc rfl (Rm rfl (Sp 125 rfl ?_ ?_)))) <;> clear H
  ·intro yL a H
   try have adw:=dT yL
   refine kH H (aT yL rfl (Pt yL rfl (ak Au rfl (Ct rfl rfl (SQ fun _ Ea=>?_)))));clear H Au;intro a H
   have e:lW s=40:=by
    have h1:uW s.comments i=40:=by rw [Je,BI,jv (gF.1 Ac),jv w8,jv Hr,iC (by omega)];rfl
    have h2:uV s.comments=40:=by rw [I4,zF hi2 hce (by rw [h1];decide),h1]
    rw [J2 e0 zO (by rw [h2];decide),h2]
   exact kP H (SC (aM Ea rfl (LR results18 rfl fun H=>H.rt (aC vi e.symm))))
  intro yL a H
  try have adw:=dF yL
  refine kH H (YF Ul yL rfl (YO aD 0 yL rfl (YC yL rfl (Pf yL rfl (ak Au rfl (Cd rfl ?_ ?_)))))) <;> clear H Au
  ·intro UL a H
   try have aoA:=dT UL
   refine aO (fun _ Eb=>?_)
   have e:lW s=40:=by
    have h1:uW s.comments i=40:=by rw [Je,BI,jv (gF.1 Ac),jv w8,jv Hr,iC (by omega)];rfl
    have h2:uV s.comments=40:=by rw [I4,zF hi2 hce (by rw [h1];decide),h1]
    rw [J2 e0 zO (by rw [h2];decide),h2]
   exact kP H (SC (aM Eb rfl (LR results18 rfl fun H=>H.rt (aC vi e.symm))))
  intro UL a H
  try have aoA:=dF UL
  refine fI ?_;refine zB _ _ ?_;clear zB;refine aO (fun _ CX=>?_)
  have Si:bS (!decide (0≤x.time∧x.time≤1099511627776)) 40=0:=by rw [gq (by omega)];rfl
  refine kP H (SC (aW aaW gX 0 rfl rfl ?_));clear H;intro a H;refine s_call aaL H wn rfl (aeC _ _ H.ro x.text hte.2) rfl ?_;clear H;rintro atM _ a w ⟨rfl,rfl⟩ - H;refine kH H (aM CX rfl (SR fun _ H8=>Rm rfl (Rc rfl (Kz H8 (Cd rfl ?_ ?_))))) <;> clear H CX H8
  ·intro UN a H
   try have OB:=dT UN
   refine aO (fun _ H9=>?_)
   have e:lW s=uj x.text:=by
    have h1:uW s.comments i=uj x.text:=by rw [Je,BI,jv (gF.1 Ac),jv w8,jv Hr,jv Si,wW OB]
    have h2:uV s.comments=uj x.text:=by rw [I4,zF hi2 hce (by rw [h1];exact OB),h1]
    rw [J2 e0 zO (by rw [h2];exact OB),h2]
   exact kP H (SC (Rm rfl (aM H9 rfl (LR results18 rfl fun H=>H.rt (aC vi e.symm)))))
  intro UN a H
  try have OB:=dF UN
  refine kP H (Kc kX (SC (Rm rfl (Rd rfl (Ra rfl ?_)))));clear H kX;intro a H;refine aI ?_;refine dP ((i+1,g3)) (by exact (H.dK (Pl:=[_]) (dw:=[]) [] (by decide) rfl).sub ⟨rfl,rfl,av⟩) ?_ ?_
  ·(try dsimp only);exact ⟨by omega,Pw hi2 hce (by rw [Je,BI,jv (gF.1 Ac),jv w8,jv Hr,jv Si,jv (gF.1 OB)];rfl),fun b o h=>sK b o (jX b o h)⟩
  first|omega|(dsimp only;omega)
 intro iq a H
 try have p69:=dF iq
 refine eD ?_;refine gM _ _ ?_;clear gM;refine aO (fun _ vQ=>?_);refine aO (fun _ Fy=>?_)
 have KM:uV s.comments=0:=by rw [I4,Pv (by omega) hce]
 have alv:=aF jX alu;replace hva:=hva.mono jX;refine kP H (SC (Rf IU rfl (Rg vO rfl (by assumption) ?_)));clear H;intro a H;refine kH H (Rl wK rfl (Rc rfl (Kn Fy (Cd rfl ?_ ?_)))) <;> clear H Fy
 ·intro UQ a H
  try have aoC:=dT UQ
  refine aO (fun _ Ia=>?_)
  have e:lW s=9:=by
   have h:AL s.vars=9:=Q6 (m:=128) (by omega);rw [L8 e0 zO KM,h]
  exact kP H (SC (aM Ia rfl (LR results18 rfl fun H=>H.rt (aC vi e.symm))))
 intro UQ a H
 try have aoC:=dF UQ
 have NC:AL s.vars=iQ (xX s.vars) s.vars.length:=Q5 (m:=128) (by omega);refine kP H (Kc vQ (SQ fun _ qB=>SR fun _ Fz=>ak Fz rfl (SB ?_)));clear H vQ Fz;intro a H;skip;refine fH (ι:=Nat × GH) (Tc:=[(1,_)]) (Lc:=[]) (fun gh=>[(14,vi gh.1)]) (fun gh=>[]) (fun gh=>gh.2) (fun gh=>gh.1≤s.vars.length∧bV (((List.range s.vars.length).map (xX s.vars)).drop gh.1)=iQ (xX s.vars) s.vars.length∧(∀ b o,g2 b=some o→gh.2 b=some o)) (fun gh=>s.vars.length - gh.1) ((0,g2)) (by exact (H).sub ⟨rfl,rfl,av⟩) ?_ ?_
 ·exact ⟨iK _,rfl,fun _ _ h=>h⟩
 clear H;intro gh a w hI H;obtain ⟨n,g4⟩:=gh;dsimp only at hI H;obtain ⟨hn,hne,wz⟩:=hI;have abC:=aF wz alv;have acA:=hva.mono wz;dsimp only [lca,aS] at H;refine kP H (SQ fun _ yu=>SR fun _ FB=>Rm rfl (Rf IU rfl (Rg vO rfl (by assumption) ?_)));clear H;intro a H;refine kH H (Rl wK rfl (Rc rfl (Kz FB (Cd rfl ?_ ?_)))) <;> clear H FB
 ·intro xg a H
  try have Xh:=dT xg
  have hn2:n < s.vars.length:=by omega
  have hn1:n - 1 < s.vars.length:=by omega
  obtain ⟨vb,vo,rfl,acD⟩:=Sg acA hn2;obtain ⟨_,_,VG,WA⟩:=Sg acA hn1
  injection VG with VG
  injection VG with e1 e2
  subst e1;subst e2;have hte:=hz.vt _ (jr hn2);obtain ⟨x,hx⟩:∃ x,x=s.vars[n]:=⟨_,rfl⟩;obtain ⟨y,hy⟩:∃ y,y=s.vars[n - 1]:=⟨_,rfl⟩
  have Ol:xX s.vars n=Hl n x y.name:=by unfold xX;rw [gD hn2,gD hn1,hx,hy];rfl
  rw [← hx] at acD hte;rw [← hy] at WA;refine kP H (Kc yu (SQ fun _ Ib=>SB (SR fun _ FC=>Rf IU rfl (Rg vO rfl (by assumption) ?_))));clear H yu;intro a H;refine kH H (Rm rfl (Ri wK zi rfl rfl ?_));clear H;intro a H;refine bD zi (cs:=x.cells) H wn rfl rfl (fun j v hj=>H.hp.aH (acD j v hj)) rfl ?_;clear H;intro a H;refine dR zi H wn rfl ?_;clear H;intro b15 a w Vv H;refine bO zi 0 (vs:=[_,_]) _ H wn rfl rfl rfl rfl rfl rfl rfl rfl ?_;clear H;intro w H;dsimp only [List.set,setRow] at H;refine FC _ _ ?_;clear FC;refine oO (ι:=GH) (Tc:=[(1,_),(14,_),(15,_)]) (Lc:=[]) (fun gh=>[]) (fun gh=>[(b15,.cells x.cells.toArray 109 (0,0))]) (fun gh=>gh) (fun gh=>bS (!pX x.name) 13=0∧bS (decide (0 < (n:Int)) && (x.name.toList == y.name.toList)) 7=0∧bS (decide (0 < (n:Int)) && Op.bytesLess x.name.toList y.name.toList) 6=0∧(∀ b o,g4 b=some o→gh b=some o)) (by exact (H).sub ⟨rfl,rfl,rfl,av⟩) ?_ ?_
  ·skip;refine kP H (SB (SR fun _ Ic=>aW BM gX 0 rfl rfl ?_));clear H;intro a H;refine s_call Nc H wn rfl (MX _ _ H.ro x.name hte.1) rfl ?_;clear H;rintro atU _ a w ⟨rfl,rfl⟩ - H;refine kH H (Rn rfl (ak Ic rfl (Cd rfl ?_ ?_))) <;> clear H Ic
   ·intro Qk a H
    refine aO (fun _ Bz=>?_)
    have e:lW s=13:=by
     have h1:xX s.vars n=13:=by rw [Ol,Hl,show (!pX x.name)=true from Qk];rfl
     have h2:AL s.vars=13:=by rw [NC,zF hn2 hne (by rw [h1];decide),h1]
     rw [L8 e0 zO KM,h2]
    exact kP H (SC (aM Bz rfl (LR results18 rfl fun H=>H.rt (aC vi e.symm))))
   intro Qk a H
   try have atl:=dF Qk
   have J7:bS (!pX x.name) 13=0:=by rw [show (!pX x.name)=false from Qk];rfl
   refine aO (fun _ uO=>?_)
   by_cases c0:0 < (n:Int)
   ·skip;refine dI hmx [[],[0],[0,1],[0,1,2],(ra 0 4),[0,1,2],[0,1,2,5],[0,1,2],[0,1,2,7],[0,1,2,5,6,7,8],[0,1,2,5,6,7,8,9],([0,1,2]++ra 5 6),(ra 0 12),(ra 0 13),(ra 0 14)] [] (by kernel_rfl) [_,_,_,_,.string x.name,_,_,_,vi ((n - 1:Nat):Int),_,_,_,.bool ((x.name.toList == y.name.toList)),_,_] H (aG (Z0 rfl (Rm rfl)) (Z1 0 158 rfl (Rc rfl)) (Z1 1 159 rfl (Rm rfl)) (Z1 2 160 rfl (YF BM (aJ c0) rfl)) (aG (Z2 3 161 2 160 rfl (YO gX 0 (aJ c0) rfl)) (Z1 2 160 rfl (YF IU (aJ c0) rfl)) (X2 5 163 2 160 rfl fun hG=>YR vO (aJ c0) rfl (aF hG abC)) (Z1 2 160 rfl (YM (aJ c0) rfl)) (aG ?_ (Z3 6 164 8 166 2 160 rfl (YI wK zi (aJ c0) rfl rfl)) (Z2 9 167 2 160 rfl (YF BM (aJ c0) rfl)) (X2 10 168 2 160 rfl fun hG=>YR gX (aJ c0) rfl (aF hG (WA 0 _ rfl))) (bG ?_ (bG (Z2 2 160 12 170 rfl (Pt (aJ c0) rfl)) (bG (Z1 13 171 rfl (Ra rfl)) dU)))))) ?_
    ·refine fu 7 165 2 160 rfl rfl fun _ a w G1 hG HT H fin=>?_;refine og _ H (wg H rfl rfl (aJ c0)) rfl rfl rfl (by omega) (by omega) rfl ?_;clear H;intro a H;exact fin H iJ (by show _=_;first|rfl|exact aC vi (by omega))
    ·refine sW 4 162 11 169 2 160 rfl rfl fun _ a w G1 hG HT H fin=>?_;refine GY H (wg H rfl rfl (aJ c0)) rfl rfl rfl ?_;clear H;intro a H;exact fin H iJ rfl
    clear H;intro a w G EL H hv;have H:=H.aU (hv 14 157 rfl rfl) rfl;clear hv;refine aI ⟨rfl,?_⟩;refine uO _ _ ?_;clear uO;refine oN H rfl ?_ ?_
    ·intro Nu
     refine aO (fun _ Ec=>?_)
     have e:lW s=7:=by
      have h1:xX s.vars n=7:=by rw [Ol,Hl,jv J7,gq c0,vR,Nu];rfl
      have h2:AL s.vars=7:=by rw [NC,zF hn2 hne (by rw [h1];decide),h1]
      rw [L8 e0 zO KM,h2]
     exact kP H (SC (aM Ec rfl (LR results18 rfl fun H=>H.rt (aC vi e.symm))))
    intro Nu
    try have atn:=dF Nu
    refine aO (fun _ Ie=>?_)
    have z7:bS (decide (0 < (n:Int)) && (x.name.toList == y.name.toList)) 7=0:=by first|(rw [gq c0,vR,Nu];rfl)|(rw [iC c0,uT];rfl)
    have c1:0 < (n:Int):=c0;refine dI hmx [[],[0],[0,1],[0,1,2],(ra 0 4),[0,1,2],[0,1,2,5],[0,1,2],[0,1,2,7],[0,1,2,5,6,7,8],[0,1,2,5,6,7,8,9],([0,1,2]++ra 5 6),(ra 0 12),(ra 0 13),(ra 0 14)] [] (by kernel_rfl) [_,_,_,_,.string x.name,_,_,_,vi ((n - 1:Nat):Int),_,_,_,.bool (Op.bytesLess x.name.toList y.name.toList),_,_] H (aG (Z0 rfl (Rm rfl)) (Z1 0 173 rfl (Rc rfl)) (Z1 1 174 rfl (Rm rfl)) (Z1 2 175 rfl (YF BM (aJ c1) rfl)) (aG (Z2 3 176 2 175 rfl (YO gX 0 (aJ c1) rfl)) (Z1 2 175 rfl (YF IU (aJ c1) rfl)) (X2 5 178 2 175 rfl fun hG=>YR vO (aJ c1) rfl (aF hG (aF EL abC))) (Z1 2 175 rfl (YM (aJ c1) rfl)) (aG ?_ (Z3 6 179 8 181 2 175 rfl (YI wK zi (aJ c1) rfl rfl)) (Z2 9 182 2 175 rfl (YF BM (aJ c1) rfl)) (X2 10 183 2 175 rfl fun hG=>YR gX (aJ c1) rfl (aF hG (aF EL (WA 0 _ rfl)))) (bG ?_ (bG (Z2 2 175 12 185 rfl (Pt (aJ c1) rfl)) (bG (Z1 13 186 rfl (Ra rfl)) dU)))))) ?_
    ·refine fu 7 180 2 175 rfl rfl fun _ a w G1 hG HT H fin=>?_;refine og _ H (wg H rfl rfl (aJ c1)) rfl rfl rfl (by omega) (by omega) rfl ?_;clear H;intro a H;exact fin H iJ (by show _=_;first|rfl|exact aC vi (by omega))
    ·refine sW 4 177 11 184 2 175 rfl rfl fun _ a w G1 hG HT H fin=>?_;refine aec H (wg H rfl rfl (aJ c1)) rfl rfl rfl ?_;clear H;intro a H;exact fin H iJ rfl
    clear H;intro a w G U8 H hv;have H:=H.aU (hv 14 172 rfl rfl) rfl;clear hv;refine aI ⟨rfl,?_⟩;refine Ie _ _ ?_;clear Ie;refine oN H rfl ?_ ?_
    ·intro EG
     refine aO (fun _ Ig=>?_)
     have e:lW s=6:=by
      have h1:xX s.vars n=6:=by rw [Ol,Hl,jv J7,jv z7,gq c0,vR,EG];rfl
      have h2:AL s.vars=6:=by rw [NC,zF hn2 hne (by rw [h1];decide),h1]
      rw [L8 e0 zO KM,h2]
     exact kP H (SC (aM Ig rfl (LR results18 rfl fun H=>H.rt (aC vi e.symm))))
    intro EG
    try have ady:=dF EG
    refine fI ?_;refine ⟨_,by exact (H).sub ⟨rfl,rfl,rfl,av⟩,?_⟩;exact ⟨J7,z7,by first|(rw [gq c0,vR,EG];rfl)|(rw [iC c0,uT];rfl),fun b o h=>U8 b o (EL b o h)⟩
   skip;refine dI hmx [[],[0],[0,1],[0,1,2],(ra 0 4),[0,1,2],[0,1,2,5],[0,1,2],[0,1,2,7],[0,1,2,5,6,7,8],[0,1,2,5,6,7,8,9],([0,1,2]++ra 5 6),(ra 0 12),(ra 0 13),(ra 0 14)] [] (by kernel_rfl) [_,_,_,undef,undef,undef,undef,undef,undef,undef,undef,undef,undef,_,_] H (aG (Z0 rfl (Rm rfl)) (Z1 0 158 rfl (Rc rfl)) (Z1 1 159 rfl (Rm rfl)) (bg (j:=2) (by kernel_rfl) (fun _ _ _ _ _ h=>h) rfl rfl rfl rfl rfl (fun _ _ h=>bq h (aL (aR c0))) rfl (fun _=>rfl)) (aG (bg (j:=2) (by kernel_rfl) (fun _ _ _ _ _ h=>h) rfl rfl rfl rfl rfl (fun _ _ h=>bq h (aL (aR c0))) rfl (fun _=>rfl)) (bg (j:=2) (by kernel_rfl) (fun _ _ _ _ _ h=>h) rfl rfl rfl rfl rfl (fun _ _ h=>bq h (aL (aR c0))) rfl (fun _=>rfl)) (bg (j:=2) (by kernel_rfl) (fun _ _ _ _ _ h=>h) rfl rfl rfl rfl rfl (fun _ _ h=>bq h (aL (aR c0))) rfl (fun _=>rfl)) (bg (j:=2) (by kernel_rfl) (fun _ _ _ _ _ h=>h) rfl rfl rfl rfl rfl (fun _ _ h=>bq h (aL (aR c0))) rfl (fun _=>rfl)) (aG (bg (j:=2) (by kernel_rfl) (fun _ _ _ _ _ h=>h) rfl rfl rfl rfl rfl (fun _ _ h=>bq h (aL (aR c0))) rfl (fun _=>rfl)) (bg (j:=2) (by kernel_rfl) (fun _ _ _ _ _ h=>h) rfl rfl rfl rfl rfl (fun _ _ h=>bq h (aL (aR c0))) rfl (fun _=>rfl)) (bg (j:=2) (by kernel_rfl) (fun _ _ _ _ _ h=>h) rfl rfl rfl rfl rfl (fun _ _ h=>bq h (aL (aR c0))) rfl (fun _=>rfl)) (bg (j:=2) (by kernel_rfl) (fun _ _ _ _ _ h=>h) rfl rfl rfl rfl rfl (fun _ _ h=>bq h (aL (aR c0))) rfl (fun _=>rfl)) (bG (bg (j:=2) (by kernel_rfl) (fun _ _ _ _ _ h=>h) rfl rfl rfl rfl rfl (fun _ _ h=>bq h (aL (aR c0))) rfl (fun _=>rfl)) (bG (Z2 2 160 12 170 rfl (Pf (aR c0) rfl)) (bG (Z1 13 171 rfl (Ra rfl)) dU)))))) ?_
   clear H;intro a w G EL H hv;have H:=H.aU (hv 14 157 rfl rfl) rfl;clear hv;refine aI ⟨rfl,?_⟩;refine uO _ _ ?_;clear uO;refine nW H rfl rfl ?_;refine aO (fun _ FD=>?_)
   have z7:bS (decide (0 < (n:Int)) && (x.name.toList == y.name.toList)) 7=0:=by first|(rw [gq c0,vR,Nu];rfl)|(rw [iC c0,uT];rfl)
   have c1:¬ (0 < (n:Int)):=c0;refine dI hmx [[],[0],[0,1],[0,1,2],(ra 0 4),[0,1,2],[0,1,2,5],[0,1,2],[0,1,2,7],[0,1,2,5,6,7,8],[0,1,2,5,6,7,8,9],([0,1,2]++ra 5 6),(ra 0 12),(ra 0 13),(ra 0 14)] [] (by kernel_rfl) [_,_,_,undef,undef,undef,undef,undef,undef,undef,undef,undef,undef,_,_] H (aG (Z0 rfl (Rm rfl)) (Z1 0 173 rfl (Rc rfl)) (Z1 1 174 rfl (Rm rfl)) (bg (j:=2) (by kernel_rfl) (fun _ _ _ _ _ h=>h) rfl rfl rfl rfl rfl (fun _ _ h=>bq h (aL (aR c1))) rfl (fun _=>rfl)) (aG (bg (j:=2) (by kernel_rfl) (fun _ _ _ _ _ h=>h) rfl rfl rfl rfl rfl (fun _ _ h=>bq h (aL (aR c1))) rfl (fun _=>rfl)) (bg (j:=2) (by kernel_rfl) (fun _ _ _ _ _ h=>h) rfl rfl rfl rfl rfl (fun _ _ h=>bq h (aL (aR c1))) rfl (fun _=>rfl)) (bg (j:=2) (by kernel_rfl) (fun _ _ _ _ _ h=>h) rfl rfl rfl rfl rfl (fun _ _ h=>bq h (aL (aR c1))) rfl (fun _=>rfl)) (bg (j:=2) (by kernel_rfl) (fun _ _ _ _ _ h=>h) rfl rfl rfl rfl rfl (fun _ _ h=>bq h (aL (aR c1))) rfl (fun _=>rfl)) (aG (bg (j:=2) (by kernel_rfl) (fun _ _ _ _ _ h=>h) rfl rfl rfl rfl rfl (fun _ _ h=>bq h (aL (aR c1))) rfl (fun _=>rfl)) (bg (j:=2) (by kernel_rfl) (fun _ _ _ _ _ h=>h) rfl rfl rfl rfl rfl (fun _ _ h=>bq h (aL (aR c1))) rfl (fun _=>rfl)) (bg (j:=2) (by kernel_rfl) (fun _ _ _ _ _ h=>h) rfl rfl rfl rfl rfl (fun _ _ h=>bq h (aL (aR c1))) rfl (fun _=>rfl)) (bg (j:=2) (by kernel_rfl) (fun _ _ _ _ _ h=>h) rfl rfl rfl rfl rfl (fun _ _ h=>bq h (aL (aR c1))) rfl (fun _=>rfl)) (bG (bg (j:=2) (by kernel_rfl) (fun _ _ _ _ _ h=>h) rfl rfl rfl rfl rfl (fun _ _ h=>bq h (aL (aR c1))) rfl (fun _=>rfl)) (bG (Z2 2 175 12 185 rfl (Pf (aR c1) rfl)) (bG (Z1 13 186 rfl (Ra rfl)) dU)))))) ?_
   clear H;intro a w G U8 H hv;have H:=H.aU (hv 14 172 rfl rfl) rfl;clear hv;refine aI ⟨rfl,?_⟩;refine FD _ _ ?_;clear FD;refine nW H rfl rfl ?_;refine fI ?_;refine ⟨_,by exact (H).sub ⟨rfl,rfl,rfl,av⟩,?_⟩;exact ⟨J7,z7,by first|(rw [gq c0,vR,EG];rfl)|(rw [iC c0,uT];rfl),fun b o h=>U8 b o (EL b o h)⟩
  clear H;intro gh a w hI H;obtain ⟨g5,hgh⟩:∃ x,x=gh:=⟨_,rfl⟩;subst hgh;obtain ⟨J7,z7,z6,alP⟩:=hI;dsimp only [lca,aS] at H;refine kP H (SR fun _ FE=>aW Um gX 0 rfl rfl ?_);clear H;intro a H;refine s_call aaL H wn rfl (aeC _ _ H.ro x.value hte.2) rfl ?_;clear H;rintro atX _ a w ⟨rfl,rfl⟩ - H;refine kH H (ak FE rfl (SR fun _ FH=>Rm rfl (Rc rfl (Kz FH (Cd rfl ?_ ?_))))) <;> clear H FE FH
  ·intro UY a H
   try have Rw:=dT UY
   refine aO (fun _ Kh=>?_)
   have e:lW s=uj x.value:=by
    have h1:xX s.vars n=uj x.value:=by rw [Ol,Hl,jv J7,jv z7,jv z6,wW Rw]
    have h2:AL s.vars=uj x.value:=by rw [NC,zF hn2 hne (by rw [h1];exact Rw),h1]
    rw [L8 e0 zO KM,h2]
   exact kP H (SC (Rm rfl (aM Kh rfl (LR results18 rfl fun H=>H.rt (aC vi e.symm)))))
  intro UY a H
  try have Rw:=dF UY
  refine kP H (Kc Ib (SC (Rm rfl (Rd rfl (Ra rfl ?_)))));clear H Ib;intro a H;refine aI ?_;refine dP ((n+1,g5)) (by exact (H.dK (Pl:=[_]) (dw:=[]) [] (by decide) rfl).sub ⟨rfl,rfl,av⟩) ?_ ?_
  ·(try dsimp only);exact ⟨by omega,Pw hn2 hne (by rw [Ol,Hl,jv J7,jv z7,jv z6,jv (gF.1 Rw)];rfl),fun b o h=>alP b o (wz b o h)⟩
  first|omega|(dsimp only;omega)
 intro xg a H
 try have Xh:=dF xg
 refine eD ?_;refine qB _ _ ?_;clear qB;refine aO (fun _ Ih=>?_)
 have e:lW s=0:=by rw [L8 e0 zO KM,NC,Pv (by omega) hne]
 exact kP H (SC (aM Ih rfl (LR results18 rfl fun H=>H.rt (aC vi e.symm))))
end
end Go.Proofs.YtlnhhlighgaapaaGreat
