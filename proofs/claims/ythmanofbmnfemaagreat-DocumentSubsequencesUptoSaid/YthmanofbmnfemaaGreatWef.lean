/-
  What the claim stands on, part 6: K13 Kn13 Mid Mhd Mow Mro Mfl Sms13 Par It Div Nrm Pas L14 L14b L14c L14d L14e Sl Txt Sec K14 K14b Sml Mdk Eqi En Stq Dms Deq Meq Mdq Dn13 Sf13 Ss13 Brs.
-/
import Derived.Test.YthmanofbmnfemaaGreatWee
namespace Go.Proofs.YthmanofbmnfemaaGreat
set_option linter.all false
open Go.Proofs.Tryz
set_option maxRecDepth 20000
set_option maxHeartbeats 4000000
section
open Go.RowKit
def vK:aL:=.mk 5 hd0 [ku]
def vM:aL:=.mk 4 hd0 []
def um:aM:=.mk hd0 [vK,vM]
def jw:au:=.mk 7 0 3 ⟨#[]⟩ hd0 [] [um]
def vN:iO:=⟨[jw],hd0,[],⟨[],[],[],[]⟩⟩
theorem aoT:mR ⟨#[]⟩=true:=by
 have e0:lZ ⟨#[]⟩ 0=-1:=by rw [lZ,dif_neg (by decide)]
 unfold mR;rw [e0];decide
theorem apL:Cg ⟨[],[],[],[]⟩=0:=by simp [Cg,dz,fO,qJ,Fq,Ie,Ig,bW,iY]
theorem apK:wZ []=0:=by simp [wZ,dz,bW,iY]
theorem GK (C:bK) {e:Int} (h1:1≤e) (h2:e≤10):fI C e hd0=0:=by
 have h3:fV e []=0:=by rw [fV,ah (by omega)];rfl
 simp [fI,dz,hd0,h3,wL,jc,iY,bW]
theorem xFa:jk ku=0:=by
 simp [jk,ku,au.kind,au.code,au.id,au.text,au.flow,au.rows,codeOk,sN,uQ,vE,xU,xL,oG,Un.1]
theorem xFt:jk jw=0:=by
 simp [jk,jw,au.kind,au.code,au.id,au.text,au.flow,au.rows,codeOk,sN,uQ,vE,xU,xL,oG,aoT]
theorem apI:gI vN.jI true false 0 [jw] ⟨0,[]⟩=(0,⟨3,[3,5,4]⟩):=by
 obtain ⟨C,hC⟩:∃ C,C=vN.jI:=⟨_,rfl⟩;rw [← hC]
 have Qu:C.us=[]:=by rw [hC]
 have hA:∀ s:CS,gI C false false 1 [ku] s=(0,⟨s.n+2,s.aX⟩):=fun s=>by
  have e1:jP C false false 1 ku.kind ku.id ⟨s.n+(fU ku:Nat),s.aX⟩=(0,⟨s.n+2,s.aX⟩):=by rw [uA.1];rfl
  have e2:fI C ku.kind ku.head=0:=GK C (by decide) (by decide)
  simp [gI,MI,fD,xFa,e1,e2,show ¬ ku.kind=6 by decide,show ¬ ku.kind=7 by decide]
 have e2:jP C true false 0 7 jw.id ⟨((fU jw:Nat):Int),[]⟩=(0,⟨1,[3]⟩):=by unfold jP iN;rw [Qu];rfl
 have e3:fI C 7 jw.head=0:=GK C (by decide) (by decide);have e4:fI C 9 um.head=0:=GK C (by decide) (by decide);have e5:fI C 10 vK.head=0:=GK C (by decide) (by decide);have e6:fI C 10 vM.head=0:=GK C (by decide) (by decide)
 have e7:iN C ⟨1,[3]⟩ vK.id=(0,⟨1,[3,5]⟩):=by unfold iN;rw [Qu];rfl
 have e8:iN C ⟨3,[3,5]⟩ vM.id=(0,⟨3,[3,5,4]⟩):=by unfold iN;rw [Qu];rfl
 have f1:jw.rows=[um]:=rfl;have f2:um.cells=[vK,vM]:=rfl;have f3:vK.flow=[ku]:=rfl;have f4:vM.flow=[]:=rfl
 simp [gI,MI,fD,xFt,e2,e3,show ¬ jw.kind=6 by decide,show jw.kind=7 by decide,f1,jW,gD,Jq,Bn,e4,dz,bW,f2,nH,Ic,e5,e6,e7,e8,f3,f4,hA]
theorem apH:iG vN=0:=by
 have h1:fI vN.jI 3 vN.fin=0:=GK _ (by decide) (by decide);have h2:Cg vN.jD=0:=apL;have h3:wZ vN.revs=0:=apK;have h4:gI vN.jI true false 0 vN.flow ⟨0,[]⟩=(0,⟨3,[3,5,4]⟩):=apI
 have h5:rP vN.fin.marks=false:=by decide
 simp [iG,h1,h2,h3,h4,h5,dz,bW]
theorem UJ:eY [jw]=[⟨0,[jw],true,false,0⟩,⟨5,[ku],false,false,1⟩,⟨4,[],false,false,1⟩]:=by
 simp [eY,gQ,abu,jw,au.kind,au.rows,mI,abv,um,aM.cells,mU,abq,vK,vM,aL.id,aL.flow,ku]
theorem apJ:zR [jw] 4=some (0,0):=by
 have h1:kR 5 0 [ku]=[]:=by simp [kR,Gg,ku,au.kind]
 have h2:kR 4 0 []=[]:=by simp [kR]
 simp [zR,kR,Gg,jw,au.kind,jm,um,vK,vM,aM.cells,jV,Z4,aL.id,aL.flow,h1,h2,F4,au.id,au.rows,MG]
theorem UK:dQ [jw]=[3,5,4]:=by
 simp [dQ,Y0,jw,au.kind,au.id,au.rows,au.flow,lF,Y3,um,aM.cells,mq,YZ,vK,vM,aL.id,aL.flow,ku]
theorem abF:∀ k,mG ((eY [jw]).take k)=if k=0 then 0 else if k=1 then 1 else 3:=by
 have l1:oQ [jw]=1:=by simp [oQ,uS,pE,fU,wP,jw,au.kind]
 have l2:oQ [ku]=2:=by simp [oQ,uS,pE,uA.1,uA.2]
 have l3:oQ []=0:=rfl;intro k;rw [UJ]
 match k with
 | 0=>rfl
 | 1=>simp [mG,l1]
 | 2=>simp [mG,l1,l2]
 | n+3=>simp [mG,l1,l2,l3]
end
section
open Go.RowKit
theorem aaO:ru prog 68 [(0,1),(1,1),(2,1),(3,1),(4,5),(9,1),(10,1)] [.int .i64 0,.int .i64 0,.int .i64 0,.string ⟨#[]⟩,.slice none 0 0,.int .i64 0,.int .i64 0,.slice none 0 0,.slice none 0 0,.slice none 0 0,.slice none 0 0]:=⟨by kernel_rfl,by kernel_rfl⟩
theorem agh:∀ args w,(callFunc 36 args).run prog w=.ok (.enter 36 args) w:=enters func36 rfl (by kernel_rfl)
theorem PN:∀ args w,(callFunc 28 args).run prog w=.ok (.enter 28 args) w:=enters func28 rfl (by kernel_rfl)
theorem agi:∀ args w,(callFunc 37 args).run prog w=.ok (.enter 37 args) w:=enters func37 rfl (by kernel_rfl)
theorem PL:∀ args w,(callFunc 27 args).run prog w=.ok (.enter 27 args) w:=enters func27 rfl (by kernel_rfl)
theorem agJ:U4 prog 48 [0,1]:=⟨by kernel_rfl,by kernel_rfl,by kernel_rfl,by kernel_rfl,by kernel_rfl⟩
theorem afM:∀ args w,(callFunc 20 args).run prog w=.ok (.enter 20 args) w:=enters func20 rfl (by kernel_rfl)
theorem PG:∀ args w,(callFunc 21 args).run prog w=.ok (.enter 21 args) w:=enters func21 rfl (by kernel_rfl)
theorem alJ {G:GH}:uD G ⟨[],[],[],[]⟩ (.slice none 0 0) (.slice none 0 0) (.slice none 0 0) (.slice none 0 0):=⟨av.iT rfl (by decide),av.iT rfl (by decide),av.iT rfl (by decide),av.iT rfl (by decide)⟩
theorem agQ (G:GH) (w0:World) (hG:Hold G w0) :
  Calls prog 36 #[] w0 (bD w0 G fun u G'=>∃ D:jy,u=D.val∧qj G' D vN):=by
 refine eN [] func36 rfl ntmps36 rfl rfl hG ?_;refine ak 1 ?_;intro a H;refine dx iy H wn rfl ?_;clear H;intro b0 a w hb0 H;refine aH 2 H ?_;clear H;intro a H;refine jY aaO [_,_,_,_,_,_,_,_,_,_,_] H wn rfl rfl rfl rfl ?_;clear H;intro a H;refine gK mQ dR [_,_,_,_,_,_,_,_,_,_,_] [_,_,_,_,_,_,_,_,_,_,_] H wn rfl rfl rfl rfl rfl (by intro i q h;match i,h with|0,h=>exact h|n+1,h=>simp at h) rfl rfl ?_;clear H;intro b3 a w hb3 H;refine aH 4 H ?_;clear H;intro a H;(iterate 2 refine jY Ns [_,_,_,_,_,_,_] H wn rfl rfl rfl rfl ?_;clear H;intro a H);refine gK wO iw [_,_,_,_,_,_,_,_,_,_,_,_,_,_] [_,_,_,_,_,_,_,_,_,_,_,_,_,_] H wn rfl rfl rfl rfl rfl (by intro i q h;match i,h with|0,h=>exact h|1,h=>exact h|n+2,h=>simp at h) rfl rfl ?_;clear H;intro b7 a w sV H;refine jY Ue [_,_,_,_,_,_] H wn rfl rfl rfl rfl ?_;clear H;intro a H;refine gK BF iU [_,_,_,_,_,_] [_,_,_,_,_,_] H wn rfl rfl rfl rfl rfl (by intro i q h;match i,h with|0,h=>exact h|n+1,h=>simp at h) rfl rfl ?_;clear H;intro b9 a w sW H;refine jY aaO [_,_,_,_,_,_,_,_,_,_,_] H wn rfl rfl rfl rfl ?_;clear H;intro a H;refine gK mQ dR [_,_,_,_,_,_,_,_,_,_,_] [_,_,_,_,_,_,_,_,_,_,_] H wn rfl rfl rfl rfl rfl (by intro i q h;match i,h with|0,h=>exact h|n+1,h=>simp at h) rfl rfl ?_;clear H;intro b11 a w DZ H;refine jY aaN [_,_,_,_,_,_,_,_,_,_,_] H wn rfl rfl rfl rfl ?_;clear H;intro a H;refine aV iy 4 (vs:=[_,_,_,_,_,_,_,_,_,_,_]) _ H wn rfl rfl rfl rfl rfl rfl rfl rfl ?_;clear H;intro w H;dsimp only [List.set,setRow] at H;refine aG ?_;refine dG ?_;refine bV ?_;refine (leave1 H results36 (.cons (rR iy (cs:=[_,_,_,_,_,_,_,_,_,_,_]) H rfl rfl (H.hp.cK 4 rfl rfl)) .nil) ?_).1;have H:=H.cu (Pl:=[_,_,_,_,_]) (bS:=[_,_,_,_]) [3,2,1,0] (by decide) rfl;obtain ⟨G3,qx,hr3,H⟩:=H.KU (sz:=11) (d:=ku.dat) rfl (aN.mkItem (x:=ku) FL (av.iT (A:=none) (n:=0) (c:=0) rfl (by decide)) (av.iT (A:=none) (n:=0) (c:=0) rfl (by decide)));obtain ⟨G7,xu,sV,H⟩:=H.dP;have rA:aN G7 vK.dat _:=aN.Ev (x:=vK) FL (hr3.mono xu);have rB:aN G7 vM.dat _:=aN.Ev (x:=vM) FL (av.iT (A:=none) (n:=0) (c:=0) rfl (by decide));have eD:bE G7 7 (um.cells.map aL.dat) _:=(bE.nil.snoc rA rfl).snoc rB rfl;have hr7:av G7 (.sl 7 (um.cells.map aL.dat)) (.slice (some ⟨b7,0,none⟩) 2 2):=av.dZ (n:=2) (cap:=2) sV rfl (bN _) (show 2≤maxLen by decide) rfl eD;obtain ⟨G9,wB,zK,H⟩:=H.KU (sz:=6) (d:=um.dat) rfl (aN.Jl (x:=um) FL hr7);obtain ⟨qY,Eb,ajC,H⟩:=H.KU (sz:=11) (d:=jw.dat) rfl (aN.mkItem (x:=jw) FL (av.iT (A:=none) (n:=0) (c:=0) rfl (by decide)) zK);exact H.rt ⟨⟨(some ⟨b11,0,none⟩,1,1),(none,0,0),(none,0,0),(none,0,0),(none,0,0),(none,0,0),(none,0,0),(none,0,0),(none,0,0),0,0⟩,rfl,⟨ajC,FL,rfl,rfl,av.iT (c:=0) rfl (show 0≤maxLen by decide),alJ⟩⟩
theorem xZt:bJ jw.dat≤100:=by
 have h1:=qC jw;have h2:=vP um;have h3:=vO vK;have h4:=vO vM;have h5:=qC ku
 have h0:kZ hd0=5:=by simp [BI,dX]
 have g1:jw.head=hd0:=rfl;have g2:um.head=hd0:=rfl;have g3:vK.head=hd0:=rfl;have g4:vM.head=hd0:=rfl;have g5:ku.head=hd0:=rfl;have s1:jw.text.size=0:=rfl;have s5:ku.text.size=2:=rfl;have f1:aZ jw.flow=0:=rfl;have f5:aZ ku.flow=0:=rfl;have f3:aZ vK.flow=1+bJ ku.dat:=rfl;have f4:aZ vM.flow=0:=rfl;have r1:fE jw.rows=1+bJ um.dat:=rfl;have r5:fE ku.rows=0:=rfl;have c2:gZ um.cells=1+bJ vK.dat+(1+bJ vM.dat):=rfl;rw [g1,h0] at h1;rw [g2,h0] at h2;rw [g3,h0] at h3;rw [g4,h0] at h4;rw [g5,h0] at h5
 omega
theorem xZ:vQ vN:=by
 have h0:kZ hd0=5:=by simp [BI,dX]
 have h1:aZ vN.flow=1+bJ jw.dat:=rfl;have h2:=xZt;exact ⟨by omega,by show kZ hd0≤_;omega,by decide,(fun x h=>by cases h),by decide,⟨(fun x h=>by cases h),by decide,(fun x h=>by cases h),by decide,(fun x h=>by cases h),by decide,(fun x h=>by cases h),(fun x h=>by cases h),(fun x h=>by cases h)⟩⟩
theorem Sy (G:GH) (w0:World) (hG:Hold G w0):Calls prog 8 #[] w0 (bD w0 G fun u G'=>u=.bool true):=by
 have hz:aZ [jw]≤4294967296:=Nat.le_trans xZ.fl (by decide);refine eN [] func8 rfl ntmps8 rfl rfl hG ?_;refine ak 4 ?_;intro a H;refine s_call agh H wn rfl (agQ _ _ H.ro) rfl ?_;clear H;rintro v5 G5 a w ⟨D,rfl,hR⟩ Ma H;refine dx iy H wn rfl ?_;clear H;intro b1 a w hb1 H;refine aV iy 0 (vs:=[_,_,_,_,_,_,_,_,_,_,_]) _ H wn rfl rfl rfl rfl rfl rfl rfl rfl ?_;clear H;intro w H;dsimp only [List.set,setRow] at H;refine aH 2 H ?_;clear H;intro a H;refine bg iy (cs:=[_,_,_,_,_,_,_,_,_,_,_]) H wn rfl rfl (H.hp.cK 0 rfl rfl) rfl ?_;clear H;intro a H;refine s_call PN H wn rfl (Pn _ _ H.ro D [jw] hR.fl hz) rfl ?_;clear H;rintro v7 G7 a w hfl xu H;replace hR:=hR.mono xu;rw [UJ] at hfl;obtain ⟨vA,vn,vc,rfl⟩:=hfl.form;obtain rfl:vn=3:=hfl.len;obtain ⟨b,o,cs,rfl,hcl,Eh,hr⟩:=hfl.at_ 1 [li 5] rfl;obtain ⟨_,_,rfl,⟨rfl,-⟩,rfl⟩:∃ v vs,cs=v :: vs∧av G7 (li 5) v∧vs=[]:=hr;obtain ⟨b',o',cs,he,hcl,hrow2,hr⟩:=hfl.at_ 2 [li 4] rfl;obtain ⟨_,_,rfl,⟨rfl,-⟩,rfl⟩:∃ v vs,cs=v :: vs∧av G7 (li 4) v∧vs=[]:=hr
 injection he with he
 injection he with e1 e2
 subst e1;subst e2;have c1:aF G7 b (o+1*1)=some (vi 5):=Eh 0 _ rfl;have c2:aF G7 b (o+2*1)=some (vi 4):=hrow2 0 _ rfl;refine aH 3 H ?_;clear H;intro a H;refine bg iy (cs:=[_,_,_,_,_,_,_,_,_,_,_]) H wn rfl rfl (H.hp.cK 0 rfl rfl) rfl ?_;clear H;intro a H;refine s_call agi H wn rfl (amo _ _ H.ro D [jw] 4 hR.fl hz) rfl ?_;clear H;rintro v10 yX a w rfl xq H;replace hR:=hR.mono xq;replace c1:=aJ xq c1;replace c2:=aJ xq c2;rw [apJ] at H;dsimp only [Option.getD,Option.isSome] at H;refine aH 1 H ?_;clear H;intro a H;(iterate 2 refine qh H wn rfl rfl rfl ?_;clear H;intro a H);refine dx kD H wn rfl ?_;clear H;intro b3 a w hb3 H;refine aV kD 0 (vs:=[_,_]) _ H wn rfl rfl rfl rfl rfl rfl rfl rfl ?_;clear H;intro w H;dsimp only [List.set,setRow] at H;refine aH 3 H ?_;clear H;intro a H;refine bg iy (cs:=[_,_,_,_,_,_,_,_,_,_,_]) H wn rfl rfl (H.hp.cK 1 rfl rfl) rfl ?_;clear H;intro a H;refine s_call PL H wn rfl (OY _ _ H.ro D vN hR xZ) rfl ?_;clear H;rintro v14 BM a w rfl Cx H;replace hR:=hR.mono Cx;replace c1:=aJ Cx c1;replace c2:=aJ Cx c2;rw [apH] at H;refine nJ 2 16 H ?_ ?_ <;> clear H
 ·intro h16
  try have p16:=dT h16
  refine jE 5 21 ?_ ?_
  ·intro h21
   try have qy:=dT h21
   refine ak 1 ?_;intro a H;refine Jt qW bH 1 H (wg H rfl rfl h21) rfl rfl rfl (by omega) rfl ?_;clear H;refine jE 4 27 ?_ ?_
   ·intro h27
    try have p27:=dT h27
    refine ak 1 ?_;intro a H;refine Jt qW bH 2 H (wg H rfl rfl h27) rfl rfl rfl (by omega) rfl ?_;clear H;refine jE 4 33 ?_ ?_
    ·intro XD
     refine jE 3 36 ?_ ?_
     ·intro IC
      intro a H;refine bg kD (cs:=[_,_]) H (wg H rfl rfl IC) rfl rfl (H.hp.cK 0 rfl rfl) rfl ?_;clear H;intro a H;refine jY Uf [_,_] H (wg H rfl rfl IC) rfl rfl rfl rfl ?_;clear H;intro a H;refine anm agJ H (wg H rfl rfl IC) rfl rfl rfl rfl ?_;clear H;refine jE 2 41 ?_ ?_
      ·intro mJ
       intro a H;refine bg iy (cs:=[_,_,_,_,_,_,_,_,_,_,_]) H (wg H rfl rfl mJ) rfl rfl (H.hp.cK 1 rfl rfl) rfl ?_;clear H;intro a H;refine s_call afM H (wg H rfl rfl mJ) rfl (ahE _ _ H.ro D [jw] hR.fl hz (by rw [UK];decide) (by rw [UK];decide)) rfl ?_;clear H;rintro v43 Dn a w rfl nN H;replace hR:=hR.mono nN;rw [UK] at H;refine nJ 3 46 H ?_ ?_ <;> clear H
       ·intro h46
        intro a H;refine bg iy (cs:=[_,_,_,_,_,_,_,_,_,_,_]) H (wg H rfl rfl h46) rfl rfl (H.hp.cK 1 rfl rfl) rfl ?_;clear H
        intro a H;refine s_call PG H (wg H rfl rfl h46) rfl (Uz _ _ H.ro D [jw] hR.fl hz (fun k _=>by rw [abF];(repeat' split) <;> decide)) rfl ?_;clear H
        rintro v48 G48 a w rfl aqI H;rw [show mG (eY [jw])=3 by have:=abF 3;rw [jh (by rw [UJ];decide)] at this;exact this] at H;refine gH 4 H ?_;exact rfl
       intro h46
       intro a H;exact absurd h46 (by decide)
      intro mJ
      intro a H;exact absurd mJ (by decide)
     intro IC
     intro a H;exact absurd IC (by decide)
    intro XD
    intro a H;exact absurd XD (by decide)
   intro h27
   intro a H;exact absurd h27 (by decide)
  intro h21
  intro a H;exact absurd h21 (by decide)
 intro h16
 intro a H;exact absurd h16 (by decide)
end
section
open Go.RowKit
variable {uo:aj}
end
section
open Go.RowKit
variable {us:List Int} {uo:aj}
end
section
open Go.RowKit
end
section
open Go.RowKit
variable {us:List Int} {uo:aj}
end
section
open Go.RowKit
variable {us:List Int} {uo:aj}
end
section
open Go.RowKit
theorem aow (G:GH) (w0:World) (hG:Hold G w0) (s:xX) (a b c d:aj) (hR:uD G s a b c d) (hsl:s.styles.length≤4294967296) (hz:J9 s) :
  Calls prog 38 #[.agg #[a,b,c,d]] w0 (bD w0 G fun u G'=>∃ r,u=.bool r):=by
 obtain ⟨sA,sc,rfl,-,-,-⟩:=hR.st.slice;obtain ⟨lA,lc,rfl,-,-,-⟩:=hR.li.slice;obtain ⟨cA,cc,rfl,-,-,-⟩:=hR.cm.slice;obtain ⟨vA,vc,rfl,-,-,-⟩:=hR.va.slice;have hl1:=hz.ln
 simp only [bO] at hR ⊢
 refine eN [(0,_)] func38 rfl ntmps38 rfl rfl hG ?_;refine ak 1 ?_;intro a H;refine dU (cs:=[_,_,_,_]) H wn rfl rfl rfl ?_;clear H;intro b1 a w hb1 H;refine aH 3 H ?_;clear H;intro a H;obtain ⟨Ga,hma,hb1',H⟩:=H.dP
 have hc0:aF Ga b1 0=some (.slice sA s.styles.length sc):=by unfold aF;rw [hb1'];rfl
 have hc1:aF Ga b1 1=some (.slice lA s.lists.length lc):=by unfold aF;rw [hb1'];rfl
 have hc2:aF Ga b1 2=some (.slice cA s.comments.length cc):=by unfold aF;rw [hb1'];rfl
 have hc3:aF Ga b1 3=some (.slice vA s.vars.length vc):=by unfold aF;rw [hb1'];rfl
 have hst:=hR.st.mono hma;have Ea:=hR.li.mono hma;refine vZ 6 9 H ?_ ?_ <;> clear H
 ·intro p9
  refine aP 22 ?_;exact ⟨_,rfl⟩
 intro p9
 refine kT 6 15 ?_ ?_
 ·intro oZ
  refine aP 16 ?_;exact ⟨_,rfl⟩
 intro oZ
 refine kT 6 21 ?_ ?_
 ·intro qy
  refine aP 10 ?_;exact ⟨_,rfl⟩
 intro qy
 refine goB 6 ?_ ?_
 ·intro p26
  refine aP 3 ?_;exact ⟨_,rfl⟩
 intro p26
 refine ak 6 ?_;intro a H;refine eO (ι:=Nat) (Tc:=[(1,_)]) (Lc:=[]) (fun gh=>[(3,vi gh)]) (fun gh=>[]) (fun gh=>Ga) (fun gh=>gh≤s.styles.length) (fun gh=>s.styles.length - gh) (0) sB ?_ ?_
 ·exact gV _
 clear H;intro k a w hI H;have hk:=hI;dsimp only [lca,aR] at H;refine dN 8 H ?_ ?_ <;> clear H
 ·intro p31
  have hk2:k < s.styles.length:=by omega
  obtain ⟨b',o',pA,pc,rfl,hrow,-,-⟩:=Aa hst hk2;have hq:=hrow 5 _ rfl;refine goB 13 ?_ ?_
  ·intro p41
   refine aP 3 ?_;exact ⟨_,rfl⟩
  intro p41
  refine ak 5 ?_;intro a H;refine aG ?_;refine dH ((k+1)) sB ?_ ?_
  ·omega
  first|omega|(dsimp only;omega)
 intro p31
 refine ak 6 ?_;intro a H;refine eO (ι:=Nat) (Tc:=[(1,_)]) (Lc:=[]) (fun gh=>[(4,vi gh)]) (fun gh=>[]) (fun gh=>Ga) (fun gh=>gh≤s.lists.length) (fun gh=>s.lists.length - gh) (0) sB ?_ ?_
 ·exact gV _
 clear H;intro n a w hI H;have hn:=hI;dsimp only [lca,aR] at H;refine dN 8 H ?_ ?_ <;> clear H
 ·intro p46
  have hn2:n < s.lists.length:=by omega
  obtain ⟨b',o',B,d,rfl,hrow,-⟩:=MN Ea hn2;have hq:=hrow 1 _ rfl;refine goB 13 ?_ ?_
  ·intro p56
   refine aP 3 ?_;exact ⟨_,rfl⟩
  intro p56
  refine ak 5 ?_;intro a H;refine aG ?_;refine dH ((n+1)) sB ?_ ?_
  ·omega
  first|omega|(dsimp only;omega)
 intro p46
 refine aP 4 ?_;exact ⟨_,rfl⟩
end
section
open Go.RowKit
end
section
open Go.RowKit
end
section
open Go.RowKit
def ahx (t:Int) (a:Nat × au):Bool:=decide ((a.1:Int)+fU a.2≤t)
def lA (t:Int) (A:List (Nat × au)):List au:=(A.filter (ahx t)).map (·.2)
end
section
open Go.RowKit
def Vt (l:List au):Prop:=∀ (k:Nat) (h:k+1 < l.length),¬ (l[k].kind=1∧l[k+1].kind=1∧l[k].head=l[k+1].head)
theorem Vt.one {l:List au} (h:l.length≤1):Vt l:=fun k hk=>by omega
end
section
open Go.RowKit
end
section
open Go.RowKit
end
section
open Go.RowKit
end
section
open Go.RowKit
theorem apN (l m:List au):aZ (l++m)=aZ l+aZ m:=by simp [aZ,Jz]
end
section
open Go.RowKit
end
section
open Go.RowKit
end
section
open Go.RowKit
theorem UM:∀ {m l:List au},m.Sublist l→aZ m≤aZ l
 | _,_,.slnil=>bN _
 | _,_,.cons a h=>by have:=UM h;simp only [aZ,eu,dX] at *;omega
 | _,_,.cons_cons a h=>by have:=UM h;simp only [aZ,eu,dX] at *;omega
end
section
open Go.RowKit
end
section
open Go.RowKit
structure Vu where
 from_:Int
 to:Int
 mark:Bool
 props:List fK
def Vu.dat (a:Vu):List Dat:=[li a.from_,li a.to,.lf (.bool a.mark),.sl 2 (a.props.map fK.dat)]
end
section
open Go.RowKit
def O4:aL:=.mk 0 hd0 []
def rw0:aM:=.mk hd0 [O4]
end
section
open Go.RowKit
end
section
open Go.RowKit
theorem PO:∀ args w,(callFunc 39 args).run prog w=.ok (.enter 39 args) w:=enters func39 rfl (by kernel_rfl)
theorem agC:∀ args w,(callFunc 89 args).run prog w=.ok (.enter 89 args) w:=enters func89 rfl (by kernel_rfl)
theorem Bw (n:Nat):0≤(n:Int).tdiv 8∧(n:Int).tdiv 8≤n:=by
 rw [Int.tdiv_eq_ediv_of_nonneg (by omega)];omega
abbrev pR (b:Nat) (n:Int):Nat × Obj:=(b,.cells #[vi n] 3 (0,0))
def Ov (bl:Nat) (left:Int) (z:Nat) (u:aj) (_:GH) (L':OL):Prop:=∃ b lf,u=.bool b∧L'=[pR bl lf]∧left - 4*(z:Int)≤lf∧lf≤left
def J8 (n:Nat):Prop:=∀ (G:GH) (w0:World) (l:List au) (v:aj) (qP left:Int) (bl:Nat),fC G [pR bl left] w0→av G (.sl 11 (l.map au.dat)) v→aZ l < n→0≤qP→qP≤1000→left≤1000→-1000000000000≤left - 4*(aZ l:Int) →
 Calls prog 39 #[v,vi qP,(aD bl 0)] w0 (eP w0 G [pR bl left] (Ov bl left (aZ l)))
theorem abK (l m:List aM):fE (l++m)=fE l+fE m:=by simp [fE,Jz]
theorem abH (l m:List aL):gZ (l++m)=gZ l+gZ m:=by simp [gZ,Jz]
theorem apO {l:List au} {k:Nat} (h:k < l.length):aZ (l.take (k+1))=aZ (l.take k)+(1+bJ l[k].dat):=by rw [gN h,apN];simp [aZ,dX]
theorem apP {l:List aM} {k:Nat} (h:k < l.length):fE (l.take (k+1))=fE (l.take k)+(1+bJ l[k].dat):=by rw [gN h,abK];simp [fE,dX]
theorem apM {l:List aL} {k:Nat} (h:k < l.length):gZ (l.take (k+1))=gZ (l.take k)+(1+bJ l[k].dat):=by rw [gN h,abH];simp [gZ,dX]
theorem abJ (l:List au) (k:Nat):aZ (l.take k)≤aZ l:=UM (List.take_sublist k l)
theorem abL (l:List aM) (k:Nat):fE (l.take k)≤fE l:=by
 have:=abK (l.take k) (l.drop k);rw [List.take_append_drop] at this;omega
theorem abI (l:List aL) (k:Nat):gZ (l.take k)≤gZ l:=by
 have:=abH (l.take k) (l.drop k);rw [List.take_append_drop] at this;omega
theorem aiS {G:GH} {b o:Nat} {x q1 q2 q3 q4 q5 f:aj} (h:∀ j u,[x,q1,q2,q3,q4,q5,f][j]?=some u→aF G b (o+j)=some u):∀ j u,[q1,q2,q3,q4,q5][j]?=some u→aF G b (o+1+j)=some u:=by
 intro j u hj;rw [Nat.add_assoc,Nat.add_comm 1 j];refine h (j+1) u ?_
 match j,hj with
 | 0,hj=>exact hj
 | 1,hj=>exact hj
 | 2,hj=>exact hj
 | 3,hj=>exact hj
 | 4,hj=>exact hj
 | n+5,hj=>simp at hj
theorem aot {n:Nat} (ih:J8 n) (hn:n≤4294967296)
  (hrows:∀ (G:GH) (w0:World) (l:List aM) (v:aj) (qP left:Int) (bl:Nat),fC G [pR bl left] w0→av G (.sl 6 (l.map aM.dat)) v→fE l < n→0≤qP→qP≤1000→left≤1000→-1000000000000≤left - 4*(fE l:Int) →
   Calls prog 89 #[v,vi qP,(aD bl 0)] w0 (eP w0 G [pR bl left] (Ov bl left (fE l)))):J8 (n+1):=by
 intro G w0 l v qP left bl hO hv hz hl0 hl1 hf1 hf0;obtain ⟨A,c,rfl,hc1,hc2,hg⟩:=hv.slice;rw [bO] at *;have hll:=wR l;refine gB (N:=89) (T:=[(0,_),(1,_),(2,_)]) func39 rfl ntmps39 rfl rfl hO ?_;refine ak 8 ?_;intro a H;refine eO (ι:=Nat × Int × GH) (Tc:=[(0,_),(1,_),(2,_)]) (Lc:=[]) (fun gh=>[(7,vi gh.1)]) (fun gh=>[pR bl gh.2.1]) (fun gh=>gh.2.2) (fun gh=>gh.1≤l.length∧left - 4*(aZ (l.take gh.1):Int)≤gh.2.1∧gh.2.1≤left∧(∀ b o,G b=some o→gh.2.2 b=some o)) (fun gh=>l.length - gh.1) ((0,left,G)) sB ?_ ?_
 ·exact ⟨by omega,by show left - 4*((0:Nat):Int)≤left;omega,Int.le_refl _,fun _ _ h=>h⟩
 clear H;rintro ⟨k,lf,g⟩ a w hI H;dsimp only at hI H;obtain ⟨hk,hlo,hhi,hgm⟩:=hI;have hzk:=abJ l k;dsimp only [lca,aR] at H;refine dN 7 H ?_ ?_ <;> clear H
 ·intro oz
  have hk2:k < l.length:=by omega
  obtain ⟨b,o,pA,pn,pc,dA,dn,dc,yA,yn,yc,fA,fn,fc,rA,rn,rc,rfl,hrow,hhd,hfl,hrw⟩:=zx hk2 hg;have r3:aF g b (o+k*11+3)=some (.string l[k].text):=aJ hgm (hrow 3 _ rfl);have r4:aF g b (o+k*11+4+0)=some (.slice pA pn pc):=aJ hgm (hrow 4 _ rfl);have r7:aF g b (o+k*11+4+1+2)=some (.slice dA dn dc):=aJ hgm (hrow 7 _ rfl);have r8:aF g b (o+k*11+4+1+3)=some (.slice yA yn yc):=aJ hgm (hrow 8 _ rfl);have r9:aF g b (o+k*11+9)=some (.slice fA fn fc):=aJ hgm (hrow 9 _ rfl);have Nb:aF g b (o+k*11+10)=some (.slice rA rn rc):=aJ hgm (hrow 10 _ rfl);have q1:=Bw pn;have q2:=Bw dn;have q3:=Bw yn;have hzi:=qC l[k];have Sg:=BI l[k].head;have l1:=hhd.props.len;have l2:=hhd.bU.len;have l3:=hhd.layers.len;have m1:=kY (l[k].head.props.map fK.dat);have m2:=kY (l[k].head.marks.bU.map iB.dat);have m3:=kY (l[k].head.marks.layers.map gU.dat);have hzs:=apO hk2;have Mx:=abJ l (k+1);refine ak 4 ?_;intro a H;refine dI hmx [[],[],[1],[1,2],[1,2,3],[],[],[5,6],[5,6,7],(ra 5 4),(ra 5 5),(ra 5 6),(ra 5 7),(ra 1 12),[],[],[14,15],[14,15,16],(ra 14 4),(ra 14 5),(ra 14 6),(ra 14 7),(ra 14 8),(ra 1 22),[],[],[24,25],[24,25,26],(ra 24 4),(ra 24 5),(ra 24 6),(ra 24 7),(ra 24 8),(ra 1 32),(ra 0 34),(ra 0 35)] [35] (by kernel_rfl) [_,_,_,vi lf,_,_,_,_,_,_,_,_,vi ((pn:Int).tdiv 8),_,_,_,_,_,_,_,_,_,vi ((dn:Int).tdiv 8),_,_,_,_,_,_,_,_,_,vi ((yn:Int).tdiv 8),_,_] H (aC (Z0 rfl (Rm rfl)) (Z0 rfl (Rm rfl)) (Z1 1 15 rfl (Rk rfl)) (Z1 2 16 rfl (Ro bH 0 rfl)) (aC (Z1 3 17 rfl (Rs rfl)) (Z0 rfl (Rm rfl)) (Z0 rfl (Rm rfl)) (Z2 5 19 6 20 rfl (Ri mQ dR rfl rfl)) (aC (Z1 7 21 rfl (Rf AA rfl)) (Z1 8 22 rfl (Rf Qb rfl)) (X1 9 23 rfl fun hG=>Rg EG rfl (aJ hG r4)) (Z1 10 24 rfl (Rl vJ rfl)) (aC ?_ (Z2 4 18 12 26 rfl (Rs rfl)) (Z0 rfl (Rm rfl)) (Z0 rfl (Rm rfl)) (aC (Z2 14 28 15 29 rfl (Ri mQ dR rfl rfl)) (Z1 16 30 rfl (Rf AA rfl)) (Z1 17 31 rfl (Rf zq rfl)) (Z1 18 32 rfl (Rf Cm rfl)) (aC (X1 19 33 rfl fun hG=>Rg Df rfl (aJ hG r7)) (Z1 20 34 rfl (Rl xP rfl)) ?_ (Z2 13 27 22 36 rfl (Rs rfl)) (aC (Z0 rfl (Rm rfl)) (Z0 rfl (Rm rfl)) (Z2 24 38 25 39 rfl (Ri mQ dR rfl rfl)) (Z1 26 40 rfl (Rf AA rfl)) (aC (Z1 27 41 rfl (Rf zq rfl)) (Z1 28 42 rfl (Rf Iu rfl)) (X1 29 43 rfl fun hG=>Rg JC rfl (aJ hG r8)) (Z1 30 44 rfl (Rl xQ rfl)) (aC ?_ (Z2 23 37 32 46 rfl (Rs rfl)) (Z1 0 14 rfl (Rk rfl)) (bP rfl) dw))))))))) ?_
  ·refine dJ 11 25 rfl rfl fun _ a w G1 hG HT H fin=>?_;refine Bp _ H wn rfl rfl (by omega) rfl (by omega) (by omega) rfl ?_;clear H;intro a H;exact fin H iJ rfl
  ·refine dJ 21 35 rfl rfl fun _ a w G1 hG HT H fin=>?_;refine Bp _ H wn rfl rfl (by omega) rfl (by omega) (by omega) rfl ?_;clear H;intro a H;exact fin H iJ rfl
  ·refine dJ 31 45 rfl rfl fun _ a w G1 hG HT H fin=>?_;refine Bp _ H wn rfl rfl (by omega) rfl (by omega) (by omega) rfl ?_;clear H;intro a H;exact fin H iJ rfl
  clear H;intro a w G qp H hv;have H:=H.aO (hv 33 47 rfl rfl) rfl;have H:=H.aO (hv 34 48 rfl rfl) rfl;clear hv;refine aV bH 0 (vs:=[_]) _ H wn rfl rfl rfl rfl rfl rfl rfl rfl ?_;clear H;intro w H;dsimp only [List.set,setRow] at H;refine aG ⟨rfl,?_⟩;refine dG ?_;refine vZ 6 53 H ?_ ?_ <;> clear H
  ·intro p53
   refine ak 40 ?_;intro a H;refine lr H results39 rfl ?_;exact H.hp.cZ ⟨_,_,rfl,rfl,by omega,by omega⟩
  intro p53
  replace r3:=aJ qp r3;replace r9:=aJ qp r9;replace Nb:=aJ qp Nb;refine jE 4 57 ?_ ?_
  ·intro h57
   try have p57:=dT h57
   refine ak 36 ?_;intro a H;refine lr H results39 rfl ?_;exact H.hp.cZ ⟨_,_,rfl,rfl,by omega,by omega⟩
  intro h57
  try have p57:=dF h57
  refine ak 5 ?_;intro a H;refine CZ iV H (wg H rfl rfl h57) rfl rfl ?_;clear H;refine jE 3 66 ?_ ?_
  ·intro II
   try have p66:=dT II
   refine ak 27 ?_;intro a H;refine lr H results39 rfl ?_;exact H.hp.cZ ⟨_,_,rfl,rfl,by omega,by omega⟩
  intro II
  try have p66:=dF II
  refine ak 6 ?_;intro a H;refine lJ _ H (wg H rfl rfl II) rfl rfl rfl (by omega) (by omega) rfl ?_;clear H;refine ak 1 ?_;intro a H;refine fB PO (Li:=[]) (L:=[pR bl _]) H (wg H rfl rfl II) rfl (ih _ _ l[k].flow _ (qP - 1) _ bl (Hp.owns (Li:=[]) H.hp) (hfl.mono fun b o h=>qp b o (hgm b o h)) (by omega) (by omega) (by omega) (by omega) (by omega)) rfl ?_;clear H;rintro v75 G75 L75 a w ⟨b75,lf75,rfl,rfl,aqG,aqE⟩ RG H;dsimp only [List.nil_append] at H;replace Nb:=aJ RG Nb;refine nJ 3 78 H ?_ ?_ <;> clear H
  ·intro Ll
   try have Tm:=dT Ll
   refine ak 15 ?_;intro a H;refine lr H results39 rfl ?_;exact H.hp.cZ ⟨_,_,rfl,rfl,by omega,by omega⟩
  intro Ll
  try have Tm:=dF Ll
  refine ak 7 ?_;intro a H;refine fB agC (Li:=[]) (L:=[pR bl _]) H (wg H rfl rfl Ll) rfl (hrows _ _ l[k].rows _ qP _ bl (Hp.owns (Li:=[]) H.hp) (hrw.mono fun b o h=>RG b o (qp b o (hgm b o h))) (by omega) (by omega) (by omega) (by omega) (by omega)) rfl ?_;clear H;rintro v86 G86 L86 a w ⟨b86,akU,rfl,rfl,aqH,aqF⟩ ajj H;dsimp only [List.nil_append] at H;refine gW 3 H ?_ ?_ <;> clear H
  ·intro p88
   refine ak 3 ?_;intro a H;refine lr H results39 rfl ?_;exact H.hp.cZ ⟨_,_,rfl,rfl,by omega,by omega⟩
  intro p88
  refine ak 5 ?_;intro a H;refine aG ?_;refine dH ((k+1,akU,G86)) sB ?_ ?_
  ·(try dsimp only);exact ⟨by omega,by omega,by omega,fun b o h=>ajj b o (RG b o (qp b o (hgm b o h)))⟩
  first|omega|(dsimp only;omega)
 intro oz
 refine ak 4 ?_;intro a H;refine lr H results39 rfl ?_;exact H.hp.cZ ⟨_,_,rfl,rfl,by omega,by omega⟩
theorem aov {n:Nat} (ih:J8 n) (hn:n≤4294967296) (G:GH) (w0:World) (l:List aM) (v:aj) (qP left:Int) (bl:Nat) (hO:fC G [pR bl left] w0) (hv:av G (.sl 6 (l.map aM.dat)) v) (hz:fE l < n) (hl0:0≤qP) (hl1:qP≤1000) (hf1:left≤1000) (hf0:-1000000000000≤left - 4*(fE l:Int)) :
  Calls prog 89 #[v,vi qP,(aD bl 0)] w0 (eP w0 G [pR bl left] (Ov bl left (fE l))):=by
 obtain ⟨A,c,rfl,hc1,hc2,hg⟩:=hv.slice;rw [bO] at *;have hll:=BJ l;refine gB (N:=121) (T:=[(0,_),(1,_),(2,_)]) func89 rfl ntmps89 rfl rfl hO ?_;refine ak 8 ?_;intro a H;refine eO (ι:=Nat × Int × GH) (Tc:=[(0,_),(1,_),(2,_)]) (Lc:=[]) (fun gh=>[(7,vi gh.1)]) (fun gh=>[pR bl gh.2.1]) (fun gh=>gh.2.2) (fun gh=>gh.1≤l.length∧left - 4*(fE (l.take gh.1):Int)≤gh.2.1∧gh.2.1≤left∧(∀ b o,G b=some o→gh.2.2 b=some o)) (fun gh=>l.length - gh.1) ((0,left,G)) sB ?_ ?_
 ·exact ⟨by omega,by show left - 4*((0:Nat):Int)≤left;omega,Int.le_refl _,fun _ _ h=>h⟩
 clear H;rintro ⟨k,lf,g⟩ a w hI H;dsimp only at hI H;obtain ⟨hk,hlo,hhi,hgm⟩:=hI;have hzk:=abL l k;dsimp only [lca,aR] at H;refine dN 7 H ?_ ?_ <;> clear H
 ·intro oW
  have hk2:k < l.length:=by omega
  obtain ⟨b,o,pA,pn,pc,dA,dn,dc,yA,yn,yc,cA,cn,cc,rfl,hrow,hhd,hcl⟩:=EC hk2 hg;have r0:aF g b (o+k*6+0+0)=some (.slice pA pn pc):=aJ hgm (hrow 0 _ rfl);have r3:aF g b (o+k*6+0+1+2)=some (.slice dA dn dc):=aJ hgm (hrow 3 _ rfl);have r4:aF g b (o+k*6+0+1+3)=some (.slice yA yn yc):=aJ hgm (hrow 4 _ rfl);have r5:aF g b (o+k*6+5)=some (.slice cA cn cc):=aJ hgm (hrow 5 _ rfl);have hcn:=hcl.len;rw [bO] at hcn;subst hcn;have hcc:=hcl.slice;have q1:=Bw pn;have q2:=Bw dn;have q3:=Bw yn;have hzi:=vP l[k];have Sg:=BI l[k].head;have l1:=hhd.props.len;have l2:=hhd.bU.len;have l3:=hhd.layers.len;have m1:=kY (l[k].head.props.map fK.dat);have m2:=kY (l[k].head.marks.bU.map iB.dat);have m3:=kY (l[k].head.marks.layers.map gU.dat);have hzs:=apP hk2;have Mx:=abL l (k+1);have aiJ:=BH l[k].cells;refine ak 4 ?_;intro a H;refine dI hmx [[],[],[1],[1,2],[1,2,3],[],[],[5,6],[5,6,7],(ra 5 4),(ra 5 5),(ra 5 6),(ra 5 7),(ra 1 12),[],[],[14,15],[14,15,16],(ra 14 4),(ra 14 5),(ra 14 6),(ra 14 7),(ra 14 8),(ra 1 22),[],[],[24,25],[24,25,26],(ra 24 4),(ra 24 5),(ra 24 6),(ra 24 7),(ra 24 8),(ra 1 32),(ra 0 34),(ra 0 35)] [35] (by kernel_rfl) [_,_,_,vi lf,_,_,_,_,_,_,_,_,vi ((pn:Int).tdiv 8),_,_,_,_,_,_,_,_,_,vi ((dn:Int).tdiv 8),_,_,_,_,_,_,_,_,_,vi ((yn:Int).tdiv 8),_,_] H (aC (Z0 rfl (Rm rfl)) (Z0 rfl (Rm rfl)) (Z1 1 17 rfl (Rk rfl)) (Z1 2 18 rfl (Ro bH 0 rfl)) (aC (Z1 3 19 rfl (Rs rfl)) (Z0 rfl (Rm rfl)) (Z0 rfl (Rm rfl)) (Z2 5 21 6 22 rfl (Ri BF iU rfl rfl)) (aC (Z1 7 23 rfl (Rf Fy rfl)) (Z1 8 24 rfl (Rf Qb rfl)) (X1 9 25 rfl fun hG=>Rg EG rfl (aJ hG r0)) (Z1 10 26 rfl (Rl vJ rfl)) (aC ?_ (Z2 4 20 12 28 rfl (Rs rfl)) (Z0 rfl (Rm rfl)) (Z0 rfl (Rm rfl)) (aC (Z2 14 30 15 31 rfl (Ri BF iU rfl rfl)) (Z1 16 32 rfl (Rf Fy rfl)) (Z1 17 33 rfl (Rf zq rfl)) (Z1 18 34 rfl (Rf Cm rfl)) (aC (X1 19 35 rfl fun hG=>Rg Df rfl (aJ hG r3)) (Z1 20 36 rfl (Rl xP rfl)) ?_ (Z2 13 29 22 38 rfl (Rs rfl)) (aC (Z0 rfl (Rm rfl)) (Z0 rfl (Rm rfl)) (Z2 24 40 25 41 rfl (Ri BF iU rfl rfl)) (Z1 26 42 rfl (Rf Fy rfl)) (aC (Z1 27 43 rfl (Rf zq rfl)) (Z1 28 44 rfl (Rf Iu rfl)) (X1 29 45 rfl fun hG=>Rg JC rfl (aJ hG r4)) (Z1 30 46 rfl (Rl xQ rfl)) (aC ?_ (Z2 23 39 32 48 rfl (Rs rfl)) (Z1 0 16 rfl (Rk rfl)) (bP rfl) dw))))))))) ?_
  ·refine dJ 11 27 rfl rfl fun _ a w G1 hG HT H fin=>?_;refine Bp _ H wn rfl rfl (by omega) rfl (by omega) (by omega) rfl ?_;clear H;intro a H;exact fin H iJ rfl
  ·refine dJ 21 37 rfl rfl fun _ a w G1 hG HT H fin=>?_;refine Bp _ H wn rfl rfl (by omega) rfl (by omega) (by omega) rfl ?_;clear H;intro a H;exact fin H iJ rfl
  ·refine dJ 31 47 rfl rfl fun _ a w G1 hG HT H fin=>?_;refine Bp _ H wn rfl rfl (by omega) rfl (by omega) (by omega) rfl ?_;clear H;intro a H;exact fin H iJ rfl
  clear H;intro a w G qp H hv;have H:=H.aO (hv 33 49 rfl rfl) rfl;have H:=H.aO (hv 34 50 rfl rfl) rfl;clear hv;refine aV bH 0 (vs:=[_]) _ H wn rfl rfl rfl rfl rfl rfl rfl rfl ?_;clear H;intro w H;dsimp only [List.set,setRow] at H;refine aG ⟨rfl,?_⟩;refine dG ?_;refine FC ?_;obtain ⟨lf1,ajb⟩:∃ x,x=lf - 1 - (pn:Int).tdiv 8 - (dn:Int).tdiv 8 - (yn:Int).tdiv 8:=⟨_,rfl⟩;rw [← ajb] at H;have IZ:∀ b o,g b=some o→G b=some o:=qp;obtain ⟨g1,hg1⟩:∃ x,x=G:=⟨_,rfl⟩;rw [← hg1] at H IZ;refine eB 4 H ?_;clear H;intro a H;refine eO (ι:=Nat × Int × GH) (Tc:=[(0,_),(1,_),(2,_),(7,_)]) (Lc:=[]) (fun gh=>[(8,vi gh.1)]) (fun gh=>[pR bl gh.2.1]) (fun gh=>gh.2.2) (fun gh=>gh.1≤l[k].cells.length∧lf1 - 4*(gZ (l[k].cells.take gh.1):Int)≤gh.2.1∧gh.2.1≤lf1∧(∀ b o,g b=some o→gh.2.2 b=some o)) (fun gh=>l[k].cells.length - gh.1) ((0,lf1,g1)) sB ?_ ?_
  ·exact ⟨by omega,by show lf1 - 4*((0:Nat):Int)≤lf1;omega,Int.le_refl _,IZ⟩
  clear H;rintro ⟨j,lf2,g2⟩ a w hI H;dsimp only at hI H;obtain ⟨hj,hlo2,hhi2,qL⟩:=hI;have iM:=fun b o h=>qL b o (hgm b o h);have aqW:=abI l[k].cells j;replace r5:=aJ qL r5;dsimp only [lca,aR] at H;refine dN 11 H ?_ ?_ <;> clear H
  ·intro p58
   have hj2:j < l[k].cells.length:=by omega
   obtain ⟨b2,o2,qA,qn,qc,eA,en,ec,zA,zn,zc,fA,fn,fc,rfl,hrow2,D9,Rp⟩:=DL hj2 hcl.at_;have t2:aF g2 b2 (o2+j*7+6)=some (.slice fA fn fc):=aJ iM (hrow2 6 _ rfl);have p1:=Bw qn;have p2:=Bw en;have p3:=Bw zn;have aqV:=vO l[k].cells[j];have aqU:=BI l[k].cells[j].head;have l4:=D9.props.len;have l5:=D9.bU.len;have l6:=D9.layers.len;have m4:=kY (l[k].cells[j].head.props.map fK.dat);have m5:=kY (l[k].cells[j].head.marks.bU.map iB.dat);have m6:=kY (l[k].cells[j].head.marks.layers.map gU.dat);have aqX:=apM hj2;have aqY:=abI l[k].cells (j+1);refine ak 12 ?_;intro a H;refine bg jG (cs:=[.slice qA qn qc,vi l[k].cells[j].head.marks.ins,vi l[k].cells[j].head.marks.move,.slice eA en ec,.slice zA zn zc]) H wn rfl rfl (fun i v hi=>H.hp.aF (aJ iM (aiS hrow2 i v hi))) rfl ?_;clear H;intro a H;refine dx jG H wn rfl ?_;clear H;intro b9 a w sW H;refine aV jG 0 (vs:=[_,_,_,_,_]) _ H wn rfl rfl rfl rfl rfl rfl rfl rfl ?_;clear H;intro w H;dsimp only [List.set,setRow] at H;refine aH 2 H ?_;clear H;intro a H;refine dI hmx [[],[],[1],[1,2],[1,2,3],[],[5],[5,6],[5,6,7],(ra 1 8),[],[10],[10,11],[10,11,12],(ra 10 4),(ra 1 14),[],[16],[16,17],[16,17,18],(ra 16 4),(ra 1 20),(ra 0 22),(ra 0 23)] [23] (by kernel_rfl) [_,_,_,vi lf2,_,_,.slice qA qn qc,_,vi ((qn:Int).tdiv 8),_,_,_,.slice eA en ec,_,vi ((en:Int).tdiv 8),_,_,_,.slice zA zn zc,_,vi ((zn:Int).tdiv 8),_,_] H (aC (Z0 rfl (Rm rfl)) (Z0 rfl (Rm rfl)) (Z1 1 71 rfl (Rk rfl)) (Z1 2 72 rfl (Ro bH 1 rfl)) (aC (Z1 3 73 rfl (Rs rfl)) (Z0 rfl (Rf Qb rfl)) (Z1 5 75 rfl (Ro EG 0 rfl)) (Z1 6 76 rfl (Rl vJ rfl)) (aC ?_ (Z2 4 74 8 78 rfl (Rs rfl)) (Z0 rfl (Rf zq rfl)) (Z1 10 80 rfl (Rf Cm rfl)) (aC (Z1 11 81 rfl (Ro Df 0 rfl)) (Z1 12 82 rfl (Rl xP rfl)) ?_ (Z2 9 79 14 84 rfl (Rs rfl)) (aC (Z0 rfl (Rf zq rfl)) (Z1 16 86 rfl (Rf Iu rfl)) (Z1 17 87 rfl (Ro JC 0 rfl)) (Z1 18 88 rfl (Rl xQ rfl)) (aC ?_ (Z2 15 85 20 90 rfl (Rs rfl)) (Z1 0 70 rfl (Rk rfl)) (bP rfl) dw)))))) ?_
   ·refine dJ 7 77 rfl rfl fun _ a w G1 hG HT H fin=>?_;refine Bp _ H wn rfl rfl (by omega) rfl (by omega) (by omega) rfl ?_;clear H;intro a H;exact fin H iJ rfl
   ·refine dJ 13 83 rfl rfl fun _ a w G1 hG HT H fin=>?_;refine Bp _ H wn rfl rfl (by omega) rfl (by omega) (by omega) rfl ?_;clear H;intro a H;exact fin H iJ rfl
   ·refine dJ 19 89 rfl rfl fun _ a w G1 hG HT H fin=>?_;refine Bp _ H wn rfl rfl (by omega) rfl (by omega) (by omega) rfl ?_;clear H;intro a H;exact fin H iJ rfl
   clear H;intro a w G Cv H hv;have H:=H.aO (hv 21 91 rfl rfl) rfl;have H:=H.aO (hv 22 92 rfl rfl) rfl;clear hv;refine aV bH 1 (vs:=[_]) _ H wn rfl rfl rfl rfl rfl rfl rfl rfl ?_;clear H;intro w H;dsimp only [List.set,setRow] at H;refine aG ⟨rfl,?_⟩;refine dG ?_;refine vZ 6 97 H ?_ ?_ <;> clear H
   ·intro p97
    refine ak 24 ?_;intro a H;refine lr H results89 rfl ?_;exact H.hp.bZ (L':=[pR bl _]) (by repeat (first|exact bX _|apply List.Sublist.cons)) ⟨_,_,rfl,rfl,by omega,by omega⟩
   intro p97
   replace r5:=aJ Cv r5;replace t2:=aJ Cv t2;refine jE 4 101 ?_ ?_
   ·intro Iz
    try have amd:=dT Iz
    refine ak 20 ?_;intro a H;refine lr H results89 rfl ?_;exact H.hp.bZ (L':=[pR bl _]) (by repeat (first|exact bX _|apply List.Sublist.cons)) ⟨_,_,rfl,rfl,by omega,by omega⟩
   intro Iz
   try have amd:=dF Iz
   refine ak 10 ?_;intro a H;refine lJ _ H (wg H rfl rfl Iz) rfl rfl rfl (by omega) (by omega) rfl ?_;clear H;refine ak 1 ?_;intro a H;refine fB PO (Li:=[_]) (L:=[pR bl _]) (H.cu (Pl:=[_,_]) (bS:=[_,_]) [0,1] (by decide) rfl) (wg H rfl rfl Iz) rfl (ih _ _ l[k].cells[j].flow _ (qP - 1) _ bl (Hp.owns (Li:=[_]) (H.cu (Pl:=[_,_]) (bS:=[_,_]) [0,1] (by decide) rfl).hp) (Rp.mono fun b o h=>Cv b o (iM b o h)) (by omega) (by omega) (by omega) (by omega) (by omega)) rfl ?_;clear H;rintro arf abR apZ a w ⟨aqb,lf3,rfl,rfl,hlo3,hhi3⟩ ajd H;dsimp only [lca,aR] at H;refine gW 3 H ?_ ?_ <;> clear H
   ·intro Tj
    refine ak 3 ?_;intro a H;refine lr H results89 rfl ?_;exact H.hp.bZ (L':=[pR bl _]) (by repeat (first|exact bX _|apply List.Sublist.cons)) ⟨_,_,rfl,rfl,by omega,by omega⟩
   intro Tj
   refine ak 5 ?_;intro a H;refine aG ?_;refine dH ((j+1,lf3,abR)) (by exact (H.cu (Pl:=[_,_]) (bS:=[_]) [1] (by decide) rfl).sub ⟨rfl,rfl,rfl,rfl,rfl,bB⟩) ?_ ?_
   ·(try dsimp only);exact ⟨by omega,by omega,by omega,fun b o h=>ajd b o (Cv b o (qL b o h))⟩
   first|omega|(dsimp only;omega)
  intro p58
  refine goB 7 ?_ ?_
  ·intro Tk
   refine ak 3 ?_;intro a H;refine lr H results89 rfl ?_;exact H.hp.bZ (L':=[pR bl _]) (by repeat (first|exact bX _|apply List.Sublist.cons)) ⟨_,_,rfl,rfl,by omega,by omega⟩
  intro Tk
  refine ak 5 ?_;intro a H;refine aG ?_;refine dH ((k+1,lf2,g2)) sB ?_ ?_
  ·(try dsimp only);exact ⟨by omega,by omega,by omega,iM⟩
  first|omega|(dsimp only;omega)
 intro oW
 refine ak 4 ?_;intro a H;refine lr H results89 rfl ?_;exact H.hp.bZ (L':=[pR bl _]) (by repeat (first|exact bX _|apply List.Sublist.cons)) ⟨_,_,rfl,rfl,by omega,by omega⟩
theorem Ud:∀ n:Nat,n≤4294967296→J8 n
 | 0,_=>fun _ _ _ _ _ _ _ _ _ hz=>absurd hz (Nat.not_lt_zero _)
 | n+1,h=>aot (Ud n (by omega)) (by omega) (fun G w0 l v qP left bl hO hv hz h1 h2 h3 h4=>aov (Ud n (by omega)) (by omega) G w0 l v qP left bl hO hv hz h1 h2 h3 h4)
theorem aou (G:GH) (w0:World) (hG:Hold G w0) (l:List au) (v:aj) (hv:av G (.sl 11 (l.map au.dat)) v) (hz:aZ l≤1073741824) :
  Calls prog 10 #[v] w0 (bD w0 G fun u G'=>∃ b,u=.bool b):=by
 refine eN [(0,_)] func10 rfl ntmps10 rfl rfl hG ?_;refine ak 4 ?_;intro a H;refine dx bH H wn rfl ?_;clear H;intro b3 a w hb3 H;refine aV bH 0 (vs:=[_]) _ H wn rfl rfl rfl rfl rfl rfl rfl rfl ?_;clear H;intro w H;dsimp only [List.set,setRow] at H;refine aH 3 H ?_;clear H;intro a H;refine fB PO (Li:=[]) (L:=[pR b3 300]) H wn rfl (Ud 4294967296 (bN _) _ _ l v 12 300 b3 (Hp.owns (Li:=[]) H.hp) hv (by omega) (by decide) (by decide) (by decide) (by omega)) rfl ?_;clear H;rintro v5 G5 L5 a w ⟨b5,lf5,rfl,rfl,-,-⟩ Ma H;refine gH 2 H ?_;exact ⟨_,rfl⟩
end
section
open Go.RowKit
theorem aeE:∀ args w,(callFunc 10 args).run prog w=.ok (.enter 10 args) w:=enters func10 rfl (by kernel_rfl)
theorem agj:∀ args w,(callFunc 38 args).run prog w=.ok (.enter 38 args) w:=enters func38 rfl (by kernel_rfl)
theorem aos (G:GH) (w0:World) (hG:Hold G w0) (D:jy) (d:iO) (hR:qj G D d) (hz:vQ d) :
  Calls prog 9 #[D.val] w0 (bD w0 G fun u G'=>∃ b,u=.bool b):=by
 obtain ⟨df,dp,dd,dy,dr,d1,d2,d3,d4,ins,mv⟩:=D;obtain ⟨hfl,hhd,hin,hmv,qN,hst⟩:=hR;dsimp only at hfl hhd hin hmv qN hst;subst hin;subst hmv;refine eN [(0,_)] func9 rfl ntmps9 rfl rfl hG ?_;refine ak 1 ?_;intro a H;refine dU (cs:=[_,_,_,_,_,_,_,_,_,_,_]) H wn rfl rfl rfl ?_;clear H;intro b1 a w hb1 H;refine aH 2 H ?_;clear H;intro a H;obtain ⟨Ga,hma,hb1',H⟩:=H.dP;have hgs:=fun j v hj=>wm hb1' 7 [aS d1,aS d2,aS d3,aS d4] rfl j v hj;have hgh:=fun j v hj=>wm hb1' 1 [aS dp,vi d.fin.marks.ins,vi d.fin.marks.move,aS dd,aS dy] rfl j v hj
 have hgr:aF Ga b1 6=some (aS dr):=by unfold aF;rw [hb1'];rfl
 have hgf:aF Ga b1 0=some (aS df):=by unfold aF;rw [hb1'];rfl
 replace hfl:=hfl.mono hma;replace hst:=hst.mono hma;refine eB 2 H ?_;clear H;intro a H;refine bg jG (cs:=[aS dp,vi d.fin.marks.ins,vi d.fin.marks.move,aS dd,aS dy]) H wn rfl rfl (fun j v hj=>H.hp.aF (hgh j v hj)) rfl ?_;clear H;intro a H;refine dx jG H wn rfl ?_;clear H;intro b3 a w hb3 H;refine aV jG 0 (vs:=[_,_,_,_,_]) _ H wn rfl rfl rfl rfl rfl rfl rfl rfl ?_;clear H;intro w H;dsimp only [List.set,setRow] at H;refine aH 4 H ?_;clear H;intro a H;refine s_call aeE H wn rfl (aou _ _ H.ro d.flow _ hfl hz.fl) rfl ?_;clear H;rintro v8 G8 a w ⟨b8,rfl⟩ xw H;refine nJ 1 9 H ?_ ?_ <;> clear H
 ·intro h9
  refine ak 1 ?_;intro a H;refine bg BD (cs:=[aS d1,aS d2,aS d3,aS d4]) H (wg H rfl rfl h9) rfl rfl (fun j v hj=>H.hp.aF (aJ xw (hgs j v hj))) rfl ?_;clear H;intro a H;refine s_call agj H (wg H rfl rfl h9) rfl (aow _ _ H.ro d.jD _ _ _ _ (hst.mono xw) hz.sn hz.st) rfl ?_;clear H;rintro v12 Ae a w ⟨b12,rfl⟩ yF H;replace hgr:=aJ yF (aJ xw hgr);refine rJ 2 14 H ?_ ?_ <;> clear H
  ·intro qg
   refine kT 6 20 ?_ ?_
   ·intro wI
    refine kT 6 26 ?_ ?_
    ·intro p26
     refine kT 7 33 ?_ ?_
     ·intro p33
      refine aP 8 ?_;exact ⟨_,rfl⟩
     intro p33
     refine aP 8 ?_;exact ⟨_,rfl⟩
    intro p26
    refine aP 15 ?_;exact ⟨_,rfl⟩
   intro wI
   refine aP 21 ?_;exact ⟨_,rfl⟩
  intro qg
  refine aP 27 ?_;exact ⟨_,rfl⟩
 intro h9
 refine aP 32 ?_;exact ⟨_,rfl⟩
end
section
open Go.RowKit
end
section
open Go.RowKit
section
variable {N:Nat} {D:List Deferred} {w0:World} {F:Nat→Prop} {G0 G:GH} {L:List (Nat × Obj)} {T:List (Nat × aj)}
variable {r:Option Nat} {P:Program} {ops:Array Oper} {Q:Exit→Act→World→Prop} {rest:List Oper} {a:Act} {w:World}
variable {d:Nat} {ty:TypeId} {pos:String} {aK:Array Edge} {g:Option (Nat × Bool)}
end
end
section
open Go.RowKit
end
section
open Go.RowKit
section
variable {N:Nat} {D:List Deferred} {w0:World} {F:Nat→Prop} {G0 G G1 G2:GH} {L L1 L2:OL} {T Xs:List (Nat × aj)}
variable {r:Option Nat} {P:Program} {Q:Exit→Act→World→Prop} {l:List Oper} {a a':Act} {w w':World}
end
end
section
open Go.RowKit
end
section
open Go.RowKit
end
section
open Go.RowKit
end
section
open Go.RowKit
theorem PZ:∀ args w,(callFunc 8 args).run prog w=.ok (.enter 8 args) w:=enters func8 rfl (by kernel_rfl)
theorem agF:∀ args w,(callFunc 9 args).run prog w=.ok (.enter 9 args) w:=enters func9 rfl (by kernel_rfl)
theorem WX:∀ args w,(callFunc 24 args).run prog w=.ok (.enter 24 args) w:=enters func24 rfl (by kernel_rfl)
mutual
theorem alA (C:bK) (body note:Bool) (t:Int):∀ x:au,lH C body note t x→F7 x
 | .mk k c i tx h f r,hx=>by
  have hf:=MW C false true t f;have hr:=ZI C note (t+1) r;rw [lH] at hx;obtain ⟨-,-,Yx,XY⟩:=DV hx.1;dsimp only [au.kind,au.rows,au.flow] at Yx XY;rw [F7];refine ⟨?_,?_⟩
  ·by_cases h6:k=6
   ·exact hf (hx.2.2.2.1 h6)
   rw [XY h6,tK];trivial
  by_cases h7:k=7
  ·exact hr (hx.2.2.2.2 h7).2
  rw [Yx h7,Bl];trivial
theorem alB (C:bK) (note:Bool) (t:Int):∀ x:aM,qb C note t x→CW x
 | .mk h cs,hx=>by
  have hc:=ZH C note t cs;rw [qb] at hx;rw [CW];refine ⟨fun e=>?_,hc hx.2⟩;have z:=jM hx.1 (bW (decide ((cs.length:Int)=0)) 11) (by simp);rw [xS (by decide),e] at z
  simp at z
theorem alz (C:bK) (note:Bool) (t:Int):∀ x:aL,pY C note t x→CU x
 | .mk i h f,hx=>by
  have hf:=MW C false note t f;rw [pY] at hx;rw [CU];exact hf hx.2
theorem MW (C:bK) (body note:Bool) (t:Int):∀ l:List au,iI C body note t l→tK l
 | [],_=>by rw [tK];trivial
 | x :: l,h=>by
  rw [iI] at h;rw [tK];exact ⟨alA C body note t x h.1,MW C body note t l h.2⟩
theorem ZI (C:bK) (note:Bool) (t:Int):∀ l:List aM,lI C note t l→Bl l
 | [],_=>by rw [Bl];trivial
 | x :: l,h=>by
  rw [lI] at h;rw [Bl];exact ⟨alB C note t x h.1,ZI C note t l h.2⟩
theorem ZH (C:bK) (note:Bool) (t:Int):∀ l:List aL,mD C note t l→CV l
 | [],_=>by rw [CV];trivial
 | x :: l,h=>by
  rw [mD] at h;rw [CV];exact ⟨alz C note t x h.1,ZH C note t l h.2⟩
end
theorem alq {d:iO} (hz:vQ d):vQ (nD d):=⟨Nat.le_trans (abO _) hz.fl,hz.hd,Nat.le_trans (List.length_filter_le _ _) hz.rn,fun x hx=>hz.rt x (List.mem_filter.1 hx).1,hz.sn,hz.st⟩
theorem Zx {d:iO} (hz:vQ d) (h:iG d=0):tK d.flow∧aZ (kV d.flow)≤1073741824∧(∀ k∈qB (oU d),-9223372036854775808≤k∧k < 9223372036854775808)∧(qB (oU d)).length≤4294967296:=by
 have h0:=(MS h).1;refine ⟨MW _ _ _ _ _ ((Au d).1 h).2.2.1,Nat.le_trans (abO _) hz.fl,fun q hq=>by have:=apn h0 hq;omega,?_⟩;have h1:=apm h0;have h2:(NS (oU d).revs (Et (oU d).flow (oU d).fin)).length≤d.revs.length:=Nat.le_trans (List.length_filter_le _ _) (by rw [bO];exact bN _);have:=hz.rn
 omega
end
section
open Go.RowKit
mutual
/-- A flow's own id does not stand within it. -/
theorem alG (note:Bool) (t:Int) (g:fJ):∀ x:au,g∈uh note t x→(nO x).Nodup→g.id∉dQ g.items
 | .mk k c i tx h f r,hg,hn=>by
  have hF:=MX true t g f;have hR:=ZK note t g r;rw [uh] at hg;rw [nO] at hn
  by_cases h6:k=6
  ·rw [ay h6] at hg;rw [ay (.inl h6),ay h6,ah (by omega),lY,List.singleton_append,List.nodup_cons] at hn
   rcases iQ.1 hg with rfl|hg
   ·exact hn.1
   exact hF hg hn.2
  rw [ah h6] at hg
  by_cases h7:k=7
  ·rw [ay h7] at hg;rw [ah h6,ay h7,iD,List.nodup_append] at hn;exact hR hg hn.2.1
  rw [ah h7] at hg;cases hg
theorem alH (note:Bool) (t:Int) (g:fJ):∀ x:aM,g∈uj note t x→(oO x).Nodup→g.id∉dQ g.items
 | .mk h cs,hg,hn=>by rw [uj] at hg;rw [oO] at hn;exact ZJ note t g cs hg hn
theorem alE (note:Bool) (t:Int) (g:fJ):∀ x:aL,g∈ug note t x→(oN x).Nodup→g.id∉dQ g.items
 | .mk i h f,hg,hn=>by
  have hF:=MX note (t+1) g f;rw [ug] at hg;rw [oN,List.nodup_cons] at hn
  rcases iQ.1 hg with rfl|hg
  ·exact hn.1
  exact hF hg hn.2
theorem MX (note:Bool) (t:Int) (g:fJ):∀ l:List au,g∈gQ note t l→(dQ l).Nodup→g.id∉dQ g.items
 | [],hg,_=>by rw [gQ] at hg;cases hg
 | x :: l,hg,hn=>by
  rw [gQ] at hg;rw [dQ,List.nodup_append] at hn
  rcases lT.1 hg with hg|hg
  ·exact alG note t g x hg hn.1
  exact MX note t g l hg hn.2.1
theorem ZK (note:Bool) (t:Int) (g:fJ):∀ l:List aM,g∈mI note t l→(lF l).Nodup→g.id∉dQ g.items
 | [],hg,_=>by rw [mI] at hg;cases hg
 | x :: l,hg,hn=>by
  rw [mI] at hg;rw [lF,List.nodup_append] at hn
  rcases lT.1 hg with hg|hg
  ·exact alH note t g x hg hn.1
  exact ZK note t g l hg hn.2.1
theorem ZJ (note:Bool) (t:Int) (g:fJ):∀ l:List aL,g∈mU note t l→(mq l).Nodup→g.id∉dQ g.items
 | [],hg,_=>by rw [mU] at hg;cases hg
 | x :: l,hg,hn=>by
  rw [mU] at hg;rw [mq,List.nodup_append] at hn
  rcases lT.1 hg with hg|hg
  ·exact alE note t g x hg hn.1
  exact ZJ note t g l hg hn.2.1
end
theorem alF {l:List au} (h:Ak l) {g:fJ} (hg:g∈eY l):g.id∉dQ g.items:=by
 rcases iQ.1 hg with rfl|hg
 ·exact fun hm=>by have:=h.pos _ hm;dsimp only at this;omega
 exact MX false 0 g l hg h.nd
theorem acA {l new:List au} {g:fJ} (h:Ak l) (hg:g∈eY l) (hn:fP new g.items):pQ (Bt g.id new) new:=by
 refine H6 false 0 new fun f hf e=>?_;have h1:=(JI false 0 new).subset (List.mem_map_of_mem hf);exact absurd ((zW _ hn).1.subset (e ▸ h1)) (alF h hg)
def Dl (d:iO) (m:List au):iO:=⟨m,d.fin,d.revs,d.jD⟩
theorem UC {d:iO} {m:List au} (h:iG d=0) (hs:fP m d.flow):iG (Dl d m)=0∧iK m≤iK d.flow:=by
 obtain ⟨h1,h2,h3,h4,h5⟩:=(Au d).1 h;obtain ⟨e1,e2,-⟩:=zW _ hs;exact ⟨(Au _).2 ⟨h1,h2,Nq _ _ _ _ _ _ hs h3,h4.sub e1,Nat.le_trans e2 h5⟩,e2⟩
theorem UD {d:iO} {m:List au} (hz:vQ d) (hs:fP m d.flow):vQ (Dl d m):=⟨Nat.le_trans (zW _ hs).2.2 hz.fl,hz.hd,hz.rn,hz.rt,hz.sn,hz.st⟩
theorem anY (G:GH) (w0:World) (hG:Hold G w0) (D:jy) (d:iO) (hR:qj G D d) (hz:vQ d) (hc:iG d=0) (g:fJ) (hg:g∈eY d.flow) (new:List au) (v:aj) (hv:av G (.sl 11 (new.map au.dat)) v) (hn:fP new g.items) :
  Calls prog 30 #[D.val,vi g.id,v] w0 (bD w0 G fun u G'=>∃ (E:jy) (m:List au),u=.tuple #[E.val,.bool true]∧qj G' E (nD (Dl d m))∧fP m d.flow):=by
 obtain ⟨vA,vn,vc,rfl⟩:=hv.form;obtain ⟨df,dp,dd,dy,dr,d1,d2,d3,d4,ins,mv⟩:=D;have hok:=ZO hc;have hall:=acy hok ⟨g,hg,rfl,rfl⟩ hn;have XM:=acA hok hg hn;have hmem:g.id∈(eY d.flow).map fJ.id:=List.mem_map_of_mem hg;have FZ:=hz.fl;obtain ⟨i,hi⟩:∃ i,i=g.id:=⟨_,rfl⟩;rw [← hi] at hmem hall XM ⊢;refine eN [(0,_),(1,_),(2,_)] func30 rfl ntmps30 rfl rfl hG ?_;refine ak 1 ?_;intro a H;refine dU (cs:=[_,_,_,_,_,_,_,_,_,_,_]) H wn rfl rfl rfl ?_;clear H;intro b3 a w hb3 H;refine dU (cs:=[_]) H wn rfl rfl rfl ?_;clear H;intro b4 a w hb4 H;refine dU (cs:=[_]) H wn rfl rfl rfl ?_;clear H;intro b5 a w hb5 H;refine dx iy H wn rfl ?_;clear H;intro b6 a w hb6 H;refine aH 4 H ?_;clear H;intro a H;have H:=H.cu (Pl:=[_,_,_,_]) (bS:=[_,_,_,_]) [1,2,0,3] (by decide) rfl;obtain ⟨Ga,hma,xg,H⟩:=H.dP;obtain ⟨Gb,hmb,wu,H⟩:=H.dP;have q5:aF Gb b5 0=some (.slice vA vn vc):=aJ hmb (wm xg 0 [.slice vA vn vc] rfl 0 _ rfl);have q4:aF Gb b4 0=some (vi i):=wm wu 0 [vi i] rfl 0 _ rfl;replace hR:=(hR.mono hma).mono hmb;replace hv:=(hv.mono hma).mono hmb
 have cB:∀ (aT:Nat) (v:aj) (G G':GH),(∀ k o,G k=some o→G' k=some o)→(fun (aT:Nat) (v:aj) (G:GH)=>match aT with|0=>v=.agg #[aS df,aS dp,vi ins,vi mv,aS dd,aS dy,aS dr,aS d1,aS d2,aS d3,aS d4]|1=>av G (.sl 1 (((eY d.flow).map fJ.id).map fun k=>[li k])) v|2=>v=vi i|3=>v=.bool true|4=>v=.bool false|_=>True) aT v G→(fun (aT:Nat) (v:aj) (G:GH)=>match aT with|0=>v=.agg #[aS df,aS dp,vi ins,vi mv,aS dd,aS dy,aS dr,aS d1,aS d2,aS d3,aS d4]|1=>av G (.sl 1 (((eY d.flow).map fJ.id).map fun k=>[li k])) v|2=>v=vi i|3=>v=.bool true|4=>v=.bool false|_=>True) aT v G':=by
  intro aT v G G' hm h
  match aT,h with
  | 0,h=>exact h
  | 1,h=>exact av.mono hm h
  | 2,h=>exact h
  | 3,h=>exact h
  | 4,h=>exact h
  | _+5,h=>exact trivial
 refine yj (hmx) [[],[0],[],[0,1,2],(ra 0 4)] [] (by kernel_rfl) (by kernel_rfl) (fun (aT:Nat) (v:aj) (G:GH)=>match aT with|0=>v=.agg #[aS df,aS dp,vi ins,vi mv,aS dd,aS dy,aS dr,aS d1,aS d2,aS d3,aS d4]|1=>av G (.sl 1 (((eY d.flow).map fJ.id).map fun k=>[li k])) v|2=>v=vi i|3=>v=.bool true|4=>v=.bool false|_=>True) cB H ?_ ?_
 ·clear H;refine aC ?_ ?_ ?_ ?_ (bL ?_ dw)
  ·refine cO [] rfl trivial (by kernel_rfl) cB rfl rfl ?_;intro bF a w G1 hG HT H fin;refine bg iy (cs:=[_,_,_,_,_,_,_,_,_,_,_]) H wn rfl rfl (H.hp.cK 1 rfl rfl) rfl ?_;clear H;intro a H;exact fin H iJ rfl
  ·refine cO [(0,10,_)] rfl ⟨fun _ _ h=>h,bB⟩ (by kernel_rfl) cB rfl rfl ?_;intro bF a w G1 hG HT H fin;refine s_call PN H wn rfl (Pn _ _ H.ro ⟨df,dp,dd,dy,dr,d1,d2,d3,d4,ins,mv⟩ d.flow (hR.mono hG).fl (by omega)) rfl ?_;clear H;rintro v11 qY a w om jO H;rw [show ((eY d.flow).map fun f:fJ=>[li f.id])=((eY d.flow).map fJ.id).map fun k=>[li k] by rw [List.map_map];rfl] at om;exact fin H jO (om)
  ·refine cO [] rfl trivial (by kernel_rfl) cB rfl rfl ?_;intro bF a w G1 hG HT H fin;exact kH H (Rg bH rfl (aJ hG q4) fun _ H=>fin H iJ rfl)
  ·intro bF a w G1 _ bT hc hG HT hv;have H:=HT;clear bT;obtain ⟨NJ,Bh,om⟩:=hv 1 11 (hc 1 (by decide)) rfl;(try dsimp only at om);obtain ⟨A11,n11,c11,rfl⟩:=om.form;have H:=H.jo Bh;have H:=H.aO (hv 2 12 (hc 2 (by decide)) rfl) rfl;have Hb:=H.full;have H:=Hb;clear hc;refine s_call Xa H wn rfl (Wm _ _ H.ro _ i _ om) rfl ?_;clear H;rintro v13 BL a w rfl Qx H;rw [iE hmem] at H;refine aG ⟨rfl,?_⟩;exact jr (by kernel_rfl) cB rfl rfl HT Hb hG hv Qx (rfl) H
  refine cO [(3,13,_)] rfl ⟨fun _ _ h=>h,bB⟩ (by kernel_rfl) cB rfl rfl ?_;intro bF a w G1 hG HT H fin;exact kH H (Rn rfl fun _ H=>fin H iJ rfl)
 clear H;intro a w G iH H hv;have H:=H.aO (hv 4 14 rfl rfl) rfl;clear hv;refine t0 5 H ?_;clear H;intro a H;refine kX bH H wn rfl (H.hp.aF (aJ iH q4)) rfl ?_;clear H;refine goB 2 ?_ ?_
 ·intro kW
  have hnb:fP new d.flow:=by
   have h1:=Iy hok.ids hg;have h2:=Iy hok.ids (F:=⟨0,d.flow,true,false,0⟩) fH;rw [show g.id=(0:Int) from hi ▸ kW] at h1;have h3:=h1.symm.trans h2
   injection h3 with h3
   rw [h3] at hn;exact hn
  obtain ⟨hok2,-⟩:=UC hc hnb;have hz2:=UD hz hnb;obtain ⟨n1,n2,n3,n4⟩:=Zx hz2 hok2;have hR2:qj G ⟨(vA,vn,vc),dp,dd,dy,dr,d1,d2,d3,d4,ins,mv⟩ (Dl d new):=⟨hv.mono iH,(hR.mono iH).hd,hR.ins,hR.mv,(hR.mono iH).rv,(hR.mono iH).st⟩;refine ak 1 ?_;intro a H;refine kX pG H wn rfl (H.hp.aF (aJ iH q5)) rfl ?_;clear H;refine ak 1 ?_;intro a H;refine aV pG 1 (vs:=[_]) _ H wn rfl rfl rfl rfl rfl rfl rfl rfl ?_;clear H;intro w H;dsimp only [List.set,setRow] at H;refine aH 2 H ?_;clear H;intro a H;refine bg iy (cs:=(⟨(vA,vn,vc),dp,dd,dy,dr,d1,d2,d3,d4,ins,mv⟩:jy).cells) H wn rfl rfl (H.hp.cK 1 rfl rfl) rfl ?_;clear H;intro a H;refine s_call WX H wn rfl (Wy _ _ H.ro ⟨(vA,vn,vc),dp,dd,dy,dr,d1,d2,d3,d4,ins,mv⟩ _ hR2 hz2 n1 n2 n3 n4) rfl ?_;clear H;rintro v21 Ob a w ⟨E,rfl,hE⟩ zG H;refine aV iy 0 (vs:=E.cells) _ H wn rfl rfl rfl rfl rfl rfl rfl rfl ?_;clear H;intro w H;dsimp only [List.set,setRow] at H;refine aH 2 H ?_;clear H;intro a H;refine bV ?_;refine (eU H results30 (.cons (rR iy (cs:=[_,_,_,_,_,_,_,_,_,_,_]) H rfl rfl (H.hp.cK 0 rfl rfl)) (.cons (aW H rfl) .nil)) ?_).1;exact H.rt ⟨E,new,rfl,hE,hnb⟩
 intro kW
 refine ak 5 ?_;intro a H;refine dx vI H wn rfl ?_;clear H;intro b9 a w sW H;refine aV vI 0 (vs:=[_]) _ H wn rfl rfl rfl rfl rfl rfl rfl rfl ?_;clear H;intro w H;dsimp only [List.set,setRow] at H;refine aH 5 H ?_;clear H;intro a H;refine mP H wn rfl rfl ?_;clear H;intro a H;refine fB PX (Li:=[_,_]) (L:=[rF _ _]) (H.perm (tN [] [_,_] _)) wn rfl (aaf 1073741825 (by omega) _ _ d.flow _ false (Hp.owns (Li:=[_,_]) (H.perm (tN [] [_,_] _)).hp) ⟨aJ iH q4,⟨_,_,_,aJ iH q5,hv.mono iH⟩,XM⟩ (hR.mono iH).fl hall (by omega)) rfl ?_;clear H;rintro v26 G26 L26 a w ⟨Zq,q26,rfl,YJ,R3⟩ Ry H;have H:=H.perm (tN [] [_,_] _).symm;obtain ⟨N7,n26,OP,rfl⟩:=YJ.form;dsimp only [lca,aR] at H;obtain ⟨hok2,-⟩:=UC hc R3;have hz2:=UD hz R3;obtain ⟨n1,n2,n3,n4⟩:=Zx hz2 hok2;have hR2:qj G26 ⟨(N7,n26,OP),dp,dd,dy,dr,d1,d2,d3,d4,ins,mv⟩ (Dl d Zq):=⟨YJ,((hR.mono iH).mono Ry).hd,hR.ins,hR.mv,((hR.mono iH).mono Ry).rv,((hR.mono iH).mono Ry).st⟩;refine aH 1 H ?_;clear H;intro a H;refine aV pG 2 (vs:=[_]) _ H wn rfl rfl rfl rfl rfl rfl rfl rfl ?_;clear H;intro w H;dsimp only [List.set,setRow] at H;refine aH 2 H ?_;clear H;intro a H;refine bg iy (cs:=(⟨(N7,n26,OP),dp,dd,dy,dr,d1,d2,d3,d4,ins,mv⟩:jy).cells) H wn rfl rfl (H.hp.cK 2 rfl rfl) rfl ?_;clear H;intro a H;refine s_call WX H wn rfl (Wy _ _ H.ro ⟨(N7,n26,OP),dp,dd,dy,dr,d1,d2,d3,d4,ins,mv⟩ _ hR2 hz2 n1 n2 n3 n4) rfl ?_;clear H;rintro v29 Ah a w ⟨E,rfl,hE⟩ Ed H;refine aV iy 1 (vs:=E.cells) _ H wn rfl rfl rfl rfl rfl rfl rfl rfl ?_;clear H;intro w H;dsimp only [List.set,setRow] at H;refine aH 2 H ?_;clear H;intro a H;refine bV ?_;refine (eU H results30 (.cons (rR iy (cs:=[_,_,_,_,_,_,_,_,_,_,_]) H rfl rfl (H.hp.cK 1 rfl rfl)) (.cons (aW H rfl) .nil)) ?_).1;exact H.rt ⟨E,Zq,rfl,hE,R3⟩
end
section
open Go.RowKit
theorem agf:∀ args w,(callFunc 30 args).run prog w=.ok (.enter 30 args) w:=enters func30 rfl (by kernel_rfl)
theorem agd:∀ args w,(callFunc 29 args).run prog w=.ok (.enter 29 args) w:=enters func29 rfl (by kernel_rfl)
theorem apG (k:Nat):∃ z:Nat,IntKind.u64.wrap (k:Int)=(z:Int):=by
 refine ⟨(IntKind.u64.wrap (k:Int)).toNat,?_⟩
 have:0≤IntKind.u64.wrap (k:Int):=by simp only [IntKind.wrap,IntKind.bits,IntKind.signed,uH,DI,if_false];omega
 omega
theorem aoR {a:Int} {n:Nat} (h:0≤a):a.tmod (n:Int)=((a.toNat % n:Nat):Int):=by
 obtain ⟨q,rfl⟩:=Int.eq_ofNat_of_zero_le h;exact (Int.ofNat_tmod q n).symm
theorem aoM (G:GH) (w0:World) (hG:Hold G w0) (D:jy) (d:iO) (hR:qj G D d) (hz:vQ d) (wh mk:Int) (hw0:0≤wh) (hw1:wh≤255) :
  Calls prog 6 #[D.val,.int .u8 wh,.int .u64 mk] w0 (bD w0 G fun u G'=>u=.bool true):=by
 have FZ:=hz.fl;refine eN [(0,_),(1,_),(2,_)] func6 rfl ntmps6 rfl rfl hG ?_;intro a H;refine uO (fun _ K1=>?_);refine zl ?_;refine dU (cs:=[_,_,_,_,_,_,_,_,_,_,_]) H wn rfl rfl rfl ?_;clear H;intro b3 a w hb3 H;refine kH H (kE K1 rfl (SQ fun _ K2=>SQ fun _ K3=>?_));clear H K1;intro a H;obtain ⟨Ga,hma,hb',H⟩:=H.dP;have hga:=fun j v hj=>wm hb' 0 D.cells rfl j v hj;replace hR:=hR.mono hma;refine zl ?_;refine s_call PZ H wn rfl (Sy _ _ H.ro) rfl ?_;clear H;rintro v15 Af a w rfl oh H;replace hR:=hR.mono oh;replace hga:=fun j v hj=>aJ oh (hga j v hj);refine kH H (Rn rfl (Rm rfl (Sp 17 rfl ?_ ?_))) <;> clear H
 ·intro jR a H
  exact absurd jR (by decide)
 intro jR a H
 try have kW:=dF jR
 refine bg iy (cs:=D.cells) H (wg H rfl rfl jR) rfl rfl (fun j v hj=>H.hp.aF (hga j v hj)) rfl ?_;clear H;intro a H;refine s_call agF H (wg H rfl rfl jR) rfl (aos _ _ H.ro D d hR hz) rfl ?_;clear H;rintro v19 GV a w ⟨b19,rfl⟩ oK H;replace hR:=hR.mono oK;replace hga:=fun j v hj=>aJ oK (hga j v hj);refine kH H (YN jR rfl (Pf jR rfl (Rm rfl (Sp 22 rfl ?_ ?_)))) <;> clear H
 ·intro h22 a H
  try have gM:=dT h22
  refine kH H (yZ h22 rfl (Pt h22 rfl (Kn K3 (Ct rfl rfl (SQ fun _ K4=>SC ?_)))));clear H K3;intro a H;refine s_call PZ H wn rfl (Sy _ _ H.ro) rfl ?_;clear H;rintro v27 JW a w rfl LY H;exact kH H (kE K4 rfl (LR results6 rfl fun H=>H.rt (by first|rfl|(simp_all;done))))
 intro h22 a H
 try have gM:=dF h22
 refine bg iy (cs:=D.cells) H (wg H rfl rfl h22) rfl rfl (fun j v hj=>H.hp.aF (hga j v hj)) rfl ?_;clear H;intro a H;refine s_call PL H (wg H rfl rfl h22) rfl (OY _ _ H.ro D d hR hz) rfl ?_;clear H;rintro v24 Ag a w rfl zH H;replace hR:=hR.mono zH;replace hga:=fun j v hj=>aJ zH (hga j v hj);refine kH H (YC h22 rfl (Pf h22 rfl (Kn K3 (Cd rfl ?_ ?_)))) <;> clear H K3
 ·intro Qr a H
  try have p26:=dT Qr
  refine uO (fun _ K5=>?_);refine zl ?_;refine s_call PZ H wn rfl (Sy _ _ H.ro) rfl ?_;clear H;rintro v27 JW a w rfl LY H;exact kH H (kE K5 rfl (LR results6 rfl fun H=>H.rt (by first|rfl|(simp_all;done))))
 intro Qr a H
 try have p26:=dF Qr
 refine ji ?_;refine K2 _ _ ?_;clear K2;refine uO (fun _ K6=>?_)
 have hc:iG d=0:=by first|omega|simp_all
 have hok:=ZO hc
 have hpos:0 < (eY d.flow).length:=by rw [eY,kG];omega
 have hdz:=fun f=>KT (f:=f) (l:=d.flow);refine zl ?_;refine bg iy (cs:=D.cells) H wn rfl rfl (fun j v hj=>H.hp.aF (hga j v hj)) rfl ?_;clear H;intro a H;refine s_call PN H wn rfl (Pn _ _ H.ro D d.flow hR.fl (by omega)) rfl ?_;clear H;rintro v29 Ah a w ajz Ed H;obtain ⟨A29,c29,rfl,hc1,hc2,aiX⟩:=ajz.slice;rw [bO] at *;replace hR:=hR.mono Ed;replace hga:=fun j v hj=>aJ Ed (hga j v hj);refine kH H (kE K6 rfl (SQ fun _ K7=>SQ fun _ K8=>SC (Rm rfl (Rl qW rfl (Rc rfl (Kn K8 (Cd rfl ?_ ?_))))))) <;> clear H K6 K8
 ·intro h32 a H
  try have p32:=dT h32
  exfalso;omega
 intro h32 a H
 try have p32:=dF h32
 refine ji ?_;refine K7 _ _ ?_;clear K7;refine uO (fun _ K9=>?_);obtain ⟨x,hx⟩:∃ x:Nat,x=wh.toNat % (eY d.flow).length:=⟨_,rfl⟩;have hxl:x < (eY d.flow).length:=hx ▸ Nat.mod_lt _ hpos;obtain ⟨bq,oq,cq,rfl,hq1,hq2,hq3⟩:=aiX x [li (eY d.flow)[x].id] (by simp [hxl])
 have Yt:aF Ah bq (oq+x*1+0)=some (vi (eY d.flow)[x].id):=by
  obtain ⟨v,vs,rfl,h1,-⟩:=hq3
  simp only [av] at h1
  exact hq2 0 _ (by rw [h1.1];rfl)
 obtain ⟨f,hf⟩:∃ f,f=(eY d.flow)[x]:=⟨_,rfl⟩;rw [← hf] at Yt;have hfm:f∈eY d.flow:=hf ▸ iF hxl
 have hfo:Cq d.flow f.id=some f.items:=by unfold Cq;rw [Iy hok.ids hfm];rfl
 have hfz:=hdz f hfm;have hfl:=wR f.items;refine kP H (SC (Rm rfl (Rm rfl ?_)));clear H;intro a H;refine zU wh jJ EK H wn rfl (CK (by omega) (by omega)) rfl ?_;clear H;intro a H;refine kH H (Rm rfl (Rl qW rfl ?_));clear H;intro a H;refine anv (x:Int) H wn rfl rfl (by omega) (by rw [hx];exact aoR hw0) rfl ?_;clear H;intro a H;refine Jt qW bH x H wn rfl rfl rfl (by omega) rfl ?_;clear H;intro a H;refine kH H (Rg bH rfl Yt (kE K9 rfl (SQ fun _ xW=>SC ?_)));clear H K9;intro a H;refine bg iy (cs:=D.cells) H wn rfl rfl (fun j v hj=>H.hp.aF (hga j v hj)) rfl ?_;clear H;intro a H;refine kH H (Rm rfl ?_);clear H;intro a H;refine s_call agd H wn rfl (ahz _ _ H.ro D d.flow f.id hR.fl (by omega)) rfl ?_;clear H;rintro v44 JY a w ⟨v,rfl,RS⟩ RB H;rw [hfo] at RS H;dsimp only [Option.getD_some,Option.isSome_some] at RS H;obtain ⟨iA,ic,rfl,hi1,hi2,hgi⟩:=RS.slice;rw [bO] at *;replace hR:=hR.mono RB;replace hga:=fun j v hj=>aJ RB (hga j v hj);refine kH H (Rm rfl ?_);clear H;intro a H;(iterate 2 refine qh H wn rfl rfl rfl ?_;clear H;intro a H);refine kH H (Ra rfl (kE xW rfl (SQ fun _ sj=>SC (kE sj rfl (SQ fun _ yY=>SQ fun _ Hl=>SC (kE Hl rfl (SB ?_)))))));clear H xW sj Hl;intro a H;skip;refine eO (ι:=Nat × aj × List au × List aj × OL) (Tc:=[(2,_),(3,_),(8,_),(9,_),(10,_)]) (Lc:=[]) (fun gh=>[(11,gh.2.1),(12,vi gh.1)]) (fun gh=>[]++gh.2.2.2.2) (fun gh=>JY) (fun gh=>gh.1≤f.items.length∧bR 68 11 gh.2.1 gh.2.2.1.length gh.2.2.2.1 gh.2.2.2.2∧bE JY 11 (gh.2.2.1.map au.dat) gh.2.2.2.1∧gh.2.2.1.Sublist (f.items.take gh.1)) (fun gh=>f.items.length - gh.1) ((0,.slice none 0 0,[],[],[])) (by exact (H.F8 (A:=[])).sub ⟨rfl,rfl,rfl,rfl,rfl,rfl,rfl,bB⟩) ?_ ?_
 ·exact ⟨by omega,bR.nil,bE.nil,by rw [List.take_zero];exact List.Sublist.slnil⟩
 clear H;rintro ⟨k,v,m,xs,Lo⟩ a w hI H;dsimp only at hI H;obtain ⟨hk,hrw,eD,hsl⟩:=hI;have akd:=hsl.length_le;rw [List.length_take] at akd;dsimp only [lca,aR] at H;refine kP H (SQ fun _ Ho=>SQ fun _ Vl=>SC (Rm rfl (Rm rfl (Rl mQ rfl (Rc rfl (Kn Vl (Cd rfl ?_ ?_))))))) <;> clear H Vl
 ·intro h50 a H
  try have p50:=dT h50
  have hk2:k < f.items.length:=by omega
  obtain ⟨b_,o_,pA,pn,pc,dA,dn,dc,yA,yn,yc,fA,fn,fc,rA,rn,rc,rfl,hrow,hhd,Rp,hrs⟩:=zx hk2 hgi;have zK:aN JY f.items[k].dat _:=aN.mkItem hhd Rp hrs;refine kP H (Kc Ho (SQ fun _ J3=>SB (SQ fun _ Vm=>SC (Rm rfl (Rm rfl ?_)))));clear H Ho;intro a H;refine zU (IntKind.wrap .u64 k) GI jJ H wn rfl rfl rfl ?_;clear H;intro a H;obtain ⟨z,ako⟩:=apG k;rw [ako] at H;refine anw ((z % 64:Nat):Int) H wn rfl rfl (by decide) (by rw [Int.tmod_eq_emod_of_nonneg (by omega)];omega) rfl ?_;clear H;intro a H;refine Nn (z % 64) H wn rfl rfl rfl (by show z % 64≤64;omega) rfl ?_;clear H;intro a H;refine Js rfl H wn rfl rfl rfl ?_;clear H;intro a H;refine kH H (Rc rfl (Kn Vm (Cd rfl ?_ ?_))) <;> clear H Vm
  ·intro Qs a H
   try have p59:=dT Qs
   refine kP H (SC (Rm rfl (Rm rfl (Rm rfl (Ri mQ dR rfl rfl ?_)))));clear H;intro a H;refine bg dR (cs:=[_,_,_,_,_,_,_,_,_,_,_]) H wn rfl rfl (fun j v hj=>H.hp.aF (hrow j v hj)) rfl ?_;clear H;intro a H;refine gK mQ dR [_,_,_,_,_,_,_,_,_,_,_] [_,_,_,_,_,_,_,_,_,_,_] H wn rfl rfl rfl rfl rfl (by intro i q h;match i,h with|0,h=>exact h|n+1,h=>simp at h) rfl rfl ?_;clear H;intro b65 a w aqu H;refine nU (Li:=[_]) (Lo:=Lo) (news:=[vi f.items[k].kind,vi f.items[k].code,vi f.items[k].id,.string f.items[k].text,.slice pA pn pc,vi f.items[k].head.marks.ins,vi f.items[k].head.marks.move,.slice dA dn dc,.slice yA yn yc,.slice fA fn fc,.slice rA rn rc]) mQ dR rfl rfl H wn rfl rfl hrw rfl (H.hp.cK 0 rfl rfl) zK.one (by have:=wR f.items;omega) (by have:=wR f.items;omega) rfl ?_;clear H;intro v66 abX a w ajP H;dsimp only [List.nil_append,List.cons_append] at H;refine kH H (kE J3 rfl (SC (Rm rfl (Rd rfl (Ra rfl ?_)))));clear H J3;intro a H;refine aG ?_;refine dH ((k+1,v66,m++[f.items[k]],xs++[vi f.items[k].kind,vi f.items[k].code,vi f.items[k].id,.string f.items[k].text,.slice pA pn pc,vi f.items[k].head.marks.ins,vi f.items[k].head.marks.move,.slice dA dn dc,.slice yA yn yc,.slice fA fn fc,.slice rA rn rc],abX)) (by exact (H.cu (Pl:=[_]) (bS:=[]) [] (by decide) rfl).sub ⟨rfl,rfl,rfl,rfl,rfl,rfl,rfl,bB⟩) ?_ ?_
   ·(try dsimp only);exact ⟨by omega,by rw [jH];exact ajP,by rw [nG];exact eD.snoc zK rfl,by rw [gN hk2];exact hsl.append (bX _)⟩
   first|omega|(dsimp only;omega)
  intro Qs a H
  try have p59:=dF Qs
  refine kP H (Kc J3 (SC (Rm rfl (Rd rfl (Ra rfl ?_)))));clear H J3;intro a H;refine aG ?_;refine dH ((k+1,v,m,xs,Lo)) (by exact (H).sub ⟨rfl,rfl,rfl,rfl,rfl,rfl,rfl,bB⟩) ?_ ?_
  ·(try dsimp only);exact ⟨by omega,hrw,eD,by rw [gN hk2];exact hsl.trans (List.sublist_append_left _ _)⟩
  first|omega|(dsimp only;omega)
 intro h50 a H
 try have p50:=dF h50
 obtain rfl:k=f.items.length:=by omega
 rw [wW] at hsl;obtain ⟨Gr,hmr,hrep,H⟩:=St.rG (Li:=[]) H hrw (rows:=m.map au.dat) (by simp) eD;replace hR:=hR.mono hmr;replace hga:=fun j v hj=>aJ hmr (hga j v hj);refine wX ?_;refine yY _ _ ?_;clear yY;refine uO (fun _ Vn=>?_);refine zl ?_;refine bg iy (cs:=D.cells) H wn rfl rfl (fun j v hj=>H.hp.aF (hga j v hj)) rfl ?_;clear H;intro a H;refine kH H (Rm rfl (Rm rfl ?_));clear H;intro a H;refine s_call agf H wn rfl (anY _ _ H.ro D d hR hz hc f hfm m _ hrep (TW hsl)) rfl ?_;clear H;rintro v71 G71 a w ⟨E,e,rfl,hE,hse⟩ Ye H;refine kH H (Rm rfl ?_);clear H;intro a H;(iterate 2 refine qh H wn rfl rfl rfl ?_;clear H;intro a H);refine dx iy H wn rfl ?_;clear H;intro b13 a w LK H;refine aV iy 0 (vs:=[_,_,_,_,_,_,_,_,_,_,_]) _ H wn rfl rfl rfl rfl rfl rfl rfl rfl ?_;clear H;intro w H;dsimp only [List.set,setRow] at H;refine kH H (kE Vn rfl (SQ fun _ Vo=>?_));clear H Vn;intro a H;obtain ⟨Gb,hmb,QT,H⟩:=H.dP;have hge:=fun j v hj=>wm QT 0 E.cells rfl j v hj;replace hE:=hE.mono hmb;replace hR:=(hR.mono Ye).mono hmb;replace hga:=fun j v hj=>aJ hmb (aJ Ye (hga j v hj));obtain ⟨hok2,R9⟩:=UC hc hse;have hz2:=UD hz hse;have hcn:=alp hok2;have hzn:=alq hz2;have hnu:mG (eY (nD (Dl d e)).flow)=(iK e:Nat):=(MS hok2).2.trans (NP ((Au _).1 hok2).2.2.1);have hdu:mG (eY d.flow)=(iK d.flow:Nat):=NP ((Au _).1 hc).2.2.1;refine dI hmx [[],[0],[0,1],[0,1,2],(ra 0 4),(ra 0 5),(ra 0 6),(ra 0 7),(ra 0 8),(ra 0 9),(ra 0 10),(ra 0 11),(ra 0 10),(ra 0 13),(ra 0 14),(ra 0 15),(ra 0 16)] [] (by kernel_rfl) [_,_,.bool true,_,_,.agg E.cells.toArray,vi 0,.bool true,_,_,.agg E.cells.toArray,vi (iK e:Nat),.agg D.cells.toArray,vi (iK d.flow:Nat),.bool true,_,_] H (aC (Z0 rfl (Rm rfl)) (Z1 0 74 rfl (Rm rfl)) ?_ (Z2 1 75 2 76 rfl (Pt rfl rfl)) (aC (Z1 3 77 rfl (Rm rfl)) ?_ ?_ ?_ (aC (Z2 4 78 7 81 rfl (Pt rfl rfl)) (Z1 8 82 rfl (Rm rfl)) ?_ ?_ (aC ?_ ?_ ?_ (Z2 9 83 14 88 rfl (Pt rfl rfl)) (bL (Z1 15 89 rfl (Ra rfl)) dw))))) ?_
 ·refine dJ 1 75 rfl rfl fun _ a w G1 hG HT H fin=>?_;refine C8 H (wg H rfl rfl rfl) rfl rfl ?_;clear H;intro a H;exact fin H iJ rfl
 ·refine dJ 4 78 rfl rfl fun _ a w G1 hG HT H fin=>?_;refine bg iy (cs:=E.cells) H (wg H rfl rfl rfl) rfl rfl (fun j v hj=>H.hp.aF (aJ hG (hge j v hj))) rfl ?_;clear H;intro a H;exact fin H iJ rfl
 ·refine dL 5 79 4 78 rfl rfl fun _ a w G1 hG HT H fin=>?_;refine s_call PL H (wg H rfl rfl rfl) rfl (OY _ _ H.ro E (nD (Dl d e)) (hE.mono hG) hzn) rfl ?_;clear H;rintro v80 G80 a w rfl ahW H;rw [hcn] at H;exact fin H ahW (rfl)
 ·refine dL 6 80 4 78 rfl rfl fun _ a w G1 hG HT H fin=>?_;refine CY H (wg H rfl rfl rfl) rfl rfl rfl rfl ?_;clear H;intro a H;exact fin H iJ rfl
 ·refine dJ 9 83 rfl rfl fun _ a w G1 hG HT H fin=>?_;refine bg iy (cs:=E.cells) H (wg H rfl rfl rfl) rfl rfl (fun j v hj=>H.hp.aF (aJ hG (hge j v hj))) rfl ?_;clear H;intro a H;exact fin H iJ rfl
 ·refine dL 10 84 9 83 rfl rfl fun _ a w G1 hG HT H fin=>?_;refine s_call PG H (wg H rfl rfl rfl) rfl (Uz _ _ H.ro E (nD (Dl d e)).flow (hE.mono hG).fl (by have:=hzn.fl;omega) (aaZ _ hzn.fl)) rfl ?_;clear H;rintro v85 G85 a w rfl ahX H;rw [hnu] at H;exact fin H ahX (rfl)
 ·refine dJ 9 83 rfl rfl fun _ a w G1 hG HT H fin=>?_;refine bg iy (cs:=D.cells) H (wg H rfl rfl rfl) rfl rfl (fun j v hj=>H.hp.aF (aJ hG (hga j v hj))) rfl ?_;clear H;intro a H;exact fin H iJ rfl
 ·refine dL 12 86 9 83 rfl rfl fun _ a w G1 hG HT H fin=>?_;refine s_call PG H (wg H rfl rfl rfl) rfl (Uz _ _ H.ro D d.flow (hR.mono hG).fl (by omega) (aaZ _ hz.fl)) rfl ?_;clear H;rintro v87 G87 a w rfl ahY H;rw [hdu] at H;exact fin H ahY (rfl)
 ·refine wU 11 85 13 87 9 83 rfl rfl fun _ a w G1 hG HT H fin=>?_;refine CY H (wg H rfl rfl rfl) rfl rfl rfl rfl ?_;clear H;intro a H;exact fin H iJ (dD (iE (by omega)))
 clear H;intro a w G Cu H hv;have H:=H.aO (hv 16 6 rfl rfl) rfl;clear hv;refine aG ⟨rfl,?_⟩;refine Vo _ _ ?_;clear Vo;refine lr H results6 rfl ?_;exact H.rt (by first|rfl|(simp_all;done))
end
section
open Go.ChangeShapes Go.RowKit Go.Deep
theorem Bv {ρ:Type} {dat:ρ→List Dat}:∀ {l:List ρ} {x:ρ},x∈l→bJ (dat x)+1≤dX (l.map dat)
 | y :: l,x,h=>by
  rw [eu,dX]
  rcases iQ.1 h with rfl|h
  ·omega
  have:=Bv (dat:=dat) h;omega
section
variable {H:Type} {enc:TypeId × aj→H} {W:World} {base:Nat} {spare:Nat→Bool} {held:Bool}
theorem aoo:qD prog 156 6 [(3,0,1),(3,1,1),(9,2,1),(3,3,1),(3,4,1),(23,5,1)]:=⟨by kernel_rfl,by kernel_rfl,by kernel_rfl⟩
theorem adh:prog.cellsOf 156=6:=by kernel_rfl
theorem amF {n:Nat} {cs:List aj} {D:DataW H} {Pl:List MemPlace} (h:DataW.trod enc prog W base spare held n 156 cs=some (D,Pl)):∃ r:bM,aN (oJ W) r.dat cs∧bJ r.dat+1≤8*Rows.uptoBulk D:=by
 obtain ⟨xs,m,hx,hl,hxl,hf⟩:=rQ aoo h
 match cs,hl,xs,hxl with
 | [c0,c1,c2,c3,c4,c5],_,[y0,y1,y2,y3,y4,y5],_ =>
  have h0:=hf 0 _ _ _ rfl;have h1:=hf 1 _ _ _ rfl;have h2:=hf 2 _ _ _ rfl;have h3:=hf 3 _ _ _ rfl;have h4:=hf 4 _ _ _ rfl;have h5:=hf 5 _ _ _ rfl
  simp only at hx
  have hD:Rows.uptoBulk D=Rows.uptoBulk y0.1+(Rows.uptoBulk y1.1+(Rows.uptoBulk y2.1+(Rows.uptoBulk y3.1+(Rows.uptoBulk y4.1+(Rows.uptoBulk y5.1+0)))))+1:=by rw [hx];simp only [eu,uK,Rows.uptoBulk,Rows.uptoBulkAll]
  obtain ⟨k0,e0,d0,-⟩:=DataW.trod_int underlying3 h0;obtain ⟨k1,e1,d1,-⟩:=DataW.trod_int underlying3 h1;obtain ⟨k2,e2,d2,-⟩:=DataW.trod_string underlying9 h2;obtain ⟨k3,e3,d3,-⟩:=DataW.trod_int underlying3 h3;obtain ⟨k4,e4,d4,-⟩:=DataW.trod_int underlying3 h4;obtain ⟨k5,q5,e5,r5,d5⟩:=tO (dat:=fK.dat) (sz:=2) (by omega) underlying23 VZ h5 (fun n cs' D Pl hh _=>aae hh)
  simp at e0 e1 e2 e3 e4 e5
  subst e0 e1 e2 e3 e4 e5
  have b0:Rows.uptoBulk y0.1=1:=by rw [d0];rfl
  have b1:Rows.uptoBulk y1.1=1:=by rw [d1];rfl
  have b2:Rows.uptoBulk y2.1=k2.size+1:=by rw [d2];show k2.data.toList.length+1=k2.data.size+1;rw [sG]
  have b3:Rows.uptoBulk y3.1=1:=by rw [d3];rfl
  have b4:Rows.uptoBulk y4.1=1:=by rw [d4];rfl
  refine ⟨⟨k0,k1,k2,k3,k4,k5⟩,?_,?_⟩
  ·exact ⟨_,_,rfl,(by simp [av,Value.oneCell']),⟨_,_,rfl,(by simp [av,Value.oneCell']),⟨_,_,rfl,(by simp [av,Value.oneCell']),⟨_,_,rfl,(by simp [av,Value.oneCell']),⟨_,_,rfl,(by simp [av,Value.oneCell']),⟨_,_,rfl,r5,rfl⟩⟩⟩⟩⟩⟩
  simp only [bM.dat,bJ,lM];omega
theorem aoi:qD prog 194 4 [(3,0,1),(3,1,1),(9,2,1),(3,3,1)]:=⟨by kernel_rfl,by kernel_rfl,by kernel_rfl⟩
theorem ade:prog.cellsOf 194=4:=by kernel_rfl
theorem amB {n:Nat} {cs:List aj} {D:DataW H} {Pl:List MemPlace} (h:DataW.trod enc prog W base spare held n 194 cs=some (D,Pl)):∃ r:lQ,aN (oJ W) r.dat cs∧bJ r.dat+1≤8*Rows.uptoBulk D:=by
 obtain ⟨xs,m,hx,hl,hxl,hf⟩:=rQ aoi h
 match cs,hl,xs,hxl with
 | [c0,c1,c2,c3],_,[y0,y1,y2,y3],_ =>
  have h0:=hf 0 _ _ _ rfl;have h1:=hf 1 _ _ _ rfl;have h2:=hf 2 _ _ _ rfl;have h3:=hf 3 _ _ _ rfl
  simp only at hx
  have hD:Rows.uptoBulk D=Rows.uptoBulk y0.1+(Rows.uptoBulk y1.1+(Rows.uptoBulk y2.1+(Rows.uptoBulk y3.1+0)))+1:=by rw [hx];simp only [eu,uK,Rows.uptoBulk,Rows.uptoBulkAll]
  obtain ⟨k0,e0,d0,-⟩:=DataW.trod_int underlying3 h0;obtain ⟨k1,e1,d1,-⟩:=DataW.trod_int underlying3 h1;obtain ⟨k2,e2,d2,-⟩:=DataW.trod_string underlying9 h2;obtain ⟨k3,e3,d3,-⟩:=DataW.trod_int underlying3 h3
  simp at e0 e1 e2 e3
  subst e0 e1 e2 e3
  have b0:Rows.uptoBulk y0.1=1:=by rw [d0];rfl
  have b1:Rows.uptoBulk y1.1=1:=by rw [d1];rfl
  have b2:Rows.uptoBulk y2.1=k2.size+1:=by rw [d2];show k2.data.toList.length+1=k2.data.size+1;rw [sG]
  have b3:Rows.uptoBulk y3.1=1:=by rw [d3];rfl
  refine ⟨⟨k0,k1,k2,k3⟩,?_,?_⟩
  ·exact ⟨_,_,rfl,(by simp [av,Value.oneCell']),⟨_,_,rfl,(by simp [av,Value.oneCell']),⟨_,_,rfl,(by simp [av,Value.oneCell']),⟨_,_,rfl,(by simp [av,Value.oneCell']),rfl⟩⟩⟩⟩
  simp only [lQ.dat,bJ,lM];omega
theorem aoh:qD prog 159 2 [(3,0,1),(157,1,1)]:=⟨by kernel_rfl,by kernel_rfl,by kernel_rfl⟩
theorem adb:prog.cellsOf 159=2:=by kernel_rfl
theorem amC {n:Nat} {cs:List aj} {D:DataW H} {Pl:List MemPlace} (h:DataW.trod enc prog W base spare held n 159 cs=some (D,Pl)):∃ r:dW,aN (oJ W) r.dat cs∧bJ r.dat+1≤8*Rows.uptoBulk D:=by
 obtain ⟨xs,m,hx,hl,hxl,hf⟩:=rQ aoh h
 match cs,hl,xs,hxl with
 | [c0,c1],_,[y0,y1],_ =>
  have h0:=hf 0 _ _ _ rfl;have h1:=hf 1 _ _ _ rfl
  simp only at hx
  have hD:Rows.uptoBulk D=Rows.uptoBulk y0.1+(Rows.uptoBulk y1.1+0)+1:=by rw [hx];simp only [eu,uK,Rows.uptoBulk,Rows.uptoBulkAll]
  obtain ⟨k0,e0,d0,-⟩:=DataW.trod_int underlying3 h0;obtain ⟨k1,q1,e1,r1,d1⟩:=tO (dat:=lQ.dat) (sz:=4) (by omega) underlying157 ade h1 (fun n cs' D Pl hh _=>amB hh)
  simp at e0 e1
  subst e0 e1
  have b0:Rows.uptoBulk y0.1=1:=by rw [d0];rfl
  refine ⟨⟨k0,k1⟩,?_,?_⟩
  ·exact ⟨_,_,rfl,(by simp [av,Value.oneCell']),⟨_,_,rfl,r1,rfl⟩⟩
  simp only [dW.dat,bJ,lM];omega
theorem aoc:qD prog 164 6 [(3,0,1),(3,1,1),(9,2,1),(3,3,1),(9,4,1),(4,5,1)]:=⟨by kernel_rfl,by kernel_rfl,by kernel_rfl⟩
theorem acY:prog.cellsOf 164=6:=by kernel_rfl
theorem amv {n:Nat} {cs:List aj} {D:DataW H} {Pl:List MemPlace} (h:DataW.trod enc prog W base spare held n 164 cs=some (D,Pl)):∃ r:gu,aN (oJ W) r.dat cs∧bJ r.dat+1≤8*Rows.uptoBulk D:=by
 obtain ⟨xs,m,hx,hl,hxl,hf⟩:=rQ aoc h
 match cs,hl,xs,hxl with
 | [c0,c1,c2,c3,c4,c5],_,[y0,y1,y2,y3,y4,y5],_ =>
  have h0:=hf 0 _ _ _ rfl;have h1:=hf 1 _ _ _ rfl;have h2:=hf 2 _ _ _ rfl;have h3:=hf 3 _ _ _ rfl;have h4:=hf 4 _ _ _ rfl;have h5:=hf 5 _ _ _ rfl
  simp only at hx
  have hD:Rows.uptoBulk D=Rows.uptoBulk y0.1+(Rows.uptoBulk y1.1+(Rows.uptoBulk y2.1+(Rows.uptoBulk y3.1+(Rows.uptoBulk y4.1+(Rows.uptoBulk y5.1+0)))))+1:=by rw [hx];simp only [eu,uK,Rows.uptoBulk,Rows.uptoBulkAll]
  obtain ⟨k0,e0,d0,-⟩:=DataW.trod_int underlying3 h0;obtain ⟨k1,e1,d1,-⟩:=DataW.trod_int underlying3 h1;obtain ⟨k2,e2,d2,-⟩:=DataW.trod_string underlying9 h2;obtain ⟨k3,e3,d3,-⟩:=DataW.trod_int underlying3 h3;obtain ⟨k4,e4,d4,-⟩:=DataW.trod_string underlying9 h4;obtain ⟨k5,e5,d5⟩:=DataW.trod_bool underlying4 h5
  simp at e0 e1 e2 e3 e4 e5
  subst e0 e1 e2 e3 e4 e5
  have b0:Rows.uptoBulk y0.1=1:=by rw [d0];rfl
  have b1:Rows.uptoBulk y1.1=1:=by rw [d1];rfl
  have b2:Rows.uptoBulk y2.1=k2.size+1:=by rw [d2];show k2.data.toList.length+1=k2.data.size+1;rw [sG]
  have b3:Rows.uptoBulk y3.1=1:=by rw [d3];rfl
  have b4:Rows.uptoBulk y4.1=k4.size+1:=by rw [d4];show k4.data.toList.length+1=k4.data.size+1;rw [sG]
  have b5:Rows.uptoBulk y5.1=1:=by rw [d5];rfl
  refine ⟨⟨k0,k1,k2,k3,k4,k5⟩,?_,?_⟩
  ·exact ⟨_,_,rfl,(by simp [av,Value.oneCell']),⟨_,_,rfl,(by simp [av,Value.oneCell']),⟨_,_,rfl,(by simp [av,Value.oneCell']),⟨_,_,rfl,(by simp [av,Value.oneCell']),⟨_,_,rfl,(by simp [av,Value.oneCell']),⟨_,_,rfl,(by simp [av,Value.oneCell']),rfl⟩⟩⟩⟩⟩⟩
  simp only [gu.dat,bJ,lM];omega
theorem aop:qD prog 167 2 [(9,0,1),(9,1,1)]:=⟨by kernel_rfl,by kernel_rfl,by kernel_rfl⟩
theorem adj:prog.cellsOf 167=2:=by kernel_rfl
theorem amG {n:Nat} {cs:List aj} {D:DataW H} {Pl:List MemPlace} (h:DataW.trod enc prog W base spare held n 167 cs=some (D,Pl)):∃ r:jL,aN (oJ W) r.dat cs∧bJ r.dat+1≤8*Rows.uptoBulk D:=by
 obtain ⟨xs,m,hx,hl,hxl,hf⟩:=rQ aop h
 match cs,hl,xs,hxl with
 | [c0,c1],_,[y0,y1],_ =>
  have h0:=hf 0 _ _ _ rfl;have h1:=hf 1 _ _ _ rfl
  simp only at hx
  have hD:Rows.uptoBulk D=Rows.uptoBulk y0.1+(Rows.uptoBulk y1.1+0)+1:=by rw [hx];simp only [eu,uK,Rows.uptoBulk,Rows.uptoBulkAll]
  obtain ⟨k0,e0,d0,-⟩:=DataW.trod_string underlying9 h0;obtain ⟨k1,e1,d1,-⟩:=DataW.trod_string underlying9 h1
  simp at e0 e1
  subst e0 e1
  have b0:Rows.uptoBulk y0.1=k0.size+1:=by rw [d0];show k0.data.toList.length+1=k0.data.size+1;rw [sG]
  have b1:Rows.uptoBulk y1.1=k1.size+1:=by rw [d1];show k1.data.toList.length+1=k1.data.size+1;rw [sG]
  refine ⟨⟨k0,k1⟩,?_,?_⟩
  ·exact ⟨_,_,rfl,(by simp [av,Value.oneCell']),⟨_,_,rfl,(by simp [av,Value.oneCell']),rfl⟩⟩
  simp only [jL.dat,bJ,lM];omega
theorem aom:qD prog 82 3 [(3,0,1),(9,1,1),(3,2,1)]:=⟨by kernel_rfl,by kernel_rfl,by kernel_rfl⟩
theorem adg:prog.cellsOf 82=3:=by kernel_rfl
theorem amD {n:Nat} {cs:List aj} {D:DataW H} {Pl:List MemPlace} (h:DataW.trod enc prog W base spare held n 82 cs=some (D,Pl)):∃ r:bQ,aN (oJ W) r.dat cs∧bJ r.dat+1≤8*Rows.uptoBulk D:=by
 obtain ⟨xs,m,hx,hl,hxl,hf⟩:=rQ aom h
 match cs,hl,xs,hxl with
 | [c0,c1,c2],_,[y0,y1,y2],_ =>
  have h0:=hf 0 _ _ _ rfl;have h1:=hf 1 _ _ _ rfl;have h2:=hf 2 _ _ _ rfl
  simp only at hx
  have hD:Rows.uptoBulk D=Rows.uptoBulk y0.1+(Rows.uptoBulk y1.1+(Rows.uptoBulk y2.1+0))+1:=by rw [hx];simp only [eu,uK,Rows.uptoBulk,Rows.uptoBulkAll]
  obtain ⟨k0,e0,d0,-⟩:=DataW.trod_int underlying3 h0;obtain ⟨k1,e1,d1,-⟩:=DataW.trod_string underlying9 h1;obtain ⟨k2,e2,d2,-⟩:=DataW.trod_int underlying3 h2
  simp at e0 e1 e2
  subst e0 e1 e2
  have b0:Rows.uptoBulk y0.1=1:=by rw [d0];rfl
  have b1:Rows.uptoBulk y1.1=k1.size+1:=by rw [d1];show k1.data.toList.length+1=k1.data.size+1;rw [sG]
  have b2:Rows.uptoBulk y2.1=1:=by rw [d2];rfl
  refine ⟨⟨k0,k1,k2⟩,?_,?_⟩
  ·exact ⟨_,_,rfl,(by simp [av,Value.oneCell']),⟨_,_,rfl,(by simp [av,Value.oneCell']),⟨_,_,rfl,(by simp [av,Value.oneCell']),rfl⟩⟩⟩
  simp only [bQ.dat,bJ,lM];omega
theorem aon:qD prog 36 4 [(31,0,1),(32,1,1),(33,2,1),(34,3,1)]:=⟨by kernel_rfl,by kernel_rfl,by kernel_rfl⟩
structure Ow (s:xX) (n:Nat):Prop where
 st:dX (s.styles.map bM.dat)≤n
 li:dX (s.lists.map dW.dat)≤n
 cm:dX (s.comments.map gu.dat)≤n
 va:dX (s.vars.map jL.dat)≤n
theorem Ow.zn {s:xX} {n:Nat} (h:Ow s n) (hn:n≤4294967296):J9 s∧s.styles.length≤4294967296:=by
 obtain ⟨h1,h2,h3,h4⟩:=h;have l1:=kY (s.styles.map bM.dat);have l2:=kY (s.lists.map dW.dat);have l3:=kY (s.comments.map gu.dat);have l4:=kY (s.vars.map jL.dat);rw [bO] at l1 l2 l3 l4;refine ⟨⟨fun x hx=>?_,by omega,fun x hx y hy=>?_,by omega,fun x hx=>?_,by omega,fun x hx=>?_,fun x hx=>?_,fun x hx=>?_⟩,by omega⟩
 ·have:=Bv (dat:=bM.dat) hx
  simp only [bM.dat,bJ,lM] at this;omega
 ·have:=Bv (dat:=dW.dat) hx
  simp only [dW.dat,bJ,lM] at this
  have h5:=Bv (dat:=lQ.dat) hy
  simp only [lQ.dat,bJ,lM] at h5;omega
 ·have:=Bv (dat:=gu.dat) hx
  simp only [gu.dat,bJ,lM] at this;omega
 ·have:=Bv (dat:=jL.dat) hx
  simp only [jL.dat,bJ,lM] at this;omega
 ·have:=Bv (dat:=bM.dat) hx;have h5:=kY (x.props.map fK.dat);rw [bO] at h5
  simp only [bM.dat,bJ,lM] at this;omega
 have:=Bv (dat:=dW.dat) hx;have h5:=kY (x.levels.map lQ.dat);rw [bO] at h5
 simp only [dW.dat,bJ,lM] at this;omega
theorem amE {n:Nat} {cs:List aj} {x:DataW H × List MemPlace} (h:DataW.trod enc prog W base spare held n 36 cs=some x):∃ (s:xX) (a b c d:aj),cs=[a,b,c,d]∧uD (oJ W) s a b c d∧Ow s (8*Rows.uptoBulk x.1):=by
 obtain ⟨xs,m,hx,hl,hxl,hf⟩:=rQ aon h
 match cs,hl,xs,hxl with
 | [c0,c1,c2,c3],_,[y0,y1,y2,y3],_ =>
  have h0:=hf 0 _ _ _ rfl;have h1:=hf 1 _ _ _ rfl;have h2:=hf 2 _ _ _ rfl;have h3:=hf 3 _ _ _ rfl;obtain ⟨k0,q0,e0,r0,d0⟩:=tO (dat:=bM.dat) (sz:=6) (by omega) underlying31 adh h0 (fun n cs' D Pl hh _=>amF hh);obtain ⟨k1,q1,e1,r1,d1⟩:=tO (dat:=dW.dat) (sz:=2) (by omega) underlying32 adb h1 (fun n cs' D Pl hh _=>amC hh);obtain ⟨k2,q2,e2,r2,d2⟩:=tO (dat:=gu.dat) (sz:=6) (by omega) underlying33 acY h2 (fun n cs' D Pl hh _=>amv hh);obtain ⟨k3,q3,e3,r3,d3⟩:=tO (dat:=jL.dat) (sz:=2) (by omega) underlying34 adj h3 (fun n cs' D Pl hh _=>amG hh)
  simp at e0 e1 e2 e3
  subst e0 e1 e2 e3
  have hD:Rows.uptoBulk x.1=Rows.uptoBulk y0.1+(Rows.uptoBulk y1.1+(Rows.uptoBulk y2.1+(Rows.uptoBulk y3.1+0)))+1:=by rw [hx];simp only [eu,uK,Rows.uptoBulk,Rows.uptoBulkAll]
  exact ⟨⟨k0,k1,k2,k3⟩,_,_,_,_,rfl,⟨r0,r1,r2,r3⟩,⟨by show dX (k0.map _)≤_;omega,by show dX (k1.map _)≤_;omega,by show dX (k2.map _)≤_;omega,by show dX (k3.map _)≤_;omega⟩⟩
theorem aaH:qD prog 38 11 [(22,0,1),(29,1,5),(30,6,1),(36,7,4)]:=⟨by kernel_rfl,by kernel_rfl,by kernel_rfl⟩
theorem Bu {G:GH} {sz:Nat} {rs:List (List Dat)} {v:aj} (h:av G (.sl sz rs) v):∃ x,v=aS x:=by
 obtain ⟨a,n,c,rfl⟩:=h.form;exact ⟨(a,n,c),rfl⟩
theorem amx {n:Nat} {cs:List aj} {x:DataW H × List MemPlace} (h:DataW.trod enc prog W base spare held n 38 cs=some x) (hb:Rows.uptoBulk x.1≤1048576):∃ (D:jy) (d:iO),cs=D.cells∧qj (oJ W) D d∧vQ d:=by
 obtain ⟨xs,m,hx,hl,hxl,hf⟩:=rQ aaH h
 match cs,hl,xs,hxl with
 | [c0,c1,c2,c3,c4,c5,c6,c7,c8,c9,c10],_,[y0,y1,y2,y3],_ =>
  have h0:=hf 0 _ _ _ rfl;have h1:=hf 1 _ _ _ rfl;have h2:=hf 2 _ _ _ rfl;have h3:=hf 3 _ _ _ rfl;obtain ⟨l,q0,e0,r0,d0⟩:=amy h0;obtain ⟨hd,p,dd,ll,e1,r1,d1⟩:=Nc h1;obtain ⟨rv,q2,e2,r2,d2⟩:=tO (dat:=bQ.dat) (sz:=3) (by omega) underlying30 adg h2 (fun n cs' D Pl hh _=>amD hh);obtain ⟨s,a,b,c,d,e3,r3,d3⟩:=amE h3
  simp at e0 e1 e2 e3
  obtain ⟨rfl,rfl,rfl,rfl,rfl⟩:=e1;obtain ⟨rfl,rfl,rfl,rfl⟩:=e3;subst e0 e2
  have hD:Rows.uptoBulk x.1=Rows.uptoBulk y0.1+(Rows.uptoBulk y1.1+(Rows.uptoBulk y2.1+(Rows.uptoBulk y3.1+0)))+1:=by rw [hx];simp only [eu,uK,Rows.uptoBulk,Rows.uptoBulkAll]
  obtain ⟨x0,rfl⟩:=Bu r0;obtain ⟨x1,rfl⟩:=Bu r1.props;obtain ⟨x2,rfl⟩:=Bu r1.bU;obtain ⟨x3,rfl⟩:=Bu r1.layers;obtain ⟨x4,rfl⟩:=Bu r2;obtain ⟨x5,rfl⟩:=Bu r3.st;obtain ⟨x6,rfl⟩:=Bu r3.li;obtain ⟨x7,rfl⟩:=Bu r3.cm;obtain ⟨x8,rfl⟩:=Bu r3.va;obtain ⟨hz1,hz2⟩:=d3.zn (by omega);have l2:=kY (rv.map bQ.dat);rw [bO] at l2;refine ⟨⟨x0,x1,x2,x3,x4,x5,x6,x7,x8,hd.marks.ins,hd.marks.move⟩,⟨l,hd,rv,s⟩,rfl,⟨r0,r1,rfl,rfl,r2,r3⟩,⟨by show aZ l≤_;omega,by show kZ hd≤_;omega,by show rv.length≤_;omega,fun x hx=>?_,hz2,hz1⟩⟩;have:=Bv (dat:=bQ.dat) hx
  simp only [bQ.dat,bJ,lM] at this
  omega
end
end
end Go.Proofs.YthmanofbmnfemaaGreat
