/-
  What the claim stands on, part 5: Ins Blw Uq13 Lf13 Rws Itm Its Rvs Chd Fz13 Mst Mck Dnn Dnc Mis Pm13 Av16 Hds Gco.
-/
import Derived.Test.YthmanofbmnfemaaGreatWad
namespace Go.Proofs.YthmanofbmnfemaaGreat
open Go.Proofs.Tryz
section
open Go.RowKit
theorem Qr:prog.underlying 103=some (.slice 48):=by kernel_rfl
theorem Rx:∀ args w,(callFunc 104 args).run prog w=.ok (.enter 104 args) w:=enters func104 rfl (by kernel_rfl)
section
variable {N:Nat} {D:List Deferred} {w0:World} {F:Nat→Prop} {G0 G:GH} {A B C:OL} {T:List (Nat × aj)} {a:Act} {w:World}
theorem St.Wo (h:St N D w0 F G0 G (A++(B++C)) T a w):St N D w0 F G0 G ((A++C)++B) T a w:=h.perm (by rw [iQ];exact List.Perm.append_left A qZ)
theorem St.Wn (h:St N D w0 F G0 G ((A++C)++B) T a w):St N D w0 F G0 G (A++(B++C)) T a w:=h.perm (by rw [iQ];exact List.Perm.append_left A qZ)
end
theorem anq {x:aC} (h:GA x):sV x=n1 x:=by rw [h.n1];rfl
abbrev tF (l:List ((Int × Int) × aC)):List ((Int × Int) × aC):=l.filter Pw
theorem adj {f:Int} {at_:Int} {x:aC}:tF (FL f at_ x)=(if x.kind=7 then [((f,at_),x)] else [])++((if x.kind=6 then tF (fZ x.id 0 x.flow) else [])++(if x.kind=7 then tF (sN x.rows) else [])):=by
 obtain ⟨k,c,i,t,h,fl,r⟩:=x
 simp only [FL,aC.kind,aC.id,aC.flow,aC.rows]
 by_cases h6:k=6
 ·subst h6;simp [tF,Pw,aC.kind]
 by_cases h7:k=7
 ·subst h7;simp [tF,Pw,aC.kind]
 simp [h6,h7,tF]
def Iz (p:Int × Int):List Dat:=[li p.1,li p.2]
theorem aoa {G:GH} (a b:Int):bM G (Iz (a,b)) [vi a,vi b]:=⟨_,_,rfl,⟨rfl,rfl⟩,_,_,rfl,⟨rfl,rfl⟩,rfl⟩
structure ES (g:GH) (v u:aj) (R:List ((Int × Int) × aC)) (xs ys:List aj) (La Lb:OL):Prop where
 it:gJ 68 11 v R.length xs La
 ic:gP g 11 (R.map fun q=>q.2.dat) xs
 ps:gJ 48 2 u R.length ys Lb
 pc:gP g 2 (R.map fun q=>Iz q.1) ys
theorem ES.mono {g g':GH} {v u:aj} {R:List ((Int × Int) × aC)} {xs ys:List aj} {La Lb:OL} (h:ES g v u R xs ys La Lb) (hm:∀ b o,g b=some o→g' b=some o):ES g' v u R xs ys La Lb:=⟨h.it,h.ic.mono hm,h.ps,h.pc.mono hm⟩
def yP (T:List ((Int × Int) × aC)) (u:aj) (G':GH):Prop:=∃ a b,u=.tuple #[a,b]∧aB G' (.sl 11 (T.map fun q=>q.2.dat)) a∧aB G' (.sl 2 (T.map fun q=>Iz q.1)) b
theorem yP.mono {T:List ((Int × Int) × aC)} {u:aj} {G G':GH} (hm:∀ b o,G b=some o→G' b=some o) (h:yP T u G):yP T u G':=let ⟨a,b,h1,h2,h3⟩:=h;⟨a,b,h1,h2.mono hm,h3.mono hm⟩
def QH (m:Nat):Prop:=∀ (G:GH) (w0:World),Hold G w0→∀ (f:Int) (l:List aC) (v:aj),aB G (.sl 11 (l.map aC.dat)) v→oO l→bB l < m →
 Calls prog 104 #[vi f,v] w0 (bV w0 G (yP (tF (fZ f 0 l))))
theorem Qm (a b:List ((Int × Int) × aC)):tF (a++b)=tF a++tF b:=List.filter_append ..
theorem M8 (f t:Int) (l:List aC):(tF (fZ f t l)).length≤bB l:=Nat.le_trans (List.length_filter_le _ _) (PY f t l)
theorem amZ (x:aC):n1 x+bB x.flow+eG x.rows < dh x.dat:=by
 have h1:=oN x;have h2:=EZ x.text
 unfold n1 gI;split <;> (try split) <;> omega
set_option maxHeartbeats 4000000 in
theorem amf {m:Nat} (ih:QH m) (hm:m≤4294967296):QH (m+1):=by
 intro G w0 hG f l v hu hok hz;obtain ⟨A,c,rfl,hc1,hc2,hg⟩:=hu.slice;rw [bN] at *;have hll:=Dg l;have hml:maxLen=9223372036854775807:=rfl;have hbn:=M8 f 0 l;refine eN [(0,_),(1,_)] func104 rfl ntmps104 rfl rfl hG ?_;intro a H;refine kP H (SR fun _ K1=>Ra rfl (ak K1 rfl (SR fun _ K2=>ak K2 rfl (SQ fun _ K3=>SR fun _ K4=>ak K4 rfl (SB ?_)))));clear H K1 K2 K4;intro a H;skip;refine dV (ι:=Nat × Nat × List ((Int × Int) × aC) × aj × aj × List aj × List aj × OL × OL × GH) (Tc:=[(0,_),(1,_)]) (Lc:=[]) (fun (gh:Nat × Nat × List ((Int × Int) × aC) × aj × aj × List aj × List aj × OL × OL × GH)=>[(4,gh.2.2.2.1),(5,gh.2.2.2.2.1),(6,vi gh.2.1),(7,vi gh.1)]) (fun (gh:Nat × Nat × List ((Int × Int) × aC) × aj × aj × List aj × List aj × OL × OL × GH)=>[]++(gh.2.2.2.2.2.2.2.1++gh.2.2.2.2.2.2.2.2.1)) (fun (gh:Nat × Nat × List ((Int × Int) × aC) × aj × aj × List aj × List aj × OL × OL × GH)=>gh.2.2.2.2.2.2.2.2.2) (fun (gh:Nat × Nat × List ((Int × Int) × aC) × aj × aj × List aj × List aj × OL × OL × GH)=>gh.1≤l.length∧ES gh.2.2.2.2.2.2.2.2.2 gh.2.2.2.1 gh.2.2.2.2.1 gh.2.2.1 gh.2.2.2.2.2.1 gh.2.2.2.2.2.2.1 gh.2.2.2.2.2.2.2.1 gh.2.2.2.2.2.2.2.2.1∧gh.2.2.1++tF (fZ f gh.2.1 (l.drop gh.1))=tF (fZ f 0 l)∧(∀ b o,G b=some o→gh.2.2.2.2.2.2.2.2.2 b=some o)∧gh.2.1+bB (l.drop gh.1)≤4294967296∧oO (l.drop gh.1)) (fun (gh:Nat × Nat × List ((Int × Int) × aC) × aj × aj × List aj × List aj × OL × OL × GH)=>l.length - gh.1) ((0,0,[],.slice none 0 0,.slice none 0 0,[],[],[],[],G)) (by exact (H).sub ⟨rfl,rfl,rfl,rfl,rfl,rfl,av⟩) ?_ ?_
 ·exact ⟨fQ _,⟨gJ.nil,gP.nil,gJ.nil,gP.nil⟩,rfl,fun _ _ h=>h,by dsimp only;rw [jU];omega,hok⟩
 clear H;rintro ⟨k,at_,R,v4,v5,xs,ys,La,Lb,g⟩ a w hI H;dsimp only at hI H;obtain ⟨hk,hr1,hX,hgm,hat,hok1⟩:=hI;obtain ⟨v4A,v4c,rfl,-,-⟩:=hr1.it.shape;obtain ⟨v5A,v5c,rfl,-,-⟩:=hr1.ps.shape
 have hRl:R.length≤bB l:=by
  have:=ay List.length hX;rw [jC] at this;omega
 dsimp only [lca,aO] at H;refine kP H (SQ fun _ K5=>SR fun _ K6=>Rm rfl (Rm rfl (Rl jM rfl (Rc rfl (Kz K6 (Cd rfl ?_ ?_)))))) <;> clear H K6
 ·intro h20 a H
  try have qP:=dT h20
  have hk2:k < l.length:=by omega
  obtain ⟨b,o,pA,pn,pc,dA,dn,dc,yA,yn,yc,fA,fn,fc,rA,rn,rc,rfl,hrow,hhd,hfl,hrw⟩:=Bl hk2 hg;have aag:bM g l[k].dat _:=bM.mkItem (hhd.mono hgm) (hfl.mono hgm) (hrw.mono hgm);replace hrow:=fun j u hj=>aJ hgm (hrow j u hj);replace hfl:=hfl.mono hgm;replace hrw:=hrw.mono hgm;have hrn:=hrw.len;rw [bN] at hrn;subst hrn;have hzs:=Qy hk2;have hzi:=oN l[k];have Ee:=KG (jD hk2);have hna:=amZ l[k];have hpart:=hu.part k (k+1) (by omega) (by rw [bN];omega);rw [jw hk2] at hok1;obtain ⟨hox,hok2⟩:=hok1.head;rw [jw hk2,fZ,anq hox,Qm,adj,show (at_:Int)+(n1 l[k]:Int)=((at_+n1 l[k]:Nat):Int) by push_cast;rfl] at hX
  have he1:((l.map aC.dat).drop k).take 1=[l[k]].map aC.dat:=by rw [jw (by simpa using hk2)];simp
  obtain ⟨x,hx⟩:∃ x,x=l[k]:=⟨_,rfl⟩;rw [← hx] at hX hrow hhd hfl hrw hzs hzi Ee hna he1 hox aag;have hrl:=Dh x.rows;have hb6:=M8 x.id 0 x.flow
  have hc3:¬ c=k:=by omega
  refine kP H (Kc K5 (SQ fun _ K7=>SB (SR fun _ K8=>Rm rfl (Rm rfl (Ri jM eH rfl rfl ?_)))));clear H K5;intro a H;refine bK eH (cs:=[vi x.kind,vi x.code,vi x.id,.string x.text,.slice pA pn pc,vi x.head.marks.ins,vi x.head.marks.move,.slice dA dn dc,.slice yA yn yc,.slice fA fn fc,.slice rA x.rows.length rc]) H wn rfl rfl (fun j v hj=>H.hp.aF (hrow j v hj)) rfl ?_;clear H;intro a H;refine dY eH H wn rfl ?_;clear H;intro b8 a w Ai H;refine bT eH 0 (vs:=[_,_,_,_,_,_,_,_,_,_,_]) _ H wn rfl rfl rfl rfl rfl rfl rfl rfl ?_;clear H;intro w H;dsimp only [List.set,setRow] at H;refine K8 _ _ ?_;clear K8;refine oG (ι:=List ((Int × Int) × aC) × aj × aj × List aj × List aj × OL × OL) (Tc:=[(0,_),(1,_),(6,_),(7,_),(8,_)]) (Lc:=[(_,_)]) (fun (gh:List ((Int × Int) × aC) × aj × aj × List aj × List aj × OL × OL)=>[(4,gh.2.1),(5,gh.2.2.1)]) (fun (gh:List ((Int × Int) × aC) × aj × aj × List aj × List aj × OL × OL)=>[]++(gh.2.2.2.2.2.1++gh.2.2.2.2.2.2)) (fun (gh:List ((Int × Int) × aC) × aj × aj × List aj × List aj × OL × OL)=>g) (fun (gh:List ((Int × Int) × aC) × aj × aj × List aj × List aj × OL × OL)=>ES g gh.2.1 gh.2.2.1 gh.1 gh.2.2.2.1 gh.2.2.2.2.1 gh.2.2.2.2.2.1 gh.2.2.2.2.2.2∧gh.1=R++(if x.kind=7 then [((f,(at_:Int)),x)] else [])∧gh.1.length≤R.length+1) (by exact (H).sub ⟨rfl,rfl,rfl,rfl,rfl,av⟩) ?_ ?_
  ·skip;refine kP H (SR fun _ K9=>aR gH aD 0 rfl rfl (Rc rfl (Kz K9 (Cd rfl ?_ ?_)))) <;> clear H K9
   ·intro Tf a H
    try have p29:=dT Tf
    refine kP H (SC (Rm rfl ?_));clear H;intro a H;refine bK eH (cs:=[_,_,_,_,_,_,_,_,_,_,_]) H wn rfl rfl (H.hp.fG 0 rfl rfl) rfl ?_;clear H;intro a H;refine jd jM eH [_,_,_,_,_,_,_,_,_,_,_] [_,_,_,_,_,_,_,_,_,_,_] H wn rfl rfl rfl rfl rfl (by intro i q h;match i,h with|0,h=>exact h|n+1,h=>simp at h) rfl rfl ?_;clear H;intro b32 a w aro H;refine Aw (Li:=[_,_]++Lb) (Lo:=La) (news:=[vi x.kind,vi x.code,vi x.id,.string x.text,.slice pA pn pc,vi x.head.marks.ins,vi x.head.marks.move,.slice dA dn dc,.slice yA yn yc,.slice fA fn fc,.slice rA x.rows.length rc]) jM eH rfl rfl (St.Wo (A:=[_,_]) H) wn rfl rfl hr1.it rfl (H.hp.fG 0 rfl rfl) rfl (by omega) (by omega) rfl ?_;clear H;intro v33 XG a w alf H;replace H:=St.Wn (A:=[_,_]) H;dsimp only [lca,aO] at H;refine kH H (Rm rfl (Rm rfl (Rm rfl ?_)));clear H;intro a H;refine mq Kq [_,_] H wn rfl rfl rfl rfl ?_;clear H;intro a H;refine jd Qr kE [_,_] [_,_] H wn rfl rfl rfl rfl rfl (by intro i q h;match i,h with|0,h=>exact h|n+1,h=>simp at h) rfl rfl ?_;clear H;intro b38 a w arq H;refine Aw (Li:=[_,_,_]++XG) (Lo:=Lb) (news:=[vi f,vi at_]) Qr kE rfl rfl (St.un (A:=[_,_,_]) H) wn rfl rfl hr1.ps rfl (H.hp.fG 0 rfl rfl) rfl (by omega) (by omega) rfl ?_;clear H;intro v39 aen a w alg H;replace H:=H.assoc;dsimp only [lca,aO] at H;refine kH H (Ra rfl (Ra rfl ?_));clear H;intro a H;refine aH ?_;refine ⟨(R++[((f,(at_:Int)),x)],v33,v39,xs++[vi x.kind,vi x.code,vi x.id,.string x.text,.slice pA pn pc,vi x.head.marks.ins,vi x.head.marks.move,.slice dA dn dc,.slice yA yn yc,.slice fA fn fc,.slice rA x.rows.length rc],ys++[vi f,vi at_],XG,aen),by exact (H.dx (Pl:=[_,_,_]) (bZ:=[_]) [2] (by decide) rfl).sub ⟨rfl,rfl,rfl,rfl,rfl,rfl,rfl,av⟩,?_⟩;(try dsimp only);exact ⟨⟨by rw [jC];exact alf,by rw [kZ];exact hr1.ic.snoc aag rfl,by rw [jC];exact alg,by rw [kZ];exact hr1.pc.snoc (aoa _ _) rfl⟩,by rw [au p29],by simp⟩
   intro Tf a H
   try have p29:=dF Tf
   refine fT ?_;refine ⟨(R,_,_,xs,ys,La,Lb),by exact (H).sub ⟨rfl,rfl,rfl,rfl,rfl,rfl,rfl,av⟩,?_⟩;(try dsimp only);exact ⟨hr1,by rw [ah p29,mW],by omega⟩
  clear H;rintro ⟨R2,v7,v8,xs2,ys2,XF,QM⟩ a w hI H;dsimp only at hI H;obtain ⟨hr2,hR2,ajm⟩:=hI;obtain ⟨v7A,v7c,rfl,-,-⟩:=hr2.it.shape;obtain ⟨v8A,v8c,rfl,-,-⟩:=hr2.ps.shape;dsimp only [lca,aO] at H;refine oG (ι:=List ((Int × Int) × aC) × aj × aj × List aj × List aj × OL × OL × GH) (Tc:=[(0,_),(1,_),(6,_),(7,_),(8,_)]) (Lc:=[(_,_)]) (fun (gh:List ((Int × Int) × aC) × aj × aj × List aj × List aj × OL × OL × GH)=>[(4,gh.2.1),(5,gh.2.2.1)]) (fun (gh:List ((Int × Int) × aC) × aj × aj × List aj × List aj × OL × OL × GH)=>[]++(gh.2.2.2.2.2.1++gh.2.2.2.2.2.2.1)) (fun (gh:List ((Int × Int) × aC) × aj × aj × List aj × List aj × OL × OL × GH)=>gh.2.2.2.2.2.2.2) (fun (gh:List ((Int × Int) × aC) × aj × aj × List aj × List aj × OL × OL × GH)=>ES gh.2.2.2.2.2.2.2 gh.2.1 gh.2.2.1 gh.1 gh.2.2.2.1 gh.2.2.2.2.1 gh.2.2.2.2.2.1 gh.2.2.2.2.2.2.1∧gh.1=R2++(if x.kind=6 then tF (fZ x.id 0 x.flow) else [])∧gh.1.length≤R.length+1+bB x.flow∧(∀ b o,g b=some o→gh.2.2.2.2.2.2.2 b=some o)) (by exact (H).sub ⟨rfl,rfl,rfl,rfl,rfl,av⟩) ?_ ?_
  ·skip;refine kP H (SR fun _ aU=>aR gH aD 0 rfl rfl (Rc rfl (Kz aU (Cd rfl ?_ ?_)))) <;> clear H aU
   ·intro Bt a H
    try have p42:=dT Bt
    refine kP H (SR fun _ bD=>aR vE aD 0 rfl rfl (aR Bh jy 0 rfl rfl ?_));clear H;intro a H;refine s_call Rx H wn rfl (ih _ _ H.ro x.id x.flow _ hfl hox.fl (by omega)) rfl ?_;clear H;rintro v48 Xe a w ⟨a48,c48,rfl,hpa,hpb⟩ OV H;obtain ⟨A48,n48,q48,rfl⟩:=hpa.form;obtain ⟨B48,k48,r48,rfl⟩:=hpb.form
    obtain rfl:n48=(tF (fZ x.id 0 x.flow)).length:=by simpa using hpa.len
    obtain rfl:k48=(tF (fZ x.id 0 x.flow)).length:=by simpa using hpb.len
    refine kH H (Rm rfl ?_);clear H;intro a H;(iterate 2 refine nQ H wn rfl rfl rfl ?_;clear H;intro a H);refine kH H (Ra rfl (ak bD rfl (SC (Rm rfl (Rm rfl ?_)))));clear H bD;intro a H;refine CY (Li:=[_]++QM) (Lo:=XF) jM eH rfl rfl (St.Wo (A:=[_]) H) wn rfl rfl hr2.it hpa (by omega) (by omega) rfl ?_;clear H;intro v53 XI anf a w ali ajW H;replace H:=St.Wn (A:=[_]) H;dsimp only [lca,aO] at H;refine kH H (Rm rfl (Rm rfl ?_));clear H;intro a H;refine CY (Li:=[_]++XI) (Lo:=QM) Qr kE rfl rfl (St.un (A:=[_]) H) wn rfl rfl hr2.ps hpb (by omega) (by omega) rfl ?_;clear H;intro v56 aeo ang a w alj ajX H;replace H:=H.assoc;dsimp only [lca,aO] at H;refine kH H (Ra rfl (Ra rfl ?_));clear H;intro a H;refine aH ?_;refine ⟨(R2++tF (fZ x.id 0 x.flow),v53,v56,xs2++anf,ys2++ang,XI,aeo,Xe),by exact (H).sub ⟨rfl,rfl,rfl,rfl,rfl,rfl,rfl,av⟩,?_⟩;(try dsimp only);exact ⟨⟨by rw [jC];exact ali,by rw [kZ];exact (hr2.ic.mono OV).append ajW,by rw [jC];exact alj,by rw [kZ];exact (hr2.pc.mono OV).append ajX⟩,by rw [au p42],by rw [jC];omega,OV⟩
   intro Bt a H
   try have p42:=dF Bt
   refine fT ?_;refine ⟨(R2,_,_,xs2,ys2,XF,QM,g),by exact (H).sub ⟨rfl,rfl,rfl,rfl,rfl,rfl,rfl,av⟩,?_⟩;(try dsimp only);exact ⟨hr2,by rw [ah p42,mW],by omega,fun _ _ h=>h⟩
  clear H;rintro ⟨R3,v9,v10,Ey,ys3,La3,Lb3,g3⟩ a w hI H;dsimp only at hI H;obtain ⟨hr3,Fj,ajn,hg3⟩:=hI;obtain ⟨v9A,v9c,rfl,-,-⟩:=hr3.it.shape;obtain ⟨asr,asu,rfl,-,-⟩:=hr3.ps.shape;dsimp only [lca,aO] at H;refine kP H (SQ fun _ bE=>SR fun _ bQ=>ak bQ rfl (SB ?_));clear H bQ;intro a H;skip;refine dV (ι:=Nat × List ((Int × Int) × aC) × aj × aj × List aj × List aj × OL × OL × GH) (Tc:=[(0,_),(1,_),(6,_),(7,_),(8,_)]) (Lc:=[(_,_)]) (fun (gh:Nat × List ((Int × Int) × aC) × aj × aj × List aj × List aj × OL × OL × GH)=>[(4,gh.2.2.1),(5,gh.2.2.2.1),(11,vi gh.1)]) (fun (gh:Nat × List ((Int × Int) × aC) × aj × aj × List aj × List aj × OL × OL × GH)=>[]++(gh.2.2.2.2.2.2.1++gh.2.2.2.2.2.2.2.1)) (fun (gh:Nat × List ((Int × Int) × aC) × aj × aj × List aj × List aj × OL × OL × GH)=>gh.2.2.2.2.2.2.2.2) (fun (gh:Nat × List ((Int × Int) × aC) × aj × aj × List aj × List aj × OL × OL × GH)=>gh.1≤x.rows.length∧ES gh.2.2.2.2.2.2.2.2 gh.2.2.1 gh.2.2.2.1 gh.2.1 gh.2.2.2.2.1 gh.2.2.2.2.2.1 gh.2.2.2.2.2.2.1 gh.2.2.2.2.2.2.2.1∧(x.kind=7→gh.2.1++tF (sN (x.rows.drop gh.1))=R3++tF (sN x.rows))∧(x.kind≠7→gh.2.1=R3)∧(∀ b o,g3 b=some o→gh.2.2.2.2.2.2.2.2 b=some o)∧gh.2.1.length+eG (x.rows.drop gh.1)≤R3.length+eG x.rows) (fun (gh:Nat × List ((Int × Int) × aC) × aj × aj × List aj × List aj × OL × OL × GH)=>x.rows.length - gh.1) ((0,R3,_,_,Ey,ys3,La3,Lb3,g3)) (by exact (H).sub ⟨rfl,rfl,rfl,rfl,rfl,rfl,rfl,rfl,av⟩) ?_ ?_
  ·exact ⟨fQ _,hr3,fun _=>rfl,fun _=>rfl,fun _ _ h=>h,by dsimp only;rw [jU];omega⟩
  clear H;rintro ⟨rk,R4,v11,v12,Ez,ys4,QL,QN,g4⟩ a w hI H;dsimp only at hI H;obtain ⟨JU,hr4,TR,xY,hg4,TS⟩:=hI;obtain ⟨asy,asA,rfl,-,-⟩:=hr4.it.shape;obtain ⟨asE,asF,rfl,-,-⟩:=hr4.ps.shape;dsimp only [lca,aO] at H;refine kP H (SQ fun _ bR=>SR fun _ bW=>aR gH aD 0 rfl rfl (Rc rfl (Rm rfl (Sp 60 rfl ?_ ?_)))) <;> clear H
  ·intro fB a H
   try have p60:=dT fB
   refine kH H (YM fB rfl (YF qH fB rfl (YO qR 0 fB rfl (YL jG fB rfl (YC fB rfl (Pt fB rfl (Kz bW (Cd rfl ?_ ?_)))))))) <;> clear H bW
   ·intro pF a H
    try have p66:=dT pF
    have hk3:rk < x.rows.length:=by omega
    have JJ:x.kind=7:=by first|assumption|omega
    obtain ⟨b2,o2,qA,qn,qc,eA,en,ec,zA,zn,zc,cA,cn,cc,rfl,hrow2,vN,hcl⟩:=CW hk3 ((hrw.mono hg3).mono hg4).at_;have hcn:=hcl.len;rw [bN] at hcn;subst hcn;have hcs:=Dc x.rows[rk].cells;have MK:=Qz hk3;have ML:=tY x.rows[rk];have hsz2:=IU hk3;have hoc:=hox.rw _ (jD hk3);obtain ⟨y,hy⟩:∃ y,y=x.rows[rk]:=⟨_,rfl⟩;rw [← hy] at hrow2 vN hcl hcs MK ML hsz2 hoc;refine kP H (Kc bR (SQ fun _ cK=>SB (SR fun _ bY=>ak bY rfl (SB ?_))));clear H bR bY;intro a H;skip;refine dV (ι:=Nat × List ((Int × Int) × aC) × aj × aj × List aj × List aj × OL × OL × GH) (Tc:=[(0,_),(1,_),(6,_),(7,_),(8,_),(11,_)]) (Lc:=[(_,_)]) (fun (gh:Nat × List ((Int × Int) × aC) × aj × aj × List aj × List aj × OL × OL × GH)=>[(4,gh.2.2.1),(5,gh.2.2.2.1),(12,vi gh.1)]) (fun (gh:Nat × List ((Int × Int) × aC) × aj × aj × List aj × List aj × OL × OL × GH)=>[]++(gh.2.2.2.2.2.2.1++gh.2.2.2.2.2.2.2.1)) (fun (gh:Nat × List ((Int × Int) × aC) × aj × aj × List aj × List aj × OL × OL × GH)=>gh.2.2.2.2.2.2.2.2) (fun (gh:Nat × List ((Int × Int) × aC) × aj × aj × List aj × List aj × OL × OL × GH)=>gh.1≤y.cells.length∧ES gh.2.2.2.2.2.2.2.2 gh.2.2.1 gh.2.2.2.1 gh.2.1 gh.2.2.2.2.1 gh.2.2.2.2.2.1 gh.2.2.2.2.2.2.1 gh.2.2.2.2.2.2.2.1∧gh.2.1++(tF (jY (y.cells.drop gh.1))++tF (sN (x.rows.drop (rk+1))))=R4++(tF (jY y.cells)++tF (sN (x.rows.drop (rk+1))))∧(∀ b o,g4 b=some o→gh.2.2.2.2.2.2.2.2 b=some o)∧gh.2.1.length+iC (y.cells.drop gh.1)+eG (x.rows.drop (rk+1))≤R3.length+eG x.rows) (fun (gh:Nat × List ((Int × Int) × aC) × aj × aj × List aj × List aj × OL × OL × GH)=>y.cells.length - gh.1) ((0,R4,_,_,Ez,ys4,QL,QN,g4)) (by exact (H).sub ⟨rfl,rfl,rfl,rfl,rfl,rfl,rfl,rfl,rfl,av⟩) ?_ ?_
    ·exact ⟨fQ _,hr4,rfl,fun _ _ h=>h,by dsimp only;rw [jU];omega⟩
    clear H;rintro ⟨ck,R5,v13,v14,xs5,ys5,XH,QO,g5⟩ a w hI H;dsimp only at hI H;obtain ⟨hck,Ie,hx5,hg5,ZR⟩:=hI;obtain ⟨asI,asJ,rfl,-,-⟩:=Ie.it.shape;obtain ⟨asL,asM,rfl,-,-⟩:=Ie.ps.shape;have r5:aF g5 b2 (o2+rk*6+5)=some (.slice cA y.cells.length cc):=aJ hg5 (hrow2 5 _ rfl);dsimp only [lca,aO] at H;refine kP H (SQ fun _ dG=>SR fun _ dN=>Rm rfl (aR qH qR 0 rfl rfl (Rm rfl (Ri jG jJ rfl rfl (Rf qh rfl (Rg qy rfl (by assumption) ?_))))));clear H;intro a H;refine kH H (Rl lQ rfl (Rc rfl (Kz dN (Cd rfl ?_ ?_)))) <;> clear H dN
    ·intro uH a H
     try have CQ:=dT uH
     have hk4:ck < y.cells.length:=by omega
     obtain ⟨b3,o3,sA,sn,sc,tA,tn,tc,uA,un,uc,gA,gn,gc,rfl,hrow3,hch,hcf⟩:=AY hk4 (hcl.mono hg5).at_;have hzc:=WO hk4;have hzz:=uX y.cells[ck];have FE:=KF hk4;have hoz:=hoc _ (jD hk4);rw [jw hk4,VH,Qm,iQ] at hx5;obtain ⟨z,hzy⟩:∃ z,z=y.cells[ck]:=⟨_,rfl⟩;rw [← hzy] at hx5 hrow3 hch hcf hzc hzz FE hoz;have yg:=M8 z.id 0 z.flow;refine kP H (Kc dG (SQ fun _ dH=>SB (SQ fun _ dP=>?_)));clear H dG;intro a H
     have nY:∀ (fU:Nat) (v:aj) (G G':GH),(∀ k o,G k=some o→G' k=some o)→(fun (fU:Nat) (v:aj) (G:GH)=>match fU with|0=>v=(aP b8 10)|1=>v=.slice (some ⟨b2,o2,none⟩) x.rows.length rc|2=>v=vi rk|3=>v=(aP b2 (o2+rk*6))|4=>v=(aP b2 (o2+rk*6+5))|5=>v=.slice (some ⟨b3,o3,none⟩) y.cells.length cc|6=>v=vi ck|7=>v=(aP b3 (o3+ck*7))|8=>v=(aP b3 (o3+ck*7+0))|9=>v=vi z.id|10=>v=(aP b8 10)|11=>v=.slice (some ⟨b2,o2,none⟩) x.rows.length rc|12=>v=vi rk|13=>v=(aP b2 (o2+rk*6))|14=>v=(aP b2 (o2+rk*6+5))|15=>v=.slice (some ⟨b3,o3,none⟩) y.cells.length cc|16=>v=vi ck|17=>v=(aP b3 (o3+ck*7))|18=>v=(aP b3 (o3+ck*7+6))|19=>v=.slice gA gn gc|20=>yP (tF (fZ z.id 0 z.flow)) v G|21=>yP (tF (fZ z.id 0 z.flow)) v G|22=>aB G (.sl 11 ((tF (fZ z.id 0 z.flow)).map fun q=>q.2.dat)) v|23=>aB G (.sl 2 ((tF (fZ z.id 0 z.flow)).map fun q=>Iz q.1)) v|24=>aB G (.sl 11 ((tF (fZ z.id 0 z.flow)).map fun q=>q.2.dat)) v|_=>True) fU v G→(fun (fU:Nat) (v:aj) (G:GH)=>match fU with|0=>v=(aP b8 10)|1=>v=.slice (some ⟨b2,o2,none⟩) x.rows.length rc|2=>v=vi rk|3=>v=(aP b2 (o2+rk*6))|4=>v=(aP b2 (o2+rk*6+5))|5=>v=.slice (some ⟨b3,o3,none⟩) y.cells.length cc|6=>v=vi ck|7=>v=(aP b3 (o3+ck*7))|8=>v=(aP b3 (o3+ck*7+0))|9=>v=vi z.id|10=>v=(aP b8 10)|11=>v=.slice (some ⟨b2,o2,none⟩) x.rows.length rc|12=>v=vi rk|13=>v=(aP b2 (o2+rk*6))|14=>v=(aP b2 (o2+rk*6+5))|15=>v=.slice (some ⟨b3,o3,none⟩) y.cells.length cc|16=>v=vi ck|17=>v=(aP b3 (o3+ck*7))|18=>v=(aP b3 (o3+ck*7+6))|19=>v=.slice gA gn gc|20=>yP (tF (fZ z.id 0 z.flow)) v G|21=>yP (tF (fZ z.id 0 z.flow)) v G|22=>aB G (.sl 11 ((tF (fZ z.id 0 z.flow)).map fun q=>q.2.dat)) v|23=>aB G (.sl 2 ((tF (fZ z.id 0 z.flow)).map fun q=>Iz q.1)) v|24=>aB G (.sl 11 ((tF (fZ z.id 0 z.flow)).map fun q=>q.2.dat)) v|_=>True) fU v G':=by
      intro fU v G G' hm h
      match fU,h with
      | 0,h=>exact h
      | 1,h=>exact h
      | 2,h=>exact h
      | 3,h=>exact h
      | 4,h=>exact h
      | 5,h=>exact h
      | 6,h=>exact h
      | 7,h=>exact h
      | 8,h=>exact h
      | 9,h=>exact h
      | 10,h=>exact h
      | 11,h=>exact h
      | 12,h=>exact h
      | 13,h=>exact h
      | 14,h=>exact h
      | 15,h=>exact h
      | 16,h=>exact h
      | 17,h=>exact h
      | 18,h=>exact h
      | 19,h=>exact h
      | 20,h=>exact yP.mono hm h
      | 21,h=>exact yP.mono hm h
      | 22,h=>exact aB.mono hm h
      | 23,h=>exact aB.mono hm h
      | 24,h=>exact aB.mono hm h
      | 25,h=>exact trivial
      | _+26,h=>exact trivial
     refine Ll (hmx) [[],[0],[],[0,1,2],(ra 0 4),(ra 0 5),[],(ra 0 7),(ra 0 8),(ra 0 9),[],[10],[],[10,11,12],(ra 10 4),(ra 10 5),[],(ra 10 7),(ra 10 8),(ra 10 9),(ra 0 20),(ra 0 21),(ra 0 22),(ra 0 22),(ra 0 23),(ra 0 25)] [25] (by kernel_rfl) (by kernel_rfl) (fun (fU:Nat) (v:aj) (G:GH)=>match fU with|0=>v=(aP b8 10)|1=>v=.slice (some ⟨b2,o2,none⟩) x.rows.length rc|2=>v=vi rk|3=>v=(aP b2 (o2+rk*6))|4=>v=(aP b2 (o2+rk*6+5))|5=>v=.slice (some ⟨b3,o3,none⟩) y.cells.length cc|6=>v=vi ck|7=>v=(aP b3 (o3+ck*7))|8=>v=(aP b3 (o3+ck*7+0))|9=>v=vi z.id|10=>v=(aP b8 10)|11=>v=.slice (some ⟨b2,o2,none⟩) x.rows.length rc|12=>v=vi rk|13=>v=(aP b2 (o2+rk*6))|14=>v=(aP b2 (o2+rk*6+5))|15=>v=.slice (some ⟨b3,o3,none⟩) y.cells.length cc|16=>v=vi ck|17=>v=(aP b3 (o3+ck*7))|18=>v=(aP b3 (o3+ck*7+6))|19=>v=.slice gA gn gc|20=>yP (tF (fZ z.id 0 z.flow)) v G|21=>yP (tF (fZ z.id 0 z.flow)) v G|22=>aB G (.sl 11 ((tF (fZ z.id 0 z.flow)).map fun q=>q.2.dat)) v|23=>aB G (.sl 2 ((tF (fZ z.id 0 z.flow)).map fun q=>Iz q.1)) v|24=>aB G (.sl 11 ((tF (fZ z.id 0 z.flow)).map fun q=>q.2.dat)) v|_=>True) nY H ?_ ?_
     ·clear H;refine aI ?_ ?_ ?_ ?_ (aI ?_ ?_ ?_ ?_ (aI ?_ ?_ ?_ ?_ (aI ?_ ?_ ?_ ?_ (aI ?_ ?_ ?_ ?_ (aI ?_ ?_ ?_ ?_ (bG ?_ (bG (cZ rfl) dQ)))))))
      ·refine fO [] rfl trivial (by kernel_rfl) nY rfl rfl ?_;intro dM a w G1 hG HT H fin;exact kH H (Rf qH rfl fun _ H=>fin H iJ rfl)
      ·refine fO [(0,81,_)] rfl ⟨fun _ _ h=>h,av⟩ (by kernel_rfl) nY rfl rfl ?_;intro dM a w G1 hG HT H fin;exact kH H (Ro qR 0 rfl fun _ H=>fin H iJ rfl)
      ·refine fO [] rfl trivial (by kernel_rfl) nY rfl rfl ?_;intro dM a w G1 hG HT H fin;exact kH H (Rm rfl fun _ H=>fin H iJ rfl)
      ·refine fO [(1,82,_),(2,83,_)] rfl ⟨fun _ _ h=>h,fun _ _ h=>h,av⟩ (by kernel_rfl) nY rfl rfl ?_;intro dM a w G1 hG HT H fin;exact kH H (Ri jG jJ rfl rfl fun _ H=>fin H iJ rfl)
      ·refine fO [(3,84,_)] rfl ⟨fun _ _ h=>h,av⟩ (by kernel_rfl) nY rfl rfl ?_;intro dM a w G1 hG HT H fin;exact kH H (Rf qh rfl fun _ H=>fin H iJ rfl)
      ·refine fO [(4,85,_)] rfl ⟨fun _ _ h=>h,av⟩ (by kernel_rfl) nY rfl rfl ?_;intro dM a w G1 hG HT H fin;exact kH H (Rg qy rfl (aJ hG r5) fun _ H=>fin H iJ rfl)
      ·refine fO [] rfl trivial (by kernel_rfl) nY rfl rfl ?_;intro dM a w G1 hG HT H fin;exact kH H (Rm rfl fun _ H=>fin H iJ rfl)
      ·refine fO [(5,86,_),(6,87,_)] rfl ⟨fun _ _ h=>h,fun _ _ h=>h,av⟩ (by kernel_rfl) nY rfl rfl ?_;intro dM a w G1 hG HT H fin;exact kH H (Ri lQ jK rfl rfl fun _ H=>fin H iJ rfl)
      ·refine fO [(7,88,_)] rfl ⟨fun _ _ h=>h,av⟩ (by kernel_rfl) nY rfl rfl ?_;intro dM a w G1 hG HT H fin;exact kH H (Rf DC rfl fun _ H=>fin H iJ rfl)
      ·refine fO [(8,89,_)] rfl ⟨fun _ _ h=>h,av⟩ (by kernel_rfl) nY rfl rfl ?_;intro dM a w G1 hG HT H fin;exact kH H (Rg aD rfl (aJ hG (hrow3 0 _ rfl)) fun _ H=>fin H iJ rfl)
      ·refine fO [] rfl trivial (by kernel_rfl) nY rfl rfl ?_;intro dM a w G1 hG HT H fin;exact kH H (Rf qH rfl fun _ H=>fin H iJ rfl)
      ·refine fO [(10,91,_)] rfl ⟨fun _ _ h=>h,av⟩ (by kernel_rfl) nY rfl rfl ?_;intro dM a w G1 hG HT H fin;exact kH H (Ro qR 0 rfl fun _ H=>fin H iJ rfl)
      ·refine fO [] rfl trivial (by kernel_rfl) nY rfl rfl ?_;intro dM a w G1 hG HT H fin;exact kH H (Rm rfl fun _ H=>fin H iJ rfl)
      ·refine fO [(11,92,_),(12,93,_)] rfl ⟨fun _ _ h=>h,fun _ _ h=>h,av⟩ (by kernel_rfl) nY rfl rfl ?_;intro dM a w G1 hG HT H fin;exact kH H (Ri jG jJ rfl rfl fun _ H=>fin H iJ rfl)
      ·refine fO [(13,94,_)] rfl ⟨fun _ _ h=>h,av⟩ (by kernel_rfl) nY rfl rfl ?_;intro dM a w G1 hG HT H fin;exact kH H (Rf qh rfl fun _ H=>fin H iJ rfl)
      ·refine fO [(14,95,_)] rfl ⟨fun _ _ h=>h,av⟩ (by kernel_rfl) nY rfl rfl ?_;intro dM a w G1 hG HT H fin;exact kH H (Rg qy rfl (aJ hG r5) fun _ H=>fin H iJ rfl)
      ·refine fO [] rfl trivial (by kernel_rfl) nY rfl rfl ?_;intro dM a w G1 hG HT H fin;exact kH H (Rm rfl fun _ H=>fin H iJ rfl)
      ·refine fO [(15,96,_),(16,97,_)] rfl ⟨fun _ _ h=>h,fun _ _ h=>h,av⟩ (by kernel_rfl) nY rfl rfl ?_;intro dM a w G1 hG HT H fin;exact kH H (Ri lQ jK rfl rfl fun _ H=>fin H iJ rfl)
      ·refine fO [(17,98,_)] rfl ⟨fun _ _ h=>h,av⟩ (by kernel_rfl) nY rfl rfl ?_;intro dM a w G1 hG HT H fin;exact kH H (Rf Cn rfl fun _ H=>fin H iJ rfl)
      ·refine fO [(18,99,_)] rfl ⟨fun _ _ h=>h,av⟩ (by kernel_rfl) nY rfl rfl ?_;intro dM a w G1 hG HT H fin;exact kH H (Rg jy rfl (aJ hG (hrow3 6 _ rfl)) fun _ H=>fin H iJ rfl)
      ·refine fO [(9,90,_),(19,100,_)] rfl ⟨fun _ _ h=>h,fun _ _ h=>h,av⟩ (by kernel_rfl) nY rfl rfl ?_;intro dM a w G1 hG HT H fin;refine s_call Rx H wn rfl (ih _ _ H.ro z.id z.flow _ (hcf.mono hG) hoz (by omega)) rfl ?_;clear H;rintro asn aqQ a w O1 aiK H;exact fin H aiK (O1)
      ·intro dM a w G1 _ dO hc hG HT hv;have H:=HT;clear dO;obtain ⟨asi,als,O1⟩:=hv 20 101 (hc 20 (by decide)) rfl;(try dsimp only at O1);obtain ⟨aqU,aqW,rfl,hpa,hpb⟩:=O1;have H:=H.pX als;have Hb:=H.full;have H:=Hb;clear hc;refine kH H (Rm rfl ?_);clear H;intro a H;refine aH ⟨rfl,?_⟩;exact nK (by kernel_rfl) nY rfl rfl HT Hb hG hv (fun _ _ h=>h) (⟨_,_,rfl,hpa,hpb⟩) H
      ·intro dM a w G1 _ dO hc hG HT hv;have H:=HT;clear dO;obtain ⟨u80,U4,MG⟩:=hv 21 80 (hc 21 (by decide)) rfl;(try dsimp only at MG);obtain ⟨a80,c80,rfl,lg,hqb⟩:=MG;have H:=H.pX U4;have Hb:=H.full;have H:=Hb;clear hc;refine nQ H wn rfl rfl rfl ?_;clear H;intro a H;refine aH ⟨rfl,?_⟩;exact nK (by kernel_rfl) nY rfl rfl HT Hb hG hv (fun _ _ h=>h) (lg) H
      ·intro dM a w G1 _ dO hc hG HT hv;have H:=HT;clear dO;obtain ⟨u80,U4,MG⟩:=hv 21 80 (hc 21 (by decide)) rfl;(try dsimp only at MG);obtain ⟨a80,c80,rfl,lg,hqb⟩:=MG;have H:=H.pX U4;have Hb:=H.full;have H:=Hb;clear hc;refine nQ H wn rfl rfl rfl ?_;clear H;intro a H;refine aH ⟨rfl,?_⟩;exact nK (by kernel_rfl) nY rfl rfl HT Hb hG hv (fun _ _ h=>h) (hqb) H
      intro dM a w G1 _ dO hc hG HT hv;have H:=HT;clear dO;obtain ⟨asj,alu,aas⟩:=hv 22 102 (hc 22 (by decide)) rfl;(try dsimp only at aas);have H:=H.pX alu;have Hb:=H.full;have H:=Hb;clear hc;refine kH H (Ra rfl ?_);clear H;intro a H;refine aH ⟨rfl,?_⟩;exact nK (by kernel_rfl) nY rfl rfl HT Hb hG hv (fun _ _ h=>h) (aas) H
     clear H;intro a w G Tn H hv;obtain ⟨u13,alx,O5⟩:=hv 24 13 (by decide) rfl;(try dsimp only at O5);have H:=H.pX alx;obtain ⟨asl,alv,O4⟩:=hv 23 103 (by decide) rfl;(try dsimp only at O4);have H:=H.pX alv;clear hv;refine kH H (Ra rfl ?_);clear H;intro a H;refine aH ⟨rfl,?_⟩;refine dP _ _ ?_;clear dP;obtain ⟨A13,n13,c13,rfl⟩:=O5.form;obtain ⟨aqP,n103,aqX,rfl⟩:=O4.form
     obtain rfl:n13=(tF (fZ z.id 0 z.flow)).length:=by simpa using O5.len
     obtain rfl:n103=(tF (fZ z.id 0 z.flow)).length:=by simpa using O4.len
     refine kP H (SC (Rm rfl (Rm rfl ?_)));clear H;intro a H;refine CY (Li:=[_]++QO) (Lo:=XH) jM eH rfl rfl (St.Wo (A:=[_]) H) wn rfl rfl Ie.it O5 (by omega) (by omega) rfl ?_;clear H;intro aqm XE anc a w alc ajT H;replace H:=St.Wn (A:=[_]) H;dsimp only [lca,aO] at H;refine kH H (Rm rfl (Rm rfl ?_));clear H;intro a H;refine CY (Li:=[_]++XE) (Lo:=QO) Qr kE rfl rfl (St.un (A:=[_]) H) wn rfl rfl Ie.ps O4 (by omega) (by omega) rfl ?_;clear H;intro v109 aem ane a w ald ajU H;replace H:=H.assoc;dsimp only [lca,aO] at H;refine kH H (Ra rfl (aL dH rfl (SC (Rm rfl (Rd rfl (Ra rfl ?_))))));clear H dH;intro a H;refine aH ?_;refine cB ((ck+1,R5++tF (fZ z.id 0 z.flow),aqm,v109,xs5++anc,ys5++ane,XE,aem,_)) (by exact (H).sub ⟨rfl,rfl,rfl,rfl,rfl,rfl,rfl,rfl,rfl,av⟩) ?_ ?_
     ·(try dsimp only);exact ⟨by omega,⟨by rw [jC];exact alc,by rw [kZ];exact (Ie.ic.mono Tn).append ajT,by rw [jC];exact ald,by rw [kZ];exact (Ie.pc.mono Tn).append ajU⟩,by rw [← hx5,iQ],fun b o h=>Tn b o (hg5 b o h),by rw [jC];omega⟩
     first|omega|(dsimp only;omega)
    intro uH a H
    try have CQ:=dF uH
    have Ms:y.cells.drop ck=[]:=eU (by omega);refine dJ ?_;refine cK _ _ ?_;clear cK;refine kP H (SC (Rm rfl (Rd rfl (Ra rfl ?_))));clear H;intro a H;refine aH ?_;refine cB ((rk+1,R5,_,_,xs5,ys5,XH,QO,g5)) (by exact (H).sub ⟨rfl,rfl,rfl,rfl,rfl,rfl,rfl,rfl,av⟩) ?_ ?_
    ·(try dsimp only);exact ⟨by omega,Ie,fun h7=>by rw [← TR h7,jw hk3,sN,acp,Qm,← hy,← hx5,Ms,jY];rfl,fun h7=>absurd JJ h7,fun b o h=>hg5 b o (hg4 b o h),by rw [Ms] at ZR;simp only [iC,sZ,eu] at ZR;omega⟩
    first|omega|(dsimp only;omega)
   intro pF a H
   try have p66:=dF pF
   refine dJ ?_;refine bE _ _ ?_;clear bE;refine kP H (SR fun _ eT=>Rm rfl (Rm rfl (Rm rfl (Rd rfl ?_))));clear H;intro a H;refine Qh jM eH k (k+1) H wn rfl rfl rfl rfl (by omega) (by omega) (by omega) rfl ?_;clear H;intro a H;rw [ah hc3,yU,add_lit,Dr] at H;refine s_call Jm H wn rfl (J4 _ _ H.ro [x] _ (by have h:=hpart;rw [ah hc3,yU,add_lit,Dr,he1] at h;exact ((h.mono hgm).mono hg3).mono hg4) (by show 1+dh x.dat+0≤_;omega)) rfl ?_;clear H;rintro adI aek a w ⟨rfl,aiI⟩ Mx H;rw [Py] at H;refine kH H (Rm rfl ?_);clear H;intro a H;(iterate 2 refine nQ H wn rfl rfl rfl ?_;clear H;intro a H);refine kH H (Ra rfl (ak eT rfl (SC (Rm rfl (Rm rfl (Rd rfl (aL K7 rfl (SC (Rm rfl (Rd rfl (Ra rfl ?_)))))))))));clear H eT K7;intro a H;refine aH ?_;refine cB ((k+1,at_+n1 x,R4,_,_,Ez,ys4,QL,QN,_)) (by exact (H.dx (Pl:=[_]) (bZ:=[]) [] (by decide) rfl).sub ⟨rfl,rfl,rfl,rfl,rfl,rfl,av⟩) ?_ ?_
   ·try dsimp only
    exact ⟨by omega,hr4.mono Mx,by
    rw [← hX]
    by_cases h6:x.kind=6
    ·rw [xY (by omega),Fj,au h6,hR2,ah (by omega)];simp [h6]
    rw [ah h6,mW] at Fj
    by_cases h7:x.kind=7
    ·have e:=TR h7;rw [eU (by first|omega|(exfalso;simp_all;done)),sN,tF,List.filter_nil,mW] at e;rw [e,Fj,hR2,au h7];simp [h7]
    rw [xY h7,Fj,hR2,ah h7];simp [h6,h7],fun b o h=>Mx b o (hg4 b o (hg3 b o (hgm b o h))),by push_cast;omega,hok2⟩
   first|omega|(dsimp only;omega)
  intro fB a H
  try have p60:=dF fB
  refine kH H (aZ fB rfl (aT fB rfl (Pf fB rfl (Kz bW (Cf rfl rfl ?_)))));clear H bW;intro a H;refine dJ ?_;refine bE _ _ ?_;clear bE;refine kP H (SR fun _ fP=>Rm rfl (Rm rfl (Rm rfl (Rd rfl ?_))));clear H;intro a H;refine Qh jM eH k (k+1) H wn rfl rfl rfl rfl (by omega) (by omega) (by omega) rfl ?_;clear H;intro a H;rw [ah hc3,yU,add_lit,Dr] at H;refine s_call Jm H wn rfl (J4 _ _ H.ro [x] _ (by have h:=hpart;rw [ah hc3,yU,add_lit,Dr,he1] at h;exact ((h.mono hgm).mono hg3).mono hg4) (by show 1+dh x.dat+0≤_;omega)) rfl ?_;clear H;rintro adI aek a w ⟨rfl,aiI⟩ Mx H;rw [Py] at H;refine kH H (Rm rfl ?_);clear H;intro a H;(iterate 2 refine nQ H wn rfl rfl rfl ?_;clear H;intro a H);refine kH H (Ra rfl (ak fP rfl (SC (Rm rfl (Rm rfl (Rd rfl (aL K7 rfl (SC (Rm rfl (Rd rfl (Ra rfl ?_)))))))))));clear H fP K7;intro a H;refine aH ?_;refine cB ((k+1,at_+n1 x,R4,_,_,Ez,ys4,QL,QN,_)) (by exact (H.dx (Pl:=[_]) (bZ:=[]) [] (by decide) rfl).sub ⟨rfl,rfl,rfl,rfl,rfl,rfl,av⟩) ?_ ?_
  ·try dsimp only
   exact ⟨by omega,hr4.mono Mx,by
   rw [← hX]
   by_cases h6:x.kind=6
   ·rw [xY (by omega),Fj,au h6,hR2,ah (by omega)];simp [h6]
   rw [ah h6,mW] at Fj
   by_cases h7:x.kind=7
   ·have e:=TR h7;rw [eU (by first|omega|(exfalso;simp_all;done)),sN,tF,List.filter_nil,mW] at e;rw [e,Fj,hR2,au h7];simp [h7]
   rw [xY h7,Fj,hR2,ah h7];simp [h6,h7],fun b o h=>Mx b o (hg4 b o (hg3 b o (hgm b o h))),by push_cast;omega,hok2⟩
  first|omega|(dsimp only;omega)
 intro h20 a H
 try have qP:=dF h20
 refine dJ ?_;refine K3 _ _ ?_;clear K3;refine kP H (SR fun _ gq=>Rm rfl (Rm rfl (Ra rfl (ak gq rfl ?_))));clear H gq;intro a H;refine dK ?_;refine (gY H results104 (.cons (bF H rfl) (.cons (bF H rfl) .nil)) ?_).1;rw [eU (by omega),fZ,tF,List.filter_nil,mW] at hX;obtain ⟨Gr,hmr,hrep,H⟩:=St.DL (Li:=La) H hr1.ps (rows:=R.map fun q=>Iz q.1) (by simp) hr1.pc;obtain ⟨Gs,hms,akX,H⟩:=St.DL (Li:=[]) H hr1.it (rows:=R.map fun q=>q.2.dat) (by simp) (hr1.ic.mono hmr);exact H.rt ⟨_,_,rfl,by rw [← hX];exact akX,by rw [← hX];exact hrep.mono hms⟩
theorem abr:∀ m:Nat,m≤4294967297→QH m
 | 0,_=>fun _ _ _ _ _ _ _ _ h=>absurd h (by omega)
 | m+1,hm=>amf (abr m (by omega)) (by omega)
theorem apR (G:GH) (w0:World) (hG:Hold G w0) (D:jP) (l:List aC) (hv:aB G (.sl 11 (l.map aC.dat)) (bg D.f)) (hok:oO l) (hz:bB l≤4294967295) :
  Calls prog 50 #[D.val] w0 (bV w0 G (yP (Az l))):=by
 refine eN [(0,_)] func50 rfl ntmps50 rfl rfl hG ?_;intro a H;refine cO (fun _ K1=>?_);refine fD (cs:=[_,_,_,_,_,_,_,_,_,_,_]) H wn rfl rfl rfl ?_;clear H;intro b1 a w hb1 H;refine kH H (Ra rfl (ak K1 rfl (SR fun _ K2=>aR Bf jy 0 rfl rfl ?_)));clear H K1;intro a H;refine s_call Rx H wn rfl (abr 4294967297 (by omega) _ _ H.ro 0 l _ hv hok (by omega)) rfl ?_;clear H;rintro v6 G6 a w ⟨a6,c6,rfl,hpa,hpb⟩ Eb H;(iterate 2 refine nQ H wn rfl rfl rfl ?_;clear H;intro a H);refine kH H (Ra rfl (ak K2 rfl ?_));clear H K2;intro a H;refine dK ?_;refine (gY H results50 (.cons (bF H rfl) (.cons (bF H rfl) .nil)) ?_).1;exact H.rt ⟨_,_,rfl,hpa,hpb⟩
end
section
open Go.RowKit
theorem FU:Ty prog 50 6 64 [.int .i64 0,.slice none 0 0,.int .i64 0,.int .i64 0,.bool false,.int .i64 0] true:=⟨by kernel_rfl,by kernel_rfl⟩
theorem Db:prog.underlying 45=some (.slice 50):=by kernel_rfl
theorem GY:dL prog 50 1 1:=⟨by kernel_rfl⟩
theorem Zr:dL prog 50 0 0:=⟨by kernel_rfl⟩
theorem Zt:dL prog 50 4 5:=⟨by kernel_rfl⟩
theorem V9:ug prog 50 [(0,1),(1,1),(2,2),(4,1),(5,1)] [.int .i64 0,.slice none 0 0,.int .i64 0,.int .i64 0,.bool false,.int .i64 0]:=⟨by kernel_rfl,by kernel_rfl⟩
theorem RU:∀ args w,(callFunc 48 args).run prog w=.ok (.enter 48 args) w:=enters func48 rfl (by kernel_rfl)
theorem aij:dL prog 50 3 4:=⟨by kernel_rfl⟩
structure jT where
 id:Int
 items:List aC
 flow:Int
 at_:Int
 note:Bool
 depth:Int
def jT.dat (p:jT):List Dat:=[li p.id,.sl 11 (p.items.map aC.dat),li p.flow,li p.at_,.lf (.bool p.note),li p.depth]
abbrev jT.cells (p:jT) (v:aj):List aj:=[vi p.id,v,vi p.flow,vi p.at_,.bool p.note,vi p.depth]
theorem jT.rep {G:GH} {p:jT} {v:aj} (h:aB G (.sl 11 (p.items.map aC.dat)) v):bM G p.dat (p.cells v) :=
 ⟨_,_,rfl,⟨rfl,rfl⟩,_,_,rfl,h,_,_,rfl,⟨rfl,rfl⟩,_,_,rfl,⟨rfl,rfl⟩,_,_,rfl,⟨rfl,rfl⟩,_,_,rfl,⟨rfl,rfl⟩,rfl⟩
theorem jT.of {G:GH} {p:jT} {cs:List aj} (h:bM G p.dat cs):∃ v,cs=p.cells v∧aB G (.sl 11 (p.items.map aC.dat)) v:=by
 simp only [jT.dat,bM] at h
 obtain ⟨_,_,rfl,⟨rfl,-⟩,v,_,rfl,hv,_,_,rfl,⟨rfl,-⟩,_,_,rfl,⟨rfl,-⟩,_,_,rfl,⟨rfl,-⟩,_,_,rfl,⟨rfl,-⟩,rfl⟩:=h;exact ⟨v,rfl,hv⟩
mutual
def Dt (f:Int) (at_:Nat) (note:Bool) (t:Int):aC→List jT
 | .mk k _ i _ _ fl r=>if k=6 then ⟨i,fl,f,at_,true,t⟩ :: qF i true t 0 fl else if k=7 then rW f at_ note (t+1) r else []
/-- The flows that are contained in a flow, with where they stand. -/
def qF (f:Int) (note:Bool) (t:Int):Nat→List aC→List jT
 | _,[]=>[]
 | at_,x :: l=>Dt f at_ note t x++qF f note t (at_+n1 x) l
def rW (f:Int) (at_:Nat) (note:Bool) (t:Int):List bH→List jT
 | []=>[]
 | x :: l=>Du f at_ note t x++rW f at_ note t l
def Du (f:Int) (at_:Nat) (note:Bool) (t:Int):bH→List jT
 | .mk _ cs=>vk f at_ note t cs
def vk (f:Int) (at_:Nat) (note:Bool) (t:Int):List bq→List jT
 | []=>[]
 | x :: l=>EW f at_ note t x++vk f at_ note t l
def EW (f:Int) (at_:Nat) (note:Bool) (t:Int):bq→List jT
 | .mk i _ fl=>⟨i,fl,f,at_,note,t⟩ :: qF i note t 0 fl
end
theorem NP (f:Int) (at_:Nat) (note:Bool) (t:Int) (x:aC):Dt f at_ note t x=if x.kind=6 then ⟨x.id,x.flow,f,at_,true,t⟩ :: qF x.id true t 0 x.flow else if x.kind=7 then rW f at_ note (t+1) x.rows else []:=by cases x;rw [Dt];rfl
theorem aeT (f:Int) (at_:Nat) (note:Bool) (t:Int) (x:bH):Du f at_ note t x=vk f at_ note t x.cells:=by cases x;rw [Du];rfl
theorem X5 (f:Int) (at_:Nat) (note:Bool) (t:Int) (x:bq):EW f at_ note t x=⟨x.id,x.flow,f,at_,note,t⟩ :: qF x.id note t 0 x.flow:=by cases x;rw [EW];rfl
mutual
theorem aeR (f:Int) (at_:Nat) (note:Bool) (t:Int):∀ x:aC,(Dt f at_ note t x).length < dh x.dat
 | .mk k c i tx h fl r=>by
  have h4:=oN (.mk k c i tx h fl r);have hf:=Jc i true t 0 fl;have hr:=X7 f at_ note (t+1) r;dsimp only [aC.text,aC.head,aC.flow,aC.rows] at h4;rw [Dt]
  split
  ·rw [jZ];omega
  split <;> first|omega|(simp only [List.length_nil];omega)
theorem Jc (f:Int) (note:Bool) (t:Int):∀ (at_:Nat) (l:List aC),(qF f note t at_ l).length≤bB l
 | _,[]=>by simp [qF]
 | at_,x :: l=>by
  have h1:=aeR f at_ note t x;have h2:=Jc f note t (at_+n1 x) l;rw [qF,jC]
  simp only [bB,dW,eu] at *;omega
theorem aeU (f:Int) (at_:Nat) (note:Bool) (t:Int):∀ x:bH,(Du f at_ note t x).length≤dh x.dat
 | .mk h cs=>by
  have h4:=tY (.mk h cs);have hc:=X6 f at_ note t cs;dsimp only [bH.head,bH.cells] at h4;rw [Du];omega
theorem X7 (f:Int) (at_:Nat) (note:Bool) (t:Int):∀ l:List bH,(rW f at_ note t l).length≤eG l
 | []=>by simp [rW]
 | x :: l=>by
  have h1:=aeU f at_ note t x;have h2:=X7 f at_ note t l;rw [rW,jC]
  simp only [eG,dW,eu] at *;omega
theorem aeQ (f:Int) (at_:Nat) (note:Bool) (t:Int):∀ x:bq,(EW f at_ note t x).length≤dh x.dat
 | .mk i h fl=>by
  have h4:=uX (.mk i h fl);have hf:=Jc i note t 0 fl;dsimp only [bq.head,bq.flow] at h4;rw [EW,jZ];omega
theorem X6 (f:Int) (at_:Nat) (note:Bool) (t:Int):∀ l:List bq,(vk f at_ note t l).length≤iC l
 | []=>by simp [vk]
 | x :: l=>by
  have h1:=aeQ f at_ note t x;have h2:=X6 f at_ note t l;rw [vk,jC]
  simp only [iC,dW,eu] at *;omega
end
def yY (p:jT):List jT:=p :: qF p.id p.note p.depth 0 p.items
def QA (m:Nat):Prop:=∀ (G:GH) (w0:World),Hold G w0→∀ (p:jT) (v:aj),aB G (.sl 11 (p.items.map aC.dat)) v→bB p.items < m→0≤p.depth→p.depth+bB p.items≤4294967296 →
 Calls prog 48 #[.agg (p.cells v).toArray] w0 (bV w0 G fun u G'=>aB G' (.sl 6 ((yY p).map jT.dat)) u)
structure EP (g:GH) (v:aj) (R:List jT) (xs:List aj) (Lo:OL):Prop where
 row:gJ 50 6 v R.length xs Lo
 cat:gP g 6 (R.map jT.dat) xs
theorem EP.mono {g g':GH} {v:aj} {R:List jT} {xs:List aj} {Lo:OL} (h:EP g v R xs Lo) (hm:∀ b o,g b=some o→g' b=some o):EP g' v R xs Lo:=⟨h.row,h.cat.mono hm⟩
theorem row_one {e b:Nat} {xs:List aj} (h:xs.length=6):gJ e 6 (.slice (some ⟨b,0,none⟩) 1 1) 1 xs [(b,.cells xs.toArray e (0,0))]:=⟨by rw [h],.inr ⟨b,1,xs.toArray,rfl,rfl,dB _,(by decide),by simp [h],by simp [← h]⟩⟩
theorem amY (x:aC):n1 x+bB x.flow+eG x.rows < dh x.dat:=by
 have h1:=oN x;have h2:=EZ x.text
 unfold n1 gI;split <;> (try split) <;> omega
set_option maxHeartbeats 4000000 in
theorem aeX {m:Nat} (ih:QA m) (hm:m≤4294967296):QA (m+1):=by
 intro G w0 hG p v hu hz hd0 hdz;obtain ⟨pid,l,pf,pa,oz,pd⟩:=p;dsimp only at hu hz hd0 hdz;obtain ⟨A,c,rfl,hc1,hc2,hg⟩:=hu.slice;rw [bN] at *;have hll:=Dg l;have hml:maxLen=9223372036854775807:=rfl;obtain ⟨p,hp⟩:∃ p:jT,p=⟨pid,l,pf,pa,oz,pd⟩:=⟨_,rfl⟩;have hbn:=Jc pid oz pd 0 l;refine eN [(0,_)] func48 rfl ntmps48 rfl rfl hG ?_;intro a H;refine cO (fun _ K1=>?_);refine fD (cs:=[_,_,_,_,_,_]) H wn rfl rfl rfl ?_;clear H;intro b1 a w hb1 H;refine kH H (ak K1 rfl (SQ fun _ K2=>?_));clear H K1;intro a H;obtain ⟨Ga,hma,hb1',H⟩:=H.eD
 have q0:aF Ga b1 0=some (vi pid):=by unfold aF;rw [hb1'];rfl
 have q1:aF Ga b1 1=some (.slice A l.length c):=by unfold aF;rw [hb1'];rfl
 have q3:aF Ga b1 4=some (.bool oz):=by unfold aF;rw [hb1'];rfl
 have q4:aF Ga b1 5=some (vi pd):=by unfold aF;rw [hb1'];rfl
 have lg:∀ (j:Nat) (v:aj),[vi pid,.slice A l.length c,vi pf,vi pa,.bool oz,vi pd][j]?=some v→aF Ga b1 (0+j)=some v:=fun j v hj=>by
  unfold aF;rw [hb1',ng];simpa using hj
 replace hu:=hu.mono hma;refine rz ?_;refine bK FU (cs:=[vi pid,.slice A l.length c,vi pf,vi pa,.bool oz,vi pd]) H wn rfl rfl (fun j v hj=>H.hp.aF (lg j v hj)) rfl ?_;clear H;intro a H;refine jd Db FU [_,_,_,_,_,_] [_,_,_,_,_,_] H wn rfl rfl rfl rfl rfl (by intro i q h;match i,h with|0,h=>exact h|n+1,h=>simp at h) rfl rfl ?_;clear H;intro b14 a w TV H;refine kH H (aL K2 rfl (SQ fun _ K3=>?_));clear H K2;intro a H;have hr0:EP Ga (.slice (some ⟨b14,0,none⟩) 1 1) [p] [vi pid,.slice A l.length c,vi pf,vi pa,.bool oz,vi pd] [(b14,.cells [vi pid,.slice A l.length c,vi pf,vi pa,.bool oz,vi pd].toArray 50 (0,0))]:=⟨row_one rfl,by simpa using (gP.nil (G:=Ga) (sz:=6)).snoc (by rw [hp];exact jT.rep (p:=⟨pid,l,pf,pa,oz,pd⟩) hu) rfl⟩;refine kP H (SC (aL K3 rfl (SQ fun _ K4=>SR fun _ K5=>ak K5 rfl (SB ?_))));clear H K3 K5;intro a H;skip;refine dV (ι:=Nat × Nat × List jT × aj × List aj × OL × GH) (Tc:=[(1,_)]) (Lc:=[]) (fun gh=>[(3,gh.2.2.2.1),(4,vi gh.2.1),(5,vi gh.1)]) (fun gh=>[]++gh.2.2.2.2.2.1) (fun gh=>gh.2.2.2.2.2.2) (fun gh=>gh.1≤l.length∧EP gh.2.2.2.2.2.2 gh.2.2.2.1 gh.2.2.1 gh.2.2.2.2.1 gh.2.2.2.2.2.1∧gh.2.2.1++qF pid oz pd gh.2.1 (l.drop gh.1)=p :: qF pid oz pd 0 l∧(∀ b o,Ga b=some o→gh.2.2.2.2.2.2 b=some o)∧gh.2.1+bB (l.drop gh.1)≤4294967296) (fun gh=>l.length - gh.1) ((0,0,[p],.slice (some ⟨b14,0,none⟩) 1 1,[vi pid,.slice A l.length c,vi pf,vi pa,.bool oz,vi pd],[(b14,.cells [vi pid,.slice A l.length c,vi pf,vi pa,.bool oz,vi pd].toArray 50 (0,0))],Ga)) (by exact (H).sub ⟨rfl,rfl,rfl,rfl,av⟩) ?_ ?_
 ·exact ⟨fQ _,hr0,rfl,fun _ _ h=>h,by dsimp only;rw [jU];omega⟩
 clear H;rintro ⟨k,at_,R,v3,xs,Lo,g⟩ a w hI H;dsimp only at hI H;obtain ⟨hk,hr1,hX,hgm,hat⟩:=hI;obtain ⟨v3A,v3c,rfl,-,-⟩:=hr1.row.shape
 have hRl:R.length≤bB l+1:=by
  have:=ay List.length hX;rw [jC,jZ] at this;omega
 have P7:=aJ hgm q1;dsimp only [lca,aO] at H;refine kP H (SQ fun _ K6=>SR fun _ K7=>Rm rfl (Rf GY rfl (Rg jy rfl P7 (Rl jM rfl (Rc rfl (Kz K7 (Cd rfl ?_ ?_))))))) <;> clear H K7
 ·intro h19 a H
  try have zG:=dT h19
  have hk2:k < l.length:=by omega
  obtain ⟨b,o,pA,pn,pc,dA,dn,dc,yA,yn,yc,fA,fn,fc,rA,rn,rc,rfl,hrow,hhd,hfl,hrw⟩:=Bl hk2 hg;replace hrow:=fun j u hj=>aJ hgm (aJ hma (hrow j u hj));replace hfl:=(hfl.mono hma).mono hgm;replace hrw:=(hrw.mono hma).mono hgm;have hrn:=hrw.len;rw [bN] at hrn;subst hrn;have hzs:=Qy hk2;have hzi:=oN l[k];have Ee:=KG (jD hk2);have hna:=amY l[k];have hpart:=hu.part k (k+1) (by omega) (by rw [bN];omega);rw [jw hk2,qF] at hX
  have he1:((l.map aC.dat).drop k).take 1=[l[k]].map aC.dat:=by rw [jw (by simpa using hk2)];simp
  obtain ⟨x,hx⟩:∃ x,x=l[k]:=⟨_,rfl⟩;rw [← hx] at hX hrow hhd hfl hrw hzs hzi Ee hna he1;have q0g:=aJ hgm q0;have q4g:=aJ hgm q4;have hrl:=Dh x.rows;have hb6:=Jc x.id true pd 0 x.flow
  have hc3:¬ c=k:=by omega
  refine kP H (Kc K6 (SQ fun _ K8=>SB (SR fun _ K9=>Rf GY rfl (Rg jy rfl P7 (Rm rfl (Ri jM eH rfl rfl ?_))))));clear H K6;intro a H;refine bK eH (cs:=[vi x.kind,vi x.code,vi x.id,.string x.text,.slice pA pn pc,vi x.head.marks.ins,vi x.head.marks.move,.slice dA dn dc,.slice yA yn yc,.slice fA fn fc,.slice rA x.rows.length rc]) H wn rfl rfl (fun j v hj=>H.hp.aF (hrow j v hj)) rfl ?_;clear H;intro a H;refine dY eH H wn rfl ?_;clear H;intro b6 a w hb6 H;refine bT eH 0 (vs:=[_,_,_,_,_,_,_,_,_,_,_]) _ H wn rfl rfl rfl rfl rfl rfl rfl rfl ?_;clear H;intro w H;dsimp only [List.set,setRow] at H;refine K9 _ _ ?_;clear K9;refine kP H (SR fun _ aU=>Rf Zr rfl (Rg aD rfl (by assumption) ?_));clear H;intro a H;refine kH H (Rm rfl ?_);clear H;intro a H;refine mq Kq [_,_] H wn rfl rfl rfl rfl ?_;clear H;intro a H;refine dY kE H wn rfl ?_;clear H;intro b7 a w yg H;refine bT kE 0 (vs:=[_,_]) _ H wn rfl rfl rfl rfl rfl rfl rfl rfl ?_;clear H;intro w H;dsimp only [List.set,setRow] at H;refine aU _ _ ?_;clear aU;refine oG (ι:=List jT × aj × List aj × OL × GH) (Tc:=[(1,_),(4,_),(5,_),(6,_),(7,_)]) (Lc:=[(_,_),(_,_)]) (fun gh=>[(3,gh.2.1)]) (fun gh=>[]++gh.2.2.2.1) (fun gh=>gh.2.2.2.2) (fun gh=>EP gh.2.2.2.2 gh.2.1 gh.1 gh.2.2.1 gh.2.2.2.1∧gh.1=R++(if x.kind=6 then yY ⟨x.id,x.flow,pid,at_,true,pd⟩ else [])∧gh.1.length≤R.length+bB x.flow+1∧(∀ b o,g b=some o→gh.2.2.2.2 b=some o)) (by exact (H).sub ⟨rfl,rfl,rfl,rfl,rfl,av⟩) ?_ ?_
  ·skip;refine kP H (SR fun _ bD=>aR gH aD 1 rfl rfl (Rc rfl (Kz bD (Cd rfl ?_ ?_)))) <;> clear H bD
   ·intro pz a H
    try have p33:=dT pz
    refine kP H (SC (Rm rfl (aR vE aD 1 rfl rfl (aR Bh jy 1 rfl rfl ?_))));clear H;intro a H;refine bK kE (cs:=[_,_]) H wn rfl rfl (H.hp.fG 0 rfl rfl) rfl ?_;clear H;intro a H;refine kH H (Rf Zt rfl (Rg aD rfl (by assumption) ?_));clear H;intro a H;refine mq V9 [_,_,_,_,_,_] H wn rfl rfl rfl rfl ?_;clear H;intro a H;refine s_call RU H wn rfl (ih _ _ H.ro ⟨x.id,x.flow,pid,at_,true,pd⟩ _ hfl (by dsimp only;omega) hd0 (by dsimp only;omega)) rfl ?_;clear H;rintro v43 AO a w UN nO H;obtain ⟨Nj,n43,NR,rfl⟩:=UN.form
    obtain rfl:n43=(yY ⟨x.id,x.flow,pid,at_,true,pd⟩).length:=by simpa using UN.len
    have hbl:(yY ⟨x.id,x.flow,pid,at_,true,pd⟩).length≤bB x.flow+1:=by unfold yY;rw [jZ];dsimp only;omega
    refine CY (Li:=[_,_]) (Lo:=Lo) Db FU rfl rfl H wn rfl rfl hr1.row UN (by omega) (by omega) rfl ?_;clear H;intro v44 aev news a w alh ajV H;refine kH H (Ra rfl ?_);clear H;intro a H;refine aH ?_;refine ⟨(R++yY ⟨x.id,x.flow,pid,at_,true,pd⟩,v44,xs++news,aev,AO),by exact (H).sub ⟨rfl,rfl,rfl,rfl,rfl,rfl,av⟩,?_⟩;(try dsimp only);exact ⟨⟨by rw [jC];exact alh,by rw [kZ];exact (hr1.cat.mono nO).append ajV⟩,by rw [au p33],by rw [jC];omega,nO⟩
   intro pz a H
   try have p33:=dF pz
   refine fT ?_;refine ⟨(R,_,xs,Lo,g),by exact (H).sub ⟨rfl,rfl,rfl,rfl,rfl,rfl,av⟩,?_⟩;(try dsimp only);exact ⟨hr1,by rw [ah p33,mW],by omega,fun _ _ h=>h⟩
  clear H;rintro ⟨R2,v5,xs2,Nz,g2⟩ a w hI H;dsimp only at hI H;obtain ⟨hr2,hR2,ajm,hg2⟩:=hI;obtain ⟨v5A,v5c,rfl,-,-⟩:=hr2.row.shape;dsimp only [lca,aO] at H;refine kP H (SQ fun _ bE=>SR fun _ bQ=>ak bQ rfl (SB ?_));clear H bQ;intro a H;skip;refine dV (ι:=Nat × List jT × aj × List aj × OL × GH) (Tc:=[(1,_),(4,_),(5,_),(6,_),(7,_)]) (Lc:=[(_,_),(_,_)]) (fun gh=>[(3,gh.2.2.1),(8,vi gh.1)]) (fun gh=>[]++gh.2.2.2.2.1) (fun gh=>gh.2.2.2.2.2) (fun gh=>gh.1≤x.rows.length∧EP gh.2.2.2.2.2 gh.2.2.1 gh.2.1 gh.2.2.2.1 gh.2.2.2.2.1∧(x.kind=7→gh.2.1++rW pid at_ oz (pd+1) (x.rows.drop gh.1)=R2++rW pid at_ oz (pd+1) x.rows)∧(x.kind≠7→gh.2.1=R2)∧(∀ b o,g2 b=some o→gh.2.2.2.2.2 b=some o)∧gh.2.1.length+eG (x.rows.drop gh.1)≤R2.length+eG x.rows) (fun gh=>x.rows.length - gh.1) ((0,R2,_,xs2,Nz,g2)) (by exact (H).sub ⟨rfl,rfl,rfl,rfl,rfl,rfl,rfl,av⟩) ?_ ?_
  ·exact ⟨fQ _,hr2,fun _=>rfl,fun _=>rfl,fun _ _ h=>h,by dsimp only;rw [jU];omega⟩
  clear H;rintro ⟨rk,R3,v6,Ey,Gm,g3⟩ a w hI H;dsimp only at hI H;obtain ⟨JU,hr3,TQ,OJ,hg3,ajn⟩:=hI;obtain ⟨v6A,v6c,rfl,-,-⟩:=hr3.row.shape;dsimp only [lca,aO] at H;refine kP H (SQ fun _ bR=>SR fun _ bW=>aR gH aD 1 rfl rfl (Rc rfl (Rm rfl (Sp 48 rfl ?_ ?_)))) <;> clear H
  ·intro h48 a H
   try have p48:=dT h48
   refine kH H (YM h48 rfl (YF qH h48 rfl (YO qR 1 h48 rfl (YL jG h48 rfl (YC h48 rfl (Pt h48 rfl (Kz bW (Cd rfl ?_ ?_)))))))) <;> clear H bW
   ·intro iI a H
    try have p54:=dT iI
    have hk3:rk < x.rows.length:=by omega
    have JJ:x.kind=7:=by first|assumption|omega
    obtain ⟨b2,o2,qA,qn,qc,eA,en,ec,zA,zn,zc,cA,cn,cc,rfl,hrow2,vN,hcl⟩:=CW hk3 ((hrw.mono hg2).mono hg3).at_;have hcn:=hcl.len;rw [bN] at hcn;subst hcn;have hcs:=Dc x.rows[rk].cells;have MK:=Qz hk3;have ML:=tY x.rows[rk];have hsz2:=IU hk3;obtain ⟨y,hy⟩:∃ y,y=x.rows[rk]:=⟨_,rfl⟩;rw [← hy] at hrow2 vN hcl hcs MK ML hsz2;refine kP H (Kc bR (SQ fun _ cK=>SB (SR fun _ bY=>ak bY rfl (SB ?_))));clear H bR bY;intro a H;skip;refine dV (ι:=Nat × List jT × aj × List aj × OL × GH) (Tc:=[(1,_),(4,_),(5,_),(6,_),(7,_),(8,_)]) (Lc:=[(_,_),(_,_)]) (fun gh=>[(3,gh.2.2.1),(9,vi gh.1)]) (fun gh=>[]++gh.2.2.2.2.1) (fun gh=>gh.2.2.2.2.2) (fun gh=>gh.1≤y.cells.length∧EP gh.2.2.2.2.2 gh.2.2.1 gh.2.1 gh.2.2.2.1 gh.2.2.2.2.1∧gh.2.1++(vk pid at_ oz (pd+1) (y.cells.drop gh.1)++rW pid at_ oz (pd+1) (x.rows.drop (rk+1)))=R3++(vk pid at_ oz (pd+1) y.cells++rW pid at_ oz (pd+1) (x.rows.drop (rk+1)))∧(∀ b o,g3 b=some o→gh.2.2.2.2.2 b=some o)∧gh.2.1.length+iC (y.cells.drop gh.1)+eG (x.rows.drop (rk+1))≤R2.length+eG x.rows) (fun gh=>y.cells.length - gh.1) ((0,R3,_,Ey,Gm,g3)) (by exact (H).sub ⟨rfl,rfl,rfl,rfl,rfl,rfl,rfl,rfl,av⟩) ?_ ?_
    ·exact ⟨fQ _,hr3,rfl,fun _ _ h=>h,by dsimp only;rw [jU];omega⟩
    clear H;rintro ⟨ck,R4,v7,Ez,KR,g4⟩ a w hI H;dsimp only at hI H;obtain ⟨hck,hr4,hx4,hg4,TS⟩:=hI;obtain ⟨v7A,v7c,rfl,-,-⟩:=hr4.row.shape;have r5:aF g4 b2 (o2+rk*6+5)=some (.slice cA y.cells.length cc):=aJ hg4 (hrow2 5 _ rfl);have q3h:=aJ hg4 (aJ hg3 (aJ hg2 (aJ hgm q3)));have q4h:=aJ hg4 (aJ hg3 (aJ hg2 q4g));dsimp only [lca,aO] at H;refine kP H (SQ fun _ dG=>SR fun _ dN=>Rm rfl (aR qH qR 1 rfl rfl (Rm rfl (Ri jG jJ rfl rfl (Rf qh rfl (Rg qy rfl (by assumption) ?_))))));clear H;intro a H;refine kH H (Rl lQ rfl (Rc rfl (Kz dN (Cd rfl ?_ ?_)))) <;> clear H dN
    ·intro kC a H
     try have p65:=dT kC
     have hk4:ck < y.cells.length:=by omega
     obtain ⟨b3,o3,sA,sn,sc,tA,tn,tc,uA,un,uc,gA,gn,gc,rfl,hrow3,hch,hcf⟩:=AY hk4 (hcl.mono hg4).at_;have hzc:=WO hk4;have hzz:=uX y.cells[ck];have FE:=KF hk4;rw [jw hk4,vk,X5,iQ] at hx4;obtain ⟨z,hzy⟩:∃ z,z=y.cells[ck]:=⟨_,rfl⟩;rw [← hzy] at hx4 hrow3 hch hcf hzc hzz FE;have yg:=Jc z.id oz (pd+1) 0 z.flow;refine kP H (Kc dG (SQ fun _ dH=>SB (SR fun _ dP=>aR qH qR 1 rfl rfl (Rm rfl (Ri jG jJ rfl rfl (Rf qh rfl (Rg qy rfl (by assumption) ?_)))))));clear H dG;intro a H;refine kH H (Rm rfl (Ri lQ jK rfl rfl ?_));clear H;intro a H;refine bK jK (cs:=[vi z.id,.slice sA sn sc,vi z.head.marks.ins,vi z.head.marks.move,.slice tA tn tc,.slice uA un uc,.slice gA gn gc]) H wn rfl rfl (fun j v hj=>H.hp.aF (hrow3 j v hj)) rfl ?_;clear H;intro a H;refine dY jK H wn rfl ?_;clear H;intro b10 a w JE H;refine bT jK 0 (vs:=[_,_,_,_,_,_,_]) _ H wn rfl rfl rfl rfl rfl rfl rfl rfl ?_;clear H;intro w H;dsimp only [List.set,setRow] at H;refine dP _ _ ?_;clear dP;refine kP H (SC (Rm rfl (aR DC aD 0 rfl rfl (aR Cn jy 0 rfl rfl ?_))));clear H;intro a H;refine bK kE (cs:=[_,_]) H wn rfl rfl (H.hp.fG 1 rfl rfl) rfl ?_;clear H;intro a H;refine kH H (Rf aij rfl (Rg sS rfl (by assumption) ?_));clear H;intro a H;refine kH H (Rf Zt rfl (Rg aD rfl (by assumption) ?_));clear H;intro a H;refine kH H (Rd rfl ?_);clear H;intro a H;refine mq V9 [_,_,_,_,_,_] H wn rfl rfl rfl rfl ?_;clear H;intro a H;refine s_call RU H wn rfl (ih _ _ H.ro ⟨z.id,z.flow,pid,at_,oz,pd+1⟩ _ hcf (by dsimp only;omega) (by dsimp only;omega) (by dsimp only;omega)) rfl ?_;clear H;rintro v89 Xh a w UQ aan H;obtain ⟨A89,n89,c89,rfl⟩:=UQ.form
     obtain rfl:n89=(yY ⟨z.id,z.flow,pid,at_,oz,pd+1⟩).length:=by simpa using UQ.len
     have hbl:(yY ⟨z.id,z.flow,pid,at_,oz,pd+1⟩).length≤bB z.flow+1:=by unfold yY;rw [jZ];dsimp only;omega
     refine CY (Li:=[_,_,_]) (Lo:=KR) Db FU rfl rfl H wn rfl rfl hr4.row UQ (by omega) (by omega) rfl ?_;clear H;intro v90 aeA news a w alk ajY H;refine kH H (aL dH rfl (SC (Rm rfl (Rd rfl (Ra rfl ?_)))));clear H dH;intro a H;refine aH ?_;refine cB ((ck+1,R4++yY ⟨z.id,z.flow,pid,at_,oz,pd+1⟩,v90,Ez++news,aeA,Xh)) (by exact (H.dx (Pl:=[_,_,_]) (bZ:=[_,_]) [1,2] (by decide) rfl).sub ⟨rfl,rfl,rfl,rfl,rfl,rfl,rfl,rfl,av⟩) ?_ ?_
     ·(try dsimp only);exact ⟨by omega,⟨by rw [jC];exact alk,by rw [kZ];exact (hr4.cat.mono aan).append ajY⟩,by rw [← hx4,iQ];rfl,fun b o h=>aan b o (hg4 b o h),by rw [jC];omega⟩
     first|omega|(dsimp only;omega)
    intro kC a H
    try have p65:=dF kC
    have Ms:y.cells.drop ck=[]:=eU (by omega);refine dJ ?_;refine cK _ _ ?_;clear cK;refine kP H (SC (Rm rfl (Rd rfl (Ra rfl ?_))));clear H;intro a H;refine aH ?_;refine cB ((rk+1,R4,_,Ez,KR,g4)) (by exact (H).sub ⟨rfl,rfl,rfl,rfl,rfl,rfl,rfl,av⟩) ?_ ?_
    ·(try dsimp only);exact ⟨by omega,hr4,fun h7=>by rw [← TQ h7,jw hk3,rW,aeT,← hy,← hx4,Ms,vk,jB],fun h7=>absurd JJ h7,fun b o h=>hg4 b o (hg3 b o h),by rw [Ms] at TS;simp only [iC,sZ,eu] at TS;omega⟩
    first|omega|(dsimp only;omega)
   intro iI a H
   try have p54:=dF iI
   refine dJ ?_;refine bE _ _ ?_;clear bE;refine aN (fun _ eT=>?_);have VN:=aJ hg3 (aJ hg2 P7);refine kP H (SC (Rf GY rfl (Rg jy rfl VN (Rm rfl (Rm rfl (Rd rfl ?_))))));clear H;intro a H;refine Qh jM eH k (k+1) H wn rfl rfl rfl rfl (by omega) (by omega) (by omega) rfl ?_;clear H;intro a H;rw [ah hc3,yU,add_lit,Dr] at H;refine s_call Jm H wn rfl (J4 _ _ H.ro [x] _ (by have h:=hpart;rw [ah hc3,yU,add_lit,Dr,he1] at h;exact ((h.mono hgm).mono hg2).mono hg3) (by show 1+dh x.dat+0≤_;omega)) rfl ?_;clear H;rintro v98 Xi a w ⟨rfl,aiJ⟩ JM H;rw [Py] at H;refine kH H (Rm rfl ?_);clear H;intro a H;(iterate 2 refine nQ H wn rfl rfl rfl ?_;clear H;intro a H);refine kH H (Ra rfl (aL eT rfl (SC (Rm rfl (Rm rfl (Rd rfl (aL K8 rfl (SC (Rm rfl (Rd rfl (Ra rfl ?_)))))))))));clear H eT K8;intro a H;refine aH ?_;refine cB ((k+1,at_+n1 x,R3,_,Ey,Gm,_)) (by exact (H.dx (Pl:=[_,_]) (bZ:=[]) [] (by decide) rfl).sub ⟨rfl,rfl,rfl,rfl,av⟩) ?_ ?_
   ·try dsimp only
    exact ⟨by omega,hr3.mono JM,by
    rw [← hX]
    by_cases h6:x.kind=6
    ·rw [OJ (by omega),hR2,au h6,NP,au h6,iQ];rfl
    rw [ah h6,mW] at hR2;rw [NP,ah h6]
    by_cases h7:x.kind=7
    ·have e:=TQ h7;rw [eU (by first|omega|(exfalso;simp_all;done)),rW,mW] at e;rw [au h7,e,hR2,iQ]
    rw [ah h7,jB,OJ h7,hR2],fun b o h=>JM b o (hg3 b o (hg2 b o (hgm b o h))),by push_cast;omega⟩
   first|omega|(dsimp only;omega)
  intro h48 a H
  try have p48:=dF h48
  refine kH H (aZ h48 rfl (aT h48 rfl (Pf h48 rfl (Kz bW (Cf rfl rfl ?_)))));clear H bW;intro a H;refine dJ ?_;refine bE _ _ ?_;clear bE;refine aN (fun _ fP=>?_);have VN:=aJ hg3 (aJ hg2 P7);refine kP H (SC (Rf GY rfl (Rg jy rfl VN (Rm rfl (Rm rfl (Rd rfl ?_))))));clear H;intro a H;refine Qh jM eH k (k+1) H wn rfl rfl rfl rfl (by omega) (by omega) (by omega) rfl ?_;clear H;intro a H;rw [ah hc3,yU,add_lit,Dr] at H;refine s_call Jm H wn rfl (J4 _ _ H.ro [x] _ (by have h:=hpart;rw [ah hc3,yU,add_lit,Dr,he1] at h;exact ((h.mono hgm).mono hg2).mono hg3) (by show 1+dh x.dat+0≤_;omega)) rfl ?_;clear H;rintro v98 Xi a w ⟨rfl,aiJ⟩ JM H;rw [Py] at H;refine kH H (Rm rfl ?_);clear H;intro a H;(iterate 2 refine nQ H wn rfl rfl rfl ?_;clear H;intro a H);refine kH H (Ra rfl (aL fP rfl (SC (Rm rfl (Rm rfl (Rd rfl (aL K8 rfl (SC (Rm rfl (Rd rfl (Ra rfl ?_)))))))))));clear H fP K8;intro a H;refine aH ?_;refine cB ((k+1,at_+n1 x,R3,_,Ey,Gm,_)) (by exact (H.dx (Pl:=[_,_]) (bZ:=[]) [] (by decide) rfl).sub ⟨rfl,rfl,rfl,rfl,av⟩) ?_ ?_
  ·try dsimp only
   exact ⟨by omega,hr3.mono JM,by
   rw [← hX]
   by_cases h6:x.kind=6
   ·rw [OJ (by omega),hR2,au h6,NP,au h6,iQ];rfl
   rw [ah h6,mW] at hR2;rw [NP,ah h6]
   by_cases h7:x.kind=7
   ·have e:=TQ h7;rw [eU (by first|omega|(exfalso;simp_all;done)),rW,mW] at e;rw [au h7,e,hR2,iQ]
   rw [ah h7,jB,OJ h7,hR2],fun b o h=>JM b o (hg3 b o (hg2 b o (hgm b o h))),by push_cast;omega⟩
  first|omega|(dsimp only;omega)
 intro h19 a H
 try have zG:=dF h19
 refine dJ ?_;refine K4 _ _ ?_;clear K4;refine kP H (SR fun _ gq=>Rm rfl (ak gq rfl ?_));clear H gq;intro a H;refine lr H results48 rfl ?_;rw [eU (by omega),qF,mW] at hX;obtain ⟨Gr,hmr,hrep,H⟩:=St.DL (Li:=[]) H hr1.row (rows:=R.map jT.dat) (by simp) hr1.cat;exact H.rt (by show aB Gr (.sl 6 ((⟨pid,l,pf,pa,oz,pd⟩ :: qF pid oz pd 0 l).map jT.dat)) _;rw [← hp,← hX];exact hrep)
theorem X9:∀ m:Nat,m≤4294967297→QA m
 | 0,_=>fun _ _ _ _ _ _ h=>absurd h (by omega)
 | m+1,hm=>aeX (X9 m (by omega)) (by omega)
theorem Sz (G:GH) (w0:World) (hG:Hold G w0) (D:jP) (l:List aC) (hv:aB G (.sl 11 (l.map aC.dat)) (bg D.f)) (hz:bB l≤4294967295) :
  Calls prog 13 #[D.val] w0 (bV w0 G fun u G'=>aB G' (.sl 6 ((yY ⟨0,l,-1,0,false,0⟩).map jT.dat)) u):=by
 refine eN [(0,_)] func13 rfl ntmps13 rfl rfl hG ?_;intro a H;refine cO (fun _ K1=>?_);refine fD (cs:=[_,_,_,_,_,_,_,_,_,_,_]) H wn rfl rfl rfl ?_;clear H;intro b1 a w hb1 H;refine kH H (ak K1 rfl (SR fun _ K2=>aR Bf jy 0 rfl rfl ?_));clear H K1;intro a H;refine mq Kq [_,_] H wn rfl rfl rfl rfl ?_;clear H;intro a H;refine mq V9 [_,_,_,_,_,_] H wn rfl rfl rfl rfl ?_;clear H;intro a H;refine s_call RU H wn rfl (X9 4294967297 (by omega) _ _ H.ro ⟨0,l,-1,0,false,0⟩ _ hv (by dsimp only;omega) (Int.le_refl _) (by dsimp only;omega)) rfl ?_;clear H;rintro v7 G7 a w UO yh H;exact kH H (ak K2 rfl (LR results13 rfl fun H=>H.rt UO))
end
section
open Go.RowKit
end
section
open Go.RowKit
abbrev FM (p:jT):Int × List aC:=(p.id,p.items)
abbrev Fe (F:lu):Int × List aC:=(F.id,F.items)
mutual
theorem afc (f:Int) (at_:Nat) (note:Bool) (t:Int):∀ x:aC,(Dt f at_ note t x).map FM=(zP note t x).map Fe
 | .mk k c i tx h fl r=>by
  have hf:=NQ i true t 0 fl;have hr:=Ye f at_ note t r;rw [Dt,zP]
  by_cases h6:k=6
  ·rw [au h6,au h6,dW,dW,hf]
  rw [ah h6,ah h6]
  by_cases h7:k=7
  ·rw [au h7,au h7,hr]
  rw [ah h7,ah h7];rfl
theorem NQ (f:Int) (note:Bool) (t:Int):∀ (at_:Nat) (l:List aC),(qF f note t at_ l).map FM=(jO note t l).map Fe
 | _,[]=>by rw [qF,jO];rfl
 | at_,x :: l=>by rw [qF,jO,kZ,kZ,afc f at_ note t x,NQ f note t (at_+n1 x) l]
theorem afd (f:Int) (at_:Nat) (note:Bool) (t:Int):∀ x:bH,(Du f at_ note (t+1) x).map FM=(zQ note t x).map Fe
 | .mk h cs=>by rw [Du,zQ];exact Yd f at_ note t cs
theorem Ye (f:Int) (at_:Nat) (note:Bool) (t:Int):∀ l:List bH,(rW f at_ note (t+1) l).map FM=(pR note t l).map Fe
 | []=>by rw [rW,pR];rfl
 | x :: l=>by rw [rW,pR,kZ,kZ,afd f at_ note t x,Ye f at_ note t l]
theorem afb (f:Int) (at_:Nat) (note:Bool) (t:Int):∀ x:bq,(EW f at_ note (t+1) x).map FM=(zO note t x).map Fe
 | .mk i h fl=>by rw [EW,zO,dW,dW,NQ i note (t+1) 0 fl]
theorem Yd (f:Int) (at_:Nat) (note:Bool) (t:Int):∀ l:List bq,(vk f at_ note (t+1) l).map FM=(qz note t l).map Fe
 | []=>by rw [vk,qz];rfl
 | x :: l=>by rw [vk,qz,kZ,kZ,afb f at_ note t x,Yd f at_ note t l]
end
abbrev lS (l:List aC):List jT:=yY ⟨0,l,-1,0,false,0⟩
theorem bw (l:List aC):(lS l).map FM=(gK l).map Fe:=by
 rw [lS,yY,gK,dW,dW,NQ 0 false 0 0 l]
theorem GL (l:List aC):(lS l).length=(gK l).length:=by simpa using ay List.length (bw l)
theorem Yc {l:List aC} {i:Nat} (h:i < (lS l).length):(lS l)[i].id=((gK l)[i]'(by rw [← GL];exact h)).id∧(lS l)[i].items=((gK l)[i]'(by rw [← GL];exact h)).items:=by
 have e:((lS l).map FM)[i]?=((gK l).map Fe)[i]?:=by rw [bw]
 rw [oQ,oQ,fH h,fH (by rw [← GL];exact h)] at e
 simp only [yU,oP,iU] at e
 exact e
theorem aeW (l:List aC):(lS l).map jT.id=(gK l).map lu.id:=by
 have h:=ay (List.map Prod.fst) (bw l)
 simpa [List.map_map,Function.comp_def] using h
end
section
open Go.RowKit
theorem Jo:∀ args w,(callFunc 75 args).run prog w=.ok (.enter 75 args) w:=enters func75 rfl (by kernel_rfl)
theorem RI:∀ args w,(callFunc 163 args).run prog w=.ok (.enter 163 args) w:=enters func163 rfl (by kernel_rfl)
theorem LH:∀ args w,(callFunc 46 args).run prog w=.ok (.enter 46 args) w:=enters func46 rfl (by kernel_rfl)
theorem JI (G:GH) (L:OL) (w0:World) (st:List bS) (li:List dR) (rv:List dU) (b ms ml mr mb mu:Nat) (n:Int) (hck:xI G st li rv ms ml mr mu) (hO:iT G (gQ b ms ml mr mb mu n :: L) w0)
  (e:Int) (h:dz) (p d l:aj) (hh:nS G h p d l) (hz:pU h≤4294967296) :
  Calls prog 75 #[(aP b 0),vi e,Fq h p d l] w0 (iE w0 G (gQ b ms ml mr mb mu n :: L) fun v G' L'=>G=G'∧L'=gQ b ms ml mr mb mu n :: L∧v=vi (fI (aK st li rv) e h)):=by
 have hm:=GH.GI G (o:=(gQ b ms ml mr mb mu n).2) (hO.sep _ jg);exact (aki (G.add b (gQ b ms ml mr mb mu n).2) w0 hO.add st li rv b ms ml mr mb mu n (hck.mono hm) (GH.GJ _ _ _) e h p d l (hh.mono hm) hz).mono fun _ _=>VR (b:=b) (o:=(gQ b ms ml mr mb mu n).2) (R':=fun v=>v=vi (fI (aK st li rv) e h)) hO fun _ _ h=>h
abbrev Nl (b ms ml mr mb mu:Nat) (L:OL) (r:CR):aj→OL→Prop:=fun u L'=>∃ s:CS,u=vi r.1∧L'=gQ b ms ml mr mb mu s.n :: (mb,fF (gV s.aY)) :: L∧(r.1=0→s=r.2)
def I4 (m:Nat):Prop:=∀ (G:GH) (L:OL) (w0:World) (st:List bS) (li:List dR) (rv:List dU) (b ms ml mr mb mu:Nat) (s:CS) (l:List aC) (v:aj) (body note:Bool) (t:Int),
 xI G st li rv ms ml mr mu→iT G (gQ b ms ml mr mb mu s.n :: (mb,fF (gV s.aY)) :: L) w0→aB G (.sl 11 (l.map aC.dat)) v→bB l < m→0≤t→t≤4→0≤s.n→s.n+(bB l:Nat)≤1099511627776 →
 Calls prog 46 #[(aP b 0),v,.agg #[.bool body,.bool note,vi t]] w0 (iE w0 G (gQ b ms ml mr mb mu s.n :: (mb,fF (gV s.aY)) :: L) fun u G' L'=>G=G'∧Nl b ms ml mr mb mu L (gU (aK st li rv) body note t l s) u L')
theorem rows_ok {m:Nat} (ih:I4 m) (hm:m≤4294967296) (Gt:GH) (L:OL) (w0:World) (st:List bS) (li:List dR) (rv:List dU) (b ms ml mr mb mu:Nat) (s:CS) (l:List bH) (v:aj) (note:Bool) (t:Int)
  (hck:xI Gt st li rv ms ml mr mu) (hO:iT Gt (gQ b ms ml mr mb mu s.n :: (mb,fF (gV s.aY)) :: L) w0) (hv:aB Gt (.sl 6 (l.map bH.dat)) v) (hz:eG l < m) (ht0:0≤t) (BG:t≤4) (hs0:0≤s.n) (hs1:s.n+(eG l:Nat)≤1099511627776) :
  Calls prog 164 #[(aP b 0),v,.agg #[.bool false,.bool note,vi t]] w0 (iE w0 Gt (gQ b ms ml mr mb mu s.n :: (mb,fF (gV s.aY)) :: L) fun u G' L'=>Nl b ms ml mr mb mu L (kD l.length (fun s=>gN (aK st li rv) note t l s) s) u L'):=by
 obtain ⟨A,c,rfl,hc1,hc2,hg⟩:=hv.slice;rw [bN] at *;have hll:=Dh l;refine kS (N:=77) (T:=[(0,_),(1,_),(2,_)]) func164 rfl ntmps164 rfl rfl hO ?_;intro a H;refine cO (fun _ K1=>?_);refine fD (cs:=[_,_,_]) H wn rfl rfl rfl ?_;clear H;intro b5 a w hb5 H;refine kH H (ak K1 rfl (SQ fun _ K2=>SR fun _ K3=>Rm rfl (Rl jG rfl (Rc rfl (Kz K3 (Cd rfl ?_ ?_)))))) <;> clear H K1 K3
 ·intro gu a H
  try have mo:=dT gu
  refine aN (fun _ K4=>?_);have hE:kD l.length (fun s=>gN (aK st li rv) note t l s) s=(11,s):=au (by omega);exact kP H (SC (aL K4 rfl (LR results164 rfl fun H=>H.hp.bU (L':=gQ b ms ml mr mb mu s.n :: (mb,fF (gV s.aY)) :: L) (by repeat (first|exact cu _|apply List.Sublist.cons)) ⟨s,by rw [hE],rfl,fun h=>by rw [hE]⟩)))
 intro gu a H
 try have mo:=dF gu
 refine kP H (Kc K2 (SQ fun _ K5=>SR fun _ K6=>Rm rfl (Rl jG rfl (Rc rfl (Kz K6 (Cd rfl ?_ ?_)))))) <;> clear H K2 K6
 ·intro h20 a H
  try have qP:=dT h20
  refine aN (fun _ K7=>?_)
  have hE:kD l.length (fun s=>gN (aK st li rv) note t l s) s=(9,s):=by rw [kD,ah (by omega),au (by omega)]
  exact kP H (SC (aL K7 rfl (LR results164 rfl fun H=>H.hp.bU (L':=gQ b ms ml mr mb mu s.n :: (mb,fF (gV s.aY)) :: L) (by repeat (first|exact cu _|apply List.Sublist.cons)) ⟨s,by rw [hE],rfl,fun h=>by rw [hE]⟩)))
 intro h20 a H
 try have qP:=dF h20
 refine kP H (Kc K5 (SQ fun _ K8=>SQ fun _ K9=>?_));clear H K5;intro a H
 have hE:kD l.length (fun s=>gN (aK st li rv) note t l s) s=gN (aK st li rv) note t l s:=by rw [kD,ah (by omega),ah (by omega)]
 refine kP H (SC (Rm rfl (Rl jG rfl (Rm rfl (Kn K9 (SB ?_))))));clear H K9;intro a H;skip;refine dV (ι:=Nat × CS × GH) (Tc:=[(0,_),(5,_),(21,_),(22,_)]) (Lc:=[(_,_)]) (fun gh=>[(23,vi gh.1)]) (fun gh=>[gQ b ms ml mr mb mu gh.2.1.n,(mb,fF (gV gh.2.1.aY))]++L) (fun gh=>gh.2.2) (fun gh=>gh.1≤l.length∧(∀ b o,Gt b=some o→gh.2.2 b=some o)∧gN (aK st li rv) note t l s=gN (aK st li rv) note t (l.drop gh.1) gh.2.1∧0≤gh.2.1.n∧gh.2.1.n+(eG (l.drop gh.1):Nat)≤1099511627776) (fun gh=>l.length - gh.1) ((0,s,Gt)) (by exact (H).sub ⟨rfl,rfl,rfl,rfl,rfl,av⟩) ?_ ?_
 ·exact ⟨fQ _,fun _ _ h=>h,rfl,hs0,hs1⟩
 clear H;rintro ⟨k,s1,g⟩ a w hI H;dsimp only at hI H;obtain ⟨hk,hgm,hR,hn0,hn1⟩:=hI;dsimp only [lca,aO] at H;refine kP H (SR fun _ aU=>Rc rfl (Kz aU (SQ fun _ bD=>Cd rfl ?_ ?_))) <;> clear H aU
 ·intro iy a H
  try have ow:=dT iy
  have hk2:k < l.length:=by omega
  have hsz:=IU hk2;have hcs:=Dc l[k].cells
  have hdz:eG (l.drop k)=1+dh l[k].dat+eG (l.drop (k+1)):=by simp only [eG];rw [jw hk2,dW,eu]
  have hrz:=tY l[k];obtain ⟨xb,xo,qA,qn,qc,eA,en,ec,zA,zn,zc,cA,cn,cc,rfl,hrow,vN,hcl⟩:=CW hk2 hg;replace hrow:=fun j u hj=>aJ hgm (hrow j u hj);replace vN:=vN.mono hgm;replace hcl:=hcl.mono hgm;have hcn:=hcl.len;rw [bN] at hcn;subst hcn;have ajQ:=hck.mono hgm;rw [jw hk2,gN,IC] at hR;refine kP H (Kc bD (SQ fun _ bE=>SB (SR fun _ bQ=>Ri jG jJ rfl rfl ?_)));clear H bD;intro a H;refine bK jJ (cs:=[_,_,_,_,_,_]) H wn rfl rfl (fun j v hj=>H.hp.aF (hrow j v hj)) rfl ?_;clear H;intro a H;refine dY jJ H wn rfl ?_;clear H;intro b8 a w Ai H;refine bT jJ 0 (vs:=[_,_,_,_,_,_]) _ H wn rfl rfl rfl rfl rfl rfl rfl rfl ?_;clear H;intro w H;dsimp only [List.set,setRow] at H;refine bQ _ _ ?_;clear bQ;refine aN (fun _ bR=>?_);refine aN (fun _ bW=>?_);refine dI hmx [[],[],[1],[0,1,2],[],[4],[4,5],[4,5,6],(ra 0 8),[],[9],[9,10],[9,10,11],(ra 0 13),(ra 0 14),(ra 0 15),(ra 0 16)] [14,15,16] (by kernel_rfl) [_,_,Fq l[k].head (.slice qA qn qc) (.slice eA en ec) (.slice zA zn zc),vi (fI (aK st li rv) 9 l[k].head),_,.slice cA l[k].cells.length cc,_,_,vi (bL (decide ((l[k].cells.length:Int)=0)) 11),_,.slice cA l[k].cells.length cc,_,_,vi (bL (decide (32 < (l[k].cells.length:Int))) 9)] H (aI (Z0 rfl (Rm rfl)) (Z0 rfl (Rf GU rfl)) ?_ ?_ (aI (Z0 rfl (Rf qh rfl)) (Z1 4 31 rfl (Ro qy 0 rfl)) (Z1 5 32 rfl (Rl lQ rfl)) (Z1 6 33 rfl (Rc rfl)) (aI ?_ (Z0 rfl (Rf qh rfl)) (Z1 9 36 rfl (Ro qy 0 rfl)) (Z1 10 37 rfl (Rl lQ rfl)) (aI (Z1 11 38 rfl (Rc rfl)) ?_ (cZ rfl) (cZ rfl) (bG (cZ rfl) dQ))))) ?_
  ·refine fq 1 28 rfl rfl fun _ a w G1 hG HT H fin=>?_;refine bK lU (cs:=[_,_,_,_,_]) H wn rfl rfl (H.hp.fG 0 rfl rfl) rfl ?_;clear H;intro a H;exact fin H iJ rfl
  ·refine fu 0 27 2 29 rfl rfl fun _ a w G1 hG HT H fin=>?_;refine gW Jo (Li:=[_,_]) (L:=gQ b ms ml mr mb mu s1.n :: (mb,fF (gV s1.aY)) :: L) H wn rfl (JI _ _ _ st li rv b ms ml mr mb mu _ (ajQ.mono hG) (Hp.owns (Li:=[_,_]) H.hp) 9 l[k].head _ _ _ (vN.mono hG) (by omega)) rfl ?_;clear H;rintro v30 _ _ a w ⟨rfl,rfl,rfl⟩ Mf H;dsimp only [lca,aO] at H;exact fin H Mf (rfl)
  ·refine fq 7 34 rfl rfl fun _ a w G1 hG HT H fin=>?_;refine s_call kg H wn rfl (ku _ _ H.ro _ 11) rfl ?_;clear H;rintro v35 G35 a w ⟨rfl,-⟩ Tq H;exact fin H Tq (rfl)
  ·refine fq 12 39 rfl rfl fun _ a w G1 hG HT H fin=>?_;refine s_call kg H wn rfl (ku _ _ H.ro _ 9) rfl ?_;clear H;rintro v40 KJ a w ⟨rfl,-⟩ aiU H;exact fin H aiU (rfl)
  clear H;intro a w G Ah H hv;have H:=H.bC (hv 3 30 rfl rfl) rfl;have H:=H.bC (hv 8 35 rfl rfl) rfl;have H:=H.bC (hv 13 40 rfl rfl) rfl;clear hv;refine jd qV iO [_,_,_] [_,_,_] H wn rfl rfl rfl rfl rfl (by intro i q h;match i,h with|0,h=>exact h|1,h=>exact h|2,h=>exact h|n+3,h=>simp at h) rfl rfl ?_;clear H;intro b41 a w aru H;obtain ⟨KL,Cz,ajE,H⟩:=H.eD;have Mv:∀ b o,Gt b=some o→KL b=some o:=fun b o h=>Cz _ _ (Ah _ _ (hgm _ _ h));refine s_call rY H wn rfl (rZ _ _ H.ro _ _ (Ii [fI (aK st li rv) 9 l[k].head,bL (decide ((l[k].cells.length:Int)=0)) 11,bL (decide (32 < (l[k].cells.length:Int))) 9] ajE (show 3≤maxLen by decide))) rfl ?_;clear H;rintro v42 _ a w ⟨rfl,rfl⟩ - H;refine kH H (Ra rfl ?_);clear H;intro a H;refine aH ⟨rfl,?_⟩;refine bW _ _ ?_;clear bW;refine kP H (SR fun _ cK=>Rm rfl (Rc rfl (Kz cK (Cd rfl ?_ ?_)))) <;> clear H cK
  ·intro kT a H
   try have p44:=dT kT
   have e44:sO (aK st li rv) l[k].head l[k].cells.length≠0:=p44
   have hF1:(kD l.length (fun s=>gN (aK st li rv) note t l s) s).1=sO (aK st li rv) l[k].head l[k].cells.length:=by rw [hE,hR,uq (r:=(sO (aK st li rv) l[k].head l[k].cells.length,s1)) e44,uq e44]
   have hF2:(kD l.length (fun s=>gN (aK st li rv) note t l s) s).1=0→s1=(kD l.length (fun s=>gN (aK st li rv) note t l s) s).2:=fun h=>absurd (hF1.symm.trans h) e44;exact kP H (SR fun _ bY=>Rm rfl (ak bY rfl (LR results164 rfl fun H=>H.hp.bU (L':=gQ b ms ml mr mb mu s1.n :: (mb,fF (gV s1.aY)) :: L) (by repeat (first|exact cu _|apply List.Sublist.cons)) ⟨s1,ay vi hF1.symm,rfl,hF2⟩)))
  intro kT a H
  try have p44:=dF kT
  have e44:sO (aK st li rv) l[k].head l[k].cells.length=0:=gL.1 p44;rw [tq (r:=(sO (aK st li rv) l[k].head l[k].cells.length,s1)) e44] at hR;dsimp only at hR;have ajR:=hck.mono Mv;replace hcl:=hcl.mono (fun b o h=>Cz _ _ (Ah b o h));refine kP H (Kc bR (SR fun _ dG=>aR qh qy 0 rfl rfl (Rl lQ rfl (Rm rfl (Kz dG (SB ?_))))));clear H bR dG;intro a H;skip;refine dV (ι:=Nat × CS × GH) (Tc:=[(0,_),(5,_),(21,_),(22,_),(23,_),(47,_),(48,_)]) (Lc:=[(_,_),(_,_)]) (fun gh=>[(49,vi gh.1)]) (fun gh=>[gQ b ms ml mr mb mu gh.2.1.n,(mb,fF (gV gh.2.1.aY))]++L) (fun gh=>gh.2.2) (fun gh=>gh.1≤l[k].cells.length∧(∀ b o,KL b=some o→gh.2.2 b=some o)∧gN (aK st li rv) note t l s=gD (mI (aK st li rv) note t (l[k].cells.drop gh.1) gh.2.1) (fun s=>gN (aK st li rv) note t (l.drop (k+1)) s)∧0≤gh.2.1.n∧gh.2.1.n+(iC (l[k].cells.drop gh.1):Nat)+(eG (l.drop (k+1)):Nat)≤1099511627776) (fun gh=>l[k].cells.length - gh.1) ((0,s1,KL)) (by exact (H).sub ⟨rfl,rfl,rfl,rfl,rfl,rfl,rfl,rfl,av⟩) ?_ ?_
  ·exact ⟨fQ _,fun _ _ h=>h,hR,hn0,by dsimp only;rw [jU];omega⟩
  clear H;rintro ⟨c,s2,g2⟩ a w hI H;dsimp only at hI H;obtain ⟨hc,OQ,hR2,hm0,hm1⟩:=hI;have kI:=fun b o h=>OQ b o (Mv b o h);dsimp only [lca,aO] at H;refine kP H (SR fun _ dN=>Rc rfl (Kz dN (SQ fun _ dH=>Cd rfl ?_ ?_))) <;> clear H dN
  ·intro h50 a H
   try have p50:=dT h50
   have hk4:c < l[k].cells.length:=by omega
   have alr:=KF hk4
   have ake:iC (l[k].cells.drop c)=1+dh l[k].cells[c].dat+iC (l[k].cells.drop (c+1)):=by simp only [iC];rw [jw hk4,dW,eu]
   have hcz:=uX l[k].cells[c];obtain ⟨b3',o3,sA,sn,sc,tA,tn,tc,uA,un,uc,gA,gn,gc,rfl,hrow,hch,hcf⟩:=AY hk4 (hcl.mono OQ).at_;have Ug:=ajR.mono OQ;rw [jw hk4,mI,Aa] at hR2;obtain ⟨y,hy⟩:∃ y,y=l[k].cells[c]:=⟨_,rfl⟩;rw [← hy] at hR2 hrow hch hcf hcz alr ake;refine kP H (Kc dH (SQ fun _ dP=>SB (SR fun _ eT=>Ri lQ jK rfl rfl ?_)));clear H dH;intro a H;refine bK jK (cs:=[_,_,_,_,_,_,_]) H wn rfl rfl (fun j v hj=>H.hp.aF (hrow j v hj)) rfl ?_;clear H;intro a H;refine dY jK H wn rfl ?_;clear H;intro b11 a w Hu H;refine bT jK 0 (vs:=[_,_,_,_,_,_,_]) _ H wn rfl rfl rfl rfl rfl rfl rfl rfl ?_;clear H;intro w H;dsimp only [List.set,setRow] at H;refine eT _ _ ?_;clear eT;refine kP H (SQ fun _ fP=>SR fun _ gq=>Rm rfl (aR DC aD 0 rfl rfl ?_));clear H;intro a H;refine gW RI (Li:=[_,_,_]) (L:=gQ b ms ml mr mb mu s2.n :: (mb,fF (gV s2.aY)) :: L) H wn rfl (Rh _ _ _ st li rv b ms ml mr mb mu _ s2.aY y.id Ug (Hp.owns (Li:=[_,_,_]) H.hp)) rfl ?_;clear H;rintro v56 _ _ a w ⟨rfl,rfl,rfl⟩ - H;dsimp only [lca,aO] at H;refine kH H (ak gq rfl (SR fun _ gG=>Rm rfl (Rc rfl (Kz gG (Cd rfl ?_ ?_))))) <;> clear H gq gG
   ·intro ji a H
    try have p58:=dT ji
    have hF1:(kD l.length (fun s=>gN (aK st li rv) note t l s) s).1=nP s2.aY y.id:=by rw [hE,hR2];simp [gD,jo,p58]
    have hF2:(kD l.length (fun s=>gN (aK st li rv) note t l s) s).1=0→(⟨s2.n,jH s2.aY y.id⟩:CS)=(kD l.length (fun s=>gN (aK st li rv) note t l s) s).2:=fun h=>absurd (hF1.symm.trans h) p58;exact kP H (SR fun _ iP=>Rm rfl (ak iP rfl (LR results164 rfl fun H=>H.hp.bU (L':=gQ b ms ml mr mb mu s2.n :: (mb,fF (gV (jH s2.aY y.id))) :: L) (by repeat (first|exact cu _|apply List.Sublist.cons)) ⟨⟨s2.n,jH s2.aY y.id⟩,ay vi hF1.symm,rfl,hF2⟩)))
   intro ji a H
   try have p58:=dF ji
   have e58:nP s2.aY y.id=0:=gL.1 p58;refine kP H (Kc fP (SQ fun _ jm=>SR fun _ iH=>Rm rfl (Rf LM rfl ?_)));clear H fP;intro a H;refine bK lU (cs:=[_,_,_,_,_]) H wn rfl rfl (H.hp.fG 0 rfl rfl) rfl ?_;clear H;intro a H;refine gW Jo (Li:=[_,_,_]) (L:=gQ b ms ml mr mb mu s2.n :: (mb,fF (gV (jH s2.aY y.id))) :: L) H wn rfl (JI _ _ _ st li rv b ms ml mr mb mu _ Ug (Hp.owns (Li:=[_,_,_]) H.hp) 10 y.head _ _ _ hch (by omega)) rfl ?_;clear H;rintro v63 _ _ a w ⟨rfl,rfl,rfl⟩ - H;dsimp only [lca,aO] at H;refine kH H (ak iH rfl (SR fun _ kW=>Rm rfl (Rc rfl (Kz kW (Cd rfl ?_ ?_))))) <;> clear H iH kW
   ·intro kC a H
    try have p65:=dT kC
    have hF1:(kD l.length (fun s=>gN (aK st li rv) note t l s) s).1=fI (aK st li rv) 10 y.head:=by rw [hE,hR2];simp [gD,jo,e58,p65]
    have hF2:(kD l.length (fun s=>gN (aK st li rv) note t l s) s).1=0→(⟨s2.n,jH s2.aY y.id⟩:CS)=(kD l.length (fun s=>gN (aK st li rv) note t l s) s).2:=fun h=>absurd (hF1.symm.trans h) p65;exact kP H (SR fun _ kX=>Rm rfl (ak kX rfl (LR results164 rfl fun H=>H.hp.bU (L':=gQ b ms ml mr mb mu s2.n :: (mb,fF (gV (jH s2.aY y.id))) :: L) (by repeat (first|exact cu _|apply List.Sublist.cons)) ⟨⟨s2.n,jH s2.aY y.id⟩,ay vi hF1.symm,rfl,hF2⟩)))
   intro kC a H
   try have p65:=dF kC
   have e65:fI (aK st li rv) 10 y.head=0:=gL.1 p65;refine kP H (Kc jm (SR fun _ jQ=>Rm rfl (aR Cn jy 0 rfl rfl ?_)));clear H jm;intro a H;refine bK Qp (cs:=[_,_,_]) H wn rfl rfl (H.hp.fG 2 rfl rfl) rfl ?_;clear H;intro a H;refine gW LH (Li:=[_,_,_]) (L:=gQ b ms ml mr mb mu s2.n :: (mb,fF (gV (jH s2.aY y.id))) :: L) H wn rfl (ih _ _ _ st li rv b ms ml mr mb mu ⟨s2.n,jH s2.aY y.id⟩ y.flow _ false note t Ug (Hp.owns (Li:=[_,_,_]) H.hp) hcf (by omega) ht0 BG hm0 (by dsimp only;omega)) rfl ?_;clear H;rintro v71 _ _ a w ⟨rfl,s3,rfl,rfl,h3⟩ - H;dsimp only [lca,aO] at H;refine kH H (ak jQ rfl (SR fun _ lC=>Rm rfl (Rc rfl (Kz lC (Cd rfl ?_ ?_))))) <;> clear H jQ lC
   ·intro jW a H
    try have p73:=dT jW
    have hF1:(kD l.length (fun s=>gN (aK st li rv) note t l s) s).1=(gU (aK st li rv) false note t y.flow ⟨s2.n,jH s2.aY y.id⟩).1:=by rw [hE,hR2];simp [gD,jo,e58,e65,p73]
    have hF2:(kD l.length (fun s=>gN (aK st li rv) note t l s) s).1=0→s3=(kD l.length (fun s=>gN (aK st li rv) note t l s) s).2:=fun h=>absurd (hF1.symm.trans h) p73;exact kP H (SR fun _ lD=>Rm rfl (ak lD rfl (LR results164 rfl fun H=>H.hp.bU (L':=gQ b ms ml mr mb mu s3.n :: (mb,fF (gV s3.aY)) :: L) (by repeat (first|exact cu _|apply List.Sublist.cons)) ⟨s3,ay vi hF1.symm,rfl,hF2⟩)))
   intro jW a H
   try have p73:=dF jW
   have Rw:(gU (aK st li rv) false note t y.flow ⟨s2.n,jH s2.aY y.id⟩).1=0:=gL.1 p73;obtain ⟨hu1,hu2⟩:=Qs (aK st li rv) false note t y.flow ⟨s2.n,jH s2.aY y.id⟩;rw [← h3 Rw] at hu1 hu2;dsimp only at hu1 hu2
   have hS:gD (gD (gD (jo s2 y.id) fun s=>gD (fI (aK st li rv) 10 y.head,s) fun s=>gU (aK st li rv) false note t y.flow s) fun s=>mI (aK st li rv) note t (l[k].cells.drop (c+1)) s) (fun s=>gN (aK st li rv) note t (l.drop (k+1)) s)=gD (mI (aK st li rv) note t (l[k].cells.drop (c+1)) s3) (fun s=>gN (aK st li rv) note t (l.drop (k+1)) s):=by
    rw [h3 Rw];simp [gD,jo,e58,e65,Rw]
   refine kP H (Kc dP (SC (Rd rfl (Rm rfl ?_))));clear H dP;intro a H;refine aH ?_;refine cB ((c+1,s3,g2)) (by exact (H.dx (Pl:=[_,_,_,_,_]) (bZ:=[_,_,_,_]) [1,2,3,4] (by decide) rfl).sub ⟨rfl,rfl,rfl,rfl,rfl,rfl,rfl,rfl,av⟩) ?_ ?_
   ·(try dsimp only);exact ⟨by omega,OQ,hR2.trans hS,by omega,by omega⟩
   first|omega|(dsimp only;omega)
  intro h50 a H
  try have p50:=dF h50
  refine dJ ?_;refine bE _ _ ?_;clear bE;refine kP H (SC (Rd rfl (Rm rfl ?_)));clear H;intro a H;refine aH ?_;refine cB ((k+1,s2,g2)) (by exact (H.dx (Pl:=[_,_,_,_]) (bZ:=[_,_,_]) [1,2,3] (by decide) rfl).sub ⟨rfl,rfl,rfl,rfl,rfl,av⟩) ?_ ?_
  ·(try dsimp only);exact ⟨by omega,kI,by rw [hR2,eU (by omega),mI,tq rfl],hm0,by omega⟩
  first|omega|(dsimp only;omega)
 intro iy a H
 try have ow:=dF iy
 refine dJ ?_;refine K8 _ _ ?_;clear K8;refine aN (fun _ lX=>?_)
 have hF1:(kD l.length (fun s=>gN (aK st li rv) note t l s) s).1=0:=by rw [hE,hR,eU (by omega),gN]
 have hF2:(kD l.length (fun s=>gN (aK st li rv) note t l s) s).1=0→s1=(kD l.length (fun s=>gN (aK st li rv) note t l s) s).2:=fun h=>by rw [hE,hR,eU (by omega),gN]
 exact kP H (SC (aL lX rfl (LR results164 rfl fun H=>H.hp.bU (L':=gQ b ms ml mr mb mu s1.n :: (mb,fF (gV s1.aY)) :: L) (by repeat (first|exact cu _|apply List.Sublist.cons)) ⟨s1,ay vi hF1.symm,rfl,hF2⟩)))
end
section
open Go.RowKit
theorem agN:∀ args w,(callFunc 164 args).run prog w=.ok (.enter 164 args) w:=enters func164 rfl (by kernel_rfl)
theorem agM:∀ args w,(callFunc 162 args).run prog w=.ok (.enter 162 args) w:=enters func162 rfl (by kernel_rfl)
theorem He:dL prog 98 5 5:=⟨by kernel_rfl⟩
theorem ail:dL prog 90 0 0:=⟨by kernel_rfl⟩
theorem anr {G:GH} {b:Nat} {x:Int} (h:G b=some (.cells #[vi x] 42 (0,0))):aB G (.sl 1 ([x].map fun k=>[li k])) (.slice (some ⟨b,0,none⟩) 1 1):=Ii [x] h (show 1≤maxLen by decide)
theorem amj {m:Nat} (ih:I4 m) (hm:m≤4294967296) (Gt:GH) (L:OL) (w0:World) (st:List bS) (li:List dR) (rv:List dU) (b ms ml mr mb mu:Nat) (s:CS) (x:aC) (p d y f r:aj) (body note:Bool) (t:Int)
  (hck:xI Gt st li rv ms ml mr mu) (hO:iT Gt (gQ b ms ml mr mb mu s.n :: (mb,fF (gV s.aY)) :: L) w0) (hh:nS Gt x.head p d y) (hf:aB Gt (.sl 11 (x.flow.map aC.dat)) f) (hr:aB Gt (.sl 6 (x.rows.map bH.dat)) r) (hz:dh x.dat≤m) (ht0:0≤t) (BG:t≤4) (hs0:0≤s.n) (hs1:s.n+(dh x.dat:Nat)≤1099511627776) :
  Calls prog 103 #[(aP b 0),.agg #[vi x.kind,vi x.code,vi x.id,.string x.text,p,vi x.head.marks.ins,vi x.head.marks.move,d,y,f,r],.agg #[.bool body,.bool note,vi t]] w0 (iE w0 Gt (gQ b ms ml mr mb mu s.n :: (mb,fF (gV s.aY)) :: L) fun u G' L'=>Nl b ms ml mr mb mu L (eP (aK st li rv) body note t x s) u L'):=by
 obtain ⟨pA,pn,pc,rfl⟩:=hh.props.form;obtain ⟨dA,dn,dc,rfl⟩:=hh.bJ.form;obtain ⟨lA,ln,lc,rfl⟩:=hh.layers.form;obtain ⟨fA,fc,rfl,-⟩:=hf.slice;obtain ⟨rA,rc,rfl,-⟩:=hr.slice;(iterate 2 rw [bN] at *);have hxz:=oN x;have hcl:=EZ x.text
 have JY:gI x≤x.text.size+1:=by unfold gI;split <;> omega
 have hE:=MO (aK st li rv) body note t x s;refine kS (N:=117) (T:=[(0,_),(1,_),(2,_)]) func103 rfl ntmps103 rfl rfl hO ?_;intro a H;refine cO (fun _ K1=>?_);refine fD (cs:=[_,_,_,_,_,_,_,_,_,_,_]) H wn rfl rfl rfl ?_;clear H;intro b4 a w hb4 H;refine fD (cs:=[_,_,_]) H wn rfl rfl rfl ?_;clear H;intro b5 a w hb5 H;refine kH H (ak K1 rfl (SQ fun _ K2=>SR fun _ K3=>?_));clear H K1;intro a H;refine bK eH (cs:=[_,_,_,_,_,_,_,_,_,_,_]) H wn rfl rfl (H.hp.fG 1 rfl rfl) rfl ?_;clear H;intro a H;refine s_call agM H wn rfl (aiC _ _ H.ro x _ _ _ _ _ _ _ (by omega)) rfl ?_;clear H;rintro v15 _ a w ⟨rfl,rfl⟩ - H;refine kH H (ak K3 rfl (SR fun _ K4=>Rm rfl (Rc rfl (Kz K4 (Cd rfl ?_ ?_))))) <;> clear H K3 K4
 ·intro gu a H
  try have mo:=dT gu
  rw [uq (r:=(jE x,s)) mo] at hE;exact kP H (SR fun _ K5=>Rm rfl (ak K5 rfl (LR results103 rfl fun H=>H.hp.bU (L':=gQ b ms ml mr mb mu s.n :: (mb,fF (gV s.aY)) :: L) (by repeat (first|exact cu _|apply List.Sublist.cons)) ⟨s,by rw [hE],rfl,fun h=>by rw [hE]⟩)))
 intro gu a H
 try have mo:=dF gu
 rw [tq (r:=(jE x,s)) (gL.1 mo)] at hE;dsimp only at hE;refine kP H (Kc K2 (SR fun _ K6=>Rm rfl (Rk rfl (aR He aD 2 rfl rfl (Rd rfl (Rk rfl (Rf He rfl ?_)))))));clear H K2;intro a H;refine bT aD 2 (vs:=[_]) _ H wn rfl rfl rfl rfl rfl rfl rfl rfl ?_;clear H;intro w H;dsimp only [List.set,setRow] at H;refine K6 _ _ ?_;clear K6;refine oG (ι:=CS × GH) (Tc:=[(0,_),(4,_),(5,_)]) (Lc:=[(_,_),(_,_)]) (fun gh=>[]) (fun gh=>[gQ b ms ml mr mb mu gh.1.n,(mb,fF (gV gh.1.aY))]++L) (fun gh=>gh.2) (fun gh=>kr body note t x.kind x.id ⟨s.n+(gI x:Nat),s.aY⟩=(0,gh.1)∧(∀ b o,Gt b=some o→gh.2 b=some o)∧gh.1.n=s.n+(gI x:Nat)∧(x.kind=7→t < 4)) (by exact (H).sub ⟨rfl,rfl,rfl,av⟩) ?_ ?_
 ·skip;refine kP H (SR fun _ K7=>aR gH aD 1 rfl rfl (Kz K7 (SB (SR fun _ K8=>Rc rfl (ak K8 rfl (Cd rfl ?_ ?_)))))) <;> clear H K7 K8
  ·intro iK a H
   try have p28:=dT iK
   have hu:((gI x:Nat):Int)=xR x.text:=by rw [gI,au p28]
   refine kP H (SR fun _ K9=>aR vF gZ 1 rfl rfl ?_);clear H;intro a H;refine s_call Og H wn rfl (NW _ _ H.ro x.text (by omega)) rfl ?_;clear H;rintro v33 _ a w ⟨rfl,rfl⟩ - H;refine kH H (Rm rfl ?_);clear H;intro a H;(iterate 2 refine nQ H wn rfl rfl rfl ?_;clear H;intro a H);refine kH H (Ra rfl (ak K9 rfl (SC (Rm rfl (Rk rfl (aR He aD 2 rfl rfl (Rm rfl (Rs rfl (Rd rfl ?_)))))))));clear H K9;intro a H;rw [show s.n+1+((xR x.text:Int) - 1)=s.n+(gI x:Nat) by omega] at H;refine kH H (Rk rfl (Rf He rfl ?_));clear H;intro a H;refine bT aD 2 (vs:=[_]) _ H wn rfl rfl rfl rfl rfl rfl rfl rfl ?_;clear H;intro w H;dsimp only [List.set,setRow] at H;refine aH ?_;refine ⟨(⟨s.n+(gI x:Nat),s.aY⟩,Gt),by exact (H).sub ⟨rfl,rfl,rfl,av⟩,?_⟩;(try dsimp only)
   first
   | exact ⟨by simp_all [kr,bL,gD,jo],fun _ _ h=>h,rfl,fun h7=>by first|omega|(exfalso;simp_all)⟩
   | exact ⟨by simp_all [kr,bL,gD,jo],wT,rfl,fun h7=>by first|omega|(exfalso;simp_all)⟩
  intro iK a H
  try have p28:=dF iK
  have hu:((gI x:Nat):Int)=1:=by rw [gI,ah p28];rfl
  rw [show s.n+1=s.n+((gI x:Nat):Int) by omega] at H;refine kP H (SR fun _ aU=>Rc rfl (ak aU rfl (Cd rfl ?_ ?_))) <;> clear H aU
  ·intro h45 a H
   try have p45:=dT h45
   refine kP H (SR fun _ bD=>aR ail sS 0 rfl rfl (Rn rfl (Kz bD (Cd rfl ?_ ?_)))) <;> clear H bD
   ·intro nX a H
    try have p49:=dT nX
    refine aN (fun _ bE=>?_)
    have hF1:(eP (aK st li rv) body note t x s).1=19:=by rw [hE];simp [gD,kr,p45,bL,nX]
    have hF2:(eP (aK st li rv) body note t x s).1=0→(⟨s.n+(gI x:Nat),s.aY⟩:CS)=(eP (aK st li rv) body note t x s).2:=fun h=>absurd (hF1.symm.trans h) (by decide);exact kP H (SC (aL bE rfl (LR results103 rfl fun H=>H.hp.bU (L':=gQ b ms ml mr mb mu (s.n+(gI x:Nat)) :: (mb,fF (gV (s.aY))) :: L) (by repeat (first|exact cu _|apply List.Sublist.cons)) ⟨⟨s.n+(gI x:Nat),s.aY⟩,ay vi hF1.symm,rfl,hF2⟩)))
   intro nX a H
   try have p49:=dF nX
   refine fT ?_;refine ⟨(⟨s.n+(gI x:Nat),s.aY⟩,Gt),by exact (H).sub ⟨rfl,rfl,rfl,av⟩,?_⟩;(try dsimp only)
   first
   | exact ⟨by simp_all [kr,bL,gD,jo],fun _ _ h=>h,rfl,fun h7=>by first|omega|(exfalso;simp_all)⟩
   | exact ⟨by simp_all [kr,bL,gD,jo],wT,rfl,fun h7=>by first|omega|(exfalso;simp_all)⟩
  intro h45 a H
  try have p45:=dF h45
  refine kP H (SR fun _ bQ=>Rc rfl (ak bQ rfl (Cd rfl ?_ ?_))) <;> clear H bQ
  ·intro h50 a H
   try have p50:=dT h50
   refine kP H (SQ fun _ bR=>SR fun _ bW=>aR Sm sS 0 rfl rfl ?_);clear H;intro a H;refine s_call kg H wn rfl (ku _ _ H.ro _ 19) rfl ?_;clear H;rintro v54 _ a w ⟨rfl,rfl⟩ - H;refine jd qV iO [_] [_] H wn rfl rfl rfl rfl rfl (by intro i q h;match i,h with|0,h=>exact h|n+1,h=>simp at h) rfl rfl ?_;clear H;intro b55 a w arx H;obtain ⟨KM,wT,ajG,H⟩:=H.eD;refine s_call rY H wn rfl (rZ _ _ H.ro _ _ (anr ajG)) rfl ?_;clear H;rintro v56 _ a w ⟨rfl,rfl⟩ - H;refine kH H (ak bW rfl (SR fun _ cK=>Rm rfl (Rc rfl (Kz cK (Cd rfl ?_ ?_))))) <;> clear H bW cK
   ·intro ji a H
    try have p58:=dT ji
    have e58:bL note 19≠0:=fun h=>p58 (by rw [h];rfl)
    have alK:bO [bL note 19]=bL note 19:=by simp [bO,e58]
    rw [alK] at H
    have hF1:(eP (aK st li rv) body note t x s).1=bL note 19:=by rw [hE];simp [gD,kr,p50,e58]
    have hF2:(eP (aK st li rv) body note t x s).1=0→(⟨s.n+(gI x:Nat),s.aY⟩:CS)=(eP (aK st li rv) body note t x s).2:=fun h=>absurd (hF1.symm.trans h) (e58);exact kP H (SR fun _ bY=>Rm rfl (ak bY rfl (LR results103 rfl fun H=>H.hp.bU (L':=gQ b ms ml mr mb mu (s.n+(gI x:Nat)) :: (mb,fF (gV (s.aY))) :: L) (by repeat (first|exact cu _|apply List.Sublist.cons)) ⟨⟨s.n+(gI x:Nat),s.aY⟩,ay vi hF1.symm,rfl,hF2⟩)))
   intro ji a H
   try have p58:=dF ji
   have e58:bL note 19=0:=Decidable.byContradiction fun h=>p58 (by simp [bO,h]);refine kP H (Kc bR (SR fun _ dG=>Rm rfl (aR vE aD 1 rfl rfl ?_)));clear H bR;intro a H;refine gW RI (Li:=[_,_]) (L:=gQ b ms ml mr mb mu _ :: (mb,fF (gV s.aY)) :: L) H wn rfl (Rh _ _ _ st li rv b ms ml mr mb mu _ s.aY x.id (hck.mono wT) (Hp.owns (Li:=[_,_]) H.hp)) rfl ?_;clear H;rintro v63 _ _ a w ⟨rfl,rfl,rfl⟩ - H;dsimp only [lca,aO] at H;refine kH H (ak dG rfl (SR fun _ dN=>Rm rfl (Rc rfl (Kz dN (Cd rfl ?_ ?_))))) <;> clear H dG dN
   ·intro kC a H
    try have p65:=dT kC
    have hF1:(eP (aK st li rv) body note t x s).1=nP s.aY x.id:=by rw [hE];simp [gD,kr,p50,e58,jo,p65]
    have hF2:(eP (aK st li rv) body note t x s).1=0→(⟨s.n+(gI x:Nat),jH s.aY x.id⟩:CS)=(eP (aK st li rv) body note t x s).2:=fun h=>absurd (hF1.symm.trans h) (p65);exact kP H (SR fun _ dH=>Rm rfl (ak dH rfl (LR results103 rfl fun H=>H.hp.bU (L':=gQ b ms ml mr mb mu (s.n+(gI x:Nat)) :: (mb,fF (gV (jH s.aY x.id))) :: L) (by repeat (first|exact cu _|apply List.Sublist.cons)) ⟨⟨s.n+(gI x:Nat),jH s.aY x.id⟩,ay vi hF1.symm,rfl,hF2⟩)))
   intro kC a H
   try have p65:=dF kC
   have e65:nP s.aY x.id=0:=gL.1 p65;refine fT ?_;refine ⟨(⟨s.n+(gI x:Nat),jH s.aY x.id⟩,KM),by exact (H).sub ⟨rfl,rfl,rfl,av⟩,?_⟩;(try dsimp only)
   first
   | exact ⟨by simp_all [kr,bL,gD,jo],fun _ _ h=>h,rfl,fun h7=>by first|omega|(exfalso;simp_all)⟩
   | exact ⟨by simp_all [kr,bL,gD,jo],wT,rfl,fun h7=>by first|omega|(exfalso;simp_all)⟩
  intro h50 a H
  try have p50:=dF h50
  refine kP H (SR fun _ dP=>Rc rfl (ak dP rfl (Cd rfl ?_ ?_))) <;> clear H dP
  ·intro wP a H
   try have p67:=dT wP
   refine kP H (SQ fun _ eT=>SR fun _ fP=>aR LX aD 0 rfl rfl (Rc rfl (Kz fP (Cd rfl ?_ ?_)))) <;> clear H fP
   ·intro ko a H
    try have p71:=dT ko
    refine aN (fun _ gq=>?_)
    have hF1:(eP (aK st li rv) body note t x s).1=17:=by rw [hE];simp [gD,kr,p67,bL,p71]
    have hF2:(eP (aK st li rv) body note t x s).1=0→(⟨s.n+(gI x:Nat),s.aY⟩:CS)=(eP (aK st li rv) body note t x s).2:=fun h=>absurd (hF1.symm.trans h) (by decide);exact kP H (SC (aL gq rfl (LR results103 rfl fun H=>H.hp.bU (L':=gQ b ms ml mr mb mu (s.n+(gI x:Nat)) :: (mb,fF (gV (s.aY))) :: L) (by repeat (first|exact cu _|apply List.Sublist.cons)) ⟨⟨s.n+(gI x:Nat),s.aY⟩,ay vi hF1.symm,rfl,hF2⟩)))
   intro ko a H
   try have p71:=dF ko
   have e71:¬ 4≤t:=by omega
   refine kP H (Kc eT (SR fun _ gG=>Rm rfl (aR vE aD 1 rfl rfl ?_)));clear H eT;intro a H;refine gW RI (Li:=[_,_]) (L:=gQ b ms ml mr mb mu _ :: (mb,fF (gV s.aY)) :: L) H wn rfl (Rh _ _ _ st li rv b ms ml mr mb mu _ s.aY x.id hck (Hp.owns (Li:=[_,_]) H.hp)) rfl ?_;clear H;rintro v75 _ _ a w ⟨rfl,rfl,rfl⟩ - H;dsimp only [lca,aO] at H;refine kH H (ak gG rfl (SR fun _ iP=>Rm rfl (Rc rfl (Kz iP (Cd rfl ?_ ?_))))) <;> clear H gG iP
   ·intro uH a H
    try have CQ:=dT uH
    have hF1:(eP (aK st li rv) body note t x s).1=nP s.aY x.id:=by rw [hE];simp [gD,kr,p67,bL,e71,jo,CQ]
    have hF2:(eP (aK st li rv) body note t x s).1=0→(⟨s.n+(gI x:Nat),jH s.aY x.id⟩:CS)=(eP (aK st li rv) body note t x s).2:=fun h=>absurd (hF1.symm.trans h) (CQ);exact kP H (SR fun _ jm=>Rm rfl (ak jm rfl (LR results103 rfl fun H=>H.hp.bU (L':=gQ b ms ml mr mb mu (s.n+(gI x:Nat)) :: (mb,fF (gV (jH s.aY x.id))) :: L) (by repeat (first|exact cu _|apply List.Sublist.cons)) ⟨⟨s.n+(gI x:Nat),jH s.aY x.id⟩,ay vi hF1.symm,rfl,hF2⟩)))
   intro uH a H
   try have CQ:=dF uH
   have e77:nP s.aY x.id=0:=gL.1 CQ;refine fT ?_;refine ⟨(⟨s.n+(gI x:Nat),jH s.aY x.id⟩,Gt),by exact (H).sub ⟨rfl,rfl,rfl,av⟩,?_⟩;(try dsimp only)
   first
   | exact ⟨by simp_all [kr,bL,gD,jo],fun _ _ h=>h,rfl,fun h7=>by first|omega|(exfalso;simp_all)⟩
   | exact ⟨by simp_all [kr,bL,gD,jo],wT,rfl,fun h7=>by first|omega|(exfalso;simp_all)⟩
  intro wP a H
  try have p67:=dF wP
  refine kP H (SR fun _ iH=>Rc rfl (ak iH rfl (Cd rfl ?_ ?_))) <;> clear H iH
  ·intro iZ a H
   try have zH:=dT iZ
   refine kP H (SR fun _ kW=>aR vE aD 1 rfl rfl ?_);clear H;intro a H;refine s_call za H wn rfl (zB _ _ H.ro x.id 1 1073741824) rfl ?_;clear H;rintro v83 _ a w ⟨rfl,rfl⟩ - H;refine kH H (Rn rfl (Kz kW (Cd rfl ?_ ?_))) <;> clear H kW
   ·intro h84 a H
    try have VE:=dT h84
    refine aN (fun _ kX=>?_)
    have e84:¬ (1≤x.id∧x.id≤1073741824):=by have h0:=h84;simp at h0;omega
    have hF1:(eP (aK st li rv) body note t x s).1=18:=by rw [hE];simp [gD,kr,zH,bL,e84]
    have hF2:(eP (aK st li rv) body note t x s).1=0→(⟨s.n+(gI x:Nat),s.aY⟩:CS)=(eP (aK st li rv) body note t x s).2:=fun h=>absurd (hF1.symm.trans h) (by decide);exact kP H (SC (aL kX rfl (LR results103 rfl fun H=>H.hp.bU (L':=gQ b ms ml mr mb mu (s.n+(gI x:Nat)) :: (mb,fF (gV (s.aY))) :: L) (by repeat (first|exact cu _|apply List.Sublist.cons)) ⟨⟨s.n+(gI x:Nat),s.aY⟩,ay vi hF1.symm,rfl,hF2⟩)))
   intro h84 a H
   try have VE:=dF h84
   refine fT ?_;refine ⟨(⟨s.n+(gI x:Nat),s.aY⟩,Gt),by exact (H).sub ⟨rfl,rfl,rfl,av⟩,?_⟩;(try dsimp only)
   first
   | exact ⟨by simp_all [kr,bL,gD,jo],fun _ _ h=>h,rfl,fun h7=>by first|omega|(exfalso;simp_all)⟩
   | exact ⟨by simp_all [kr,bL,gD,jo],wT,rfl,fun h7=>by first|omega|(exfalso;simp_all)⟩
  intro iZ a H
  try have zH:=dF iZ
  refine fT ?_;refine ⟨(⟨s.n+(gI x:Nat),s.aY⟩,Gt),by exact (H).sub ⟨rfl,rfl,rfl,av⟩,?_⟩;(try dsimp only)
  first
  | exact ⟨by simp_all [kr,bL,gD,jo],fun _ _ h=>h,rfl,fun h7=>by first|omega|(exfalso;simp_all)⟩
  | exact ⟨by simp_all [kr,bL,gD,jo],wT,rfl,fun h7=>by first|omega|(exfalso;simp_all)⟩
 clear H;rintro ⟨s1,g⟩ a w hI H;dsimp only at hI H;obtain ⟨hP,zw,arV,ht7⟩:=hI;rw [hP,tq rfl] at hE;dsimp only at hE;replace hck:=hck.mono zw;replace hh:=hh.mono zw;replace hf:=hf.mono zw;replace hr:=hr.mono zw;dsimp only [lca,aO] at H;refine kP H (SQ fun _ jQ=>SR fun _ lC=>Rm rfl (aR gH aD 1 rfl rfl (Rf GZ rfl ?_)));clear H;intro a H;refine bK lU (cs:=[_,_,_,_,_]) H wn rfl rfl (H.hp.fG 1 rfl rfl) rfl ?_;clear H;intro a H;refine gW Jo (Li:=[_,_]) (L:=gQ b ms ml mr mb mu s1.n :: (mb,fF (gV s1.aY)) :: L) H wn rfl (JI _ _ _ st li rv b ms ml mr mb mu _ hck (Hp.owns (Li:=[_,_]) H.hp) x.kind x.head _ _ _ hh (by omega)) rfl ?_;clear H;rintro v90 _ _ a w ⟨rfl,rfl,rfl⟩ - H;dsimp only [lca,aO] at H;refine kH H (ak lC rfl (SR fun _ lD=>Rm rfl (Rc rfl (Kz lD (Cd rfl ?_ ?_))))) <;> clear H lC lD
 ·intro zm a H
  try have Kg:=dT zm
  have hF1:(eP (aK st li rv) body note t x s).1=fI (aK st li rv) x.kind x.head:=by rw [hE,uq (r:=(fI (aK st li rv) x.kind x.head,s1)) Kg]
  have hF2:(eP (aK st li rv) body note t x s).1=0→s1=(eP (aK st li rv) body note t x s).2:=fun h=>absurd (hF1.symm.trans h) Kg;exact kP H (SR fun _ lX=>Rm rfl (ak lX rfl (LR results103 rfl fun H=>H.hp.bU (L':=gQ b ms ml mr mb mu (s1.n) :: (mb,fF (gV (s1.aY))) :: L) (by repeat (first|exact cu _|apply List.Sublist.cons)) ⟨s1,ay vi hF1.symm,rfl,hF2⟩)))
 intro zm a H
 try have Kg:=dF zm
 rw [tq (r:=(fI (aK st li rv) x.kind x.head,s1)) (gL.1 Kg)] at hE;dsimp only at hE;refine kP H (Kc jQ (SQ fun _ lY=>SR fun _ lZ=>aR gH aD 1 rfl rfl (Kz lZ (SB (SR fun _ mV=>Rc rfl (ak mV rfl (Cd rfl ?_ ?_))))))) <;> clear H jQ lZ mV
 ·intro uI a H
  try have MZ:=dT uI
  rw [au MZ] at hE;refine kP H (SR fun _ qX=>Rm rfl (aR Bh jy 1 rfl rfl (aR LX aD 0 rfl rfl ?_)));clear H;intro a H;refine mq FT [_,_,_] H wn rfl rfl rfl rfl ?_;clear H;intro a H;refine gW LH (Li:=[_,_]) (L:=gQ b ms ml mr mb mu s1.n :: (mb,fF (gV s1.aY)) :: L) H wn rfl (ih _ _ _ st li rv b ms ml mr mb mu s1 x.flow _ false true t hck (Hp.owns (Li:=[_,_]) H.hp) hf (by omega) ht0 BG (by omega) (by omega)) rfl ?_;clear H;rintro asq _ _ a w ⟨rfl,s3,rfl,rfl,h3⟩ - H;dsimp only [lca,aO] at H
  have hF1:(eP (aK st li rv) body note t x s).1=(gU (aK st li rv) false true t x.flow s1).1:=by rw [hE]
  have hF2:(eP (aK st li rv) body note t x s).1=0→s3=(eP (aK st li rv) body note t x s).2:=by rw [hE];exact h3
  exact kH H (ak qX rfl (LR results103 rfl fun H=>H.hp.bU (L':=gQ b ms ml mr mb mu (s3.n) :: (mb,fF (gV (s3.aY))) :: L) (by repeat (first|exact cu _|apply List.Sublist.cons)) ⟨s3,ay vi hF1.symm,rfl,hF2⟩))
 intro uI a H
 try have MZ:=dF uI
 rw [ah MZ] at hE;refine kP H (SR fun _ vX=>Rc rfl (ak vX rfl (Cd rfl ?_ ?_))) <;> clear H vX
 ·intro sj a H
  try have Ke:=dT sj
  rw [au Ke] at hE;refine kP H (SR fun _ kY=>Rm rfl (aR qH qR 1 rfl rfl (aR Sm sS 0 rfl rfl (aR LX aD 0 rfl rfl (Rd rfl ?_)))));clear H;intro a H;refine mq FT [_,_,_] H wn rfl rfl rfl rfl ?_;clear H;intro a H;refine gW agN (Li:=[_,_]) (L:=gQ b ms ml mr mb mu s1.n :: (mb,fF (gV s1.aY)) :: L) H wn rfl (rows_ok ih hm _ _ _ st li rv b ms ml mr mb mu s1 x.rows _ note (t+1) hck (Hp.owns (Li:=[_,_]) H.hp) hr (by omega) (by omega) (by have:=ht7 Ke;omega) (by omega) (by omega)) rfl ?_;clear H;rintro adI _ _ a w ⟨s3,rfl,rfl,h3⟩ - H;dsimp only [lca,aO] at H
  have hF1:(eP (aK st li rv) body note t x s).1=(kD x.rows.length (fun s=>gN (aK st li rv) note (t+1) x.rows s) s1).1:=by rw [hE]
  have hF2:(eP (aK st li rv) body note t x s).1=0→s3=(eP (aK st li rv) body note t x s).2:=by rw [hE];exact h3
  exact kH H (ak kY rfl (LR results103 rfl fun H=>H.hp.bU (L':=gQ b ms ml mr mb mu (s3.n) :: (mb,fF (gV (s3.aY))) :: L) (by repeat (first|exact cu _|apply List.Sublist.cons)) ⟨s3,ay vi hF1.symm,rfl,hF2⟩))
 intro sj a H
 try have Ke:=dF sj
 rw [ah Ke] at hE
 have hF1:(eP (aK st li rv) body note t x s).1=0:=by rw [hE]
 have hF2:(eP (aK st li rv) body note t x s).1=0→s1=(eP (aK st li rv) body note t x s).2:=fun h=>by rw [hE]
 exact kP H (Kc lY (SR fun _ yQ=>ak yQ rfl (LR results103 rfl fun H=>H.hp.bU (L':=gQ b ms ml mr mb mu (s1.n) :: (mb,fF (gV (s1.aY))) :: L) (by repeat (first|exact cu _|apply List.Sublist.cons)) ⟨s1,ay vi hF1.symm,rfl,hF2⟩)))
end
section
open Go.RowKit
theorem agn:∀ args w,(callFunc 103 args).run prog w=.ok (.enter 103 args) w:=enters func103 rfl (by kernel_rfl)
theorem agm:∀ args w,(callFunc 102 args).run prog w=.ok (.enter 102 args) w:=enters func102 rfl (by kernel_rfl)
def Xk (fv:aj) (Gi:GH) (n:Nat) (E:Nat→Int) {σ:Type} (B:σ→OL) (S:Nat→σ):Prop:=∀ i,i < n→∀ (G1:GH) (w1:World),(∀ b o,Gi b=some o→G1 b=some o)→iT G1 (B (S i)) w1 →
 yN prog fv [vi i] w1 (iE w1 G1 (B (S i)) fun u G' L'=>∃ s,u=vi (E i)∧L'=B s∧(E i=0→s=S (i+1)))
theorem aeO (G:GH) (w0:World) {σ:Type} (B:σ→OL) (S:Nat→σ) (n:Nat) (E:Nat→Int) (fv:aj) (hO:iT G (B (S 0)) w0) (hn:n≤4611686018427387904) (hf:Xk fv G n E B S) :
  Calls prog 101 #[vi n,fv] w0 (iE w0 G (B (S 0)) fun u G' L'=>∃ s,u=vi (iw E n)∧L'=B s∧(iw E n=0→s=S n)):=by
 refine kS (N:=18) (T:=[(0,_),(1,_)]) func101 rfl ntmps101 rfl rfl hO ?_;intro a H;refine kP H (SR fun _ K1=>ak K1 rfl (SQ fun _ K2=>SR fun _ K3=>Rm rfl (Rm rfl (Kz K3 (SB ?_)))));clear H K1 K3;intro a H;skip;refine dV (ι:=Nat × GH) (Tc:=[(1,_),(7,_)]) (Lc:=[]) (fun gh=>[(8,vi gh.1)]) (fun gh=>[]++B (S gh.1)) (fun gh=>gh.2) (fun gh=>gh.1≤n∧bO (((List.range n).map E).drop gh.1)=iw E n∧(∀ b o,G b=some o→gh.2 b=some o)) (fun gh=>n - gh.1) ((0,G)) (by exact (H).sub ⟨rfl,rfl,rfl,av⟩) ?_ ?_
 ·exact ⟨fQ _,rfl,fun _ _ h=>h⟩
 clear H;rintro ⟨k,g⟩ a w hI H;dsimp only at hI H;obtain ⟨hk,he,hgm⟩:=hI;dsimp only [lca,aO] at H;refine kP H (SR fun _ K4=>Rc rfl (Kz K4 (SQ fun _ K5=>Cd rfl ?_ ?_))) <;> clear H K4
 ·intro h9 a H
  try have p9:=dT h9
  have hk2:k < n:=by omega
  refine kP H (Kc K5 (SQ fun _ K6=>SB (SR fun _ K7=>Rm rfl (ak K7 rfl (SR fun _ K8=>Rm rfl (Rm rfl ?_))))));clear H K5 K7;intro a H;refine rP (Li:=[]) (L:=B (S k)) H wn rfl rfl (hf k hk2 _ _ hgm (Hp.owns (Li:=[]) H.hp)) rfl ?_;clear H;rintro v13 qB L13 a w ⟨s3,rfl,rfl,h3⟩ ql H;refine kH H (ak K8 rfl (SR fun _ K9=>Rm rfl (Rc rfl (Kz K9 (Cd rfl ?_ ?_))))) <;> clear H K8 K9
  ·intro jV a H
   try have qo:=dT jV
   have hE:iw E n=E k:=by rw [qE hk2,au qo] at he;exact he.symm
   exact kP H (SR fun _ aU=>Rm rfl (ak aU rfl (LR results101 rfl fun H=>H.hp.gB ⟨s3,by rw [hE],rfl,fun h=>absurd (hE.symm.trans h) qo⟩)))
  intro jV a H
  try have qo:=dF jV
  have hS:=h3 (gL.1 qo);subst hS;refine kP H (Kc K6 (SC (Rd rfl (Rm rfl ?_))));clear H K6;intro a H;refine aH ?_;refine cB ((k+1,qB)) (by exact (H).sub ⟨rfl,rfl,rfl,av⟩) ?_ ?_
  ·(try dsimp only);exact ⟨by omega,by rw [qE hk2,ah qo] at he;exact he,fun b o h=>ql b o (hgm b o h)⟩
  first|omega|(dsimp only;omega)
 intro h9 a H
 try have p9:=dF h9
 refine dJ ?_;refine K2 _ _ ?_;clear K2;exact kP H (SR fun _ bD=>ak bD rfl (LR results101 rfl fun H=>H.hp.gB ⟨S n,ay vi (by rw [eU (by simp;omega)] at he;exact he),by rw [show k=n by omega],fun _=>rfl⟩))
abbrev NU (b ms ml mr mb mu:Nat) (L:OL) (s:CS):OL:=gQ b ms ml mr mb mu s.n :: (mb,fF (gV s.aY)) :: L
theorem ami {m:Nat} (ih:I4 m) (hm:m≤4294967296) {G:GH} {L:OL} {st:List bS} {li:List dR} {rv:List dU} {b ms ml mr mb mu:Nat} {s:CS} {l:List aC} {v:aj} {body note:Bool} {t:Int} {x3 x4 x5:Nat}
  (hck:xI G st li rv ms ml mr mu) (h3:aF G x3 0=some (aP b 0)) (h4:aF G x4 0=some v) (h5:∀ (j:Nat) (u:aj),[.bool body,.bool note,vi t][j]?=some u→aF G x5 (0+j)=some u)
  (hv:aB G (.sl 11 (l.map aC.dat)) v) (hz:bB l≤m) (ht0:0≤t) (BG:t≤4) (hs0:0≤s.n) (hs1:s.n+(bB l:Nat)≤1099511627776) :
  Xk (.func (.func 102) #[] #[(aP x3 0),(aP x4 0),(aP x5 0)]) G l.length (Dz (eP (aK st li rv) body note t) l s) (NU b ms ml mr mb mu L) (rQ (eP (aK st li rv) body note t) l s):=by
 intro k hk G1 w0 ME hO;refine nk (caps:=[(aP x3 0),(aP x4 0),(aP x5 0)]) agm ?_;replace h3:=aJ ME h3;replace h4:=aJ ME h4;replace h5:=fun j u hj=>aJ ME (h5 j u hj);replace hck:=hck.mono ME;replace hv:=hv.mono ME;obtain ⟨A,c,rfl,hc1,hc2,hg⟩:=hv.slice;rw [bN] at *;obtain ⟨o,xo,pA,pn,pc,dA,dn,dc,yA,yn,yc,fA,fn,fc,rA,rn,rc,rfl,hrow,hhd,hfl,hrw⟩:=Bl hk hg;obtain ⟨hn0,hn1⟩:=adG (aK st li rv) body note t l s k (by omega)
 have hdz:bB (l.drop k)=1+dh l[k].dat+bB (l.drop (k+1)):=by
  simp only [bB];rw [jw hk,dW,eu]
 have Ee:=KG (jD hk)
 have hE:Dz (eP (aK st li rv) body note t) l s k=(eP (aK st li rv) body note t l[k] (rQ (eP (aK st li rv) body note t) l s k)).1:=by unfold Dz;rw [fH hk]
 have hS:rQ (eP (aK st li rv) body note t) l s (k+1)=(eP (aK st li rv) body note t l[k] (rQ (eP (aK st li rv) body note t) l s k)).2:=by rw [rQ,fH hk]
 rw [hE,hS]
 generalize rQ (eP (aK st li rv) body note t) l s k=s1 at *
 refine kS (N:=13) (T:=[(0,_),(1,_),(2,_),(3,_)]) func102 rfl ntmps102 rfl rfl hO ?_;intro a H;refine kP H (SR fun _ K1=>ak K1 rfl (SQ fun _ K2=>?_));clear H K1;intro a H;refine dI hmx [[],[],[],[1,2],[1,2,3],[],(ra 0 6),(ra 0 7)] [6,7] (by kernel_rfl) [_,_,_,_,.agg #[vi l[k].kind,vi l[k].code,vi l[k].id,.string l[k].text,.slice pA pn pc,vi l[k].head.marks.ins,vi l[k].head.marks.move,.slice dA dn dc,.slice yA yn yc,.slice fA fn fc,.slice rA rn rc],.agg #[.bool body,.bool note,vi t]] H (aI (X0 rfl fun hG=>Rg KA rfl (aJ hG h3)) (X0 rfl fun hG=>Rg jy rfl (aJ hG h4)) (Z0 rfl (Rm rfl)) (Z2 1 7 2 8 rfl (Ri jM eH rfl rfl)) (aI ?_ ?_ (cZ rfl) (cZ rfl) dQ)) ?_
 ·refine fq 3 9 rfl rfl fun _ a w G1 hG HT H fin=>?_;refine bK eH (cs:=[_,_,_,_,_,_,_,_,_,_,_]) H wn rfl rfl (fun j v hj=>H.hp.aF (aJ hG (hrow j v hj))) rfl ?_;clear H;intro a H;exact fin H iJ rfl
 ·refine Dn rfl fun _ a w G1 hG HT H fin=>?_;refine bK Qp (cs:=[.bool body,.bool note,vi t]) H wn rfl rfl (fun j v hj=>H.hp.aF (aJ hG (h5 j v hj))) rfl ?_;clear H;intro a H;exact fin H iJ rfl
 clear H;intro a w G sH H hv;have H:=H.bC (hv 0 6 rfl rfl) rfl;have H:=H.bC (hv 4 10 rfl rfl) rfl;have H:=H.bC (hv 5 11 rfl rfl) rfl;clear hv;refine gW agn (Li:=[]) (L:=NU b ms ml mr mb mu L s1) H wn rfl (amj ih hm _ _ _ st li rv b ms ml mr mb mu s1 l[k] _ _ _ _ _ body note t (hck.mono sH) (Hp.owns (Li:=[]) H.hp) (hhd.mono sH) (hfl.mono sH) (hrw.mono sH) (by omega) ht0 BG (by omega) (by omega)) rfl ?_;clear H;rintro v12 _ _ a w ⟨s3,rfl,rfl,h12⟩ - H;dsimp only [List.nil_append] at H;refine kH H (Ra rfl ?_);clear H;intro a H;refine aH ⟨rfl,?_⟩;refine K2 _ _ ?_;clear K2;refine lr H results102 rfl ?_;exact H.hp.gB ⟨s3,rfl,rfl,h12⟩
theorem aml {m:Nat} (ih:I4 m) (hm:m≤4294967296):I4 (m+1):=by
 intro G L w0 st li rv b ms ml mr mb mu s l v body note t hck hO hv hz ht0 BG hs0 hs1;obtain ⟨hA1,hA2⟩:=abv (aK st li rv) body note t l s;refine Calls.aeV (R:=fun u G' L'=>Nl b ms ml mr mb mu L (gU (aK st li rv) body note t l s) u L') ?_ fun _ _ _ h=>h;obtain ⟨A,c,rfl,hc1,hc2,-⟩:=hv.slice;rw [bN] at *;have hll:=Dg l;refine kS (N:=11) (T:=[(0,_),(1,_),(2,_)]) func46 rfl ntmps46 rfl rfl hO ?_;intro a H;refine cO (fun _ K1=>?_);refine fD (cs:=[_]) H wn rfl rfl rfl ?_;clear H;intro b3 a w hb3 H;refine fD (cs:=[_]) H wn rfl rfl rfl ?_;clear H;intro b4 a w hb4 H;refine fD (cs:=[_,_,_]) H wn rfl rfl rfl ?_;clear H;intro b5 a w hb5 H;refine kH H (ak K1 rfl (SQ fun _ K2=>?_));clear H K1;intro a H;obtain ⟨Ga5,OW,zu,H⟩:=H.eD;obtain ⟨Ga4,JN,BA,H⟩:=H.eD;obtain ⟨Ga,Fy,Hy,H⟩:=H.eD;replace zu:=Fy _ _ (JN _ _ zu);replace BA:=Fy _ _ BA;have hma:∀ b o,G b=some o→Ga b=some o:=fun b o h=>Fy _ _ (JN _ _ (OW _ _ h))
 have g3:aF Ga b3 0=some (aP b 0):=by unfold aF;rw [Hy];rfl
 have g4:aF Ga b4 0=some (.slice A l.length c):=by unfold aF;rw [BA];rfl
 have g5:∀ (j:Nat) (u:aj),[.bool body,.bool note,vi t][j]?=some u→aF Ga b5 (0+j)=some u:=by
  intro j u hj;unfold aF;rw [zu];simpa using hj
 have hcb:=ami (mb:=mb) (L:=L) (s:=s) ih hm (hck.mono hma) g3 g4 g5 (hv.mono hma) (by omega) ht0 BG hs0 hs1;refine kP H (SC (Rg jy rfl (by assumption) ?_));clear H;intro a H;refine kH H (Rl jM rfl ?_);clear H;intro a H;refine pO H wn rfl rfl ?_;clear H;intro a H;refine gW Jl (Li:=[]) (L:=NU b ms ml mr mb mu L s) H wn rfl (aeO _ _ (NU b ms ml mr mb mu L) (rQ (eP (aK st li rv) body note t) l s) l.length (Dz (eP (aK st li rv) body note t) l s) _ (Hp.owns (Li:=[]) H.hp) (by omega) hcb) rfl ?_;clear H;rintro v10 _ _ a w ⟨s3,rfl,rfl,h10⟩ - H;dsimp only [List.nil_append] at H;exact kH H (aL K2 rfl (LR results46 rfl fun H=>H.hp.gB ⟨s3,by rw [hA1],rfl,fun h=>by rw [hA1] at h;exact (h10 h).trans (hA2 (hA1.trans h)).symm⟩))
theorem Px:∀ m:Nat,m≤4294967297→I4 m
 | 0,_=>fun _ _ _ _ _ _ _ _ _ _ _ _ _ _ _ _ _ _ _ _ _ h=>absurd h (by omega)
 | m+1,hm=>aml (Px m (by omega)) (by omega)
end
section
open Go.RowKit
theorem Zu:dL prog 82 1 1:=⟨by kernel_rfl⟩
theorem Sl:dL prog 82 2 2:=⟨by kernel_rfl⟩
theorem agz:∀ args w,(callFunc 132 args).run prog w=.ok (.enter 132 args) w:=enters func132 rfl (by kernel_rfl)
theorem agy:∀ args w,(callFunc 130 args).run prog w=.ok (.enter 130 args) w:=enters func130 rfl (by kernel_rfl)
theorem aoC {G:GH} {bl:Nat} {l:List dU} {A:Option Addr} {n c:Nat} (hb:aF G bl 0=some (.slice A n c)) (hv:aB G (.sl 3 (l.map dU.dat)) (.slice A n c)):uY (.func (.func 132) #[] #[(aP bl 0)]) G l.length fun k=>(l[k]?.map dU.id).getD 0:=by
 intro k hk G1 w0 hm hG;refine nk (caps:=[(aP bl 0)]) agz ?_;replace hb:=aJ hm hb
 obtain rfl:n=l.length:=by have:=hv.len;simpa using this
 obtain ⟨b,o,rfl,hrow⟩:=IG (hv.mono hm) hk;have hq:=hrow 0 _ rfl;refine eN [(0,_),(1,_)] func132 rfl ntmps132 rfl rfl hG ?_;intro a H;refine kP H (SR fun _ K1=>ak K1 rfl (SR fun _ K2=>Rg vU rfl (by assumption) ?_));clear H K1;intro a H;refine kH H (Rm rfl (Ri vV yJ rfl rfl (Rf Ju rfl (Rg aD rfl (by assumption) ?_))));clear H;intro a H;exact kH H (ak K2 rfl (LR results132 rfl fun H=>H.rt (by dsimp only;rw [fH hk];rfl)))
def M5 (l:List dU) (i:Nat) (x:dU):Int:=bO [kK (fun k=>(l[k]?.map dU.id).getD 0) i,bL (!qb x.author) 39,bL (!decide (0≤x.time∧x.time≤1099511627776)) 40]
def yF (l:List dU) (i:Nat):Int:=match l[i]? with|some x=>M5 l i x|none=>0
theorem aoq {G:GH} {bl:Nat} {l:List dU} {A:Option Addr} {n c:Nat} (hb:aF G bl 0=some (.slice A n c)) (hv:aB G (.sl 3 (l.map dU.dat)) (.slice A n c)) (hl:l.length≤4294967296) (ht:∀ x∈l,x.author.size < 4611686018427387904):uY (.func (.func 130) #[] #[(aP bl 0)]) G l.length (yF l):=by
 intro k hk G1 w0 hm hG;refine nk (caps:=[(aP bl 0)]) agy ?_;replace hb:=aJ hm hb;replace hv:=hv.mono hm;have hcb:=aoC hb hv
 obtain rfl:n=l.length:=by have:=hv.len;simpa using this
 obtain ⟨b,o,rfl,hrow⟩:=IG hv hk;have hte:=ht _ (jD hk)
 have he:yF l k=M5 l k l[k]:=by unfold yF;rw [fH hk]
 obtain ⟨x,hx⟩:∃ x,x=l[k]:=⟨_,rfl⟩;rw [← hx] at hrow hte he;refine eN [(0,_),(1,_)] func130 rfl ntmps130 rfl rfl hG ?_;intro a H;refine kP H (SR fun _ K1=>ak K1 rfl (SQ fun _ K2=>?_));clear H K1;intro a H;have H:=H.sub (T':=[(0,_),(1,_)]) ⟨rfl,rfl,av⟩;refine dI hmx [[],[],[0,1],[],[],[3,4],[3,4,5],(ra 3 4),(ra 0 8),(ra 0 9),(ra 0 10),[],[],[11,12],[11,12,13],(ra 11 4),(ra 0 16),(ra 0 17),(ra 0 18),(ra 0 19),(ra 0 20),(ra 0 21)] [19,20,21] (by kernel_rfl) [_,.func (.func 132) #[] #[(aP bl 0)],vi (kK (fun k=>(l[k]?.map dU.id).getD 0) k),_,_,_,_,_,.bool (qb x.author),_,vi (bL (!qb x.author) 39),_,_,_,_,_,.bool (decide (0≤x.time∧x.time≤1099511627776)),_,vi (bL (!decide (0≤x.time∧x.time≤1099511627776)) 40)] H (aI (Z0 rfl (Rm rfl)) ?_ ?_ (X0 rfl fun hG=>Rg vU rfl (aJ hG hb)) (aI (Z0 rfl (Rm rfl)) (Z2 3 7 4 8 rfl (Ri vV yJ rfl rfl)) (Z1 5 9 rfl (Rf Zu rfl)) (X1 6 10 rfl fun hG=>Rg gZ rfl (aJ hG (hrow 1 _ rfl))) (aI ?_ (Z1 8 12 rfl (Rn rfl)) ?_ (X0 rfl fun hG=>Rg vU rfl (aJ hG hb)) (aI (Z0 rfl (Rm rfl)) (Z2 11 15 12 16 rfl (Ri vV yJ rfl rfl)) (Z1 13 17 rfl (Rf Sl rfl)) (X1 14 18 rfl fun hG=>Rg aD rfl (aJ hG (hrow 2 _ rfl))) (aI ?_ (Z1 16 20 rfl (Rn rfl)) ?_ (cZ rfl) (bG (cZ rfl) (bG (cZ rfl) dQ))))))) ?_
 ·refine Dn rfl fun _ a w G1 hG HT H fin=>?_;refine pO H wn rfl rfl ?_;clear H;intro a H;exact fin H iJ rfl
 ·refine fu 0 4 1 5 rfl rfl fun _ a w G1 hG HT H fin=>?_;refine s_call RA H wn rfl (Vd _ _ H.ro k _ _ (by omega) (fun i hi=>(hcb.mono hG) i (by omega))) rfl ?_;clear H;rintro v6 G6 a w rfl lI H;exact fin H lI (rfl)
 ·refine fq 7 11 rfl rfl fun _ a w G1 hG HT H fin=>?_;refine s_call YS H wn rfl (XY _ _ H.ro x.author hte) rfl ?_;clear H;rintro v12 zU a w ⟨rfl,-⟩ tH H;exact fin H tH (rfl)
 ·refine fq 9 13 rfl rfl fun _ a w G1 hG HT H fin=>?_;refine s_call kg H wn rfl (ku _ _ H.ro _ 39) rfl ?_;clear H;rintro v14 tZ a w ⟨rfl,-⟩ Tm H;exact fin H Tm (rfl)
 ·refine fq 15 19 rfl rfl fun _ a w G1 hG HT H fin=>?_;refine s_call za H wn rfl (zB _ _ H.ro x.time 0 1099511627776) rfl ?_;clear H;rintro v20 IX a w ⟨rfl,-⟩ Tp H;exact fin H Tp (rfl)
 ·refine fq 17 21 rfl rfl fun _ a w G1 hG HT H fin=>?_;refine s_call kg H wn rfl (ku _ _ H.ro _ 40) rfl ?_;clear H;rintro v22 Xa a w ⟨rfl,-⟩ vJ H;exact fin H vJ (rfl)
 clear H;intro a w G sH H hv;have H:=H.bC (hv 2 6 rfl rfl) rfl;have H:=H.bC (hv 10 14 rfl rfl) rfl;have H:=H.bC (hv 18 22 rfl rfl) rfl;clear hv;refine jd qV iO [_,_,_] [_,_,_] H wn rfl rfl rfl rfl rfl (by intro i q h;match i,h with|0,h=>exact h|1,h=>exact h|2,h=>exact h|n+3,h=>simp at h) rfl rfl ?_;clear H;intro b23 a w ark H;obtain ⟨G23,akt,ajB,H⟩:=H.eD;refine s_call rY H wn rfl (rZ _ _ H.ro _ _ (Ii [kK (fun k=>(l[k]?.map dU.id).getD 0) k,bL (!qb x.author) 39,bL (!decide (0≤x.time∧x.time≤1099511627776)) 40] ajB (show 3≤maxLen by decide))) rfl ?_;clear H;rintro v24 _ a w ⟨rfl,rfl⟩ - H;refine kH H (Ra rfl ?_);clear H;intro a H;refine aH ⟨rfl,?_⟩;refine K2 _ _ ?_;clear K2;refine lr H results130 rfl ?_;exact H.rt (by rw [he,M5])
def xQ (l:List dU):Int:=bO [bL (decide (256 < (l.length:Int))) 9,iw (yF l) (min l.length 256)]
theorem afH (G:GH) (w0:World) (hG:Hold G w0) (l:List dU) (v:aj) (hv:aB G (.sl 3 (l.map dU.dat)) v) (hl:l.length≤4294967296) (ht:∀ x∈l,x.author.size < 4611686018427387904) :
  Calls prog 74 #[v] w0 (bV w0 G fun u G'=>u=vi (xQ l)):=by
 obtain ⟨A,c,rfl,hc1,hc2,-⟩:=hv.slice;rw [bN] at *;refine eN [(0,_)] func74 rfl ntmps74 rfl rfl hG ?_;intro a H;refine cO (fun _ K1=>?_);refine fD (cs:=[_]) H wn rfl rfl rfl ?_;clear H;intro b1 a w hb1 H;refine kH H (ak K1 rfl (SQ fun _ K2=>?_));clear H K1;intro a H;have H:=H.sub (T':=[(1,_)]) ⟨rfl,av⟩;obtain ⟨Ga,hma,hb1',H⟩:=H.eD
 have hbl:aF Ga b1 0=some (.slice A l.length c):=by unfold aF;rw [hb1'];rfl
 have hcb:=aoq hbl (hv.mono hma) hl ht;refine dI hmx [[],[0],[0,1],[0,1,2],[],[4],[4,5],[],(ra 0 8),(ra 0 9),(ra 0 10),(ra 0 11)] [9,10,11] (by kernel_rfl) [_,_,_,vi (bL (decide (256 < (l.length:Int))) 9),_,_,vi ((min l.length 256:Nat):Int),.func (.func 130) #[] #[(aP b1 0)],vi (iw (yF l) (min l.length 256))] H (aI (X0 rfl fun hG=>Rg vU rfl (aJ hG hbl)) (Z1 0 3 rfl (Rl vV rfl)) (Z1 1 4 rfl (Rc rfl)) ?_ (aI (X0 rfl fun hG=>Rg vU rfl (aJ hG hbl)) (Z1 4 7 rfl (Rl vV rfl)) ?_ ?_ (aI ?_ (cZ rfl) (cZ rfl) (cZ rfl) dQ))) ?_
 ·refine fq 2 5 rfl rfl fun _ a w G1 hG HT H fin=>?_;refine s_call kg H wn rfl (ku _ _ H.ro _ 9) rfl ?_;clear H;rintro v6 G6 a w ⟨rfl,-⟩ lI H;exact fin H lI (rfl)
 ·refine fq 5 8 rfl rfl fun _ a w G1 hG HT H fin=>?_;refine Qf H wn rfl rfl rfl ?_;clear H;intro a H;exact fin H iJ (ay vi (by omega))
 ·refine Dn rfl fun _ a w G1 hG HT H fin=>?_;refine pO H wn rfl rfl ?_;clear H;intro a H;exact fin H iJ rfl
 ·refine fu 6 9 7 10 rfl rfl fun _ a w G1 hG HT H fin=>?_;refine s_call Jl H wn rfl (Lg _ _ H.ro (min l.length 256) (yF l) _ (by omega) ((hcb.mono hG).le (Nat.min_le_left _ _))) rfl ?_;clear H;rintro v11 zT a w rfl zo H;exact fin H zo (rfl)
 clear H;intro a w G sH H hv;have H:=H.bC (hv 3 6 rfl rfl) rfl;have H:=H.bC (hv 8 11 rfl rfl) rfl;clear hv;refine jd qV iO [_,_] [_,_] H wn rfl rfl rfl rfl rfl (by intro i q h;match i,h with|0,h=>exact h|1,h=>exact h|n+2,h=>simp at h) rfl rfl ?_;clear H;intro b12 a w D5 H;obtain ⟨zU,Cy,Hw,H⟩:=H.eD;refine s_call rY H wn rfl (rZ _ _ H.ro _ _ (AA Hw)) rfl ?_;clear H;rintro v13 _ a w ⟨rfl,rfl⟩ - H;refine kH H (Ra rfl ?_);clear H;intro a H;refine aH ⟨rfl,?_⟩;refine K2 _ _ ?_;clear K2;refine lr H results74 rfl ?_;exact H.rt rfl
theorem pq:∀ {l:List Int},bO l=0→∀ x∈l,x=0
 | [],_,_,h=>by cases h
 | e :: r,h,x,hx=>by
  unfold bO at h
  by_cases he:e=0
  ·rw [ah (fun h'=>h' he)] at h
   rcases nG.1 hx with rfl|hx
   ·exact he
   exact pq h x hx
  rw [au he] at h;exact absurd h he
theorem Le {E:Nat→Int} {n:Nat} (h:iw E n=0) (i:Nat) (hi:i < n):E i=0:=pq h _ (by simp;exact ⟨i,hi,rfl⟩)
theorem Vb {id:Nat→Int} {i:Nat} (h:kK id i=0):1≤id i∧id i≤1073741824∧(0 < i→id (i - 1) < id i):=by
 unfold kK at h
 by_cases h1:1≤id i∧id i≤1073741824
 ·rw [ah (fun h'=>h' h1)] at h
  by_cases h2:0 < i∧id i=id (i - 1)
  ·rw [au h2] at h;cases h
  rw [ah h2] at h
  by_cases h3:0 < i∧id i < id (i - 1)
  ·rw [au h3] at h;cases h
  exact ⟨h1.1,h1.2,fun h0=>by omega⟩
 rw [au h1] at h;cases h
theorem abo {l:List Int} (h:∀ i (h:i+1 < l.length),l[i] < l[i+1]):zS l:=by
 have hlt:∀ (j i:Nat) (hj:j < l.length) (hi:i < j),l[i] < l[j]:=by
  intro j
  induction j with
  | zero=>intro i _ hi;omega
  | succ j ih =>
   intro i hj hi;have h1:=h j hj
   by_cases e:i=j
   ·subst e;exact h1
   have:=ih i (by omega) (by omega);omega
 intro k hk hm;obtain ⟨i,hi,he⟩:=List.getElem_of_mem hm;rw [List.length_take] at hi;have:=hlt k i hk (by omega);rw [List.getElem_take] at he
 omega
theorem aor {l:List dU} (h:xQ l=0):zS (l.map dU.id):=by
 have h1:=pq h _ (jg);have h2:=pq h _ (sW _ jg)
 have hl:l.length≤256:=by
  unfold bL at h1
  by_cases hd:256 < (l.length:Int)
  ·rw [au (aG hd)] at h1;cases h1
  omega
 refine abo fun i hi=>?_;rw [bN] at hi;have h3:=Le h2 (i+1) (by omega)
 unfold yF at h3
 rw [fH hi] at h3;have h4:=(Vb (pq h3 _ jg)).2.2 (by omega);rw [Nat.add_sub_cancel,fH hi,fH (show i < l.length by omega)] at h4
 simpa using h4
theorem amy {l:List dR} (h:wC l=0):zS (l.map dR.id):=by
 have h1:=pq h _ (jg);have h2:=pq h _ (sW _ jg)
 have hl:l.length≤64:=by
  unfold bL at h1
  by_cases hd:64 < (l.length:Int)
  ·rw [au (aG hd)] at h1;cases h1
  omega
 refine abo fun i hi=>?_;rw [bN] at hi;have h3:=Le h2 (i+1) (by omega)
 unfold yx at h3
 have h4:=(Vb (pq h3 _ jg)).2.2 (by omega);rw [Nat.add_sub_cancel,fH hi,fH (show i < l.length by omega)] at h4
 simpa using h4
theorem adh {l:List bS} (h:gM l=0):zS (l.map bS.id):=by
 unfold gM at h
 by_cases h1:128 < l.length
 ·rw [au h1] at h;cases h
 rw [ah h1] at h
 by_cases h2:uF (BK l) 0 l.length≠0
 ·rw [au h2] at h;exact absurd h h2
 intro k hk;rw [bN] at hk;have:=acg (gL.1 h2) k hk;rw [← List.map_take,List.getElem_map];exact this
end
section
open Go.RowKit
theorem ahE:∀ args w,(callFunc 45 args).run prog w=.ok (.enter 45 args) w:=enters func45 rfl (by kernel_rfl)
theorem Wx:Ty prog 36 4 96 [.slice none 0 0,.slice none 0 0,.slice none 0 0,.slice none 0 0] true:=⟨by kernel_rfl,by kernel_rfl⟩
theorem ahJ:∀ args w,(callFunc 73 args).run prog w=.ok (.enter 73 args) w:=enters func73 rfl (by kernel_rfl)
theorem ahK:∀ args w,(callFunc 74 args).run prog w=.ok (.enter 74 args) w:=enters func74 rfl (by kernel_rfl)
theorem DF:dL prog 38 1 1:=⟨by kernel_rfl⟩
theorem Cu (e:Int):bO [e]=e:=by
 by_cases h:e=0 <;> simp [bO,h]
structure oC where
 flow:List aC
 fin:dz
 revs:List dU
 lT:wo
structure yO (G:GH) (D:jP) (d:oC):Prop where
 fl:aB G (.sl 11 (d.flow.map aC.dat)) (bg D.f)
 hd:nS G d.fin (bg D.p) (bg D.d) (bg D.y)
 ins:D.ins=d.fin.marks.ins
 mv:D.move=d.fin.marks.move
 rv:aB G (.sl 3 (d.revs.map dU.dat)) (bg D.r)
 st:Dp G d.lT (bg D.s1) (bg D.s2) (bg D.s3) (bg D.s4)
theorem Dp.mono {G G':GH} (hm:∀ b o,G b=some o→G' b=some o) {s:wo} {a b c d:aj} (h:Dp G s a b c d):Dp G' s a b c d:=⟨h.st.mono hm,h.li.mono hm,h.cm.mono hm,h.va.mono hm⟩
theorem yO.mono {G G':GH} (hm:∀ b o,G b=some o→G' b=some o) {D:jP} {d:oC} (h:yO G D d):yO G' D d:=⟨h.fl.mono hm,h.hd.mono hm,h.ins,h.mv,h.rv.mono hm,h.st.mono hm⟩
structure IV (d:oC):Prop where
 fl:bB d.flow≤1073741824
 hd:pU d.fin≤4294967296
 rn:d.revs.length≤4294967296
 rt:∀ x∈d.revs,x.author.size < 4611686018427387904
 sn:d.lT.styles.length≤4294967296
 st:Ld d.lT
abbrev oC.nJ (d:oC):eZ:=aK d.lT.styles d.lT.lists d.revs
def rO (m:yR):Bool:=decide ((m.ins≠0∨m.move≠0)∨0 < (m.bJ.length:Int))
def iW (d:oC):Int:=bO [bO [kR d.lT,xQ d.revs],bO [fI d.nJ 3 d.fin,bL (rO d.fin.marks) 21],(gU d.nJ true false 0 d.flow ⟨0,[]⟩).1,bL (decide (16384 < (gU d.nJ true false 0 d.flow ⟨0,[]⟩).2.n)) 9]
theorem afK (G:GH) (w0:World) (hG:Hold G w0) (D:jP) (d:oC) (hR:yO G D d) (hz:IV d) :
  Calls prog 27 #[D.val] w0 (bV w0 G fun u G'=>u=vi (iW d)):=by
 obtain ⟨df,dp,dd,dy,dr,d1,d2,d3,d4,ins,mv⟩:=D;obtain ⟨hfl,hhd,hin,hmv,mO,hst⟩:=hR;dsimp only at hfl hhd hin hmv mO hst;subst hin;subst hmv;obtain ⟨zf,zh,zr,zt,zs,zg⟩:=hz;have hdl:=hhd.bJ.len;rw [bN] at hdl
 have hdn:d.fin.marks.bJ.length≤4294967296:=by
  have h1:=Df d.fin;have h2:=nC (d.fin.marks.bJ.map kV.dat);rw [bN] at h2;omega
 refine eN [(0,_)] func27 rfl ntmps27 rfl rfl hG ?_;intro a H;refine cO (fun _ K1=>?_);refine fD (cs:=[_,_,_,_,_,_,_,_,_,_,_]) H wn rfl rfl rfl ?_;clear H;intro b1 a w hb1 H;refine kH H (ak K1 rfl (SQ fun _ K2=>SQ fun _ K3=>?_));clear H K1;intro a H;refine dI hmx [[],[0],[0,1],[],[3],(ra 0 5),(ra 0 6),(ra 0 7),(ra 0 8)] [6,7,8] (by kernel_rfl) [_,.agg #[bg d1,bg d2,bg d3,bg d4],vi (kR d.lT),_,bg dr,vi (xQ d.revs)] H (aI (Z0 rfl (Rf DI rfl)) ?_ ?_ (Z0 rfl (Rf Bg rfl)) (aI (Z1 3 11 rfl (Ro vU 0 rfl)) ?_ (cZ rfl) (cZ rfl) (bG (cZ rfl) dQ))) ?_
 ·refine fq 0 8 rfl rfl fun _ a w G1 hG HT H fin=>?_;refine bK Wx (cs:=[_,_,_,_]) H wn rfl rfl (H.hp.fG 0 rfl rfl) rfl ?_;clear H;intro a H;exact fin H iJ rfl
 ·refine fq 1 9 rfl rfl fun _ a w G1 hG HT H fin=>?_;refine s_call ahJ H wn rfl (afI _ _ H.ro d.lT _ _ _ _ (hst.mono hG) zg) rfl ?_;clear H;rintro v10 Nq a w rfl vI H;exact fin H vI (rfl)
 ·refine fq 4 12 rfl rfl fun _ a w G1 hG HT H fin=>?_;refine s_call ahK H wn rfl (afH _ _ H.ro d.revs _ (mO.mono hG) zr zt) rfl ?_;clear H;rintro v13 qB a w rfl aiL H;exact fin H aiL (rfl)
 clear H;intro a w G sH H hv;have H:=H.bC (hv 2 10 rfl rfl) rfl;have H:=H.bC (hv 5 13 rfl rfl) rfl;clear hv;refine jd qV iO [_,_] [_,_] H wn rfl rfl rfl rfl rfl (by intro i q h;match i,h with|0,h=>exact h|1,h=>exact h|n+2,h=>simp at h) rfl rfl ?_;clear H;intro b14 a w TV H;obtain ⟨tZ,Fv,ajx,H⟩:=H.eD;have hg1:=fun b o h=>Fv b o (sH b o h);replace hfl:=hfl.mono hg1;replace hhd:=hhd.mono hg1;replace mO:=mO.mono hg1;replace hst:=hst.mono hg1;refine s_call rY H wn rfl (rZ _ _ H.ro _ _ (AA ajx)) rfl ?_;clear H;rintro v15 _ a w ⟨rfl,rfl⟩ - H;refine kH H (Ra rfl ?_);clear H;intro a H;refine aH ⟨rfl,?_⟩;refine K3 _ _ ?_;clear K3;refine kP H (SR fun _ K4=>Rm rfl (Rc rfl (Kz K4 (Cd rfl ?_ ?_)))) <;> clear H K4
 ·intro gu a H
  try have mo:=dT gu
  have hE:iW d=bO [kR d.lT,xQ d.revs]:=by rw [iW,bO,au mo]
  exact kP H (SR fun _ K5=>Rm rfl (ak K5 rfl (LR results27 rfl fun H=>H.rt (by rw [hE]))))
 intro gu a H
 try have mo:=dF gu
 have e1:=gL.1 mo;have s1:=pq e1 _ jg;have s2:=pq e1 _ (sW _ jg);have t1:=pq s1 _ jg;have t2:=pq s1 _ (sW _ jg);refine fT ?_;refine K2 _ _ ?_;clear K2;refine cO (fun _ K6=>?_);refine bK lV (cs:=[_,_,_,_,_,_,_,_,_,_,_]) H wn rfl rfl (H.hp.fG 0 rfl rfl) rfl ?_;clear H;intro a H;refine gW ahE (Li:=[_]) (L:=[]) H wn rfl (anb _ _ (Hp.owns (Li:=[_]) H.hp) ⟨df,dp,dd,dy,dr,d1,d2,d3,d4,d.fin.marks.ins,d.fin.marks.move⟩ d.lT.styles d.lT.lists d.revs hst.st hst.li mO (adh t1) (amy t2) (aor s2) zs zg.ln zr) rfl ?_;clear H;rintro v20 IX _ a w ⟨b,ms,ml,mr,mb,mu,rfl,rfl,hck⟩ JK H;dsimp only [lca,aO] at H;replace hfl:=hfl.mono JK;replace hhd:=hhd.mono JK;refine kH H (ak K6 rfl (SR fun _ K7=>Rf DF rfl (Rf vD rfl ?_)));clear H K6;intro a H;refine bK xq (cs:=[_,_,_,_]) H wn rfl rfl (H.hp.fG 0 rfl rfl) rfl ?_;clear H;intro a H;refine dY xq H wn rfl ?_;clear H;intro b5 a w hb5 H;refine bT xq 0 (vs:=[_,_,_,_]) _ H wn rfl rfl rfl rfl rfl rfl rfl rfl ?_;clear H;intro w H;dsimp only [List.set,setRow] at H;refine K7 _ _ ?_;clear K7;refine aN (fun _ K8=>?_);refine aN (fun _ K9=>?_)
 by_cases c0:d.fin.marks.ins≠0
 ·skip;have c1:d.fin.marks.ins≠0∨d.fin.marks.move≠0:=Or.inl c0;refine dI hmx [[],[],[1],[0,1,2],[],[4],[4,5],(ra 0 7),(ra 0 8),(ra 0 9),(ra 0 10),(ra 0 11),(ra 0 12),(ra 0 13),(ra 0 14),(ra 0 15),(ra 0 16),(ra 0 17),(ra 0 18),(ra 0 19),(ra 0 20),(ra 0 21)] [19,20,21] (by kernel_rfl) [_,_,Fq d.fin (bg dp) (bg dd) (bg dy),vi (fI d.nJ 3 d.fin),_,vi d.fin.marks.ins,_,_,undef,undef,undef,.bool (decide (d.fin.marks.ins≠0∨d.fin.marks.move≠0)),_,undef,undef,undef,undef,.bool (rO d.fin.marks),vi (bL (rO d.fin.marks) 21)] H (aI (Z0 rfl (Rm rfl)) (Z0 rfl (Rf DF rfl)) ?_ ?_ (aI (Z0 rfl (Rf uG rfl)) (Z1 4 28 rfl (Ro aD 0 rfl)) (Z1 5 29 rfl (Rc rfl)) (Z1 6 30 rfl (Rm rfl)) (aI (aV (j:=7) (by kernel_rfl) (fun _ _ _ _ _ h=>h) rfl rfl rfl rfl rfl (fun _ _ h=>aW h (aM (aG c0))) rfl (fun _=>rfl)) (aV (j:=7) (by kernel_rfl) (fun _ _ _ _ _ h=>h) rfl rfl rfl rfl rfl (fun _ _ h=>aW h (aM (aG c0))) rfl (fun _=>rfl)) (aV (j:=7) (by kernel_rfl) (fun _ _ _ _ _ h=>h) rfl rfl rfl rfl rfl (fun _ _ h=>aW h (aM (aG c0))) rfl (fun _=>rfl)) ?_ (aI (Z1 11 35 rfl (Rm rfl)) (aV (j:=12) (by kernel_rfl) (fun _ _ _ _ _ h=>h) rfl rfl rfl rfl rfl (fun _ _ h=>aW h (aM (aG c1))) rfl (fun _=>rfl)) (aV (j:=12) (by kernel_rfl) (fun _ _ _ _ _ h=>h) rfl rfl rfl rfl rfl (fun _ _ h=>aW h (aM (aG c1))) rfl (fun _=>rfl)) (aV (j:=12) (by kernel_rfl) (fun _ _ _ _ _ h=>h) rfl rfl rfl rfl rfl (fun _ _ h=>aW h (aM (aG c1))) rfl (fun _=>rfl)) (aI (aV (j:=12) (by kernel_rfl) (fun _ _ _ _ _ h=>h) rfl rfl rfl rfl rfl (fun _ _ h=>aW h (aM (aG c1))) rfl (fun _=>rfl)) ?_ ?_ (cZ rfl) (bG (cZ rfl) (bG (cZ rfl) dQ))))))) ?_
  ·refine fq 1 25 rfl rfl fun _ a w G1 hG HT H fin=>?_;refine bK lU (cs:=[_,_,_,_,_]) H wn rfl rfl (H.hp.fG 1 rfl rfl) rfl ?_;clear H;intro a H;exact fin H iJ rfl
  ·refine fu 0 24 2 26 rfl rfl fun _ a w G1 hG HT H fin=>?_;refine gW Jo (Li:=[_,_]) (L:=gQ b ms ml mr mb mu 0 :: (mb,fF []) :: []) H wn rfl (JI _ _ _ d.lT.styles d.lT.lists d.revs b ms ml mr mb mu _ (hck.mono hG) (Hp.owns (Li:=[_,_]) H.hp) 3 d.fin _ _ _ (hhd.mono hG) zh) rfl ?_;clear H;rintro v27 _ _ a w ⟨rfl,rfl,rfl⟩ Md H;dsimp only [lca,aO] at H;exact fin H Md (rfl)
  ·refine fu 7 31 10 34 rfl rfl fun _ a w G1 hG HT H fin=>?_;refine kH H (Pt (aG c0) rfl ?_);clear H;intro a H;exact fin H iJ (by show _=_;first|exact aM (aG c1).symm|exact aM (by simp [c0]))
  ·refine fu 12 36 16 40 rfl rfl fun _ a w G1 hG HT H fin=>?_;refine kH H (Pt (aG c1) rfl ?_);clear H;intro a H;exact fin H iJ (by show _=_;first|exact aM (iq (Or.inl c1)).symm|exact aM (by simp [rO,c1]))
  ·refine fq 17 41 rfl rfl fun _ a w G1 hG HT H fin=>?_;refine s_call kg H wn rfl (ku _ _ H.ro _ 21) rfl ?_;clear H;rintro v42 Xd a w ⟨rfl,-⟩ Mg H;exact fin H Mg (rfl)
  clear H;intro a w G lI H hv;have H:=H.bC (hv 3 27 rfl rfl) rfl;have H:=H.bC (hv 18 42 rfl rfl) rfl;clear hv;refine jd qV iO [_,_] [_,_] H wn rfl rfl rfl rfl rfl (by intro i q h;match i,h with|0,h=>exact h|1,h=>exact h|n+2,h=>simp at h) rfl rfl ?_;clear H;intro NJ a w ZU H;obtain ⟨AO,nO,Mr,H⟩:=H.eD;have Fu:=fun b o h=>nO b o (lI b o h);replace hfl:=hfl.mono Fu;replace hck:=hck.mono Fu;refine s_call rY H wn rfl (rZ _ _ H.ro _ _ (AA Mr)) rfl ?_;clear H;rintro v44 _ a w ⟨rfl,rfl⟩ - H;refine kH H (Ra rfl ?_);clear H;intro a H;refine aH ⟨rfl,?_⟩;refine K9 _ _ ?_;clear K9;refine kP H (SR fun _ aU=>Rm rfl (Rc rfl (Kz aU (Cd rfl ?_ ?_)))) <;> clear H aU
  ·intro h46 a H
   try have p46:=dT h46
   have hE:iW d=bO [fI d.nJ 3 d.fin,bL (rO d.fin.marks) 21]:=by rw [iW,bO,ah (by simpa using e1),bO,au p46]
   exact kP H (SR fun _ bD=>Rm rfl (ak bD rfl (LR results27 rfl fun H=>H.rt (by rw [hE]))))
  intro h46 a H
  try have p46:=dF h46
  have e2:=gL.1 p46;refine kP H (Kc K8 (SQ fun _ bE=>SR fun _ bQ=>Rm rfl (aR Bf jy 1 rfl rfl ?_)));clear H K8;intro a H;refine mq FT [_,_,_] H wn rfl rfl rfl rfl ?_;clear H;intro a H;refine gW LH (Li:=[_,_]) (L:=gQ b ms ml mr mb mu 0 :: (mb,fF []) :: []) H wn rfl (Px 4294967297 (by omega) _ _ _ d.lT.styles d.lT.lists d.revs b ms ml mr mb mu ⟨0,[]⟩ d.flow _ true false 0 hck (Hp.owns (Li:=[_,_]) H.hp) hfl (by omega) (by omega) (by omega) (by decide) (by dsimp only;omega)) rfl ?_;clear H;rintro v52 _ _ a w ⟨rfl,s3,rfl,rfl,h3⟩ - H;dsimp only [lca,aO] at H;refine kH H (ak bQ rfl (SR fun _ bR=>Rm rfl (Rc rfl (Kz bR (Cd rfl ?_ ?_))))) <;> clear H bQ bR
  ·intro iI a H
   try have p54:=dT iI
   have hE:iW d=(gU d.nJ true false 0 d.flow ⟨0,[]⟩).1:=by rw [iW,bO,ah (by simpa using e1),bO,ah (by simpa using e2),bO,au p54]
   exact kP H (SR fun _ bW=>Rm rfl (ak bW rfl (LR results27 rfl fun H=>H.rt (by rw [hE]))))
  intro iI a H
  try have p54:=dF iI
  have e3:=gL.1 p54;have hs3:=h3 e3;subst hs3;refine kP H (Kc bE (SR fun _ cK=>Rm rfl (Rk rfl (aR He aD 2 rfl rfl (Rc rfl ?_)))));clear H bE;intro a H;refine s_call kg H wn rfl (ku _ _ H.ro _ 9) rfl ?_;clear H;rintro v61 _ a w ⟨rfl,rfl⟩ - H
  have hE:iW d=bL (decide (16384 < (gU d.nJ true false 0 d.flow ⟨0,[]⟩).2.n)) 9:=by rw [iW,bO,ah (by simpa using e1),bO,ah (by simpa using e2),bO,ah (by simpa using e3)];exact Cu _
  exact kH H (ak cK rfl (LR results27 rfl fun H=>H.rt (by rw [hE])))
 skip
 by_cases c1:d.fin.marks.ins≠0∨d.fin.marks.move≠0
 ·skip;refine dI hmx [[],[],[1],[0,1,2],[],[4],[4,5],(ra 0 7),(ra 0 8),(ra 0 9),(ra 0 10),(ra 0 11),(ra 0 12),(ra 0 13),(ra 0 14),(ra 0 15),(ra 0 16),(ra 0 17),(ra 0 18),(ra 0 19),(ra 0 20),(ra 0 21)] [19,20,21] (by kernel_rfl) [_,_,Fq d.fin (bg dp) (bg dd) (bg dy),vi (fI d.nJ 3 d.fin),_,vi d.fin.marks.ins,_,_,_,vi d.fin.marks.move,_,.bool (decide (d.fin.marks.ins≠0∨d.fin.marks.move≠0)),_,undef,undef,undef,undef,.bool (rO d.fin.marks),vi (bL (rO d.fin.marks) 21)] H (aI (Z0 rfl (Rm rfl)) (Z0 rfl (Rf DF rfl)) ?_ ?_ (aI (Z0 rfl (Rf uG rfl)) (Z1 4 28 rfl (Ro aD 0 rfl)) (Z1 5 29 rfl (Rc rfl)) (Z1 6 30 rfl (Rm rfl)) (aI (Z1 7 31 rfl (YF zi (aQ c0) rfl)) (Z2 8 32 7 31 rfl (YO aD 0 (aQ c0) rfl)) (Z2 9 33 7 31 rfl (YC (aQ c0) rfl)) ?_ (aI (Z1 11 35 rfl (Rm rfl)) (aV (j:=12) (by kernel_rfl) (fun _ _ _ _ _ h=>h) rfl rfl rfl rfl rfl (fun _ _ h=>aW h (aM (aG c1))) rfl (fun _=>rfl)) (aV (j:=12) (by kernel_rfl) (fun _ _ _ _ _ h=>h) rfl rfl rfl rfl rfl (fun _ _ h=>aW h (aM (aG c1))) rfl (fun _=>rfl)) (aV (j:=12) (by kernel_rfl) (fun _ _ _ _ _ h=>h) rfl rfl rfl rfl rfl (fun _ _ h=>aW h (aM (aG c1))) rfl (fun _=>rfl)) (aI (aV (j:=12) (by kernel_rfl) (fun _ _ _ _ _ h=>h) rfl rfl rfl rfl rfl (fun _ _ h=>aW h (aM (aG c1))) rfl (fun _=>rfl)) ?_ ?_ (cZ rfl) (bG (cZ rfl) (bG (cZ rfl) dQ))))))) ?_
  ·refine fq 1 25 rfl rfl fun _ a w G1 hG HT H fin=>?_;refine bK lU (cs:=[_,_,_,_,_]) H wn rfl rfl (H.hp.fG 1 rfl rfl) rfl ?_;clear H;intro a H;exact fin H iJ rfl
  ·refine fu 0 24 2 26 rfl rfl fun _ a w G1 hG HT H fin=>?_;refine gW Jo (Li:=[_,_]) (L:=gQ b ms ml mr mb mu 0 :: (mb,fF []) :: []) H wn rfl (JI _ _ _ d.lT.styles d.lT.lists d.revs b ms ml mr mb mu _ (hck.mono hG) (Hp.owns (Li:=[_,_]) H.hp) 3 d.fin _ _ _ (hhd.mono hG) zh) rfl ?_;clear H;rintro v27 _ _ a w ⟨rfl,rfl,rfl⟩ Md H;dsimp only [lca,aO] at H;exact fin H Md (rfl)
  ·refine fu 7 31 10 34 rfl rfl fun _ a w G1 hG HT H fin=>?_;refine kH H (Pf (aQ c0) rfl ?_);clear H;intro a H;exact fin H iJ (by show _=_;first|exact aM (aG c1).symm|exact aM (by simp [c0]))
  ·refine fu 12 36 16 40 rfl rfl fun _ a w G1 hG HT H fin=>?_;refine kH H (Pt (aG c1) rfl ?_);clear H;intro a H;exact fin H iJ (by show _=_;first|exact aM (iq (Or.inl c1)).symm|exact aM (by simp [rO,c1]))
  ·refine fq 17 41 rfl rfl fun _ a w G1 hG HT H fin=>?_;refine s_call kg H wn rfl (ku _ _ H.ro _ 21) rfl ?_;clear H;rintro v42 Xd a w ⟨rfl,-⟩ Mg H;exact fin H Mg (rfl)
  clear H;intro a w G lI H hv;have H:=H.bC (hv 3 27 rfl rfl) rfl;have H:=H.bC (hv 18 42 rfl rfl) rfl;clear hv;refine jd qV iO [_,_] [_,_] H wn rfl rfl rfl rfl rfl (by intro i q h;match i,h with|0,h=>exact h|1,h=>exact h|n+2,h=>simp at h) rfl rfl ?_;clear H;intro NJ a w ZU H;obtain ⟨AO,nO,Mr,H⟩:=H.eD;have Fu:=fun b o h=>nO b o (lI b o h);replace hfl:=hfl.mono Fu;replace hck:=hck.mono Fu;refine s_call rY H wn rfl (rZ _ _ H.ro _ _ (AA Mr)) rfl ?_;clear H;rintro v44 _ a w ⟨rfl,rfl⟩ - H;refine kH H (Ra rfl ?_);clear H;intro a H;refine aH ⟨rfl,?_⟩;refine K9 _ _ ?_;clear K9;refine kP H (SR fun _ bY=>Rm rfl (Rc rfl (Kz bY (Cd rfl ?_ ?_)))) <;> clear H bY
  ·intro h46 a H
   try have p46:=dT h46
   have hE:iW d=bO [fI d.nJ 3 d.fin,bL (rO d.fin.marks) 21]:=by rw [iW,bO,ah (by simpa using e1),bO,au p46]
   exact kP H (SR fun _ dG=>Rm rfl (ak dG rfl (LR results27 rfl fun H=>H.rt (by rw [hE]))))
  intro h46 a H
  try have p46:=dF h46
  have e2:=gL.1 p46;refine kP H (Kc K8 (SQ fun _ dN=>SR fun _ dH=>Rm rfl (aR Bf jy 1 rfl rfl ?_)));clear H K8;intro a H;refine mq FT [_,_,_] H wn rfl rfl rfl rfl ?_;clear H;intro a H;refine gW LH (Li:=[_,_]) (L:=gQ b ms ml mr mb mu 0 :: (mb,fF []) :: []) H wn rfl (Px 4294967297 (by omega) _ _ _ d.lT.styles d.lT.lists d.revs b ms ml mr mb mu ⟨0,[]⟩ d.flow _ true false 0 hck (Hp.owns (Li:=[_,_]) H.hp) hfl (by omega) (by omega) (by omega) (by decide) (by dsimp only;omega)) rfl ?_;clear H;rintro v52 _ _ a w ⟨rfl,s3,rfl,rfl,h3⟩ - H;dsimp only [lca,aO] at H;refine kH H (ak dH rfl (SR fun _ dP=>Rm rfl (Rc rfl (Kz dP (Cd rfl ?_ ?_))))) <;> clear H dH dP
  ·intro iI a H
   try have p54:=dT iI
   have hE:iW d=(gU d.nJ true false 0 d.flow ⟨0,[]⟩).1:=by rw [iW,bO,ah (by simpa using e1),bO,ah (by simpa using e2),bO,au p54]
   exact kP H (SR fun _ eT=>Rm rfl (ak eT rfl (LR results27 rfl fun H=>H.rt (by rw [hE]))))
  intro iI a H
  try have p54:=dF iI
  have e3:=gL.1 p54;have hs3:=h3 e3;subst hs3;refine kP H (Kc dN (SR fun _ fP=>Rm rfl (Rk rfl (aR He aD 2 rfl rfl (Rc rfl ?_)))));clear H dN;intro a H;refine s_call kg H wn rfl (ku _ _ H.ro _ 9) rfl ?_;clear H;rintro v61 _ a w ⟨rfl,rfl⟩ - H
  have hE:iW d=bL (decide (16384 < (gU d.nJ true false 0 d.flow ⟨0,[]⟩).2.n)) 9:=by rw [iW,bO,ah (by simpa using e1),bO,ah (by simpa using e2),bO,ah (by simpa using e3)];exact Cu _
  exact kH H (ak fP rfl (LR results27 rfl fun H=>H.rt (by rw [hE])))
 skip;refine dI hmx [[],[],[1],[0,1,2],[],[4],[4,5],(ra 0 7),(ra 0 8),(ra 0 9),(ra 0 10),(ra 0 11),(ra 0 12),(ra 0 13),(ra 0 14),(ra 0 15),(ra 0 16),(ra 0 17),(ra 0 18),(ra 0 19),(ra 0 20),(ra 0 21)] [19,20,21] (by kernel_rfl) [_,_,Fq d.fin (bg dp) (bg dd) (bg dy),vi (fI d.nJ 3 d.fin),_,vi d.fin.marks.ins,_,_,_,vi d.fin.marks.move,_,.bool (decide (d.fin.marks.ins≠0∨d.fin.marks.move≠0)),_,_,bg dd,vi d.fin.marks.bJ.length,_,.bool (rO d.fin.marks),vi (bL (rO d.fin.marks) 21)] H (aI (Z0 rfl (Rm rfl)) (Z0 rfl (Rf DF rfl)) ?_ ?_ (aI (Z0 rfl (Rf uG rfl)) (Z1 4 28 rfl (Ro aD 0 rfl)) (Z1 5 29 rfl (Rc rfl)) (Z1 6 30 rfl (Rm rfl)) (aI (Z1 7 31 rfl (YF zi (aQ c0) rfl)) (Z2 8 32 7 31 rfl (YO aD 0 (aQ c0) rfl)) (Z2 9 33 7 31 rfl (YC (aQ c0) rfl)) ?_ (aI (Z1 11 35 rfl (Rm rfl)) (Z1 12 36 rfl (YF mJ (aQ c1) rfl)) (Z2 13 37 12 36 rfl (YO mR 0 (aQ c1) rfl)) ?_ (aI (Z2 15 39 12 36 rfl (YC (aQ c1) rfl)) ?_ ?_ (cZ rfl) (bG (cZ rfl) (bG (cZ rfl) dQ))))))) ?_
 ·refine fq 1 25 rfl rfl fun _ a w G1 hG HT H fin=>?_;refine bK lU (cs:=[_,_,_,_,_]) H wn rfl rfl (H.hp.fG 1 rfl rfl) rfl ?_;clear H;intro a H;exact fin H iJ rfl
 ·refine fu 0 24 2 26 rfl rfl fun _ a w G1 hG HT H fin=>?_;refine gW Jo (Li:=[_,_]) (L:=gQ b ms ml mr mb mu 0 :: (mb,fF []) :: []) H wn rfl (JI _ _ _ d.lT.styles d.lT.lists d.revs b ms ml mr mb mu _ (hck.mono hG) (Hp.owns (Li:=[_,_]) H.hp) 3 d.fin _ _ _ (hhd.mono hG) zh) rfl ?_;clear H;rintro v27 _ _ a w ⟨rfl,rfl,rfl⟩ Md H;dsimp only [lca,aO] at H;exact fin H Md (rfl)
 ·refine fu 7 31 10 34 rfl rfl fun _ a w G1 hG HT H fin=>?_;refine kH H (Pf (aQ c0) rfl ?_);clear H;intro a H;exact fin H iJ (by show _=_;first|exact aM (aG c1).symm|exact aM (by simp [c0]))
 ·refine fu 14 38 12 36 rfl rfl fun _ a w G1 hG HT H fin=>?_;refine kH H (YL lW (aQ c1) rfl ?_);clear H;intro a H;exact fin H iJ (by show _=_;first|rfl|exact ay (fun n:Nat=>vi n) hdl)
 ·refine fu 12 36 16 40 rfl rfl fun _ a w G1 hG HT H fin=>?_;refine kH H (Pf (aQ c1) rfl ?_);clear H;intro a H;exact fin H iJ (by show _=_;first|exact aM (iq (Or.inl c1)).symm|exact aM (by simp [rO,c1]))
 ·refine fq 17 41 rfl rfl fun _ a w G1 hG HT H fin=>?_;refine s_call kg H wn rfl (ku _ _ H.ro _ 21) rfl ?_;clear H;rintro v42 Xd a w ⟨rfl,-⟩ Mg H;exact fin H Mg (rfl)
 clear H;intro a w G lI H hv;have H:=H.bC (hv 3 27 rfl rfl) rfl;have H:=H.bC (hv 18 42 rfl rfl) rfl;clear hv;refine jd qV iO [_,_] [_,_] H wn rfl rfl rfl rfl rfl (by intro i q h;match i,h with|0,h=>exact h|1,h=>exact h|n+2,h=>simp at h) rfl rfl ?_;clear H;intro NJ a w ZU H;obtain ⟨AO,nO,Mr,H⟩:=H.eD;have Fu:=fun b o h=>nO b o (lI b o h);replace hfl:=hfl.mono Fu;replace hck:=hck.mono Fu;refine s_call rY H wn rfl (rZ _ _ H.ro _ _ (AA Mr)) rfl ?_;clear H;rintro v44 _ a w ⟨rfl,rfl⟩ - H;refine kH H (Ra rfl ?_);clear H;intro a H;refine aH ⟨rfl,?_⟩;refine K9 _ _ ?_;clear K9;refine kP H (SR fun _ gq=>Rm rfl (Rc rfl (Kz gq (Cd rfl ?_ ?_)))) <;> clear H gq
 ·intro h46 a H
  try have p46:=dT h46
  have hE:iW d=bO [fI d.nJ 3 d.fin,bL (rO d.fin.marks) 21]:=by rw [iW,bO,ah (by simpa using e1),bO,au p46]
  exact kP H (SR fun _ gG=>Rm rfl (ak gG rfl (LR results27 rfl fun H=>H.rt (by rw [hE]))))
 intro h46 a H
 try have p46:=dF h46
 have e2:=gL.1 p46;refine kP H (Kc K8 (SQ fun _ iP=>SR fun _ jm=>Rm rfl (aR Bf jy 1 rfl rfl ?_)));clear H K8;intro a H;refine mq FT [_,_,_] H wn rfl rfl rfl rfl ?_;clear H;intro a H;refine gW LH (Li:=[_,_]) (L:=gQ b ms ml mr mb mu 0 :: (mb,fF []) :: []) H wn rfl (Px 4294967297 (by omega) _ _ _ d.lT.styles d.lT.lists d.revs b ms ml mr mb mu ⟨0,[]⟩ d.flow _ true false 0 hck (Hp.owns (Li:=[_,_]) H.hp) hfl (by omega) (by omega) (by omega) (by decide) (by dsimp only;omega)) rfl ?_;clear H;rintro v52 _ _ a w ⟨rfl,s3,rfl,rfl,h3⟩ - H;dsimp only [lca,aO] at H;refine kH H (ak jm rfl (SR fun _ iH=>Rm rfl (Rc rfl (Kz iH (Cd rfl ?_ ?_))))) <;> clear H jm iH
 ·intro iI a H
  try have p54:=dT iI
  have hE:iW d=(gU d.nJ true false 0 d.flow ⟨0,[]⟩).1:=by rw [iW,bO,ah (by simpa using e1),bO,ah (by simpa using e2),bO,au p54]
  exact kP H (SR fun _ kW=>Rm rfl (ak kW rfl (LR results27 rfl fun H=>H.rt (by rw [hE]))))
 intro iI a H
 try have p54:=dF iI
 have e3:=gL.1 p54;have hs3:=h3 e3;subst hs3;refine kP H (Kc iP (SR fun _ kX=>Rm rfl (Rk rfl (aR He aD 2 rfl rfl (Rc rfl ?_)))));clear H iP;intro a H;refine s_call kg H wn rfl (ku _ _ H.ro _ 9) rfl ?_;clear H;rintro v61 _ a w ⟨rfl,rfl⟩ - H
 have hE:iW d=bL (decide (16384 < (gU d.nJ true false 0 d.flow ⟨0,[]⟩).2.n)) 9:=by rw [iW,bO,ah (by simpa using e1),bO,ah (by simpa using e2),bO,ah (by simpa using e3)];exact Cu _
 exact kH H (ak kX rfl (LR results27 rfl fun H=>H.rt (by rw [hE])))
end
section
open Go.RowKit
abbrev zX (n:Nat) (L:List ((Int × Int) × aC)):Prop:=∀ a∈L,dh a.2.dat≤n
theorem zX.nil (n:Nat):zX n []:=fun _ h=>by cases h
theorem zX.mono {n m:Nat} {L:List ((Int × Int) × aC)} (h:zX n L) (hn:n≤m):zX m L:=fun a ha=>Nat.le_trans (h a ha) hn
theorem zX.append {n:Nat} {A B:List ((Int × Int) × aC)} (h:zX n A) (g:zX n B):zX n (A++B):=fun a ha=>(rU.1 ha).elim (h a) (g a)
theorem zX.cons {n:Nat} {x:(Int × Int) × aC} {B:List ((Int × Int) × aC)} (h:dh x.2.dat≤n) (g:zX n B):zX n (x :: B):=fun a ha=>by
 rcases nG.1 ha with rfl|ha
 ·exact h
 exact g a ha
theorem ano {d:oC} (h:iW d=0):I7 d.flow:=by
 have h1:=pq h _ (sW _ (sW _ jg));exact I7.of (Rq h1)
theorem Q6 {G:GH} {A:List jT} {B:Option Addr} {n c k:Nat} (hv:aB G (.sl 6 (A.map jT.dat)) (.slice B n c)) (hk:k < A.length):∃ b o v,B=some ⟨b,o,none⟩∧(∀ j u,(A[k].cells v)[j]?=some u→aF G b (o+k*6+j)=some u)∧aB G (.sl 11 (A[k].items.map aC.dat)) v:=by
 obtain ⟨b,o,cs,h1,h2,h3,h4⟩:=hv.at_ k A[k].dat (by simp [hk]);obtain ⟨v,rfl,hr⟩:=jT.of h4;exact ⟨b,o,v,h1,h3,hr⟩
theorem apT {G:GH} {A:List ((Int × Int) × aC)} {B:Option Addr} {n c k:Nat} (hv:aB G (.sl 11 (A.map fun q=>q.2.dat)) (.slice B n c)) (hk:k < A.length):∃ b o cs,B=some ⟨b,o,none⟩∧(∀ j u,cs[j]?=some u→aF G b (o+k*11+j)=some u)∧bM G A[k].2.dat cs:=by
 obtain ⟨b,o,cs,h1,h2,h3,h4⟩:=hv.at_ k A[k].2.dat (by simp [hk]);exact ⟨b,o,cs,h1,h3,h4⟩
theorem alU {G:GH} {α:Type} {f:α→Int} {A:List α} {B:Option Addr} {n c k:Nat} (hv:aB G (.sl 1 (A.map fun q=>[li (f q)])) (.slice B n c)) (hk:k < A.length):∃ b o,B=some ⟨b,o,none⟩∧aF G b (o+k)=some (vi (f A[k])):=by
 obtain ⟨b,o,cs,h1,h2,h3,h4⟩:=hv.at_ k [li (f A[k])] (by simp [hk])
 simp only [bM] at h4
 obtain ⟨_,_,rfl,⟨rfl,-⟩,rfl⟩:=h4;exact ⟨b,o,h1,by simpa using h3 0 _ rfl⟩
end
section
open Go.RowKit
theorem RS:∀ args w,(callFunc 41 args).run prog w=.ok (.enter 41 args) w:=enters func41 rfl (by kernel_rfl)
theorem Y6:∀ args w,(callFunc 42 args).run prog w=.ok (.enter 42 args) w:=enters func42 rfl (by kernel_rfl)
theorem Zh:∀ args w,(callFunc 92 args).run prog w=.ok (.enter 92 args) w:=enters func92 rfl (by kernel_rfl)
theorem apM {s:wo} (h:gM s.styles≠0):kR s=gM s.styles:=by rw [kR,bO,au h]
theorem Wh {s:wo} (h0:gM s.styles=0) (h:wC s.lists≠0):kR s=wC s.lists:=by rw [kR,bO,ah (by rw [h0];decide),bO,au h]
theorem IJ {s:wo} (h0:gM s.styles=0) (h1:wC s.lists=0) (h:uz s.comments≠0):kR s=uz s.comments:=by rw [kR,bO,ah (by rw [h0];decide),bO,ah (by rw [h1];decide),bO,au h]
theorem Kr {s:wo} (h0:gM s.styles=0) (h1:wC s.lists=0) (h2:uz s.comments=0):kR s=Ac s.vars:=by
 rw [kR,bO,ah (by rw [h0];decide),bO,ah (by rw [h1];decide),bO,ah (by rw [h2];decide),bO,bO]
 split
 ·rfl
 rename_i h;exact (gL.1 h).symm
theorem PD {E:Nat→Int} {n m:Nat} (h:(m:Int) < n):bO [bL (decide ((m:Int) < (n:Int))) 9,iw E (min n m)]=9:=by
 rw [iq h];rfl
theorem Pz {E:Nat→Int} {n m:Nat} (h:¬ (m:Int) < n):bO [bL (decide ((m:Int) < (n:Int))) 9,iw E (min n m)]=iw E n:=by
 rw [iV h,bO,ah (by decide),bO,bO,show min n m=n by omega]
 split
 ·rfl
 rename_i h;exact (gL.1 h).symm
theorem yX {E:Nat→Int} {n k:Nat} (hk:k < n) (he:bO (((List.range n).map E).drop k)=iw E n) (h:E k≠0):iw E n=E k:=by
 rw [← he,qE hk,au h]
theorem NI {E:Nat→Int} {n k:Nat} (hk:k < n) (he:bO (((List.range n).map E).drop k)=iw E n) (h:E k=0):bO (((List.range n).map E).drop (k+1))=iw E n:=by
 rw [← he,qE hk,ah (by rw [h];decide)]
theorem NH {E:Nat→Int} {n k:Nat} (hk:n≤k) (he:bO (((List.range n).map E).drop k)=iw E n):iw E n=0:=by
 rw [← he,eU (by simpa using hk)];rfl
theorem wG {l:List Int} {e:Int} (h:e≠0):bO (e :: l)=e:=by rw [bO,au h]
theorem iY {l:List Int} {e:Int} (h:e=0):bO (e :: l)=bO l:=by rw [bO,ah (by rw [h];decide)]
theorem acS {α:Type} {l:List α} {p:α→Bool} {j:Nat} (h:j < l.length):((l.take (j+1)).findIdx? p).isSome=(((l.take j).findIdx? p).isSome || p l[j]):=by
 rw [lG h,List.findIdx?_append]
 cases (l.take j).findIdx? p <;> simp [List.findIdx?_cons] <;> split <;> simp_all
set_option maxHeartbeats 4000000 in
theorem amX (G:GH) (w0:World) (hG:Hold G w0) (s:wo) (a b c d:aj) (hR:Dp G s a b c d) (hz:Ld s) :
  Calls prog 40 #[.agg #[a,b,c,d]] w0 (bV w0 G fun u G'=>u=vi (kR s)):=by
 obtain ⟨sA,sc,rfl,-,-,-⟩:=hR.st.slice;obtain ⟨lA,lc,rfl,-,hlc,-⟩:=hR.li.slice;obtain ⟨cA,cc,rfl,-,hcc,-⟩:=hR.cm.slice;obtain ⟨vA,vc,rfl,-,hvc,-⟩:=hR.va.slice;have hml:maxLen=9223372036854775807:=rfl;have hl1:=hz.ln;have hl2:=hz.cn;have hl3:=hz.vn;refine eN [(0,_)] func40 rfl ntmps40 rfl rfl hG ?_;intro a H;refine cO (fun _ K1=>?_);refine fD (cs:=[_,_,_,_]) H wn rfl rfl rfl ?_;clear H;intro b1 a w hb1 H;refine kH H (ak K1 rfl (SQ fun _ K2=>SQ fun _ K3=>?_));clear H K1;intro a H;obtain ⟨Ga,hma,hb1',H⟩:=H.eD
 simp only [bN] at hb1' hR
 have hc0:aF Ga b1 0=some (.slice sA s.styles.length sc):=by unfold aF;rw [hb1'];rfl
 have hc1:aF Ga b1 1=some (.slice lA s.lists.length lc):=by unfold aF;rw [hb1'];rfl
 have hc2:aF Ga b1 2=some (.slice cA s.comments.length cc):=by unfold aF;rw [hb1'];rfl
 have hc3:aF Ga b1 3=some (.slice vA s.vars.length vc):=by unfold aF;rw [hb1'];rfl
 have wR:=hR.li.mono hma;have hcm:=hR.cm.mono hma;have hva:=hR.va.mono hma;refine kP H (SC (Rf Fa rfl (Rg qQ rfl (by assumption) ?_)));clear H;intro a H;refine s_call Zf H wn rfl (Yo _ _ H.ro s.styles _ (hR.st.mono hma) hz.sn) rfl ?_;clear H;rintro v19 IW a w rfl uM H;replace hc1:=aJ uM hc1;replace hc2:=aJ uM hc2;replace hc3:=aJ uM hc3;replace wR:=wR.mono uM;replace hcm:=hcm.mono uM;replace hva:=hva.mono uM;refine kH H (aL K3 rfl (SR fun _ K4=>Rm rfl (Rc rfl (Kz K4 (Cd rfl ?_ ?_))))) <;> clear H K3 K4
 ·intro h21 a H
  try have ou:=dT h21
  refine aN (fun _ K5=>?_);have e:kR s=gM s.styles:=apM ou;exact kP H (SC (Rm rfl (aL K5 rfl (LR results40 rfl fun H=>H.rt (ay vi e.symm)))))
 intro h21 a H
 try have ou:=dF h21
 have e0:gM s.styles=0:=gL.1 ou;refine kP H (Kc K2 (SQ fun _ K6=>SR fun _ K7=>Rf Bd rfl (Rg xu rfl (by assumption) ?_)));clear H K2;intro a H;refine kH H (Rl xA rfl (Rc rfl (Kz K7 (Cd rfl ?_ ?_)))) <;> clear H K7
 ·intro fE a H
  try have p26:=dT fE
  refine aN (fun _ K8=>?_)
  have e:kR s=9:=by
   have h:wC s.lists=9:=PD (m:=64) (by omega);rw [Wh e0 (by rw [h];decide),h]
  exact kP H (SC (aL K8 rfl (LR results40 rfl fun H=>H.rt (ay vi e.symm))))
 intro fE a H
 try have p26:=dF fE
 have Cw:wC s.lists=iw (yx s.lists) s.lists.length:=Pz (m:=64) (by omega);refine kP H (Kc K6 (SQ fun _ K9=>SR fun _ aU=>ak aU rfl (SB ?_)));clear H K6 aU;intro a H;skip;refine dV (ι:=Nat × GH) (Tc:=[(1,_)]) (Lc:=[]) (fun gh=>[(4,vi gh.1)]) (fun gh=>[]) (fun gh=>gh.2) (fun gh=>gh.1≤s.lists.length∧bO (((List.range s.lists.length).map (yx s.lists)).drop gh.1)=iw (yx s.lists) s.lists.length∧(∀ b o,IW b=some o→gh.2 b=some o)) (fun gh=>s.lists.length - gh.1) ((0,IW)) (by exact (H).sub ⟨rfl,rfl,av⟩) ?_ ?_
 ·exact ⟨fQ _,rfl,fun _ _ h=>h⟩
 clear H;rintro ⟨k,g⟩ a w hI H;dsimp only at hI H;obtain ⟨hk,he,hgm⟩:=hI;have ajK:=aJ hgm hc1;have aai:=wR.mono hgm;dsimp only [lca,aO] at H;refine kP H (SQ fun _ bD=>SR fun _ bE=>Rm rfl (Rf Bd rfl (Rg xu rfl (by assumption) ?_)));clear H;intro a H;refine kH H (Rl xA rfl (Rc rfl (Kz bE (Cd rfl ?_ ?_)))) <;> clear H bE
 ·intro h31 a H
  try have p31:=dT h31
  have hk2:k < s.lists.length:=by omega
  have hk1:k - 1 < s.lists.length:=by omega
  obtain ⟨lb,lo,B,d,rfl,hrow,hlv⟩:=Im aai hk2;obtain ⟨_,_,_,_,H6,hrow',-⟩:=Im aai hk1
  injection H6 with H6
  injection H6 with e1 e2
  subst e1;subst e2
  have hek:yx s.lists k=bO [kK (fun k=>(s.lists[k]?.map dR.id).getD 0) k,eB s.lists[k].levels]:=by unfold yx;rw [fH hk2];rfl
  have hinc:wW s.lists[k].id s.lists[k - 1].id (decide ((k:Int)=0))=kK (fun k=>(s.lists[k]?.map dR.id).getD 0) k:=by
   rw [← U9];(try dsimp only);rw [fH hk2,fH hk1];simp
  refine kP H (Kc bD (SQ fun _ bQ=>SB (SR fun _ bR=>Rf Bd rfl (Rg xu rfl (by assumption) ?_))));clear H bD;intro a H;refine kH H (Rm rfl (Ri xA zL rfl rfl ?_));clear H;intro a H;refine bK zL (cs:=[vi s.lists[k].id,.slice B s.lists[k].levels.length d]) H wn rfl rfl (fun j v hj=>H.hp.aF (hrow j v hj)) rfl ?_;clear H;intro a H;refine dY zL H wn rfl ?_;clear H;intro b5 a w hb5 H;refine bT zL 0 (vs:=[_,_]) _ H wn rfl rfl rfl rfl rfl rfl rfl rfl ?_;clear H;intro w H;dsimp only [List.set,setRow] at H;refine bR _ _ ?_;clear bR;refine aN (fun _ bW=>?_);refine aN (fun _ cK=>?_);refine dI hmx [[],[0],[],[2],[],[4],[4,5],(ra 2 5),(ra 2 6),(ra 2 7),[],[10],(ra 0 12),(ra 0 13)] [13] (by kernel_rfl) [_,vi s.lists[k].id,_,_,_,_,vi ((k - 1:Nat):Int),_,_,_,_,_,vi (kK (fun k=>(s.lists[k]?.map dR.id).getD 0) k)] H (aI (Z0 rfl (Rf LP rfl)) (Z1 0 39 rfl (Ro aD 0 rfl)) (Z0 rfl (Rf Bd rfl)) (X1 2 41 rfl fun hG=>Rg xu rfl (aJ hG ajK)) (aI (Z0 rfl (Rm rfl)) (Z1 4 43 rfl (Rs rfl)) ?_ (Z2 3 42 6 45 rfl (Ri xA zL rfl rfl)) (aI (Z1 7 46 rfl (Rf LP rfl)) (X1 8 47 rfl fun hG=>Rg aD rfl (aJ hG (hrow' 0 _ rfl))) (Z0 rfl (Rm rfl)) (Z1 10 49 rfl (Rc rfl)) (bG ?_ (bG (cZ rfl) dQ))))) ?_
  ·refine fq 5 44 rfl rfl fun _ a w G1 hG HT H fin=>?_;refine FR H wn rfl rfl rfl ?_;clear H;intro a H;exact fin H iJ (ay vi (by omega))
  ·refine wh 1 40 9 48 11 50 rfl rfl fun _ a w G1 hG HT H fin=>?_;refine s_call RS H wn rfl (Va _ _ H.ro s.lists[k].id s.lists[k - 1].id (decide ((k:Int)=0))) rfl ?_;clear H;rintro v51 G51 a w ⟨rfl,-⟩ aiW H;exact fin H aiW (ay vi hinc)
  clear H;intro a w G vI H hv;have H:=H.bC (hv 12 51 rfl rfl) rfl;clear hv;refine kH H (Ra rfl ?_);clear H;intro a H;refine aH ⟨rfl,?_⟩;refine cK _ _ ?_;clear cK;refine kP H (SR fun _ bY=>Rm rfl (Rc rfl (Kz bY (Cd rfl ?_ ?_)))) <;> clear H bY
  ·intro dS a H
   try have p53:=dT dS
   refine aN (fun _ dG=>?_)
   have e:kR s=kK (fun k=>(s.lists[k]?.map dR.id).getD 0) k:=by
    have h1:yx s.lists k=kK (fun k=>(s.lists[k]?.map dR.id).getD 0) k:=by rw [hek,wG p53]
    have h2:wC s.lists=kK (fun k=>(s.lists[k]?.map dR.id).getD 0) k:=by rw [Cw,yX hk2 he (by rw [h1];exact p53),h1]
    rw [Wh e0 (by rw [h2];exact p53),h2]
   exact kP H (SC (Rm rfl (aL dG rfl (LR results40 rfl fun H=>H.rt (ay vi e.symm)))))
  intro dS a H
  try have p53:=dF dS
  refine kP H (Kc bW (SR fun _ dN=>aR Sc Wv 0 rfl rfl ?_));clear H bW;intro a H;refine s_call Zg H wn rfl (Yn _ _ H.ro s.lists[k].levels _ (hlv.mono vI) (hz.lt _ (jD hk2))) rfl ?_;clear H;rintro v57 G57 a w rfl aky H;refine kH H (ak dN rfl (SR fun _ dH=>Rm rfl (Rc rfl (Kz dH (Cd rfl ?_ ?_))))) <;> clear H dN dH
  ·intro jk a H
   try have p59:=dT jk
   refine aN (fun _ dP=>?_)
   have e:kR s=eB s.lists[k].levels:=by
    have h1:yx s.lists k=eB s.lists[k].levels:=by rw [hek,iY (gL.1 p53),wG p59]
    have h2:wC s.lists=eB s.lists[k].levels:=by rw [Cw,yX hk2 he (by rw [h1];exact p59),h1]
    rw [Wh e0 (by rw [h2];exact p59),h2]
   exact kP H (SC (Rm rfl (aL dP rfl (LR results40 rfl fun H=>H.rt (ay vi e.symm)))))
  intro jk a H
  try have p59:=dF jk
  refine kP H (Kc bQ (SC (Rm rfl (Rd rfl (Ra rfl ?_)))));clear H bQ;intro a H;refine aH ?_;refine cB ((k+1,G57)) (by exact (H.dx (Pl:=[_]) (bZ:=[]) [] (by decide) rfl).sub ⟨rfl,rfl,av⟩) ?_ ?_
  ·(try dsimp only);exact ⟨by omega,NI hk2 he (by rw [hek,iY (gL.1 p53),iY (gL.1 p59)];rfl),fun b o h=>aky b o (vI b o (hgm b o h))⟩
  first|omega|(dsimp only;omega)
 intro h31 a H
 try have p31:=dF h31
 refine dJ ?_;refine K9 _ _ ?_;clear K9;refine aN (fun _ eT=>?_);refine aN (fun _ fP=>?_)
 have zq:wC s.lists=0:=by rw [Cw,NH (by omega) he]
 have ajL:=aJ hgm hc2;have ajN:=aJ hgm hc3;replace hcm:=hcm.mono hgm;replace hva:=hva.mono hgm;refine kP H (SC (Rf GV rfl (Rg AB rfl (by assumption) ?_)));clear H;intro a H;refine kH H (Rl zN rfl (Rc rfl (Kn fP (Cd rfl ?_ ?_)))) <;> clear H fP
 ·intro h64 a H
  try have p64:=dT h64
  refine aN (fun _ gq=>?_)
  have e:kR s=9:=by
   have h:uz s.comments=9:=PD (m:=1024) (by omega);rw [IJ e0 zq (by rw [h];decide),h]
  exact kP H (SC (aL gq rfl (LR results40 rfl fun H=>H.rt (ay vi e.symm))))
 intro h64 a H
 try have p64:=dF h64
 have Ho:uz s.comments=iw (uD s.comments) s.comments.length:=Pz (m:=1024) (by omega);refine kP H (Kc eT (SQ fun _ gG=>SR fun _ iP=>ak iP rfl (SB ?_)));clear H eT iP;intro a H;skip;refine dV (ι:=Nat × GH) (Tc:=[(1,_)]) (Lc:=[]) (fun gh=>[(8,vi gh.1)]) (fun gh=>[]) (fun gh=>gh.2) (fun gh=>gh.1≤s.comments.length∧bO (((List.range s.comments.length).map (uD s.comments)).drop gh.1)=iw (uD s.comments) s.comments.length∧(∀ b o,g b=some o→gh.2 b=some o)) (fun gh=>s.comments.length - gh.1) ((0,g)) (by exact (H).sub ⟨rfl,rfl,av⟩) ?_ ?_
 ·exact ⟨fQ _,rfl,fun _ _ h=>h⟩
 clear H;rintro ⟨i,g2⟩ a w hI H;dsimp only at hI H;obtain ⟨hi,hce,kI⟩:=hI;have ZV:=aJ kI ajL;have Uh:=hcm.mono kI;dsimp only [lca,aO] at H;refine kP H (SQ fun _ jm=>SR fun _ iH=>Rm rfl (Rf GV rfl (Rg AB rfl (by assumption) ?_)));clear H;intro a H;refine kH H (Rl zN rfl (Rc rfl (Kz iH (Cd rfl ?_ ?_)))) <;> clear H iH
 ·intro gX a H
  try have p69:=dT gX
  have hi2:i < s.comments.length:=by omega
  have hi1:i - 1 < s.comments.length:=by omega
  obtain ⟨cb,co,rfl,Z4,-⟩:=Ji Uh hi2;obtain ⟨_,_,Ui,ajZ,-⟩:=Ji Uh hi1
  injection Ui with Ui
  injection Ui with e1 e2
  subst e1;subst e2;have hte:=hz.ct _ (jD hi2);obtain ⟨x,hx⟩:∃ x,x=s.comments[i]:=⟨_,rfl⟩
  have HY:uD s.comments i=AZ s.comments i x:=by unfold uD;rw [fH hi2,hx]
  have akn:wW x.id s.comments[i - 1].id (decide ((i:Int)=0))=kK (fun k=>(s.comments[k]?.map jl.id).getD 0) i:=by
   rw [← U9];(try dsimp only);rw [fH hi2,fH hi1,hx];simp
  rw [← hx] at Z4 hte;refine kP H (Kc jm (SQ fun _ kW=>SB (SR fun _ kX=>Rf GV rfl (Rg AB rfl (by assumption) ?_))));clear H jm;intro a H;refine kH H (Rm rfl (Ri zN yH rfl rfl ?_));clear H;intro a H;refine bK yH (cs:=x.cells) H wn rfl rfl (fun j v hj=>H.hp.aF (Z4 j v hj)) rfl ?_;clear H;intro a H;refine dY yH H wn rfl ?_;clear H;intro b9 a w uL H;refine bT yH 0 (vs:=[_,_,_,_,_,_]) _ H wn rfl rfl rfl rfl rfl rfl rfl rfl ?_;clear H;intro w H;dsimp only [List.set,setRow] at H;refine kX _ _ ?_;clear kX;refine aN (fun _ jQ=>?_);refine aN (fun _ lC=>?_);refine dI hmx [[],[0],[],[2],[],[4],[4,5],(ra 2 5),(ra 2 6),(ra 2 7),[],[10],(ra 0 12),(ra 0 13)] [13] (by kernel_rfl) [_,vi x.id,_,_,_,_,vi ((i - 1:Nat):Int),_,_,_,_,_,vi (kK (fun k=>(s.comments[k]?.map jl.id).getD 0) i)] H (aI (Z0 rfl (Rf LQ rfl)) (Z1 0 77 rfl (Ro aD 0 rfl)) (Z0 rfl (Rf GV rfl)) (X1 2 79 rfl fun hG=>Rg AB rfl (aJ hG ZV)) (aI (Z0 rfl (Rm rfl)) (Z1 4 81 rfl (Rs rfl)) ?_ (Z2 3 80 6 83 rfl (Ri zN yH rfl rfl)) (aI (Z1 7 84 rfl (Rf LQ rfl)) (X1 8 85 rfl fun hG=>Rg aD rfl (aJ hG (ajZ 0 _ rfl))) (Z0 rfl (Rm rfl)) (Z1 10 87 rfl (Rc rfl)) (bG ?_ (bG (cZ rfl) dQ))))) ?_
  ·refine fq 5 82 rfl rfl fun _ a w G1 hG HT H fin=>?_;refine FR H wn rfl rfl rfl ?_;clear H;intro a H;exact fin H iJ (ay vi (by omega))
  ·refine wh 1 78 9 86 11 88 rfl rfl fun _ a w G1 hG HT H fin=>?_;refine s_call RS H wn rfl (Va _ _ H.ro x.id s.comments[i - 1].id (decide ((i:Int)=0))) rfl ?_;clear H;rintro v89 Xh a w ⟨rfl,-⟩ ajc H;exact fin H ajc (ay vi akn)
  clear H;intro a w G vJ H hv;have H:=H.bC (hv 12 89 rfl rfl) rfl;clear hv;refine kH H (Ra rfl ?_);clear H;intro a H;refine aH ⟨rfl,?_⟩;refine lC _ _ ?_;clear lC;refine kP H (SR fun _ lD=>Rm rfl (Rc rfl (Kz lD (Cd rfl ?_ ?_)))) <;> clear H lD
  ·intro Af a H
   try have zI:=dT Af
   refine aN (fun _ lX=>?_)
   have e:kR s=kK (fun k=>(s.comments[k]?.map jl.id).getD 0) i:=by
    have h1:uD s.comments i=kK (fun k=>(s.comments[k]?.map jl.id).getD 0) i:=by rw [HY,AZ,wG zI]
    have h2:uz s.comments=kK (fun k=>(s.comments[k]?.map jl.id).getD 0) i:=by rw [Ho,yX hi2 hce (by rw [h1];exact zI),h1]
    rw [IJ e0 zq (by rw [h2];exact zI),h2]
   exact kP H (SC (Rm rfl (aL lX rfl (LR results40 rfl fun H=>H.rt (ay vi e.symm)))))
  intro Af a H
  try have zI:=dF Af
  refine kP H (Kc jQ (SR fun _ lY=>aR Om aD 0 rfl rfl (Rc rfl (ak lY rfl (SQ fun _ lZ=>SR fun _ mV=>ak mV rfl (SB ?_))))));clear H jQ lY mV;intro a H;skip;refine dV (ι:=Nat × Bool × GH) (Tc:=[(1,_),(8,_),(9,_)]) (Lc:=[(_,_)]) (fun gh=>[(11,.bool gh.2.1),(12,vi gh.1)]) (fun gh=>[]) (fun gh=>gh.2.2) (fun gh=>gh.1≤i∧gh.2.1=(decide (x.parent=0) || ((s.comments.take gh.1).findIdx? fun y=>decide (y.id=x.parent)).isSome)∧(∀ b o,g2 b=some o→gh.2.2 b=some o)) (fun gh=>i - gh.1) ((0,decide (x.parent=0),_)) (by exact (H).sub ⟨rfl,rfl,rfl,rfl,rfl,av⟩) ?_ ?_
  ·exact ⟨fQ _,by simp,vJ⟩
  clear H;rintro ⟨j,fb,g3⟩ a w hI H;dsimp only at hI H;obtain ⟨hj,Um,rG⟩:=hI;have ajM:=aJ rG ZV;dsimp only [lca,aO] at H;refine kP H (SQ fun _ qX=>SR fun _ vX=>Rm rfl (Rm rfl (Rc rfl (Kz vX (Cd rfl ?_ ?_))))) <;> clear H vX
  ·intro oq a H
   try have M0:=dT oq
   have hj2:j < i:=by omega
   have hj1:j < s.comments.length:=by omega
   obtain ⟨_,_,Uj,akb,-⟩:=Ji (Uh.mono rG) hj1
   injection Uj with Uj
   injection Uj with e1 e2
   subst e1;subst e2;refine kP H (Kc qX (SQ fun _ kY=>SB ?_));clear H qX;intro a H
   by_cases f0:fb=true
   ·skip;refine dI hmx [[],[0],[0,1],[0,1,2],[0,1],(ra 0 5),(ra 0 6),(ra 0 7),[0,1],[0,1,8],(ra 0 10),(ra 0 11),(ra 0 12)] [12] (by kernel_rfl) [_,.bool (decide (fb=true)),undef,undef,undef,undef,undef,undef,undef,undef,undef,.bool (fb || decide (s.comments[j].id=x.parent))] H (aI (Z0 rfl (Rm rfl)) ?_ (aV (j:=1) (by kernel_rfl) (fun _ _ _ _ _ h=>h) rfl rfl rfl rfl rfl (fun _ _ h=>aW h (aM (aG f0))) rfl (fun _=>rfl)) (aV (j:=1) (by kernel_rfl) (fun _ _ _ _ _ h=>h) rfl rfl rfl rfl rfl (fun _ _ h=>aW h (aM (aG f0))) rfl (fun _=>rfl)) (aI (aV (j:=1) (by kernel_rfl) (fun _ _ _ _ _ h=>h) rfl rfl rfl rfl rfl (fun _ _ h=>aW h (aM (aG f0))) rfl (fun _=>rfl)) (aV (j:=1) (by kernel_rfl) (fun _ _ _ _ _ h=>h) rfl rfl rfl rfl rfl (fun _ _ h=>aW h (aM (aG f0))) rfl (fun _=>rfl)) (aV (j:=1) (by kernel_rfl) (fun _ _ _ _ _ h=>h) rfl rfl rfl rfl rfl (fun _ _ h=>aW h (aM (aG f0))) rfl (fun _=>rfl)) (aV (j:=1) (by kernel_rfl) (fun _ _ _ _ _ h=>h) rfl rfl rfl rfl rfl (fun _ _ h=>aW h (aM (aG f0))) rfl (fun _=>rfl)) (aI (aV (j:=1) (by kernel_rfl) (fun _ _ _ _ _ h=>h) rfl rfl rfl rfl rfl (fun _ _ h=>aW h (aM (aG f0))) rfl (fun _=>rfl)) (aV (j:=1) (by kernel_rfl) (fun _ _ _ _ _ h=>h) rfl rfl rfl rfl rfl (fun _ _ h=>aW h (aM (aG f0))) rfl (fun _=>rfl)) (aV (j:=1) (by kernel_rfl) (fun _ _ _ _ _ h=>h) rfl rfl rfl rfl rfl (fun _ _ h=>aW h (aM (aG f0))) rfl (fun _=>rfl)) ?_ (bG (cZ rfl) dQ)))) ?_
    ·refine fq 0 101 rfl rfl fun _ a w G1 hG HT H fin=>?_;refine kH H (Rm rfl ?_);clear H;intro a H;exact fin H iJ (by show _=_;simp)
    ·refine fu 1 102 10 111 rfl rfl fun _ a w G1 hG HT H fin=>?_;refine kH H (Pt (aG f0) rfl ?_);clear H;intro a H;exact fin H iJ (aM (by first|(rw [f0];rfl)|(rw [Bool.eq_false_iff.2 f0];rfl)))
    clear H;intro a w G Ht H hv;have H:=H.bC (hv 11 112 rfl rfl) rfl;clear hv;refine kH H (Ra rfl ?_);clear H;intro a H;refine aH ⟨rfl,?_⟩;refine kY _ _ ?_;clear kY;refine kP H (SC (Rm rfl (Rd rfl (Ra rfl ?_))));clear H;intro a H;refine aH ?_;refine cB ((j+1,_,_)) (by exact (H).sub ⟨rfl,rfl,rfl,rfl,rfl,av⟩) ?_ ?_
    ·try dsimp only
     exact ⟨by omega,by rw [acS hj1,← Bool.or_assoc,← Um];cases fb <;> rfl,fun b o h=>Ht b o (rG b o h)⟩
    first|omega|(dsimp only;omega)
   skip;refine dI hmx [[],[0],[0,1],[0,1,2],[0,1],(ra 0 5),(ra 0 6),(ra 0 7),[0,1],[0,1,8],(ra 0 10),(ra 0 11),(ra 0 12)] [12] (by kernel_rfl) [_,.bool (decide (fb=true)),_,_,_,_,_,_,_,vi x.parent,_,.bool (fb || decide (s.comments[j].id=x.parent))] H (aI (Z0 rfl (Rm rfl)) ?_ (Z1 1 102 rfl (YF GV (aQ f0) rfl)) (X2 2 103 1 102 rfl fun hG=>YR AB (aQ f0) rfl (aJ hG ajM)) (aI (Z1 1 102 rfl (YM (aQ f0) rfl)) (Z3 3 104 4 105 1 102 rfl (YI zN yH (aQ f0) rfl rfl)) (Z2 5 106 1 102 rfl (YF LQ (aQ f0) rfl)) (X2 6 107 1 102 rfl fun hG=>YR aD (aQ f0) rfl (aJ hG (akb 0 _ rfl))) (aI (Z1 1 102 rfl (YF Om (aQ f0) rfl)) (Z2 8 109 1 102 rfl (YO aD 0 (aQ f0) rfl)) (Z3 7 108 9 110 1 102 rfl (YC (aQ f0) rfl)) ?_ (bG (cZ rfl) dQ)))) ?_
   ·refine fq 0 101 rfl rfl fun _ a w G1 hG HT H fin=>?_;refine kH H (Rm rfl ?_);clear H;intro a H;exact fin H iJ (by show _=_;simp)
   ·refine fu 1 102 10 111 rfl rfl fun _ a w G1 hG HT H fin=>?_;refine kH H (Pf (aQ f0) rfl ?_);clear H;intro a H;exact fin H iJ (aM (by first|(rw [f0];rfl)|(rw [Bool.eq_false_iff.2 f0];rfl)))
   clear H;intro a w G Ht H hv;have H:=H.bC (hv 11 112 rfl rfl) rfl;clear hv;refine kH H (Ra rfl ?_);clear H;intro a H;refine aH ⟨rfl,?_⟩;refine kY _ _ ?_;clear kY;refine kP H (SC (Rm rfl (Rd rfl (Ra rfl ?_))));clear H;intro a H;refine aH ?_;refine cB ((j+1,_,_)) (by exact (H).sub ⟨rfl,rfl,rfl,rfl,rfl,av⟩) ?_ ?_
   ·try dsimp only
    exact ⟨by omega,by rw [acS hj1,← Bool.or_assoc,← Um];cases fb <;> rfl,fun b o h=>Ht b o (rG b o h)⟩
   first|omega|(dsimp only;omega)
  intro oq a H
  try have M0:=dF oq
  refine dJ ?_;refine lZ _ _ ?_;clear lZ;refine kP H (SQ fun _ yQ=>SB (SQ fun _ vY=>?_));clear H;intro a H
  have hbef:fb=EY s.comments i x:=by rw [Um,show j=i by omega];rfl
  refine kP H (SC (Rm rfl (Rn rfl (aL vY rfl (Cd rfl ?_ ?_))))) <;> clear H vY
  ·intro rD a H
   refine aN (fun _ EG=>?_)
   have e:kR s=8:=by
    have h1:uD s.comments i=8:=by rw [HY,AZ,iY (gL.1 zI),← hbef,show (!fb)=true from rD];rfl
    have h2:uz s.comments=8:=by rw [Ho,yX hi2 hce (by rw [h1];decide),h1]
    rw [IJ e0 zq (by rw [h2];decide),h2]
   exact kP H (SC (aL EG rfl (LR results40 rfl fun H=>H.rt (ay vi e.symm))))
  intro rD a H
  try have FI:=dF rD
  have w8:bL (!EY s.comments i x) 8=0:=by rw [← hbef,show (!fb)=false from rD];rfl
  refine kP H (SR fun _ BX=>aR Zm gZ 0 rfl rfl ?_);clear H;intro a H;refine s_call Y6 H wn rfl (XW _ _ H.ro x.author hte.1) rfl ?_;clear H;rintro asx _ a w ⟨rfl,rfl⟩ - H;refine kH H (Rn rfl (ak BX rfl (Cd rfl ?_ ?_))) <;> clear H BX
  ·intro h116 a H
   refine aN (fun _ AQ=>?_)
   have e:kR s=39:=by
    have h1:uD s.comments i=39:=by rw [HY,AZ,iY (gL.1 zI),iY w8,show (!qb x.author)=true from h116];rfl
    have h2:uz s.comments=39:=by rw [Ho,yX hi2 hce (by rw [h1];decide),h1]
    rw [IJ e0 zq (by rw [h2];decide),h2]
   exact kP H (SC (aL AQ rfl (LR results40 rfl fun H=>H.rt (ay vi e.symm))))
  intro h116 a H
  try have PU:=dF h116
  have F4:bL (!qb x.author) 39=0:=by rw [show (!qb x.author)=false from h116];rfl
  refine kP H (SR fun _ zW=>aR Sd aD 0 rfl rfl (Rc rfl (Rm rfl (Sp 125 rfl ?_ ?_)))) <;> clear H
  ·intro xW a H
   try have ach:=dT xW
   refine kH H (aZ xW rfl (Pt xW rfl (ak zW rfl (Ct rfl rfl (SQ fun _ Di=>?_)))));clear H zW;intro a H
   have e:kR s=40:=by
    have h1:uD s.comments i=40:=by rw [HY,AZ,iY (gL.1 zI),iY w8,iY F4,iV (by omega)];rfl
    have h2:uz s.comments=40:=by rw [Ho,yX hi2 hce (by rw [h1];decide),h1]
    rw [IJ e0 zq (by rw [h2];decide),h2]
   exact kP H (SC (aL Di rfl (LR results40 rfl fun H=>H.rt (ay vi e.symm))))
  intro xW a H
  try have ach:=dF xW
  refine kH H (YF Sd xW rfl (YO aD 0 xW rfl (YC xW rfl (Pf xW rfl (ak zW rfl (Cd rfl ?_ ?_)))))) <;> clear H zW
  ·intro SL a H
   try have anx:=dT SL
   refine aN (fun _ Dj=>?_)
   have e:kR s=40:=by
    have h1:uD s.comments i=40:=by rw [HY,AZ,iY (gL.1 zI),iY w8,iY F4,iV (by omega)];rfl
    have h2:uz s.comments=40:=by rw [Ho,yX hi2 hce (by rw [h1];decide),h1]
    rw [IJ e0 zq (by rw [h2];decide),h2]
   exact kP H (SC (aL Dj rfl (LR results40 rfl fun H=>H.rt (ay vi e.symm))))
  intro SL a H
  try have anx:=dF SL
  refine fT ?_;refine yQ _ _ ?_;clear yQ;refine aN (fun _ BZ=>?_)
  have Qv:bL (!decide (0≤x.time∧x.time≤1099511627776)) 40=0:=by rw [iq (by omega)];rfl
  refine kP H (SC (aR Zn gZ 0 rfl rfl ?_));clear H;intro a H;refine s_call Zh H wn rfl (adl _ _ H.ro x.text hte.2) rfl ?_;clear H;rintro asG _ a w ⟨rfl,rfl⟩ - H;refine kH H (aL BZ rfl (SR fun _ F6=>Rm rfl (Rc rfl (Kz F6 (Cd rfl ?_ ?_))))) <;> clear H BZ F6
  ·intro SS a H
   try have MV:=dT SS
   refine aN (fun _ F7=>?_)
   have e:kR s=sQ x.text:=by
    have h1:uD s.comments i=sQ x.text:=by rw [HY,AZ,iY (gL.1 zI),iY w8,iY F4,iY Qv,wG MV]
    have h2:uz s.comments=sQ x.text:=by rw [Ho,yX hi2 hce (by rw [h1];exact MV),h1]
    rw [IJ e0 zq (by rw [h2];exact MV),h2]
   exact kP H (SC (Rm rfl (aL F7 rfl (LR results40 rfl fun H=>H.rt (ay vi e.symm)))))
  intro SS a H
  try have MV:=dF SS
  refine kP H (Kc kW (SC (Rm rfl (Rd rfl (Ra rfl ?_)))));clear H kW;intro a H;refine aH ?_;refine cB ((i+1,g3)) (by exact (H.dx (Pl:=[_]) (bZ:=[]) [] (by decide) rfl).sub ⟨rfl,rfl,av⟩) ?_ ?_
  ·(try dsimp only);exact ⟨by omega,NI hi2 hce (by rw [HY,AZ,iY (gL.1 zI),iY w8,iY F4,iY Qv,iY (gL.1 MV)];rfl),fun b o h=>rG b o (kI b o h)⟩
  first|omega|(dsimp only;omega)
 intro gX a H
 try have p69:=dF gX
 refine dJ ?_;refine gG _ _ ?_;clear gG;refine aN (fun _ uZ=>?_);refine aN (fun _ EH=>?_)
 have Jy:uz s.comments=0:=by rw [Ho,NH (by omega) hce]
 have ajO:=aJ kI ajN;replace hva:=hva.mono kI;refine kP H (SC (Rf GX rfl (Rg uV rfl (by assumption) ?_)));clear H;intro a H;refine kH H (Rl vW rfl (Rc rfl (Kn EH (Cd rfl ?_ ?_)))) <;> clear H EH
 ·intro SX a H
  try have anA:=dT SX
  refine aN (fun _ F8=>?_)
  have e:kR s=9:=by
   have h:Ac s.vars=9:=PD (m:=128) (by omega);rw [Kr e0 zq Jy,h]
  exact kP H (SC (aL F8 rfl (LR results40 rfl fun H=>H.rt (ay vi e.symm))))
 intro SX a H
 try have anA:=dF SX
 have Ml:Ac s.vars=iw (xD s.vars) s.vars.length:=Pz (m:=128) (by omega);refine kP H (Kc uZ (SQ fun _ pW=>SR fun _ EI=>ak EI rfl (SB ?_)));clear H uZ EI;intro a H;skip;refine dV (ι:=Nat × GH) (Tc:=[(1,_)]) (Lc:=[]) (fun gh=>[(14,vi gh.1)]) (fun gh=>[]) (fun gh=>gh.2) (fun gh=>gh.1≤s.vars.length∧bO (((List.range s.vars.length).map (xD s.vars)).drop gh.1)=iw (xD s.vars) s.vars.length∧(∀ b o,g2 b=some o→gh.2 b=some o)) (fun gh=>s.vars.length - gh.1) ((0,g2)) (by exact (H).sub ⟨rfl,rfl,av⟩) ?_ ?_
 ·exact ⟨fQ _,rfl,fun _ _ h=>h⟩
 clear H;rintro ⟨n,g4⟩ a w hI H;dsimp only at hI H;obtain ⟨hn,hne,vL⟩:=hI;have ZW:=aJ vL ajO;have aaV:=hva.mono vL;dsimp only [lca,aO] at H;refine kP H (SQ fun _ xK=>SR fun _ EJ=>Rm rfl (Rf GX rfl (Rg uV rfl (by assumption) ?_)));clear H;intro a H;refine kH H (Rl vW rfl (Rc rfl (Kz EJ (Cd rfl ?_ ?_)))) <;> clear H EJ
 ·intro wL a H
  try have Vy:=dT wL
  have hn2:n < s.vars.length:=by omega
  have hn1:n - 1 < s.vars.length:=by omega
  obtain ⟨vb,vo,rfl,aaY⟩:=Qu aaV hn2;obtain ⟨_,_,Uk,U6⟩:=Qu aaV hn1
  injection Uk with Uk
  injection Uk with e1 e2
  subst e1;subst e2;have hte:=hz.vt _ (jD hn2);obtain ⟨x,hx⟩:∃ x,x=s.vars[n]:=⟨_,rfl⟩;obtain ⟨y,hy⟩:∃ y,y=s.vars[n - 1]:=⟨_,rfl⟩
  have MJ:xD s.vars n=FX n x y.name:=by unfold xD;rw [fH hn2,fH hn1,hx,hy];rfl
  rw [← hx] at aaY hte;rw [← hy] at U6;refine kP H (Kc xK (SQ fun _ F9=>SB (SR fun _ EK=>Rf GX rfl (Rg uV rfl (by assumption) ?_))));clear H xK;intro a H;refine kH H (Rm rfl (Ri vW yI rfl rfl ?_));clear H;intro a H;refine bK yI (cs:=x.cells) H wn rfl rfl (fun j v hj=>H.hp.aF (aaY j v hj)) rfl ?_;clear H;intro a H;refine dY yI H wn rfl ?_;clear H;intro b15 a w TW H;refine bT yI 0 (vs:=[_,_]) _ H wn rfl rfl rfl rfl rfl rfl rfl rfl ?_;clear H;intro w H;dsimp only [List.set,setRow] at H;refine EK _ _ ?_;clear EK;refine oG (ι:=GH) (Tc:=[(1,_),(14,_),(15,_)]) (Lc:=[]) (fun gh=>[]) (fun gh=>[(b15,.cells x.cells.toArray 167 (0,0))]) (fun gh=>gh) (fun gh=>bL (!oV x.name) 13=0∧bL (decide (0 < (n:Int)) && (x.name.toList == y.name.toList)) 7=0∧bL (decide (0 < (n:Int)) && Op.bytesLess x.name.toList y.name.toList) 6=0∧(∀ b o,g4 b=some o→gh b=some o)) (by exact (H).sub ⟨rfl,rfl,rfl,av⟩) ?_ ?_
  ·skip;refine kP H (SB (SR fun _ Gd=>aR Bc gZ 0 rfl rfl ?_));clear H;intro a H;refine s_call LJ H wn rfl (Ls _ _ H.ro x.name hte.1) rfl ?_;clear H;rintro asN _ a w ⟨rfl,rfl⟩ - H;refine kH H (Rn rfl (ak Gd rfl (Cd rfl ?_ ?_))) <;> clear H Gd
   ·intro Oz a H
    refine aN (fun _ AU=>?_)
    have e:kR s=13:=by
     have h1:xD s.vars n=13:=by rw [MJ,FX,show (!oV x.name)=true from Oz];rfl
     have h2:Ac s.vars=13:=by rw [Ml,yX hn2 hne (by rw [h1];decide),h1]
     rw [Kr e0 zq Jy,h2]
    exact kP H (SC (aL AU rfl (LR results40 rfl fun H=>H.rt (ay vi e.symm))))
   intro Oz a H
   try have asb:=dF Oz
   have IQ:bL (!oV x.name) 13=0:=by rw [show (!oV x.name)=false from Oz];rfl
   refine aN (fun _ uf=>?_)
   by_cases c0:0 < (n:Int)
   ·skip;refine dI hmx [[],[0],[0,1],[0,1,2],(ra 0 4),[0,1,2],[0,1,2,5],[0,1,2],[0,1,2,7],[0,1,2,5,6,7,8],[0,1,2,5,6,7,8,9],([0,1,2]++ra 5 6),(ra 0 12),(ra 0 13),(ra 0 14)] [] (by kernel_rfl) [_,_,_,_,.string x.name,_,_,_,vi ((n - 1:Nat):Int),_,_,_,.bool ((x.name.toList == y.name.toList)),_,_] H (aI (Z0 rfl (Rm rfl)) (Z1 0 158 rfl (Rc rfl)) (Z1 1 159 rfl (Rm rfl)) (Z1 2 160 rfl (YF Bc (aG c0) rfl)) (aI (Z2 3 161 2 160 rfl (YO gZ 0 (aG c0) rfl)) (Z1 2 160 rfl (YF GX (aG c0) rfl)) (X2 5 163 2 160 rfl fun hG=>YR uV (aG c0) rfl (aJ hG ZW)) (Z1 2 160 rfl (YM (aG c0) rfl)) (aI ?_ (Z3 6 164 8 166 2 160 rfl (YI vW yI (aG c0) rfl rfl)) (Z2 9 167 2 160 rfl (YF Bc (aG c0) rfl)) (X2 10 168 2 160 rfl fun hG=>YR gZ (aG c0) rfl (aJ hG (U6 0 _ rfl))) (bG ?_ (bG (Z2 2 160 12 170 rfl (Pt (aG c0) rfl)) (bG (Z1 13 171 rfl (Ra rfl)) dQ)))))) ?_
    ·refine fu 7 165 2 160 rfl rfl fun _ a w G1 hG HT H fin=>?_;refine mQ _ H (wg H rfl rfl (aG c0)) rfl rfl rfl (by omega) (by omega) rfl ?_;clear H;intro a H;exact fin H iJ (by show _=_;first|rfl|exact ay vi (by omega))
    ·refine wh 4 162 11 169 2 160 rfl rfl fun _ a w G1 hG HT H fin=>?_;refine II H (wg H rfl rfl (aG c0)) rfl rfl rfl ?_;clear H;intro a H;exact fin H iJ rfl
    clear H;intro a w G Bu H hv;have H:=H.bC (hv 14 157 rfl rfl) rfl;clear hv;refine aH ⟨rfl,?_⟩;refine uf _ _ ?_;clear uf;refine qG H rfl ?_ ?_
    ·intro Ma
     refine aN (fun _ Dl=>?_)
     have e:kR s=7:=by
      have h1:xD s.vars n=7:=by rw [MJ,FX,iY IQ,iq c0,vg,Ma];rfl
      have h2:Ac s.vars=7:=by rw [Ml,yX hn2 hne (by rw [h1];decide),h1]
      rw [Kr e0 zq Jy,h2]
     exact kP H (SC (aL Dl rfl (LR results40 rfl fun H=>H.rt (ay vi e.symm))))
    intro Ma
    try have ase:=dF Ma
    refine aN (fun _ Gf=>?_)
    have z7:bL (decide (0 < (n:Int)) && (x.name.toList == y.name.toList)) 7=0:=by first|(rw [iq c0,vg,Ma];rfl)|(rw [iV c0,uo];rfl)
    have c1:0 < (n:Int):=c0;refine dI hmx [[],[0],[0,1],[0,1,2],(ra 0 4),[0,1,2],[0,1,2,5],[0,1,2],[0,1,2,7],[0,1,2,5,6,7,8],[0,1,2,5,6,7,8,9],([0,1,2]++ra 5 6),(ra 0 12),(ra 0 13),(ra 0 14)] [] (by kernel_rfl) [_,_,_,_,.string x.name,_,_,_,vi ((n - 1:Nat):Int),_,_,_,.bool (Op.bytesLess x.name.toList y.name.toList),_,_] H (aI (Z0 rfl (Rm rfl)) (Z1 0 173 rfl (Rc rfl)) (Z1 1 174 rfl (Rm rfl)) (Z1 2 175 rfl (YF Bc (aG c1) rfl)) (aI (Z2 3 176 2 175 rfl (YO gZ 0 (aG c1) rfl)) (Z1 2 175 rfl (YF GX (aG c1) rfl)) (X2 5 178 2 175 rfl fun hG=>YR uV (aG c1) rfl (aJ hG (aJ Bu ZW))) (Z1 2 175 rfl (YM (aG c1) rfl)) (aI ?_ (Z3 6 179 8 181 2 175 rfl (YI vW yI (aG c1) rfl rfl)) (Z2 9 182 2 175 rfl (YF Bc (aG c1) rfl)) (X2 10 183 2 175 rfl fun hG=>YR gZ (aG c1) rfl (aJ hG (aJ Bu (U6 0 _ rfl)))) (bG ?_ (bG (Z2 2 175 12 185 rfl (Pt (aG c1) rfl)) (bG (Z1 13 186 rfl (Ra rfl)) dQ)))))) ?_
    ·refine fu 7 180 2 175 rfl rfl fun _ a w G1 hG HT H fin=>?_;refine mQ _ H (wg H rfl rfl (aG c1)) rfl rfl rfl (by omega) (by omega) rfl ?_;clear H;intro a H;exact fin H iJ (by show _=_;first|rfl|exact ay vi (by omega))
    ·refine wh 4 177 11 184 2 175 rfl rfl fun _ a w G1 hG HT H fin=>?_;refine acI H (wg H rfl rfl (aG c1)) rfl rfl rfl ?_;clear H;intro a H;exact fin H iJ rfl
    clear H;intro a w G Tw H hv;have H:=H.bC (hv 14 172 rfl rfl) rfl;clear hv;refine aH ⟨rfl,?_⟩;refine Gf _ _ ?_;clear Gf;refine qG H rfl ?_ ?_
    ·intro Mc
     refine aN (fun _ Gg=>?_)
     have e:kR s=6:=by
      have h1:xD s.vars n=6:=by rw [MJ,FX,iY IQ,iY z7,iq c0,vg,Mc];rfl
      have h2:Ac s.vars=6:=by rw [Ml,yX hn2 hne (by rw [h1];decide),h1]
      rw [Kr e0 zq Jy,h2]
     exact kP H (SC (aL Gg rfl (LR results40 rfl fun H=>H.rt (ay vi e.symm))))
    intro Mc
    try have ash:=dF Mc
    refine fT ?_;refine ⟨_,by exact (H).sub ⟨rfl,rfl,rfl,av⟩,?_⟩;exact ⟨IQ,z7,by first|(rw [iq c0,vg,Mc];rfl)|(rw [iV c0,uo];rfl),fun b o h=>Tw b o (Bu b o h)⟩
   skip;refine dI hmx [[],[0],[0,1],[0,1,2],(ra 0 4),[0,1,2],[0,1,2,5],[0,1,2],[0,1,2,7],[0,1,2,5,6,7,8],[0,1,2,5,6,7,8,9],([0,1,2]++ra 5 6),(ra 0 12),(ra 0 13),(ra 0 14)] [] (by kernel_rfl) [_,_,_,undef,undef,undef,undef,undef,undef,undef,undef,undef,undef,_,_] H (aI (Z0 rfl (Rm rfl)) (Z1 0 158 rfl (Rc rfl)) (Z1 1 159 rfl (Rm rfl)) (aV (j:=2) (by kernel_rfl) (fun _ _ _ _ _ h=>h) rfl rfl rfl rfl rfl (fun _ _ h=>aW h (aM (aQ c0))) rfl (fun _=>rfl)) (aI (aV (j:=2) (by kernel_rfl) (fun _ _ _ _ _ h=>h) rfl rfl rfl rfl rfl (fun _ _ h=>aW h (aM (aQ c0))) rfl (fun _=>rfl)) (aV (j:=2) (by kernel_rfl) (fun _ _ _ _ _ h=>h) rfl rfl rfl rfl rfl (fun _ _ h=>aW h (aM (aQ c0))) rfl (fun _=>rfl)) (aV (j:=2) (by kernel_rfl) (fun _ _ _ _ _ h=>h) rfl rfl rfl rfl rfl (fun _ _ h=>aW h (aM (aQ c0))) rfl (fun _=>rfl)) (aV (j:=2) (by kernel_rfl) (fun _ _ _ _ _ h=>h) rfl rfl rfl rfl rfl (fun _ _ h=>aW h (aM (aQ c0))) rfl (fun _=>rfl)) (aI (aV (j:=2) (by kernel_rfl) (fun _ _ _ _ _ h=>h) rfl rfl rfl rfl rfl (fun _ _ h=>aW h (aM (aQ c0))) rfl (fun _=>rfl)) (aV (j:=2) (by kernel_rfl) (fun _ _ _ _ _ h=>h) rfl rfl rfl rfl rfl (fun _ _ h=>aW h (aM (aQ c0))) rfl (fun _=>rfl)) (aV (j:=2) (by kernel_rfl) (fun _ _ _ _ _ h=>h) rfl rfl rfl rfl rfl (fun _ _ h=>aW h (aM (aQ c0))) rfl (fun _=>rfl)) (aV (j:=2) (by kernel_rfl) (fun _ _ _ _ _ h=>h) rfl rfl rfl rfl rfl (fun _ _ h=>aW h (aM (aQ c0))) rfl (fun _=>rfl)) (bG (aV (j:=2) (by kernel_rfl) (fun _ _ _ _ _ h=>h) rfl rfl rfl rfl rfl (fun _ _ h=>aW h (aM (aQ c0))) rfl (fun _=>rfl)) (bG (Z2 2 160 12 170 rfl (Pf (aQ c0) rfl)) (bG (Z1 13 171 rfl (Ra rfl)) dQ)))))) ?_
   clear H;intro a w G Bu H hv;have H:=H.bC (hv 14 157 rfl rfl) rfl;clear hv;refine aH ⟨rfl,?_⟩;refine uf _ _ ?_;clear uf;refine oF H rfl rfl ?_;refine aN (fun _ EL=>?_)
   have z7:bL (decide (0 < (n:Int)) && (x.name.toList == y.name.toList)) 7=0:=by first|(rw [iq c0,vg,Ma];rfl)|(rw [iV c0,uo];rfl)
   have c1:¬ (0 < (n:Int)):=c0;refine dI hmx [[],[0],[0,1],[0,1,2],(ra 0 4),[0,1,2],[0,1,2,5],[0,1,2],[0,1,2,7],[0,1,2,5,6,7,8],[0,1,2,5,6,7,8,9],([0,1,2]++ra 5 6),(ra 0 12),(ra 0 13),(ra 0 14)] [] (by kernel_rfl) [_,_,_,undef,undef,undef,undef,undef,undef,undef,undef,undef,undef,_,_] H (aI (Z0 rfl (Rm rfl)) (Z1 0 173 rfl (Rc rfl)) (Z1 1 174 rfl (Rm rfl)) (aV (j:=2) (by kernel_rfl) (fun _ _ _ _ _ h=>h) rfl rfl rfl rfl rfl (fun _ _ h=>aW h (aM (aQ c1))) rfl (fun _=>rfl)) (aI (aV (j:=2) (by kernel_rfl) (fun _ _ _ _ _ h=>h) rfl rfl rfl rfl rfl (fun _ _ h=>aW h (aM (aQ c1))) rfl (fun _=>rfl)) (aV (j:=2) (by kernel_rfl) (fun _ _ _ _ _ h=>h) rfl rfl rfl rfl rfl (fun _ _ h=>aW h (aM (aQ c1))) rfl (fun _=>rfl)) (aV (j:=2) (by kernel_rfl) (fun _ _ _ _ _ h=>h) rfl rfl rfl rfl rfl (fun _ _ h=>aW h (aM (aQ c1))) rfl (fun _=>rfl)) (aV (j:=2) (by kernel_rfl) (fun _ _ _ _ _ h=>h) rfl rfl rfl rfl rfl (fun _ _ h=>aW h (aM (aQ c1))) rfl (fun _=>rfl)) (aI (aV (j:=2) (by kernel_rfl) (fun _ _ _ _ _ h=>h) rfl rfl rfl rfl rfl (fun _ _ h=>aW h (aM (aQ c1))) rfl (fun _=>rfl)) (aV (j:=2) (by kernel_rfl) (fun _ _ _ _ _ h=>h) rfl rfl rfl rfl rfl (fun _ _ h=>aW h (aM (aQ c1))) rfl (fun _=>rfl)) (aV (j:=2) (by kernel_rfl) (fun _ _ _ _ _ h=>h) rfl rfl rfl rfl rfl (fun _ _ h=>aW h (aM (aQ c1))) rfl (fun _=>rfl)) (aV (j:=2) (by kernel_rfl) (fun _ _ _ _ _ h=>h) rfl rfl rfl rfl rfl (fun _ _ h=>aW h (aM (aQ c1))) rfl (fun _=>rfl)) (bG (aV (j:=2) (by kernel_rfl) (fun _ _ _ _ _ h=>h) rfl rfl rfl rfl rfl (fun _ _ h=>aW h (aM (aQ c1))) rfl (fun _=>rfl)) (bG (Z2 2 175 12 185 rfl (Pf (aQ c1) rfl)) (bG (Z1 13 186 rfl (Ra rfl)) dQ)))))) ?_
   clear H;intro a w G Tw H hv;have H:=H.bC (hv 14 172 rfl rfl) rfl;clear hv;refine aH ⟨rfl,?_⟩;refine EL _ _ ?_;clear EL;refine oF H rfl rfl ?_;refine fT ?_;refine ⟨_,by exact (H).sub ⟨rfl,rfl,rfl,av⟩,?_⟩;exact ⟨IQ,z7,by first|(rw [iq c0,vg,Mc];rfl)|(rw [iV c0,uo];rfl),fun b o h=>Tw b o (Bu b o h)⟩
  clear H;intro g5 a w hI H;obtain ⟨IQ,z7,z6,akl⟩:=hI;dsimp only [lca,aO] at H;refine kP H (SR fun _ EM=>aR Sg gZ 0 rfl rfl ?_);clear H;intro a H;refine s_call Zh H wn rfl (adl _ _ H.ro x.value hte.2) rfl ?_;clear H;rintro asQ _ a w ⟨rfl,rfl⟩ - H;refine kH H (ak EM rfl (SR fun _ EN=>Rm rfl (Rc rfl (Kz EN (Cd rfl ?_ ?_))))) <;> clear H EM EN
  ·intro Te a H
   try have PX:=dT Te
   refine aN (fun _ I6=>?_)
   have e:kR s=sQ x.value:=by
    have h1:xD s.vars n=sQ x.value:=by rw [MJ,FX,iY IQ,iY z7,iY z6,wG PX]
    have h2:Ac s.vars=sQ x.value:=by rw [Ml,yX hn2 hne (by rw [h1];exact PX),h1]
    rw [Kr e0 zq Jy,h2]
   exact kP H (SC (Rm rfl (aL I6 rfl (LR results40 rfl fun H=>H.rt (ay vi e.symm)))))
  intro Te a H
  try have PX:=dF Te
  refine kP H (Kc F9 (SC (Rm rfl (Rd rfl (Ra rfl ?_)))));clear H F9;intro a H;refine aH ?_;refine cB ((n+1,g5)) (by exact (H.dx (Pl:=[_]) (bZ:=[]) [] (by decide) rfl).sub ⟨rfl,rfl,av⟩) ?_ ?_
  ·(try dsimp only);exact ⟨by omega,NI hn2 hne (by rw [MJ,FX,iY IQ,iY z7,iY z6,iY (gL.1 PX)];rfl),fun b o h=>akl b o (vL b o h)⟩
  first|omega|(dsimp only;omega)
 intro wL a H
 try have Vy:=dF wL
 refine dJ ?_;refine pW _ _ ?_;clear pW;refine aN (fun _ Gj=>?_)
 have e:kR s=0:=by rw [Kr e0 zq Jy,Ml,NH (by omega) hne]
 exact kP H (SC (aL Gj rfl (LR results40 rfl fun H=>H.rt (ay vi e.symm))))
end
section
open Go.RowKit
theorem Jt:dL prog 56 0 0:=⟨by kernel_rfl⟩
abbrev iR (D:jP) (b:Nat) (v:aj) (n:Int):Nat × Obj:=(b,.cells #[bg D.f,bg D.p,vi D.ins,vi D.move,bg D.d,bg D.y,bg D.r,bg D.s1,bg D.s2,bg D.s3,bg D.s4,v,.slice none 0 0,vi n] 56 (0,0))
structure Ca (G:GH) (D:jP) (st:List bS) (li:List dR) (rv:List dU):Prop where
 sty:aB G (.sl 6 (st.map bS.dat)) (bg D.s1)
 yw:aB G (.sl 2 (li.map dR.dat)) (bg D.s2)
 rev:aB G (.sl 3 (rv.map dU.dat)) (bg D.r)
theorem Ca.mono {G G':GH} {D:jP} {st:List bS} {li:List dR} {rv:List dU} (h:Ca G D st li rv) (hm:∀ b o,G b=some o→G' b=some o):Ca G' D st li rv:=⟨h.sty.mono hm,h.yw.mono hm,h.rev.mono hm⟩
structure Gy (st:List bS) (li:List dR) (rv:List dU):Prop where
 fr:zS (st.map bS.id)
 sn:st.length≤4294967296
 ln:li.length≤4294967296
 rn:rv.length≤4294967296
theorem abh {G:GH} {r:List Int} {A:Option Addr} {n c k:Nat} (hv:aB G (.sl 1 (r.map fun k=>[li k])) (.slice A n c)) (hk:k < r.length):∃ b o,A=some ⟨b,o,none⟩∧aF G b (o+k*1)=some (vi r[k]):=by
 obtain ⟨A',c',he,-,-,hg⟩:=hv.slice
 injection he with e1 e2 e3
 subst e1;obtain ⟨b,o,cs,h1,h2,h3,h4⟩:=hg k [li r[k]] (by simp [hk]);obtain ⟨v1,_,rfl,⟨rfl,-⟩,rfl⟩:∃ v vs,cs=v :: vs∧aB G (li r[k]) v∧bM G [] vs:=h4;exact ⟨b,o,h1,by simpa using h3 0 _ rfl⟩
theorem Vn {α:Type} {l:List α} {x:α} {k:Nat} (hk:l.length≤k) (h:x∉l.take k):x∉l:=by rwa [mF hk] at h
theorem Vo {α:Type} {l:List α} {x:α} {k:Nat} (hk:k < l.length) (h:x∉l.take k) (hn:¬ l[k]=x):x∉l.take (k+1):=by
 rw [lG hk,rU,um];exact fun h'=>h'.elim h fun e=>hn e.symm
theorem TU (G:GH) (w0:World) (hG:Hold G w0) (l:List Int) (v:aj) (hv:aB G (.sl 1 (l.map fun k=>[li k])) v) (x:Int) :
  Calls prog 71 #[v,vi x] w0 (bV w0 G fun u G'=>u=.bool (decide (x∈l))∧G=G'):=by
 obtain ⟨A,c,rfl,hc1,hc2,-⟩:=hv.slice;have hml:maxLen=9223372036854775807:=rfl;rw [bN] at *;refine eN [(0,_),(1,_)] func71 rfl ntmps71 rfl rfl hG ?_;intro a H;refine kP H (SR fun _ K1=>ak K1 rfl (SQ fun _ K2=>SR fun _ K3=>ak K3 rfl (SB ?_)));clear H K1 K3;intro a H;skip;refine dV (ι:=Nat) (Tc:=[(0,_),(1,_)]) (Lc:=[]) (fun gh=>[(5,vi gh)]) (fun gh=>[]) (fun gh=>G) (fun gh=>gh≤l.length∧x∉l.take gh) (fun gh=>l.length - gh) (0) (by exact (H).sub ⟨rfl,rfl,rfl,av⟩) ?_ ?_
 ·exact ⟨fQ _,by simp⟩
 clear H;intro k a w hI H;obtain ⟨hk,he⟩:=hI;dsimp only [lca,aO] at H;refine kP H (SQ fun _ K4=>SR fun _ K5=>Rm rfl (Rm rfl (Rl jN rfl (Rc rfl (Kz K5 (Cd rfl ?_ ?_)))))) <;> clear H K5
 ·intro h9 a H
  try have p9:=dT h9
  have hk2:k < l.length:=by omega
  obtain ⟨b,o,rfl,hcell⟩:=abh hv hk2;refine kP H (Kc K4 (SQ fun _ K6=>SB (SR fun _ K7=>Rm rfl (Rm rfl (Ri jN aD rfl rfl (Rg aD rfl hcell (Rm rfl (Rc rfl (Kz K7 (Cd rfl ?_ ?_)))))))))) <;> clear H K4 K7
  ·intro gu a H
   try have mo:=dT gu
   exact kP H (SR fun _ K8=>ak K8 rfl (LR results71 rfl fun H=>H.rt ⟨aM (iq (mo ▸ jD hk2)).symm,rfl⟩))
  intro gu a H
  try have mo:=dF gu
  refine kP H (Kc K6 (SC (Rm rfl (Rd rfl (Ra rfl ?_)))));clear H K6;intro a H;refine aH ?_;refine cB ((k+1)) (by exact (H).sub ⟨rfl,rfl,rfl,av⟩) ?_ ?_
  ·exact ⟨by omega,Vo hk2 he mo⟩
  first|omega|(dsimp only;omega)
 intro h9 a H
 try have p9:=dF h9
 refine dJ ?_;refine K2 _ _ ?_;clear K2;exact kP H (SR fun _ K9=>ak K9 rfl (LR results71 rfl fun H=>H.rt ⟨aM (iV (Vn (by omega) he)).symm,rfl⟩))
theorem Vk (G:GH) (w0:World) (hG:Hold G w0) (D:jP) (st:List bS) (li:List dR) (rv:List dU) (b:Nat) (v:aj) (n:Int) (hk:Ca G D st li rv) (hz:Gy st li rv) (hb:G b=some (iR D b v n).2) (x:Int) :
  Calls prog 97 #[(aP b 0),vi x] w0 (bV w0 G fun u G'=>u=.bool (decide (x∈rv.map dU.id))∧G=G'):=by
 have hc6:aF G b 6=some (bg D.r):=by unfold aF;rw [hb];rfl
 have mO:=hk.rev
 generalize bg D.r=v6 at hc6 mO
 obtain ⟨A,c,rfl,hc1,hc2,-⟩:=mO.slice;have hrn:=hz.rn;rw [bN] at *;refine eN [(0,_),(1,_)] func97 rfl ntmps97 rfl rfl hG ?_;intro a H;refine kP H (SR fun _ K1=>ak K1 rfl (SQ fun _ K2=>SR fun _ K3=>ak K3 rfl (SB ?_)));clear H K1 K3;intro a H;skip;refine dV (ι:=Nat) (Tc:=[(0,_),(1,_)]) (Lc:=[]) (fun gh=>[(5,vi gh)]) (fun gh=>[]) (fun gh=>G) (fun gh=>gh≤rv.length∧x∉(rv.map dU.id).take gh) (fun gh=>rv.length - gh) (0) (by exact (H).sub ⟨rfl,rfl,rfl,av⟩) ?_ ?_
 ·exact ⟨fQ _,by simp⟩
 clear H;intro k a w hI H;obtain ⟨hk,he⟩:=hI;dsimp only [lca,aO] at H;refine kP H (SQ fun _ K4=>SR fun _ K5=>Rm rfl (Rm rfl (Rk rfl (Rf Jt rfl (Rf Bg rfl (Rg vU rfl hc6 (Rl vV rfl (Rc rfl (Kz K5 (Cd rfl ?_ ?_)))))))))) <;> clear H K5
 ·intro eO a H
  try have nZ:=dT eO
  have hk2:k < rv.length:=by omega
  obtain ⟨b',o,rfl,hrow⟩:=IG mO hk2;have hcell:=hrow 0 _ rfl;refine kP H (Kc K4 (SQ fun _ K6=>SB (SR fun _ K7=>Rm rfl (Rk rfl (Rf Jt rfl (Rf Bg rfl (Rg vU rfl hc6 (Rm rfl (Ri vV yJ rfl rfl (Rf Ju rfl (Rg aD rfl (by assumption) ?_)))))))))));clear H K4;intro a H;refine kH H (Rm rfl (Rc rfl (Kz K7 (Cd rfl ?_ ?_)))) <;> clear H K7
  ·intro fE a H
   try have p26:=dT fE
   exact kP H (SR fun _ K8=>ak K8 rfl (LR results97 rfl fun H=>H.rt ⟨aM (iq (List.mem_map.2 ⟨_,jD hk2,p26⟩)).symm,rfl⟩))
  intro fE a H
  try have p26:=dF fE
  refine kP H (Kc K6 (SC (Rm rfl (Rd rfl (Ra rfl ?_)))));clear H K6;intro a H;refine aH ?_;refine cB ((k+1)) (by exact (H).sub ⟨rfl,rfl,rfl,av⟩) ?_ ?_
  ·exact ⟨by omega,Vo (l:=rv.map dU.id) (by simpa using hk2) he (by simpa using p26)⟩
  first|omega|(dsimp only;omega)
 intro eO a H
 try have nZ:=dF eO
 refine dJ ?_;refine K2 _ _ ?_;clear K2;exact kP H (SR fun _ K9=>ak K9 rfl (LR results97 rfl fun H=>H.rt ⟨aM (iV (Vn (by simp;omega) he)).symm,rfl⟩))
theorem aiD {l:List bS} (f:zS (l.map bS.id)) {i j:Nat} (hi:i < l.length) (hj:j < l.length) (h:l[i].id=l[j].id):i=j:=by
 rcases Nat.lt_trichotomy i j with c|c|c
 ·have:=f j (by simpa using hj);exact absurd (List.mem_take_iff_getElem.2 ⟨i,by simp;omega,by simpa using h⟩) this
 ·exact c
 have:=f i (by simpa using hi);exact absurd (List.mem_take_iff_getElem.2 ⟨j,by simp;omega,by simpa using h.symm⟩) this
theorem apN {l:List bS} (f:zS (l.map bS.id)) {x:Int} {k:Nat} (hk:k < l.length) (h:l[k].id=x):Es l x=l[k].kind:=by
 unfold Es
 cases e:l.find? fun s=>decide (s.id=x) with
 | none=>exact absurd (List.find?_eq_none.1 e _ (jD hk)) (by simpa using h)
 | some s =>
  obtain ⟨j,hj,rfl⟩:=List.getElem_of_mem (List.mem_of_find?_eq_some e);have h2:=List.find?_some e;have:=aiD f hj hk (by rw [h];simpa using h2);subst this
  rfl
theorem apO {l:List bS} {x K:Int} (hK:K≠0) (h:∀ j (hj:j < l.length),¬ (l[j].id=x∧l[j].kind=K)):Es l x≠K:=by
 unfold Es
 cases e:l.find? fun s=>decide (s.id=x) with
 | none=>exact fun h'=>hK h'.symm
 | some s =>
  obtain ⟨j,hj,rfl⟩:=List.getElem_of_mem (List.mem_of_find?_eq_some e);have h2:=List.find?_some e;exact fun h'=>h j hj ⟨by simpa using h2,h'⟩
theorem MQ (G:GH) (w0:World) (hG:Hold G w0) (D:jP) (st:List bS) (li:List dR) (rv:List dU) (b:Nat) (v:aj) (n:Int) (hk:Ca G D st li rv) (hz:Gy st li rv) (hb:G b=some (iR D b v n).2) (key x:Int) :
  Calls prog 96 #[(aP b 0),vi key,vi x] w0 (bV w0 G fun u G'=>u=vi (kM st (li.map dR.id) key x)∧G=G'):=by
 have OP:aF G b 7=some (bg D.s1):=by unfold aF;rw [hb];rfl
 have hc8:aF G b 8=some (bg D.s2):=by unfold aF;rw [hb];rfl
 have hst:=hk.sty;have wR:=hk.yw
 generalize bg D.s1=v7 at OP hst
 generalize bg D.s2=v8 at hc8 wR
 obtain ⟨A,c,rfl,hc1,hc2,-⟩:=hst.slice;obtain ⟨B,d,rfl,hd1,hd2,-⟩:=wR.slice;have hsn:=hz.sn;have hln:=hz.ln;rw [bN] at *;refine eN [(0,_),(1,_),(2,_)] func96 rfl ntmps96 rfl rfl hG ?_;intro a H;refine kP H (SR fun _ K1=>ak K1 rfl (SQ fun _ K2=>SR fun _ K3=>Rm rfl (Rc rfl (Kz K3 (Cd rfl ?_ ?_))))) <;> clear H K1 K3
 ·intro h12 a H
  try have qm:=dT h12
  exact kP H (SR fun _ K4=>ak K4 rfl (LR results96 rfl fun H=>H.rt ⟨ay vi (by rw [qm];unfold kM;simp [bL]),rfl⟩))
 intro h12 a H
 try have qm:=dF h12
 refine kP H (Kc K2 (SQ fun _ K5=>SR fun _ K6=>Rm rfl (Kz K6 (SB ?_))));clear H K2 K6;intro a H;refine oG (ι:=Bool) (Tc:=[(0,_),(1,_),(2,_),(13,_)]) (Lc:=[]) (fun gh=>[(14,.bool gh)]) (fun gh=>[]) (fun gh=>G) (fun gh=>gh=decide (key=20∨key=1)) (by exact (H).sub ⟨rfl,rfl,rfl,rfl,av⟩) ?_ ?_
 ·skip;refine kP H (SR fun _ K7=>Rc rfl (ak K7 rfl (Cd rfl ?_ ?_))) <;> clear H K7
  ·intro gT a H
   try have sK:=dT gT
   refine fT ?_;refine ⟨decide (key=20),by exact (H).sub ⟨rfl,rfl,rfl,rfl,rfl,av⟩,?_⟩
   simp_all
  intro gT a H
  try have sK:=dF gT
  refine kP H (SC (Rc rfl (Ra rfl ?_)));clear H;intro a H;refine aH ?_;refine ⟨decide (key=1),by exact (H).sub ⟨rfl,rfl,rfl,rfl,rfl,av⟩,?_⟩
  simp_all
 clear H;intro q a w hI H;subst hI;dsimp only [lca,aO] at H;refine qG H rfl ?_ ?_
 ·intro gT
  try have sK:=dT gT
  refine kP H (SR fun _ K8=>ak K8 rfl ?_);clear H K8;intro a H;refine oG (ι:=Int) (Tc:=[(0,_),(2,_)]) (Lc:=[]) (fun gh=>[(7,vi gh)]) (fun gh=>[]) (fun gh=>G) (fun gh=>(key=20∨key=1)∧gh=(if key=1 then 2 else 1)) (by exact (H).sub ⟨rfl,rfl,av⟩) ?_ ?_
  ·skip;refine kP H (SR fun _ K9=>Rm rfl (Rc rfl (Kz K9 (Cd rfl ?_ ?_)))) <;> clear H K9
   ·intro h18 a H
    try have tQ:=dT h18
    refine kP H (SC (Ra rfl ?_));clear H;intro a H;refine aH ?_;refine ⟨2,by exact (H).sub ⟨rfl,rfl,rfl,av⟩,?_⟩;exact ⟨sK,by first|exact (au (by omega)).symm|exact (ah (by omega)).symm⟩
   intro h18 a H
   try have tQ:=dF h18
   refine fT ?_;refine ⟨1,by exact (H).sub ⟨rfl,rfl,rfl,av⟩,?_⟩;exact ⟨sK,by first|exact (au (by omega)).symm|exact (ah (by omega)).symm⟩
  clear H;intro kd a w hI H;obtain ⟨hkk,hkd⟩:=hI
  have hE:kM st (li.map dR.id) key x=bL (decide (x≠0∧Es st x≠kd)) 25:=by rw [kM,au hkk,hkd]
  dsimp only [lca,aO] at H;refine kP H (SQ fun _ aU=>SR fun _ bD=>ak bD rfl (SB ?_));clear H bD;intro a H;skip;refine dV (ι:=Nat) (Tc:=[(0,_),(2,_),(7,_)]) (Lc:=[]) (fun gh=>[(8,vi gh)]) (fun gh=>[]) (fun gh=>G) (fun gh=>gh≤st.length∧∀ j (hj:j < st.length),j < gh→¬ (st[j].id=x∧st[j].kind=kd)) (fun gh=>st.length - gh) (0) (by exact (H).sub ⟨rfl,rfl,rfl,rfl,av⟩) ?_ ?_
  ·exact ⟨fQ _,fun j _ h=>absurd h (by omega)⟩
  clear H;intro k a w hI H;obtain ⟨hk,he⟩:=hI;dsimp only [lca,aO] at H;refine kP H (SQ fun _ bE=>SR fun _ bQ=>Rm rfl (Rm rfl (Rk rfl (Rf Jt rfl (Rf DI rfl (Rf Fa rfl (Rg qQ rfl OP (Rl nR rfl (Rc rfl (Kz bQ (Cd rfl ?_ ?_))))))))))) <;> clear H bQ
  ·intro h27 a H
   try have p27:=dT h27
   have hk2:k < st.length:=by omega
   obtain ⟨b',o,pA,pc,rfl,hrow,-,-⟩:=BQ hst hk2;refine kP H (Kc bE (SQ fun _ bR=>SB (SR fun _ bW=>Rm rfl (Rk rfl (Rf Jt rfl (Rf DI rfl (Rf Fa rfl (Rg qQ rfl OP (Rm rfl (Ri nR kN rfl rfl ?_))))))))));clear H bE;intro a H;refine bK kN (cs:=[_,_,_,_,_,_]) H wn rfl rfl (fun j v hj=>H.hp.aF (hrow j v hj)) rfl ?_;clear H;intro a H;refine dY kN H wn rfl ?_;clear H;intro b9 a w uL H;refine bT kN 0 (vs:=[_,_,_,_,_,_]) _ H wn rfl rfl rfl rfl rfl rfl rfl rfl ?_;clear H;intro w H;dsimp only [List.set,setRow] at H;refine bW _ _ ?_;clear bW;refine kP H (SR fun _ cK=>aR wE aD 0 rfl rfl (Rm rfl (Rc rfl (Rm rfl (Sp 43 rfl ?_ ?_))))) <;> clear H
   ·intro h43 a H
    try have p43:=dT h43
    refine kH H (YF ze h43 rfl (YO aD 0 h43 rfl (YM h43 rfl (YC h43 rfl (Pt h43 rfl (Kz cK (Cd rfl ?_ ?_))))))) <;> clear H cK
    ·intro h48 a H
     try have p48:=dT h48
     exact kP H (SR fun _ bY=>ak bY rfl (LR results96 rfl fun H=>H.rt ⟨ay vi (by rw [hE,apN hz.fr hk2 p43];simp [bL,p48]),rfl⟩))
    intro h48 a H
    try have p48:=dF h48
    refine kP H (Kc bR (SC (Rm rfl (Rd rfl (Ra rfl ?_)))));clear H bR;intro a H;refine aH ?_;refine cB ((k+1)) (by exact (H.dx (Pl:=[_]) (bZ:=[]) [] (by decide) rfl).sub ⟨rfl,rfl,rfl,rfl,av⟩) ?_ ?_
    ·exact ⟨by omega,fun j hj h=>by
     by_cases e:j=k
     ·subst e;first|exact fun h'=>p48 h'.2|exact fun h'=>p43 h'.1
     exact he j hj (by omega)⟩
    first|omega|(dsimp only;omega)
   intro h43 a H
   try have p43:=dF h43
   refine kH H (aT h43 rfl (aT h43 rfl (Pf h43 rfl (Kz cK (Cf rfl rfl (Kc bR (SC (Rm rfl (Rd rfl (Ra rfl ?_))))))))));clear H cK bR;intro a H;refine aH ?_;refine cB ((k+1)) (by exact (H.dx (Pl:=[_]) (bZ:=[]) [] (by decide) rfl).sub ⟨rfl,rfl,rfl,rfl,av⟩) ?_ ?_
   ·exact ⟨by omega,fun j hj h=>by
    by_cases e:j=k
    ·subst e;first|exact fun h'=>p48 h'.2|exact fun h'=>p43 h'.1
    exact he j hj (by omega)⟩
   first|omega|(dsimp only;omega)
  intro h27 a H
  try have p27:=dF h27
  refine dJ ?_;refine aU _ _ ?_;clear aU;refine kP H (SR fun _ dG=>ak dG rfl ?_);clear H dG;intro a H;refine lr H results96 rfl ?_
  exact H.rt ⟨ay vi (by rw [hE,bL,au (iq ⟨qm,apO (by rw [hkd];split <;> decide) fun j hj=>he j hj (by omega)⟩)]),rfl⟩
 intro gT
 try have sK:=dF gT
 refine kP H (SR fun _ dN=>Rc rfl (ak dN rfl (Cd rfl ?_ ?_))) <;> clear H dN
 ·intro nX a H
  try have p49:=dT nX
  refine kP H (SQ fun _ dH=>SR fun _ dP=>ak dP rfl (SB ?_));clear H dP;intro a H;skip;refine dV (ι:=Nat) (Tc:=[(0,_),(2,_)]) (Lc:=[]) (fun gh=>[(10,vi gh)]) (fun gh=>[]) (fun gh=>G) (fun gh=>gh≤li.length∧x∉(li.map dR.id).take gh) (fun gh=>li.length - gh) (0) (by exact (H).sub ⟨rfl,rfl,rfl,av⟩) ?_ ?_
  ·exact ⟨fQ _,by simp⟩
  clear H;intro k a w hI H;obtain ⟨hk,he⟩:=hI;dsimp only [lca,aO] at H;refine kP H (SQ fun _ eT=>SR fun _ fP=>Rm rfl (Rm rfl (Rk rfl (Rf Jt rfl (Rf DI rfl (Rf Bd rfl (Rg xu rfl hc8 (Rl xA rfl (Rc rfl (Kz fP (Cd rfl ?_ ?_))))))))))) <;> clear H fP
  ·intro jk a H
   try have p59:=dT jk
   have hk2:k < li.length:=by omega
   obtain ⟨b',o,B',d',rfl,hrow,-⟩:=Im wR hk2;have hcell:=hrow 0 _ rfl;refine kP H (Kc eT (SQ fun _ gq=>SB (SR fun _ gG=>Rm rfl (Rk rfl (Rf Jt rfl (Rf DI rfl (Rf Bd rfl (Rg xu rfl hc8 (Rm rfl (Ri xA zL rfl rfl (Rf LP rfl (Rg aD rfl (by assumption) ?_))))))))))));clear H eT;intro a H;refine kH H (Rm rfl (Rc rfl (Kz gG (Cd rfl ?_ ?_)))) <;> clear H gG
   ·intro jW a H
    try have p73:=dT jW
    exact kP H (SR fun _ iP=>ak iP rfl (LR results96 rfl fun H=>H.rt ⟨ay vi (by rw [kM,ah (by omega),au p49,bL,ah (by simpa using fun _=>⟨_,jD hk2,p73⟩)]),rfl⟩))
   intro jW a H
   try have p73:=dF jW
   refine kP H (Kc gq (SC (Rm rfl (Rd rfl (Ra rfl ?_)))));clear H gq;intro a H;refine aH ?_;refine cB ((k+1)) (by exact (H).sub ⟨rfl,rfl,rfl,av⟩) ?_ ?_
   ·exact ⟨by omega,Vo (l:=li.map dR.id) (by simpa using hk2) he (by simpa using p73)⟩
   first|omega|(dsimp only;omega)
  intro jk a H
  try have p59:=dF jk
  refine dJ ?_;refine dH _ _ ?_;clear dH;exact kP H (SR fun _ jm=>ak jm rfl (LR results96 rfl fun H=>H.rt ⟨ay vi (by rw [kM,ah (by omega),au p49,bL,au (iq ⟨qm,Vn (by simp;omega) he⟩)]),rfl⟩))
 intro nX a H
 try have p49:=dF nX
 exact kP H (Kc K5 (SR fun _ iH=>ak iH rfl (LR results96 rfl fun H=>H.rt ⟨ay vi (by rw [kM,ah (by omega),ah p49]),rfl⟩)))
end
section
open Go.RowKit
def uW (x:Nat→aj × OL) (m:Nat) (y:aj × OL):Nat→aj × OL:=fun j=>if j=m then y else x j
theorem adA (x:Nat→aj × OL) (m:Nat) (y:aj × OL):uW x m y m=y:=au rfl
theorem aqe {x:Nat→aj × OL} {m j:Nat} {y:aj × OL} (h:j≠m):uW x m y j=x j:=ah h
def om (ms:List Nat) (S:Nat→Bool) (x:Nat→aj × OL):OL:=ms.flatMap fun m=>bif S m then (x m).2 else []
section
variable {N:Nat} {D:List Deferred} {w0:World} {F:Nat→Prop} {G0 G G1 G2:GH} {L L1 L2:OL} {T Xs:List (Nat × aj)}
variable {r:Option Nat} {P:Program} {Q:Exit→Act→World→Prop} {l:List Oper} {a a':Act} {w w':World}
end
end
section
open Go.RowKit
def Ki (ch:List (Nat × Nat)) (m:Nat):Option Nat:=(ch.find? fun q=>Nat.beq q.2 m).map (·.1)
def FN (ch:List (Nat × Nat)) (x:Nat→aj × OL) (m:Nat):OL:=match Ki ch m with|some p=>(x p).2|none=>[]
def live (ch:List (Nat × Nat)) (S:Nat→Bool) (m:Nat):Bool:=S m && ch.all fun q=>!Nat.beq q.1 m || !S q.2
def Jh (ms:List Nat) (ch:List (Nat × Nat)) (dw:List (List Nat)):Bool :=
 (ch.all fun q=>ms.contains q.1 && ms.contains q.2 && (dw.getD q.2 []).contains q.1 && !Nat.beq q.1 q.2) && decide ((ch.map (·.1)).Nodup) && decide ((ch.map (·.2)).Nodup)
theorem Jv {P:Nat→Bool} {x:Nat→aj × OL} {m:Nat} {ms:List Nat} (h:m∈ms):(om ms P x).Perm ((bif P m then (x m).2 else [])++om (ms.erase m) P x):=by
 have h1:(om ms P x).Perm (om (m :: ms.erase m) P x):=(List.perm_cons_erase h).flatMap_right _
 refine h1.trans ?_
 unfold om
 rw [List.flatMap_cons]
theorem Ou {P Q:Nat→Bool} {x y:Nat→aj × OL} {ms:List Nat} (h:∀ m∈ms,P m=Q m∧x m=y m):om ms P x=om ms Q y:=by
 induction ms with
 | nil=>rfl
 | cons k ms ih =>
  have ih:=ih fun m hm=>h m (sW _ hm)
  obtain ⟨h1,h2⟩:=h k jg
  unfold om at ih ⊢
  rw [List.flatMap_cons,List.flatMap_cons,ih,h1,h2]
theorem CG {ch:List (Nat × Nat)} {S:Nat→Bool} {m:Nat}:live ch S m=true↔S m=true∧∀ q∈ch,q.1=m→S q.2=false:=by
 unfold live
 rw [jA,mD]
 refine and_congr_right fun _=>forall_congr' fun q=>forall_congr' fun _=>?_
 by_cases e:q.1=m
 ·subst e
  simp
 ·simp [Ci e,e]
theorem anj {ch:List (Nat × Nat)}:(ch.map (·.1)).Nodup→∀ {p q:Nat × Nat},p∈ch→q∈ch→p.1=q.1→p=q:=by
 induction ch with
 | nil=>intro _ p q h;cases h
 | cons c ch ih =>
  intro hn p q hp hq e
  rw [dW,List.nodup_cons] at hn
  rcases nG.1 hp with h1|h1 <;> rcases nG.1 hq with h2|h2
  ·rw [h1,h2]
  ·rw [h1] at e
   exact absurd (e ▸ List.mem_map_of_mem h2) hn.1
  ·rw [h2] at e
   exact absurd (e ▸ List.mem_map_of_mem h1) hn.1
  ·exact ih hn.2 h1 h2 e
theorem ank {ch:List (Nat × Nat)}:(ch.map (·.2)).Nodup→∀ {p q:Nat × Nat},p∈ch→q∈ch→p.2=q.2→p=q:=by
 induction ch with
 | nil=>intro _ p q h;cases h
 | cons c ch ih =>
  intro hn p q hp hq e
  rw [dW,List.nodup_cons] at hn
  rcases nG.1 hp with h1|h1 <;> rcases nG.1 hq with h2|h2
  ·rw [h1,h2]
  ·rw [h1] at e
   exact absurd (e ▸ List.mem_map_of_mem h2) hn.1
  ·rw [h2] at e
   exact absurd (e ▸ List.mem_map_of_mem h1) hn.1
  ·exact ih hn.2 h1 h2 e
theorem aob {ch:List (Nat × Nat)} {m p:Nat} (h:Ki ch m=some p):(p,m)∈ch:=by
 unfold Ki at h
 obtain ⟨q,h1,rfl⟩:=oD.1 h
 have h2:q.2=m:=by simpa using List.find?_some h1
 exact h2 ▸ List.mem_of_find?_eq_some h1
theorem aoc {ch:List (Nat × Nat)} {m:Nat} (h:Ki ch m=none):∀ q∈ch,¬ q.2=m:=by
 intro q hq e
 unfold Ki at h
 rw [Option.map_eq_none_iff,List.find?_eq_none] at h
 exact h q hq (by rw [e];exact Nat.beq_refl m)
theorem amA {ms:List Nat} {ch:List (Nat × Nat)} {dw:List (List Nat)} {S:Nat→Bool} {x:Nat→aj × OL} {m:Nat} (hnd:ms.Nodup) (hc:Jh ms ch dw=true) (hm:m∈ms) (hS:S m=false) (hd:∀ j∈dw.getD m [],S j=true) (hu:∀ q∈ch,q.1=m→S q.2=false) :
  ∃ R:OL,(om ms (live ch S) x).Perm (FN ch x m++R)∧∀ y:aj × OL,(om ms (live ch (fJ S m)) (uW x m y)).Perm (y.2++R):=by
 unfold Jh at hc
 rw [jA,jA,mD,decide_eq_true_iff,decide_eq_true_iff] at hc
 obtain ⟨⟨h1,h2⟩,h3⟩:=hc
 have hq:∀ q∈ch,q.1∈ms∧q.2∈ms∧q.1∈dw.getD q.2 []∧¬ q.1=q.2:=fun q hq=>by
  have:=h1 q hq
  rw [jA,jA,jA,qD,qD,qD] at this
  obtain ⟨⟨⟨a,b⟩,c⟩,d⟩:=this
  exact ⟨a,b,c,fun e=>by rw [e,Nat.beq_refl] at d;cases d⟩
 have hlm:live ch S m=false:=by
  cases h:live ch S m with
  | false=>rfl
  | true=>rw [CG] at h;rw [h.1] at hS;cases hS
 have aaj:live ch (fJ S m) m=true:=CG.2 ⟨au rfl,fun q hq1 e=>by
  have:=hu q hq1 e
  rwa [show fJ S m q.2=S q.2 from ah fun e2=>(hq q hq1).2.2.2 (e.trans e2.symm)]⟩
 have hother:∀ j,j≠m→(∀ q∈ch,q.1=j→q.2≠m)→live ch S j=live ch (fJ S m) j:=fun j hj hn=>by
  rw [ru,CG,CG,show fJ S m j=S j from ah hj]
  refine and_congr_right fun _=>forall_congr' fun q=>forall_congr' fun hq1=>forall_congr' fun e=>?_
  rw [show fJ S m q.2=S q.2 from ah (hn q hq1 e)]
 have hx:∀ y j,j≠m→x j=uW x m y j:=fun y j hj=>(aqe hj).symm
 have hne:∀ j∈ms.erase m,j≠m:=fun j hj e=>by rw [e] at hj;exact (List.Nodup.not_mem_erase hnd) hj
 cases hp:Ki ch m with
 | none =>
  refine ⟨om (ms.erase m) (live ch S) x,?_,fun y=>?_⟩
  ·have:=Jv (P:=live ch S) (x:=x) hm
   rw [hlm] at this
   simpa [FN,hp] using this
  ·have:=Jv (P:=live ch (fJ S m)) (x:=uW x m y) hm
   rw [aaj,adA] at this
   rw [Ou (P:=live ch S) (Q:=live ch (fJ S m)) (y:=uW x m y) fun j hj=>⟨hother j (hne j hj) fun q hq1 _=>aoc hp q hq1,hx y j (hne j hj)⟩]
   exact this
 | some p =>
  have hpm:=aob hp
  obtain ⟨g1,g2,g3,g4⟩:=hq _ hpm
  have hpe:p∈ms.erase m:=(List.mem_erase_of_ne g4).2 g1
  have hlp:live ch S p=true:=CG.2 ⟨hd p g3,fun q hq1 e=>by
   have:=anj h2 hq1 hpm e
   rw [this];exact hS⟩
  have akq:live ch (fJ S m) p=false:=by
   cases h:live ch (fJ S m) p with
   | false=>rfl
   | true =>
    have:=(CG.1 h).2 _ hpm rfl
    rw [show fJ S m m=true from au rfl] at this
    cases this
  refine ⟨om ((ms.erase m).erase p) (live ch S) x,?_,fun y=>?_⟩
  ·have e1:=Jv (P:=live ch S) (x:=x) hm
   have e2:=Jv (P:=live ch S) (x:=x) hpe
   rw [hlm] at e1
   rw [hlp] at e2
   simp only [cond_false,jB,cond_true] at e1 e2
   simpa [FN,hp] using e1.trans e2
  ·have e1:=Jv (P:=live ch (fJ S m)) (x:=uW x m y) hm
   have e2:=Jv (P:=live ch (fJ S m)) (x:=uW x m y) hpe
   rw [aaj,adA] at e1
   rw [akq] at e2
   simp only [cond_false,jB,cond_true] at e1 e2
   rw [Ou (P:=live ch S) (Q:=live ch (fJ S m)) (y:=uW x m y) fun j hj=>by
    have hj1:=List.mem_of_mem_erase hj
    have hjm:=hne j hj1
    have hjp:j≠p:=fun e=>by rw [e] at hj;exact (List.Nodup.not_mem_erase (hnd.erase m)) hj
    exact ⟨hother j hjm fun q hq1 e e2=>hjp (by rw [← e,ank h3 hq1 hpm e2]),hx y j hjm⟩]
   exact e1.trans (List.Perm.append_left _ e2)
section
variable {N:Nat} {D:List Deferred} {w0:World} {F:Nat→Prop} {G0 G G1 G2:GH} {L L1 L2:OL} {T Xs:List (Nat × aj)}
variable {r:Option Nat} {P:Program} {Q:Exit→Act→World→Prop} {l:List Oper} {a a':Act} {w w':World}
theorem aff {id:Nat} (ms:List Nat) (ch:List (Nat × Nat)) (hm:P.follows .mixedOrders=true) (dw:List (List Nat)) (B:List Nat) (hk:E5 l dw=true) (hB:Da l dw B=true) (hnd:ms.Nodup) (hms:(ms.all fun m=>Nat.blt m l.length && !B.contains m)=true) (hc:Jh ms ch dw=true) (pr:(Nat→aj × OL)→Nat→aj→GH→Prop)
  (hp:∀ m,ms.contains m=true→∀ x y i v G,Nat.beq i m=false→(dw.getD i []).contains m=false→pr x i v G→pr (uW x m y) i v G)
  (H:St N D w0 F G0 G L T a w)
  (hstep:allI (fun i o=>∀ x L' S a w G1,(∀ q,q∈L→q∈L')→B.contains i=false→ms.contains i=false→S i=false→(∀ j∈dw.getD i [],S j=true)→(∀ k o,G k=some o→G1 k=some o)→St N D w0 F G0 G1 L' T a w→(∀ i d,S i=true→gF l i=some d→∃ v,a.tmps[d]?=some v∧pr x i v G1) →
   WL r P l.toArray (fun e a' w'=>e=.normal∧DX N D w0 F G0 G L' T l (pr x) (fJ S i) a' w') [o] a w) 0 l)
  (hmid:allI (fun m o=>ms.contains m=true→∀ x L' S a w G1,(∀ q,q∈L→q∈L')→S m=false→(∀ j∈dw.getD m [],S j=true)→(∀ k o,G k=some o→G1 k=some o)→St N D w0 F G0 G1 (FN ch x m++L') T a w→(∀ y i d,i≠m→S i=true→gF l i=some d→∃ v,a.tmps[d]?=some v∧pr x i v G1∧pr (uW x m y) i v G1) →
   WL r P l.toArray (fun e a' w'=>e=.normal∧∃ y,DX N D w0 F G0 G (y.2++L') T l (pr (uW x m y)) (fJ S m) a' w') [o] a w) 0 l)
  (hend:∀ x a w G1,(∀ k o,G k=some o→G1 k=some o)→St N D w0 F G0 G1 (om ms (live ch fun _=>true) x++L) T a w→(∀ i d,B.contains i=false→gF l i=some d→∃ v,a.tmps[d]?=some v∧pr x i v G1)→WL r P l.toArray (fun e a w=>e=.normal∧Q .normal a w) (tO l B) a w):WP r P (.region id l.toArray true) Q a w:=by
 have hu:∀ {m i:Nat} {S:Nat→Bool},(∀ j,j < l.length→i∈dw.getD j []→S j=false)→∀ q∈ch,q.1=i→S q.2=false:=by
  intro m i S hdesc q hq e
  have h1:=hc
  unfold Jh at h1
  rw [jA,jA,mD] at h1
  have h2:=h1.1.1 q hq
  rw [jA,jA,jA,qD,qD,qD] at h2
  have h3:=mD.1 hms q.2 h2.1.1.2
  rw [jA] at h3
  exact hdesc q.2 (Eq.mp Nat.blt_eq h3.1) (e ▸ h2.1.2)
 refine Yi hm dw B hk hB (fun S a w=>∃ x,DX N D w0 F G0 G (om ms (live ch S) x++L) T l (pr x) S a w)
  ⟨fun _=>(.bool false,[]),DX.perm (L1:=L) ⟨G,fun _ _ h=>h,H.move H.hp.drew,fun _ _ h=>absurd (show false=true from h) (by decide)⟩ (by
   have:∀ ms:List Nat,om ms (live ch fun _=>false) (fun _=>(.bool false,[]))=[]:=fun ms=>by
    induction ms with
    | nil=>rfl
    | cons k ms ih=>unfold om at ih ⊢;rw [List.flatMap_cons,ih];rfl
   rw [this];exact List.Perm.refl _)⟩ ?_ ?_
 ·rintro i o S a w ho hb dO qM hdesc ⟨x,G1,hG,HS,hv⟩
  have hsub:∀ q,q∈L→q∈om ms (live ch S) x++L:=fun q hq=>List.mem_append_right _ hq
  have hno:∀ j,j < l.length→S j=true→(dw.getD j []).contains i=false:=fun j hjl hj=>by
   cases hc:(dw.getD j []).contains i with
   | false=>rfl
   | true =>
    have:=hdesc j hjl (by simpa using hc)
    rw [this] at hj;cases hj
  cases hi:ms.contains i with
  | true =>
   obtain ⟨R,hR1,hR2⟩:=amA (x:=x) hnd hc (by simpa using hi) dO qM (hu (m:=i) hdesc)
   have h:=Lf hmid i o ho
   rw [ng] at h
   have HS2:=HS.perm ((List.Perm.append_right L hR1).trans (List.Perm.of_eq (iQ ..)))
   have h:=h hi x (R++L) S a w G1 (fun q hq=>List.mem_append_right _ hq) dO qM hG HS2 fun y j d hj hSj hd=>by
    obtain ⟨v,hv1,hv2⟩:=hv j d hSj hd
    exact ⟨v,hv1,hv2,hp i hi x y j v _ (Ci hj) (hno j (Cm hd) hSj) hv2⟩
   refine xE (fun e a' w' ⟨he,y,hD⟩=>⟨he,uW x i y,hD.perm ?_⟩) h
   rw [← iQ]
   exact List.Perm.append_right L (hR2 y).symm
  | false =>
   have h:=Lf hstep i o ho
   rw [ng] at h
   have hni:i∉ms:=by simpa using hi
   have e:om ms (live ch (fJ S i)) x=om ms (live ch S) x:=Ou fun j hj=>⟨by
    have hji:j≠i:=fun e=>hni (e ▸ hj)
    rw [ru,CG,CG,show fJ S i j=S j from ah hji]
    refine and_congr_right fun _=>forall_congr' fun q=>forall_congr' fun hq1=>forall_congr' fun e=>?_
    have h1:=hc
    unfold Jh at h1
    rw [jA,jA,mD] at h1
    have h2:=h1.1.1 q hq1
    rw [jA,jA,jA,qD,qD] at h2
    rw [show fJ S i q.2=S q.2 from ah (show ¬ q.2=i from fun e=>hni (e ▸ h2.1.1.2))],rfl⟩
   refine xE (fun e' a' w' ⟨he,hD⟩=>⟨he,x,?_⟩) (h x _ S a w G1 hsub hb hi dO qM hG HS hv)
   rw [e]
   exact hD
 ·rintro S a w hall hnB ⟨x,G1,hG,HS,hv⟩
  have hS:∀ m∈ms,S m=true:=fun m hmm=>by
   have h:=mD.1 hms m hmm
   rw [jA] at h
   exact hall m (Eq.mp Nat.blt_eq h.1) (by simpa using h.2)
  have e:om ms (live ch S) x=om ms (live ch fun _=>true) x:=Ou fun j hj=>⟨by
   rw [ru,CG,CG]
   refine and_congr (by simp [hS j hj]) (forall_congr' fun q=>forall_congr' fun hq1=>forall_congr' fun e=>?_)
   have h1:=hc
   unfold Jh at h1
   rw [jA,jA,mD] at h1
   have h2:=h1.1.1 q hq1
   rw [jA,jA,jA,qD,qD] at h2
   rw [hS q.2 h2.1.1.2],rfl⟩
  rw [e] at HS
  exact hend x a w G1 hG HS fun j d hb hd=>hv j d (hall j (Cm hd) hb) hd
end
end
section
open Go.RowKit
theorem Y8:∀ args w,(callFunc 49 args).run prog w=.ok (.enter 49 args) w:=enters func49 rfl (by kernel_rfl)
theorem RD:∀ args w,(callFunc 13 args).run prog w=.ok (.enter 13 args) w:=enters func13 rfl (by kernel_rfl)
theorem ahF:∀ args w,(callFunc 50 args).run prog w=.ok (.enter 50 args) w:=enters func50 rfl (by kernel_rfl)
theorem abt (G:GH) (n:Int):bM G [li n] [vi n]:=by simp [bM,aB,Value.oneCell']
theorem ame {S:List Int} {n:Int} {k:Nat} (hs:S.Pairwise (·≤·)) (hk:k≤S.length) (h1:∀ i (h:i < S.length),k≤i→n≤S[i]) (h2:∀ i (h:i < S.length),i < k→S[i]≤n):(S.take k++[n]++S.drop k).Pairwise (·≤·):=by
 refine List.pairwise_append.2 ⟨List.pairwise_append.2 ⟨hs.sublist (List.take_sublist _ _),List.pairwise_singleton _ _,fun x hx y hy=>?_⟩,hs.sublist (List.drop_sublist _ _),fun x hx y hy=>?_⟩
 ·obtain ⟨i,hi,rfl⟩:=List.getElem_of_mem hx;rw [um.1 hy,List.getElem_take];rw [List.length_take] at hi;exact h2 i (by omega) (by omega)
 obtain ⟨j,hj,rfl⟩:=List.getElem_of_mem hy;rw [List.length_drop] at hj;rw [List.getElem_drop];have hn:=h1 (k+j) (by omega) (by omega)
 rcases rU.1 hx with hx|hx
 ·obtain ⟨i,hi,rfl⟩:=List.getElem_of_mem hx;rw [List.length_take] at hi;rw [List.getElem_take];exact Int.le_trans (h2 i (by omega) (by omega)) hn
 rw [um.1 hx];exact hn
theorem apB {S:List Int} {n:Int} {k:Nat} (hs:S.Pairwise (·≤·)) (hk:k≤S.length) (h:∀ i (h:i < S.length),i+1=k→S[i]≤n):∀ i (h:i < S.length),i < k→S[i]≤n:=by
 intro i hi hik
 by_cases e:i+1=k
 ·exact h i hi e
 exact Int.le_trans (List.pairwise_iff_getElem.1 hs i (k - 1) hi (by omega) (by omega)) (h (k - 1) (by omega) (by omega))
theorem abA {S:List Int} {n:Int} {k:Nat} (hk:k - 1 < S.length) (h:n < S[k - 1]):∀ i (h:i < S.length),i+1=k→n≤S[i]:=fun i _ e=>by
 obtain rfl:i=k - 1:=by omega
 omega
theorem ZE {S:List Int} {n:Int} {k:Nat} (hk:k - 1 < S.length) (h:¬ n < S[k - 1]):∀ i (h:i < S.length),i+1=k→S[i]≤n:=fun i _ e=>by
 obtain rfl:i=k - 1:=by omega
 omega
theorem amd {S:List Int} {n:Int} {k:Nat}:(S.take k++[n]++S.drop k).Perm (n :: S):=by
 have h:(S.take k++([n]++S.drop k)).Perm ([n]++(S.take k++S.drop k)):=by
  rw [← iQ,← iQ];exact List.Perm.append_right _ qZ
 rw [List.take_append_drop] at h;rw [iQ];exact h
set_option maxHeartbeats 2000000 in
theorem XV (G:GH) (w0:World) (bo:Nat) (v:aj) (S:List Int) (n:Int) (hO:iT G [(bo,.cells #[v] 52 (0,0))] w0) (hv:aB G (.sl 1 (S.map fun q=>[li q])) v) (hs:S.Pairwise (·≤·)) (hz:S.length≤4294967296) :
  Calls prog 49 #[vi n,(aP bo 0)] w0 (iE w0 G [(bo,.cells #[v] 52 (0,0))] fun u G' L'=>∃ (v':aj) (R:List Int),L'=[(bo,.cells #[v'] 52 (0,0))]∧R.Perm (n :: S)∧R.Pairwise (·≤·)∧aB G' (.sl 1 (R.map fun q=>[li q])) v'):=by
 have hml:maxLen=9223372036854775807:=rfl;obtain ⟨A,c,rfl,hc1,hc2,-⟩:=hv.slice;rw [bN] at *;refine kS (N:=31) (T:=[(0,_),(1,_)]) func49 rfl ntmps49 rfl rfl hO ?_;intro a H;refine kP H (SR fun _ K1=>Ro xw 0 rfl (Rl jN rfl (ak K1 rfl (SQ fun _ K2=>SB ?_))));clear H K1;intro a H;skip;refine dV (ι:=Nat) (Tc:=[(0,_),(1,_)]) (Lc:=[(_,_)]) (fun gh=>[(3,vi gh)]) (fun gh=>[]) (fun gh=>G) (fun gh=>gh≤S.length∧∀ i (h:i < S.length),gh≤i→n≤S[i]) (fun gh=>gh) (S.length) (by exact (H).sub ⟨rfl,rfl,rfl,av⟩) ?_ ?_
 ·exact ⟨dB _,fun i h1 h2=>absurd h1 (by omega)⟩
 clear H;intro k a w hI H;obtain ⟨hk,hge⟩:=hI;dsimp only [lca,aO] at H;refine aN (fun _ K3=>?_);refine cO (fun _ K4=>?_);refine mU (ι:=Bool) (Tc:=[(0,_),(1,_),(3,_)]) 11 (fun (q:Bool)=>[(16,.bool q)]) (fun (q:Bool)=>(q=true→0 < k∧∀ i (h:i < S.length),i+1=k→n≤S[i])∧(q=false→∀ i (h:i < S.length),i+1=k→S[i]≤n)) (by exact H.sub ⟨rfl,rfl,rfl,av⟩) ?_ ?_
 ·intro ZM;refine kH H (Rm rfl (Rc rfl (Rm rfl (Sp 8 rfl ?_ ?_)))) <;> clear H
  ·intro h8 a H
   try have p8:=dT h8
   have hk2:k - 1 < S.length:=by omega
   obtain ⟨b,o,rfl,hcell⟩:=abh hv hk2;refine kH H (YO xw 0 h8 rfl (YM h8 rfl ?_));clear H;intro a H;refine mQ ((k - 1:Nat):Int) H (wg H rfl rfl h8) rfl rfl (by omega) (by omega) (by omega) rfl ?_;clear H;intro a H;refine kH H (YI jN aD h8 rfl rfl (YR aD h8 rfl hcell (YM h8 rfl (YC h8 rfl (Pt h8 rfl ?_)))));clear H;intro a H;refine ZM (_) _ _ ?_ (by exact H.sub ⟨rfl,rfl,rfl,rfl,av⟩)
   first|exact ⟨fun h=>by (cases h),fun _ i h e=>by omega⟩|exact ⟨fun h=>⟨by omega,abA hk2 (oU h)⟩,fun h=>ZE hk2 (of_decide_eq_false h)⟩
  intro h8 a H
  try have p8:=dF h8
  refine kH H (aZ h8 rfl (aT h8 rfl (aT h8 rfl (Pf h8 rfl ?_))));clear H;intro a H;refine ZM (_) _ _ ?_ (by exact H.sub ⟨rfl,rfl,rfl,rfl,av⟩)
  first|exact ⟨fun h=>by (cases h),fun _ i h e=>by omega⟩|exact ⟨fun h=>⟨by omega,abA hk2 (oU h)⟩,fun h=>ZE hk2 (of_decide_eq_false h)⟩
 clear H;intro q a w hI H;dsimp only [lca,aO] at H;simp only [mG,jU];have hq:=hI;refine K4 _ _ ?_;clear K4;refine qG H rfl ?_ ?_
 ·intro h16
  try have p16:=dT h16
  have hk3:=(hq.1 h16).1;refine kP H (Kc K3 (SB (SC (Rm rfl ?_))));clear H K3;intro a H;refine mQ ((k - 1:Nat):Int) H wn rfl rfl (by omega) (by omega) (by omega) rfl ?_;clear H;intro a H;refine kH H (Ra rfl ?_);clear H;intro a H;refine aH ?_;refine cB (k - 1) (by exact (H).sub ⟨rfl,rfl,rfl,av⟩) ?_ ?_
  ·exact ⟨by omega,fun i h1 h2=>by
    by_cases e:i+1=k
    ·exact (hq.1 h16).2 i h1 e
    exact hge i h1 (by omega)⟩
  have:=(hq.1 h16).1;omega
 intro h16
 try have p16:=dF h16
 refine dJ ?_;refine K2 _ _ ?_;clear K2
 have hpt:aB G (.sl 1 ((S.drop k).map fun q=>[li q])) (.slice (if c=k then A else A.map (·.add (k*1))) (S.length - k) (c - k)):=by
  have h:=hv.part k S.length hk (by simp);rw [mF (by simp),← List.map_drop] at h;exact h
 have hpr:aB G (.sl 1 ((S.take k).map fun q=>[li q])) (.slice A k c):=by
  have h:=hv.pre k (by simpa using hk)
  rwa [← List.map_take] at h
 have tL:∀ (dD:Nat→aj × OL) (fU:Nat) (v:aj) (G G':GH),(∀ k o,G k=some o→G' k=some o)→(fun (dD:Nat→aj × OL) (fU:Nat) (v:aj) (G:GH)=>match fU with|0=>v=(dD 0).1∧gJ 3 1 v 0 [] (dD 0).2|1=>v=.slice A S.length c|2=>v=vi k|3=>v=.slice A k c|4=>v=(dD 4).1∧∃ xs,gJ 3 1 v k xs (dD 4).2∧gP G 1 ((S.take k).map fun q=>[li q]) xs|5=>v=vi n|6=>aB G (.sl 1 ([n].map fun q=>[li q])) v|7=>v=(dD 7).1∧∃ xs,gJ 3 1 v (k+1) xs (dD 7).2∧gP G 1 ((S.take k++[n]).map fun q=>[li q]) xs|8=>v=.slice A S.length c|9=>v=vi k|10=>v=.slice (if c=k then A else A.map (·.add (k*1))) (S.length - k) (c - k)|11=>v=(dD 11).1∧∃ xs,gJ 3 1 v (k+1+(S.length - k)) xs (dD 11).2∧gP G 1 ((S.take k++[n]++S.drop k).map fun q=>[li q]) xs|_=>True) dD fU v G→(fun (dD:Nat→aj × OL) (fU:Nat) (v:aj) (G:GH)=>match fU with|0=>v=(dD 0).1∧gJ 3 1 v 0 [] (dD 0).2|1=>v=.slice A S.length c|2=>v=vi k|3=>v=.slice A k c|4=>v=(dD 4).1∧∃ xs,gJ 3 1 v k xs (dD 4).2∧gP G 1 ((S.take k).map fun q=>[li q]) xs|5=>v=vi n|6=>aB G (.sl 1 ([n].map fun q=>[li q])) v|7=>v=(dD 7).1∧∃ xs,gJ 3 1 v (k+1) xs (dD 7).2∧gP G 1 ((S.take k++[n]).map fun q=>[li q]) xs|8=>v=.slice A S.length c|9=>v=vi k|10=>v=.slice (if c=k then A else A.map (·.add (k*1))) (S.length - k) (c - k)|11=>v=(dD 11).1∧∃ xs,gJ 3 1 v (k+1+(S.length - k)) xs (dD 11).2∧gP G 1 ((S.take k++[n]++S.drop k).map fun q=>[li q]) xs|_=>True) dD fU v G':=by
  intro dD fU v G G' hm h
  match fU,h with
  | 0,h=>exact h
  | 1,h=>exact h
  | 2,h=>exact h
  | 3,h=>exact h
  | 4,h=>exact let ⟨h1,xs,h2,h3⟩:=h;⟨h1,xs,h2,h3.mono hm⟩
  | 5,h=>exact h
  | 6,h=>exact aB.mono hm h
  | 7,h=>exact let ⟨h1,xs,h2,h3⟩:=h;⟨h1,xs,h2,h3.mono hm⟩
  | 8,h=>exact h
  | 9,h=>exact h
  | 10,h=>exact h
  | 11,h=>exact let ⟨h1,xs,h2,h3⟩:=h;⟨h1,xs,h2,h3.mono hm⟩
  | 12,h=>exact trivial
  | _+13,h=>exact trivial
 refine aff [0,4,7,11] [(0,4),(4,7),(7,11)] (hmx) [[],[],[],[1,2],(ra 0 4),[],[5],(ra 0 7),[],[],[8,9],(ra 0 11),(ra 0 12)] [12] (by kernel_rfl) (by kernel_rfl) (by decide) (by kernel_rfl) (by decide) (fun (dD:Nat→aj × OL) (fU:Nat) (v:aj) (G:GH)=>match fU with|0=>v=(dD 0).1∧gJ 3 1 v 0 [] (dD 0).2|1=>v=.slice A S.length c|2=>v=vi k|3=>v=.slice A k c|4=>v=(dD 4).1∧∃ xs,gJ 3 1 v k xs (dD 4).2∧gP G 1 ((S.take k).map fun q=>[li q]) xs|5=>v=vi n|6=>aB G (.sl 1 ([n].map fun q=>[li q])) v|7=>v=(dD 7).1∧∃ xs,gJ 3 1 v (k+1) xs (dD 7).2∧gP G 1 ((S.take k++[n]).map fun q=>[li q]) xs|8=>v=.slice A S.length c|9=>v=vi k|10=>v=.slice (if c=k then A else A.map (·.add (k*1))) (S.length - k) (c - k)|11=>v=(dD 11).1∧∃ xs,gJ 3 1 v (k+1+(S.length - k)) xs (dD 11).2∧gP G 1 ((S.take k++[n]++S.drop k).map fun q=>[li q]) xs|_=>True) (fun m hm x y i v G hi hc h=>by
  have hm:m=0∨m=4∨m=7∨m=11:=by simpa using hm
  rcases hm with rfl|rfl|rfl|rfl
  ·match i,hi,hc,h with
   | 0,hi,_,_=>exact absurd hi (by decide)
   | 1,_,_,h=>exact h
   | 2,_,_,h=>exact h
   | 3,_,_,h=>exact h
   | 4,_,hc,_=>exact absurd hc (by decide)
   | 5,_,_,h=>exact h
   | 6,_,_,h=>exact h
   | 7,_,hc,_=>exact absurd hc (by decide)
   | 8,_,_,h=>exact h
   | 9,_,_,h=>exact h
   | 10,_,_,h=>exact h
   | 11,_,hc,_=>exact absurd hc (by decide)
   | 12,_,hc,_=>exact absurd hc (by decide)
   | _+13,_,_,_=>exact trivial
  ·match i,hi,hc,h with
   | 0,_,_,h=>exact h
   | 1,_,_,h=>exact h
   | 2,_,_,h=>exact h
   | 3,_,_,h=>exact h
   | 4,hi,_,_=>exact absurd hi (by decide)
   | 5,_,_,h=>exact h
   | 6,_,_,h=>exact h
   | 7,_,hc,_=>exact absurd hc (by decide)
   | 8,_,_,h=>exact h
   | 9,_,_,h=>exact h
   | 10,_,_,h=>exact h
   | 11,_,hc,_=>exact absurd hc (by decide)
   | 12,_,hc,_=>exact absurd hc (by decide)
   | _+13,_,_,_=>exact trivial
  ·match i,hi,hc,h with
   | 0,_,_,h=>exact h
   | 1,_,_,h=>exact h
   | 2,_,_,h=>exact h
   | 3,_,_,h=>exact h
   | 4,_,_,h=>exact h
   | 5,_,_,h=>exact h
   | 6,_,_,h=>exact h
   | 7,hi,_,_=>exact absurd hi (by decide)
   | 8,_,_,h=>exact h
   | 9,_,_,h=>exact h
   | 10,_,_,h=>exact h
   | 11,_,hc,_=>exact absurd hc (by decide)
   | 12,_,hc,_=>exact absurd hc (by decide)
   | _+13,_,_,_=>exact trivial
  ·match i,hi,hc,h with
   | 0,_,_,h=>exact h
   | 1,_,_,h=>exact h
   | 2,_,_,h=>exact h
   | 3,_,_,h=>exact h
   | 4,_,_,h=>exact h
   | 5,_,_,h=>exact h
   | 6,_,_,h=>exact h
   | 7,_,_,h=>exact h
   | 8,_,_,h=>exact h
   | 9,_,_,h=>exact h
   | 10,_,_,h=>exact h
   | 11,hi,_,_=>exact absurd hi (by decide)
   | 12,_,hc,_=>exact absurd hc (by decide)
   | _+13,_,_,_=>exact trivial
  ) H ?_ ?_ ?_
 ·clear H;refine aI ?_ ?_ ?_ ?_ (aI ?_ ?_ ?_ ?_ (aI ?_ ?_ ?_ ?_ (bG ?_ dQ)))
  ·intro _ _ _ _ _ _ _ _ hB;exact absurd hB (by decide)
  ·intro dD mg dM a w G1 pG _ _ dO hc hG HT hv;have H:=HT;clear dO;have Hb:=H.full;have H:=Hb;clear hc;refine zK xw H wn rfl (H.hp.PN (pG _ jg) rfl) rfl ?_;clear H;intro a H;refine aH ⟨rfl,?_⟩;exact nK (by kernel_rfl) (tL dD) rfl rfl HT Hb hG hv (fun _ _ h=>h) (rfl) H
  ·intro dD mg dM a w G1 pG _ _ dO hc hG HT hv;have H:=HT;clear dO;have Hb:=H.full;have H:=Hb;clear hc;refine kH H (Rm rfl ?_);clear H;intro a H;refine aH ⟨rfl,?_⟩;exact nK (by kernel_rfl) (tL dD) rfl rfl HT Hb hG hv (fun _ _ h=>h) (rfl) H
  ·intro dD mg dM a w G1 pG _ _ dO hc hG HT hv;have H:=HT;clear dO;have H:=H.bC (hv 1 20 (hc 1 (by decide)) rfl) rfl;have H:=H.bC (hv 2 21 (hc 2 (by decide)) rfl) rfl;have Hb:=H.full;have H:=Hb;clear hc;refine V3 jN aD k H wn rfl rfl rfl (by omega) rfl ?_;clear H;intro a H;refine aH ⟨rfl,?_⟩;exact nK (by kernel_rfl) (tL dD) rfl rfl HT Hb hG hv (fun _ _ h=>h) (rfl) H
  ·intro _ _ _ _ _ _ _ _ hB;exact absurd hB (by decide)
  ·intro dD mg dM a w G1 pG _ _ dO hc hG HT hv;have H:=HT;clear dO;have Hb:=H.full;have H:=Hb;clear hc;refine kH H (Rm rfl ?_);clear H;intro a H;refine aH ⟨rfl,?_⟩;exact nK (by kernel_rfl) (tL dD) rfl rfl HT Hb hG hv (fun _ _ h=>h) (rfl) H
  ·intro dD mg dM a w G1 pG _ _ dO hc hG HT hv;have H:=HT;clear dO;have H:=H.bC (hv 5 24 (hc 5 (by decide)) rfl) rfl;have Hb:=H.full;have H:=Hb;clear hc;refine jd jN aD [_] [_] H wn rfl rfl rfl rfl rfl (by intro i q h;match i,h with|0,h=>exact h|n+1,h=>simp at h) rfl rfl ?_;clear H;intro b25 a w arn H;obtain ⟨IY,BF,ajC,H⟩:=H.eD;have akY:=aB.fC (G:=IY) (rows:=[n].map fun q=>[li q]) (xs:=[vi n]) ajC rfl (dB _) (show 1≤maxLen by decide) rfl (by have h:=(gP.nil (G:=IY) (sz:=1)).snoc (abt IY n) rfl;simpa using h);refine aH ⟨rfl,?_⟩;exact nK (by kernel_rfl) (tL dD) rfl rfl HT Hb hG hv BF (akY) H
  ·intro _ _ _ _ _ _ _ _ hB;exact absurd hB (by decide)
  ·intro dD mg dM a w G1 pG _ _ dO hc hG HT hv;have H:=HT;clear dO;have Hb:=H.full;have H:=Hb;clear hc;refine zK xw H wn rfl (H.hp.PN (pG _ jg) rfl) rfl ?_;clear H;intro a H;refine aH ⟨rfl,?_⟩;exact nK (by kernel_rfl) (tL dD) rfl rfl HT Hb hG hv (fun _ _ h=>h) (rfl) H
  ·intro dD mg dM a w G1 pG _ _ dO hc hG HT hv;have H:=HT;clear dO;have Hb:=H.full;have H:=Hb;clear hc;refine kH H (Rm rfl ?_);clear H;intro a H;refine aH ⟨rfl,?_⟩;exact nK (by kernel_rfl) (tL dD) rfl rfl HT Hb hG hv (fun _ _ h=>h) (rfl) H
  ·intro dD mg dM a w G1 pG _ _ dO hc hG HT hv;have H:=HT;clear dO;have H:=H.bC (hv 8 27 (hc 8 (by decide)) rfl) rfl;have H:=H.bC (hv 9 28 (hc 9 (by decide)) rfl) rfl;have Hb:=H.full;have H:=Hb;clear hc;refine aoS jN aD k H wn rfl rfl rfl (by omega) rfl ?_;clear H;intro a H;refine aH ⟨rfl,?_⟩;exact nK (by kernel_rfl) (tL dD) rfl rfl HT Hb hG hv (fun _ _ h=>h) (rfl) H
  ·intro _ _ _ _ _ _ _ _ hB;exact absurd hB (by decide)
  intro _ _ _ _ _ _ _ hB;exact absurd hB (by decide)
 ·clear H;refine aI ?_ ?_ ?_ ?_ (aI ?_ ?_ ?_ ?_ (aI ?_ ?_ ?_ ?_ (bG ?_ dQ)))
  ·intro _ dD mg dM a w G1 pG _ hc hG HT hv;have H:=HT;have H:=H.cast (show FN [(0,4),(4,7),(7,11)] dD 0++mg=mg from rfl);have Hb:=H.full;have H:=Hb;clear hc;refine aoG jN aD H wn rfl ?_;clear H;intro b19 a w ajA H;refine aH ⟨rfl,(.slice (some ⟨b19,0,none⟩) 0 0,[(b19,.cells #[] 3 (0,0))]),?_⟩;exact LD (by kernel_rfl) (tL (uW dD 0 (.slice (some ⟨b19,0,none⟩) 0 0,[(b19,.cells #[] 3 (0,0))]))) rfl HT Hb hG (fun j e h1 h2 h3=>(let ⟨v,q1,_,q2⟩:=hv (.slice (some ⟨b19,0,none⟩) 0 0,[(b19,.cells #[] 3 (0,0))]) j e h1 h2 h3;⟨v,q1,q2⟩)) (fun _ _ h=>h) (⟨rfl,gJ.empty⟩) H
  ·intro hB;exact absurd hB (by decide)
  ·intro hB;exact absurd hB (by decide)
  ·intro hB;exact absurd hB (by decide)
  ·intro _ dD mg dM a w G1 pG _ hc hG HT hv;have H:=HT;have H:=H.cast (show FN [(0,4),(4,7),(7,11)] dD 4++mg=(dD 0).2++mg from rfl);obtain ⟨u19,alA,aau,-⟩:=hv (.bool false,[]) 0 19 (by decide) (hc 0 (by decide)) rfl;(try dsimp only at aau);obtain ⟨h19,FD⟩:=aau;have H:=H.pX alA;obtain ⟨u22,U3,JR,-⟩:=hv (.bool false,[]) 3 22 (by decide) (hc 3 (by decide)) rfl;obtain rfl:u22=.slice A k c:=JR;have H:=H.pX U3;have Hb:=H.full;have H:=Hb;clear hc;refine CY jN aD rfl rfl (Li:=mg) (Lo:=(dD 0).2) (H.perm qZ) wn rfl rfl FD (hpr.mono hG) (by omega) (by omega) rfl ?_;clear H;intro v23 QJ n23 a w Pb Ud H;have JA:=fun (b:Nat) (o:Obj) (h:G1 b=some o)=>h;rw [ng,jB] at Pb;have H:=H.perm qZ;refine aH ⟨rfl,(v23,QJ),?_⟩;exact LD (by kernel_rfl) (tL (uW dD 4 (v23,QJ))) rfl HT Hb hG (fun j e h1 h2 h3=>(let ⟨v,q1,_,q2⟩:=hv (v23,QJ) j e h1 h2 h3;⟨v,q1,q2⟩)) JA (⟨rfl,_,Pb,Ud⟩) H
  ·intro hB;exact absurd hB (by decide)
  ·intro hB;exact absurd hB (by decide)
  ·intro _ dD mg dM a w G1 pG _ hc hG HT hv;have H:=HT;have H:=H.cast (show FN [(0,4),(4,7),(7,11)] dD 7++mg=(dD 4).2++mg from rfl);obtain ⟨u23,alC,aav,-⟩:=hv (.bool false,[]) 4 23 (by decide) (hc 4 (by decide)) rfl;(try dsimp only at aav);obtain ⟨h23,atb,Pb,Ud⟩:=aav;have H:=H.pX alC;obtain ⟨u25,alD,O6,-⟩:=hv (.bool false,[]) 6 25 (by decide) (hc 6 (by decide)) rfl;(try dsimp only at O6);obtain ⟨A25,n25,c25,rfl⟩:=O6.form;obtain rfl:n25=1:=O6.len;have H:=H.pX alD;have Hb:=H.full;have H:=Hb;clear hc;refine CY jN aD rfl rfl (Li:=mg) (Lo:=(dD 4).2) (H.perm qZ) wn rfl rfl Pb O6 (by omega) (by omega) rfl ?_;clear H;intro v26 QK n26 a w UU Ue H;have aiO:=fun (b:Nat) (o:Obj) (h:G1 b=some o)=>h;have H:=H.perm qZ;refine aH ⟨rfl,(v26,QK),?_⟩;exact LD (by kernel_rfl) (tL (uW dD 7 (v26,QK))) rfl HT Hb hG (fun j e h1 h2 h3=>(let ⟨v,q1,_,q2⟩:=hv (v26,QK) j e h1 h2 h3;⟨v,q1,q2⟩)) aiO (⟨rfl,_,UU,by rw [kZ];exact Ud.append Ue⟩) H
  ·intro hB;exact absurd hB (by decide)
  ·intro hB;exact absurd hB (by decide)
  ·intro hB;exact absurd hB (by decide)
  ·intro _ dD mg dM a w G1 pG _ hc hG HT hv;have H:=HT;have H:=H.cast (show FN [(0,4),(4,7),(7,11)] dD 11++mg=(dD 7).2++mg from rfl);obtain ⟨u26,alE,aaw,-⟩:=hv (.bool false,[]) 7 26 (by decide) (hc 7 (by decide)) rfl;(try dsimp only at aaw);obtain ⟨fE,atc,UU,Ue⟩:=aaw;have H:=H.pX alE;obtain ⟨u29,alF,akS,-⟩:=hv (.bool false,[]) 10 29 (by decide) (hc 10 (by decide)) rfl;obtain rfl:u29=.slice (if c=k then A else A.map (·.add (k*1))) (S.length - k) (c - k):=akS;have H:=H.pX alF;have Hb:=H.full;have H:=Hb;clear hc;refine CY jN aD rfl rfl (Li:=mg) (Lo:=(dD 7).2) (H.perm qZ) wn rfl rfl UU (hpt.mono hG) (by omega) (by omega) rfl ?_;clear H;intro v30 KQ n30 a w JW Uf H;have Mf:=fun (b:Nat) (o:Obj) (h:G1 b=some o)=>h;have H:=H.perm qZ;refine aH ⟨rfl,(v30,KQ),?_⟩;exact LD (by kernel_rfl) (tL (uW dD 11 (v30,KQ))) rfl HT Hb hG (fun j e h1 h2 h3=>(let ⟨v,q1,_,q2⟩:=hv (v30,KQ) j e h1 h2 h3;⟨v,q1,q2⟩)) Mf (⟨rfl,_,JW,by rw [kZ];exact Ue.append Uf⟩) H
  intro hB;exact absurd hB (by decide)
 clear H;intro dD a w G Me H hv;rw [show om [0,4,7,11] (live [(0,4),(4,7),(7,11)] fun _=>true) dD=(dD 11).2 from by first|(simp [om,live];done)|(simp [om,live];rfl)] at H
 try simp only [om,List.flatMap_cons,List.flatMap_nil,cond_true,mW,iQ] at H
 obtain ⟨u30,alG,aax⟩:=hv 11 30 (by decide) rfl;(try dsimp only at aax);obtain ⟨oo,atd,JW,Uf⟩:=aax;have H:=H.pX alG;clear hv;obtain ⟨⟨v30,KQ⟩,e30⟩:∃ y,y=dD 11:=⟨_,rfl⟩;rw [← e30] at H oo JW;dsimp only at H oo JW;subst oo;obtain ⟨WS,Yf,rfl,-,-⟩:=JW.shape;have H:=H.perm qZ;dsimp only [lca,aO] at H;refine bT xw 0 (vs:=[_]) _ H wn rfl rfl rfl rfl rfl rfl rfl rfl ?_;clear H;intro w H;dsimp only [List.set,setRow] at H;refine aH ⟨rfl,?_⟩;obtain ⟨Gr,hmr,hrep,H⟩:=St.DL (Li:=[_]) H JW (rows:=(S.take k++[n]++S.drop k).map fun q=>[li q]) (by simp;omega) Uf;refine (leave0 H results49 ?_).2;exact H.hp.gB ⟨_,_,rfl,amd,ame hs hk hge (apB hs hk (hq.2 h16)),hrep⟩
def Bb (l:List aC):List Int:=((lS l).map jT.id).tail
def Kt (l:List aC):List Int:=(Az l).map fun q=>q.2.id
theorem anK {R Q:List Int} {F:List Int} {k:Nat} (hk:k < F.length) (h1:R.Perm (F.take k)) (h2:Q.Perm (F[k] :: R)):Q.Perm (F.take (k+1)):=by
 rw [lG hk];exact h2.trans ((h1.cons _).trans (qZ (l₁:=[F[k]])))
theorem anL {R Q:List Int} {F P:List Int} {k:Nat} (hk:k < P.length) (h1:R.Perm (F++P.take k)) (h2:Q.Perm (P[k] :: R)):Q.Perm (F++P.take (k+1)):=by
 rw [lG hk,← iQ];exact h2.trans ((h1.cons _).trans (qZ (l₁:=[P[k]])))
set_option maxHeartbeats 2000000 in
theorem amL (G:GH) (w0:World) (hG:Hold G w0) (D:jP) (l:List aC) (hv:aB G (.sl 11 (l.map aC.dat)) (bg D.f)) (hok:oO l) (hz:bB l≤1073741824) :
  Calls prog 14 #[D.val] w0 (bV w0 G fun u G'=>∃ R:List Int,R.Perm (Bb l++Kt l)∧R.Pairwise (·≤·)∧aB G' (.sl 1 (R.map fun q=>[li q])) u):=by
 have hml:maxLen=9223372036854775807:=rfl
 have hbl:(gK l).length≤1073741825:=by
  have hn:=Ew false 0 l;rw [gK,jZ];omega
 have htl:(Az l).length≤bB l:=M8 0 0 l;have hbw:=GL l
 have hpos:1≤(lS l).length:=by show 1≤(_ :: _:List jT).length;rw [jZ];omega
 have hfl:(Bb l).length=(lS l).length - 1:=by rw [Bb,List.length_tail,bN]
 have htn:(Kt l).length=(Az l).length:=bN _;refine eN [(0,_)] func14 rfl ntmps14 rfl rfl hG ?_;intro a H;refine cO (fun _ K1=>?_);refine fD (cs:=[_,_,_,_,_,_,_,_,_,_,_]) H wn rfl rfl rfl ?_;clear H;intro b1 a w hb1 H;refine kH H (ak K1 rfl (SR fun _ K2=>?_));clear H K1;intro a H;refine dY xw H wn rfl ?_;clear H;intro b3 a w hb3 H;refine K2 _ _ ?_;clear K2;refine cO (fun _ K3=>?_);refine pO H wn rfl rfl ?_;clear H;intro a H;refine kH H (ak K3 rfl (SR fun _ K4=>?_));clear H K3;intro a H;refine bK lV (cs:=[_,_,_,_,_,_,_,_,_,_,_]) H wn rfl rfl (H.hp.fG 1 rfl rfl) rfl ?_;clear H;intro a H;refine s_call RD H wn rfl (Sz _ _ H.ro D l hv (by omega)) rfl ?_;clear H;rintro v12 zU a w UL Cy H;obtain ⟨A5,n5,c5,rfl⟩:=UL.form;have uN:=UL.len;rw [bN] at uN;obtain rfl:n5=(lS l).length:=uN;refine kH H (ak K4 rfl (SQ fun _ K5=>SR fun _ K6=>ak K6 rfl (SB ?_)));clear H K4 K6;intro a H;skip;refine dV (ι:=Nat × aj × List Int × GH) (Tc:=[(1,_),(3,_),(4,_),(5,_)]) (Lc:=[(_,_)]) (fun gh=>[(6,vi gh.1)]) (fun gh=>[(b3,.cells #[gh.2.1] 52 (0,0))]) (fun gh=>gh.2.2.2) (fun gh=>1≤gh.1∧gh.1≤(lS l).length∧gh.2.2.1.Perm ((Bb l).take (gh.1 - 1))∧gh.2.2.1.Pairwise (·≤·)∧aB gh.2.2.2 (.sl 1 (gh.2.2.1.map fun q=>[li q])) gh.2.1∧(∀ b o,zU b=some o→gh.2.2.2 b=some o)) (fun gh=>(lS l).length - gh.1) ((1,.slice none 0 0,[],zU)) (by exact (H.dx (Pl:=[_,_]) (bZ:=[_,_]) [1,0] (by decide) rfl).sub ⟨rfl,rfl,rfl,rfl,rfl,av⟩) ?_ ?_
 ·exact ⟨dB _,hpos,by simp,List.Pairwise.nil,by simp only [aB];exact ⟨none,0,by simp,by simp,by simp [maxLen],fun h=>absurd rfl h⟩,fun _ _ h=>h⟩
 clear H;rintro ⟨i,v,R,g⟩ a w hI H;dsimp only at hI H;obtain ⟨hi1,hi,hp,hs,hr,hgm⟩:=hI;have hrl:=hp.length_eq;rw [List.length_take] at hrl;dsimp only [lca,aO] at H;refine kP H (SQ fun _ K7=>SR fun _ K8=>Rm rfl (Rm rfl (Rl Db rfl (Rc rfl (Kz K8 (Cd rfl ?_ ?_)))))) <;> clear H K8
 ·intro h16 a H
  try have p16:=dT h16
  have hi2:i < (lS l).length:=by omega
  obtain ⟨b,o,vv,rfl,hrow,-⟩:=Q6 (UL.mono hgm) hi2
  have hfi:(Bb l)[i - 1]'(by omega)=(lS l)[i].id:=by
   unfold Bb
   rw [List.getElem_tail,List.getElem_map]
   congr 2;omega
  refine kP H (Kc K7 (SQ fun _ K9=>SB (SC (Rm rfl (Rm rfl (Rm rfl (Ri Db FU rfl rfl (Rf Zr rfl (Rg aD rfl (hrow 0 _ rfl) ?_)))))))));clear H K7;intro a H;refine rP (Li:=[_]) (L:=[_]) H wn rfl rfl (nk (caps:=[(aP b3 0)]) Y8 (XV _ _ b3 v R _ (Hp.owns (Li:=[_]) H.hp) hr hs (by omega))) rfl ?_;clear H;rintro v25 IY L25 a w ⟨v',R',rfl,hp',hs',hr'⟩ BF H;dsimp only [lca,aO] at H;refine kH H (Kn K9 (SC (Rm rfl (Rd rfl (Ra rfl ?_)))));clear H K9;intro a H;refine aH ?_;refine cB ((i+1,v',R',_)) (by exact (H).sub ⟨rfl,rfl,rfl,rfl,rfl,av⟩) ?_ ?_
  ·(try dsimp only);exact ⟨by omega,by omega,by rw [Nat.add_sub_cancel,show i=i - 1+1 by omega];exact anK (by omega) hp (by rw [hfi];exact hp'),hs',hr',fun b o h=>BF b o (hgm b o h)⟩
  first|omega|(dsimp only;omega)
 intro h16 a H
 try have p16:=dF h16
 obtain rfl:i=(lS l).length:=by omega
 rw [mF (by omega)] at hp;refine dJ ?_;refine K5 _ _ ?_;clear K5;refine cO (fun _ aU=>?_);refine bK lV (cs:=[_,_,_,_,_,_,_,_,_,_,_]) H wn rfl rfl (H.hp.fG 0 rfl rfl) rfl ?_;clear H;intro a H;refine s_call ahF H wn rfl (apR _ _ H.ro D l ((hv.mono Cy).mono hgm) hok (by omega)) rfl ?_;clear H;rintro v28 QC a w ⟨ta,tb,rfl,U2,htb⟩ akv H;obtain ⟨A7,n7,c7,rfl⟩:=U2.form;have OY:=U2.len;rw [bN] at OY;obtain rfl:n7=(Az l).length:=OY;obtain ⟨A8,n8,c8,rfl⟩:=htb.form;refine kH H (Rm rfl ?_);clear H;intro a H;(iterate 2 refine nQ H wn rfl rfl rfl ?_;clear H;intro a H);refine kH H (Ra rfl (ak aU rfl (SQ fun _ bD=>SR fun _ bE=>ak bE rfl (SB ?_))));clear H aU bE;intro a H;skip;refine dV (ι:=Nat × aj × List Int × GH) (Tc:=[(3,_),(4,_),(7,_)]) (Lc:=[(_,_)]) (fun gh=>[(9,vi gh.1)]) (fun gh=>[(b3,.cells #[gh.2.1] 52 (0,0))]) (fun gh=>gh.2.2.2) (fun gh=>gh.1≤(Az l).length∧gh.2.2.1.Perm (Bb l++(Kt l).take gh.1)∧gh.2.2.1.Pairwise (·≤·)∧aB gh.2.2.2 (.sl 1 (gh.2.2.1.map fun q=>[li q])) gh.2.1∧(∀ b o,QC b=some o→gh.2.2.2 b=some o)) (fun gh=>(Az l).length - gh.1) ((0,v,R,QC)) (by exact (H).sub ⟨rfl,rfl,rfl,rfl,av⟩) ?_ ?_
 ·exact ⟨fQ _,by simpa using hp,hs,hr.mono akv,fun _ _ h=>h⟩
 clear H;rintro ⟨k,v2,R2,g2⟩ a w hI H;dsimp only at hI H;obtain ⟨hk,hp2,hs2,hr2,kI⟩:=hI;have hrl2:=hp2.length_eq;rw [jC,List.length_take] at hrl2;dsimp only [lca,aO] at H;refine kP H (SQ fun _ bQ=>SR fun _ bR=>Rm rfl (Rm rfl (Rl jM rfl (Rc rfl (Kz bR (Cd rfl ?_ ?_)))))) <;> clear H bR
 ·intro dZ a H
  try have p34:=dT dZ
  have hk2:k < (Az l).length:=by omega
  obtain ⟨b,o,cx,rfl,hrow,hcx⟩:=apT (U2.mono kI) hk2;obtain ⟨aX,anX,acX,bX,bnX,bcX,dX,dnX,dcX,eX,enX,ecX,iX,inX,icX,rfl,-⟩:=hcx.item;refine kP H (Kc bQ (SQ fun _ bW=>SB (SC (Rm rfl (Rm rfl (Rm rfl (Ri jM eH rfl rfl (Rf vE rfl (Rg aD rfl (hrow 2 _ rfl) ?_)))))))));clear H bQ;intro a H;refine rP (Li:=[_]) (L:=[_]) H wn rfl rfl (nk (caps:=[(aP b3 0)]) Y8 (XV _ _ b3 v2 R2 _ (Hp.owns (Li:=[_]) H.hp) hr2 hs2 (by omega))) rfl ?_;clear H;rintro v43 AO L43 a w ⟨v',R',rfl,hp',hs',hr'⟩ nO H;dsimp only [lca,aO] at H;refine kH H (Kn bW (SC (Rm rfl (Rd rfl (Ra rfl ?_)))));clear H bW;intro a H;refine aH ?_;refine cB ((k+1,v',R',_)) (by exact (H).sub ⟨rfl,rfl,rfl,rfl,av⟩) ?_ ?_
  ·(try dsimp only);exact ⟨by omega,anL (by omega) hp2 (by rw [show (Kt l)[k]'(by omega)=(Az l)[k].2.id from List.getElem_map _];exact hp'),hs',hr',fun b o h=>nO b o (kI b o h)⟩
  first|omega|(dsimp only;omega)
 intro dZ a H
 try have p34:=dF dZ
 obtain rfl:k=(Az l).length:=by omega
 rw [mF (by omega)] at hp2;refine dJ ?_;refine bD _ _ ?_;clear bD;exact kP H (SR fun _ cK=>Ro xw 1 rfl (ak cK rfl (LR results14 rfl fun H=>H.rt ⟨R2,hp2,hs2,hr2⟩)))
end
section
open Go.RowKit
abbrev cW (a:Int) (L:List lu):Nat:=(L.map lu.id).count a
abbrev cT (a:Int) (L:List ((Int × Int) × aC)):Nat:=((tF L).map fun q=>q.2.id).count a
theorem Q8 (a:Int) (A B:List lu):cW a (A++B)=cW a A+cW a B:=by simp [cW,List.count_append]
theorem Q7 (a:Int) (A B:List ((Int × Int) × aC)):cT a (A++B)=cT a A+cT a B:=by simp [cT,Qm,List.count_append]
mutual
theorem afN (f t:Int) (note:Bool) (tt a:Int):∀ x:aC,cW a (zP note tt x)+cT a (FL f t x)=(Eh x).count a
 | .mk k c i tx h fl r=>by
  have hf:=NT i 0 true tt a fl;have hr:=Yq note tt a r;have e:=adj (f:=f) (at_:=t) (x:=.mk k c i tx h fl r);dsimp only [aC.kind,aC.id,aC.flow,aC.rows] at e
  unfold cT at hf hr ⊢
  rw [Eh,zP,e]
  by_cases h6:k=6
  ·have h7:¬ k=7:=by omega
   simp only [h6,h7,if_true,if_false,true_or,jB,mW,List.singleton_append,dW,List.count_cons,cW] at *
   simp only [show ¬ (6:Int)=7 by decide,if_false,jB,mW] at *
   omega
  by_cases h7:k=7
  ·simp only [h7,if_true,or_true,show ¬ (7:Int)=6 by decide,if_false,jB,List.singleton_append,dW,List.count_cons,cW] at *
   rw [show (aC.mk 7 c i tx h fl r).id=i from rfl]
   omega
  simp only [h6,h7,if_false,or_self,jB,sZ,List.count_nil,cW]
theorem NT (f:Int) (t:Int) (note:Bool) (tt a:Int):∀ l:List aC,cW a (jO note tt l)+cT a (fZ f t l)=(fK l).count a
 | []=>by rw [jO,fZ,fK];rfl
 | x :: l=>by
  have h1:=afN f t note tt a x;have h2:=NT f (t+sV x) note tt a l;rw [jO,fZ,fK,Q8,Q7,List.count_append];omega
theorem afO (note:Bool) (tt a:Int):∀ x:bH,cW a (zQ note tt x)+cT a (Iy x)=(Ei x).count a
 | .mk h cs=>by rw [Ei,zQ,Iy];exact Yp note tt a cs
theorem Yq (note:Bool) (tt a:Int):∀ l:List bH,cW a (pR note tt l)+cT a (sN l)=(wU l).count a
 | []=>by rw [pR,sN,wU];rfl
 | x :: l=>by
  have h1:=afO note tt a x;have h2:=Yq note tt a l;rw [pR,sN,wU,Q8,Q7,List.count_append];omega
theorem afM (note:Bool) (tt a:Int):∀ x:bq,cW a (zO note tt x)+cT a (FK x)=(Ef x).count a
 | .mk i h fl=>by
  have hf:=NT i 0 note (tt+1) a fl;rw [Ef,zO,FK]
  simp only [cW,dW,List.count_cons] at *
  omega
theorem Yp (note:Bool) (tt a:Int):∀ l:List bq,cW a (qz note tt l)+cT a (jY l)=(yu l).count a
 | []=>by rw [qz,jY,yu];rfl
 | x :: l=>by
  have h1:=afM note tt a x;have h2:=Yp note tt a l;rw [qz,jY,yu,Q8,Q7,List.count_append];omega
end
theorem abj (l:List aC):(Bb l++Kt l).Perm (fK l):=by
 refine List.perm_iff_count.2 fun a=>?_;have h:=NT 0 0 false 0 a l;rw [List.count_append,← h]
 unfold Bb
 rw [aeW]
 rfl
theorem adb {R l:List Int} (h1:R.Perm l) (h2:R.Pairwise (·≤·)):R=sP l:=by
 have h3:=Go.mergeSort_of_perm_i h1
 unfold sP
 rw [← h3];exact (List.mergeSort_of_pairwise (h2.imp fun h=>aG h)).symm
end
section
open Go.RowKit
structure Nk where
 code:Int
 id:Int
 name:ByteArray
 flow:Int
 at_:Int
def Nk.dat (x:Nk):List Dat:=[li x.code,li x.id,.lf (.string x.name),li x.flow,li x.at_]
abbrev Nk.cells (x:Nk):List aj:=[vi x.code,vi x.id,.string x.name,vi x.flow,vi x.at_]
def WU (P:Program) (fv:aj) (Gi:GH) (xs:List AP) (J:Nat→GH→OL→Prop):Prop :=
 ∀ k args G L w,xH xs k args G→(∀ b o,Gi b=some o→G b=some o)→J k G L→iT G L w→yN P fv args w (iE w G L fun _ G' L'=>J (k+1) G' L')
end
section
open Go.RowKit
theorem RX:∀ args w,(callFunc 61 args).run prog w=.ok (.enter 61 args) w:=enters func61 rfl (by kernel_rfl)
mutual
/-- The heads of items, rows and cells, in document order. -/
def DY:aC→List dz
 | .mk k _ _ _ h f r=>h :: ((if k=6 then mh f else [])++(if k=7 then vK r else []))
def mh:List aC→List dz
 | []=>[]
 | x :: r=>DY x++mh r
def DZ:bH→List dz
 | .mk h c=>h :: wQ c
def vK:List bH→List dz
 | []=>[]
 | x :: r=>DZ x++vK r
def DW:bq→List dz
 | .mk _ h f=>h :: mh f
def wQ:List bq→List dz
 | []=>[]
 | x :: r=>DW x++wQ r
end
theorem aje (x:aC):DY x=x.head :: ((if x.kind=6 then mh x.flow else [])++(if x.kind=7 then vK x.rows else [])):=by cases x;rw [DY];rfl
theorem ajo (x:bH):DZ x=x.head :: wQ x.cells:=by cases x;rw [DZ];rfl
theorem aiG (x:bq):DW x=x.head :: mh x.flow:=by cases x;rw [DW];rfl
def H7 (h:dz):AP:=fun args G=>∃ p d y:Option Addr × Nat × Nat,args=[.agg #[bg p,vi h.marks.ins,vi h.marks.move,bg d,bg y]]∧nS G h (bg p) (bg d) (bg y)
theorem Ul {G:GH} {h:dz} {pA dA yA:Option Addr} {pn pc dn dc yn yc:Nat} (hr:nS G h (.slice pA pn pc) (.slice dA dn dc) (.slice yA yn yc)):H7 h [.agg #[.slice pA pn pc,vi h.marks.ins,vi h.marks.move,.slice dA dn dc,.slice yA yn yc]] G:=⟨(pA,pn,pc),(dA,dn,dc),(yA,yn,yc),rfl,hr⟩
def QG (n:Nat):Prop:=∀ (fv:aj) (Gi:GH) (xs:List AP) (J:Nat→GH→OL→Prop) (G:GH) (L:OL) (w0:World) (j:Nat) (l:List aC) (v:aj),
 (∀ b o,Gi b=some o→G b=some o)→WU prog fv Gi xs J→EF J→J j G L→iT G L w0→aB G (.sl 11 (l.map aC.dat)) v→bB l < n→(∀ i a,(mh l)[i]?=some a→xs[j+i]?=some (H7 a)) →
 Calls prog 61 #[v,fv] w0 (iE w0 G L fun _ G' L'=>J (j+(mh l).length) G' L')
set_option maxHeartbeats 4000000 in
theorem akd {n:Nat} (ih:QG n) (hn:n≤4294967296):QG (n+1):=by
 intro fv Gi xs J G L w0 j0 l v hGi hcb mM hJ0 hO hv hz hx0;obtain ⟨A,c,rfl,hc1,hc2,hg⟩:=hv.slice;rw [bN] at *;have hll:=Dg l;refine kS (N:=59) (T:=[(0,_),(1,_)]) func61 rfl ntmps61 rfl rfl hO ?_;intro a H;refine kP H (SR fun _ K1=>Rm rfl (Rl jM rfl (Rm rfl (Kz K1 (SB ?_)))));clear H K1;intro a H;skip;refine dV (ι:=Nat × Nat × OL × GH) (Tc:=[(1,_),(10,_),(11,_)]) (Lc:=[]) (fun gh=>[(12,vi gh.1)]) (fun gh=>[]++gh.2.2.1) (fun gh=>gh.2.2.2) (fun gh=>gh.1≤l.length∧(∀ b o,G b=some o→gh.2.2.2 b=some o)∧Now xs H7 J (j0+(mh l).length) gh.2.1 (mh (l.drop gh.1)) gh.2.2.2 gh.2.2.1) (fun gh=>l.length - gh.1) ((0,j0,L,G)) (by exact (H).sub ⟨rfl,rfl,rfl,rfl,av⟩) ?_ ?_
 ·exact ⟨by omega,fun _ _ h=>h,⟨hJ0,hx0,rfl⟩⟩
 clear H;rintro ⟨k,j,Lt,g1⟩ a w hI H;dsimp only at hI H;obtain ⟨hk,hgm,bP⟩:=hI;dsimp only [lca,aO] at H;refine kP H (SR fun _ K2=>Rc rfl (Kz K2 (SQ fun _ K3=>Cd rfl ?_ ?_))) <;> clear H K2
 ·intro eO a H
  try have nZ:=dT eO
  have hk2:k < l.length:=by omega
  obtain ⟨b,o,pA,pn,pc,dA,dn,dc,yA,yn,yc,fA,fn,fc,rA,rn,rc,rfl,hrow,hhd,hfl,hrw⟩:=Bl hk2 hg;replace hrow:=fun j u hj=>aJ hgm (hrow j u hj);replace hhd:=hhd.mono hgm;replace hfl:=hfl.mono hgm;replace hrw:=hrw.mono hgm;have hrn:=hrw.len;rw [bN] at hrn;subst hrn;have hsz1:=WQ hk2;rw [jw hk2] at bP
  simp only [mh,aje,iQ,mE] at bP
  obtain ⟨x,hx⟩:∃ x,x=l[k]:=⟨_,rfl⟩;rw [← hx] at bP hrow hhd hfl hrw hsz1;have hrl:=Dh x.rows;refine kP H (Kc K3 (SQ fun _ K4=>SB (SR fun _ K5=>Ri jM eH rfl rfl ?_)));clear H K3;intro a H;refine bK eH (cs:=[_,_,_,_,_,_,_,_,_,_,_]) H wn rfl rfl (fun j v hj=>H.hp.aF (hrow j v hj)) rfl ?_;clear H;intro a H;refine dY eH H wn rfl ?_;clear H;intro b5 a w hb5 H;refine bT eH 0 (vs:=[_,_,_,_,_,_,_,_,_,_,_]) _ H wn rfl rfl rfl rfl rfl rfl rfl rfl ?_;clear H;intro w H;dsimp only [List.set,setRow] at H;refine K5 _ _ ?_;clear K5;refine kP H (SR fun _ K6=>Rm rfl (Rf GZ rfl ?_));clear H;intro a H;refine bK lU (cs:=[_,_,_,_,_]) H wn rfl rfl (H.hp.fG 0 rfl rfl) rfl ?_;clear H;intro a H;refine rP (Li:=[_]) (L:=Lt) H wn rfl rfl (hcb _ _ _ _ _ ⟨_,bP.head,Ul hhd⟩ (fun b o h=>hgm b o (hGi b o h)) bP.now (Hp.owns (Li:=[_]) H.hp)) rfl ?_;clear H;intro v19 IW QS a w ajg uM H;have pJ:=bP.step ajg;refine K6 _ _ ?_;clear K6;refine kP H (SR fun _ K7=>aR gH aD 0 rfl rfl (Kz K7 (SB (SR fun _ K8=>Rc rfl (ak K8 rfl (Cd rfl ?_ ?_)))))) <;> clear H K7 K8
  ·intro h22 a H
   try have jv:=dT h22
   rw [au jv,ah (by omega),jB] at pJ;refine kP H (SC (aR Bh jy 0 rfl rfl (Rm rfl ?_)));clear H;intro a H;refine gW RX (Li:=[_]) (L:=QS) H wn rfl (ih fv Gi xs J _ _ _ (j+1) x.flow _ (fun b o h=>uM b o (hgm b o (hGi b o h))) hcb mM pJ.now (Hp.owns (Li:=[_]) H.hp) (hfl.mono uM) (by omega) pJ.part) rfl ?_;clear H;intro v27 G27 aeD a w ajh aku H;refine kH H (Kn K4 (SC (Rd rfl (Rm rfl ?_))));clear H K4;intro a H;refine aH ?_;refine cB ((k+1,j+1+(mh x.flow).length,aeD,G27)) (by exact (H.dx (Pl:=[_]) (bZ:=[]) [] (by decide) rfl).sub ⟨rfl,rfl,rfl,rfl,av⟩) ?_ ?_
   ·(try dsimp only);exact ⟨by omega,fun b o h=>aku b o (uM b o (hgm b o h)),pJ.jump ajh⟩
   first|omega|(dsimp only;omega)
  intro h22 a H
  try have jv:=dF h22
  rw [ah jv,jB] at pJ;refine kP H (SR fun _ K9=>Rc rfl (ak K9 rfl (Cd rfl ?_ ?_))) <;> clear H K9
  ·intro iK a H
   try have p28:=dT iK
   rw [au p28] at pJ;refine kP H (SR fun _ aU=>aR qH qR 0 rfl rfl (Rl jG rfl (Rm rfl (Kz aU (SB ?_)))));clear H aU;intro a H;skip;refine dV (ι:=Nat × Nat × OL × GH) (Tc:=[(1,_),(10,_),(11,_),(12,_),(31,_),(32,_)]) (Lc:=[(_,_)]) (fun gh=>[(33,vi gh.1)]) (fun gh=>[]++gh.2.2.1) (fun gh=>gh.2.2.2) (fun gh=>gh.1≤x.rows.length∧(∀ b o,IW b=some o→gh.2.2.2 b=some o)∧Now xs H7 J (j0+(mh l).length) gh.2.1 (vK (x.rows.drop gh.1)++mh (l.drop (k+1))) gh.2.2.2 gh.2.2.1) (fun gh=>x.rows.length - gh.1) ((0,j+1,QS,IW)) (by exact (H).sub ⟨rfl,rfl,rfl,rfl,rfl,rfl,rfl,av⟩) ?_ ?_
   ·exact ⟨by omega,fun _ _ h=>h,pJ⟩
   clear H;rintro ⟨rk,j3,Lt3,g3⟩ a w hI H;dsimp only at hI H;obtain ⟨JU,hg3,rM⟩:=hI;dsimp only [lca,aO] at H;refine kP H (SR fun _ bD=>Rc rfl (Kz bD (SQ fun _ bE=>Cd rfl ?_ ?_))) <;> clear H bD
   ·intro dZ a H
    try have p34:=dT dZ
    have hk3:rk < x.rows.length:=by omega
    obtain ⟨b2,o2,qA,qn,qc,eA,en,ec,zA,zn,zc,cA,cn,cc,rfl,hrow,vN,hcl⟩:=CW hk3 ((hrw.mono uM).mono hg3).at_;have hcn:=hcl.len;rw [bN] at hcn;subst hcn;have hsz2:=IU hk3;have hcs:=Dc x.rows[rk].cells;rw [jw hk3] at rM
    simp only [vK,ajo,iQ,mE] at rM
    obtain ⟨y,hy⟩:∃ y,y=x.rows[rk]:=⟨_,rfl⟩;rw [← hy] at rM hrow vN hcl hsz2 hcs;refine kP H (Kc bE (SQ fun _ bQ=>SB (SR fun _ bR=>Ri jG jJ rfl rfl ?_)));clear H bE;intro a H;refine bK jJ (cs:=[_,_,_,_,_,_]) H wn rfl rfl (fun j v hj=>H.hp.aF (hrow j v hj)) rfl ?_;clear H;intro a H;refine dY jJ H wn rfl ?_;clear H;intro b7 a w yg H;refine bT jJ 0 (vs:=[_,_,_,_,_,_]) _ H wn rfl rfl rfl rfl rfl rfl rfl rfl ?_;clear H;intro w H;dsimp only [List.set,setRow] at H;refine bR _ _ ?_;clear bR;refine kP H (SR fun _ bW=>Rm rfl (Rf GU rfl ?_));clear H;intro a H;refine bK lU (cs:=[_,_,_,_,_]) H wn rfl rfl (H.hp.fG 0 rfl rfl) rfl ?_;clear H;intro a H;refine rP (Li:=[_,_]) (L:=Lt3) H wn rfl rfl (hcb _ _ _ _ _ ⟨_,rM.head,Ul vN⟩ (fun b o h=>hg3 b o (uM b o (hgm b o (hGi b o h)))) rM.now (Hp.owns (Li:=[_,_]) H.hp)) rfl ?_;clear H;intro v40 KJ Gp a w aji D9 H;have akK:=rM.step aji;refine bW _ _ ?_;clear bW;refine kP H (SR fun _ cK=>aR qh qy 0 rfl rfl (Rl lQ rfl (Rm rfl (Kz cK (SB ?_)))));clear H cK;intro a H;skip;refine dV (ι:=Nat × Nat × OL × GH) (Tc:=[(1,_),(10,_),(11,_),(12,_),(31,_),(32,_),(33,_),(42,_),(43,_)]) (Lc:=[(_,_),(_,_)]) (fun gh=>[(44,vi gh.1)]) (fun gh=>[]++gh.2.2.1) (fun gh=>gh.2.2.2) (fun gh=>gh.1≤y.cells.length∧(∀ b o,KJ b=some o→gh.2.2.2 b=some o)∧Now xs H7 J (j0+(mh l).length) gh.2.1 (wQ (y.cells.drop gh.1)++(vK (x.rows.drop (rk+1))++mh (l.drop (k+1)))) gh.2.2.2 gh.2.2.1) (fun gh=>y.cells.length - gh.1) ((0,j3+1,Gp,KJ)) (by exact (H).sub ⟨rfl,rfl,rfl,rfl,rfl,rfl,rfl,rfl,rfl,rfl,av⟩) ?_ ?_
    ·exact ⟨by omega,fun _ _ h=>h,akK⟩
    clear H;rintro ⟨ck,j4,Lt4,g4⟩ a w hI H;dsimp only at hI H;obtain ⟨hck,hg4,pK⟩:=hI;dsimp only [lca,aO] at H;refine kP H (SR fun _ bY=>Rc rfl (Kz bY (SQ fun _ dG=>Cd rfl ?_ ?_))) <;> clear H bY
    ·intro h45 a H
     try have p45:=dT h45
     have hk4:ck < y.cells.length:=by omega
     obtain ⟨b3,o3,sA,sn,sc,tA,tn,tc,uA,un,uc,gA,gn,gc,rfl,hrow,hch,hcf⟩:=AY hk4 ((hcl.mono D9).mono hg4).at_;have FE:=KF hk4;rw [jw hk4] at pK
     simp only [wQ,aiG,iQ,mE] at pK
     refine kP H (Kc dG (SQ fun _ dN=>SB (SR fun _ dH=>Ri lQ jK rfl rfl ?_)));clear H dG;intro a H;refine bK jK (cs:=[_,_,_,_,_,_,_]) H wn rfl rfl (fun j v hj=>H.hp.aF (hrow j v hj)) rfl ?_;clear H;intro a H;refine dY jK H wn rfl ?_;clear H;intro b9 a w uL H;refine bT jK 0 (vs:=[_,_,_,_,_,_,_]) _ H wn rfl rfl rfl rfl rfl rfl rfl rfl ?_;clear H;intro w H;dsimp only [List.set,setRow] at H;refine dH _ _ ?_;clear dH;refine kP H (SR fun _ dP=>Rm rfl (Rf LM rfl ?_));clear H;intro a H;refine bK lU (cs:=[_,_,_,_,_]) H wn rfl rfl (H.hp.fG 0 rfl rfl) rfl ?_;clear H;intro a H;refine rP (Li:=[_,_,_]) (L:=Lt4) H wn rfl rfl (hcb _ _ _ _ _ ⟨_,pK.head,Ul hch⟩ (fun b o h=>hg4 b o (D9 b o (hg3 b o (uM b o (hgm b o (hGi b o h)))))) pK.now (Hp.owns (Li:=[_,_,_]) H.hp)) rfl ?_;clear H;intro v51 G51 aeE a w ajj Ux H;have Ib:=pK.step ajj;refine dP _ _ ?_;clear dP;refine kP H (SC (aR Cn jy 0 rfl rfl (Rm rfl ?_)));clear H;intro a H;refine gW RX (Li:=[_,_,_]) (L:=aeE) H wn rfl (ih fv Gi xs J _ _ _ (j4+1) y.cells[ck].flow _ (fun b o h=>Ux b o (hg4 b o (D9 b o (hg3 b o (uM b o (hgm b o (hGi b o h))))))) hcb mM Ib.now (Hp.owns (Li:=[_,_,_]) H.hp) (hcf.mono Ux) (by omega) Ib.part) rfl ?_;clear H;intro v55 KM aeF a w ajk wT H;refine kH H (Kn dN (SC (Rd rfl (Rm rfl ?_))));clear H dN;intro a H;refine aH ?_;refine cB ((ck+1,j4+1+(mh y.cells[ck].flow).length,aeF,KM)) (by exact (H.dx (Pl:=[_,_,_]) (bZ:=[_,_]) [1,2] (by decide) rfl).sub ⟨rfl,rfl,rfl,rfl,rfl,rfl,rfl,rfl,rfl,rfl,av⟩) ?_ ?_
     ·(try dsimp only);exact ⟨by omega,fun b o h=>wT b o (Ux b o (hg4 b o h)),Ib.jump ajk⟩
     first|omega|(dsimp only;omega)
    intro h45 a H
    try have p45:=dF h45
    refine dJ ?_;refine bQ _ _ ?_;clear bQ;refine kP H (SC (Rd rfl (Rm rfl ?_)));clear H;intro a H;refine aH ?_;refine cB ((rk+1,j4,Lt4,g4)) (by exact (H.dx (Pl:=[_,_]) (bZ:=[_]) [1] (by decide) rfl).sub ⟨rfl,rfl,rfl,rfl,rfl,rfl,rfl,av⟩) ?_ ?_
    ·(try dsimp only);exact ⟨by omega,fun b o h=>hg4 b o (D9 b o (hg3 b o h)),by rw [eU (by omega),wQ,jB] at pK;exact pK⟩
    first|omega|(dsimp only;omega)
   intro dZ a H
   try have p34:=dF dZ
   refine dJ ?_;refine K4 _ _ ?_;clear K4;refine kP H (SC (Rd rfl (Rm rfl ?_)));clear H;intro a H;refine aH ?_;refine cB ((k+1,j3,Lt3,g3)) (by exact (H.dx (Pl:=[_]) (bZ:=[]) [] (by decide) rfl).sub ⟨rfl,rfl,rfl,rfl,av⟩) ?_ ?_
   ·(try dsimp only);exact ⟨by omega,fun b o h=>hg3 b o (uM b o (hgm b o h)),by rw [eU (by omega),vK,jB] at rM;exact rM⟩
   first|omega|(dsimp only;omega)
  intro iK a H
  try have p28:=dF iK
  rw [ah p28,jB] at pJ;refine kP H (Kc K4 (SC (Rd rfl (Rm rfl ?_))));clear H K4;intro a H;refine aH ?_;refine cB ((k+1,j+1,QS,IW)) (by exact (H.dx (Pl:=[_]) (bZ:=[]) [] (by decide) rfl).sub ⟨rfl,rfl,rfl,rfl,av⟩) ?_ ?_
  ·(try dsimp only);exact ⟨by omega,fun b o h=>uM b o (hgm b o h),pJ⟩
  first|omega|(dsimp only;omega)
 intro eO a H
 try have nZ:=dF eO
 refine dJ ?_;refine (leave0 H results61 ?_).2
 exact H.hp.bU (L':=Lt) (by repeat (first|exact cu _|apply List.Sublist.cons)) (by
   rw [eU (by omega),mh] at bP;have:=bP.len
   simp only [List.length_nil,nT] at this
   rw [← this];exact bP.now)
theorem Z6:∀ n:Nat,n≤4294967297→QG n
 | 0,_=>fun _ _ _ _ _ _ _ _ _ _ _ _ _ _ _ _ h=>absurd h (by omega)
 | n+1,hn=>akd (Z6 n (by omega)) (by omega)
end
section
open Go.RowKit
theorem Ae {G:GH} {b:Nat} {cs:List aj} {e:TypeId} {q:Nat × Nat} (h:G b=some (.cells cs.toArray e q)) (k:Nat) (ds:List aj) (hd:ds=(cs.drop k).take ds.length) (j:Nat) (v:aj) (hj:ds[j]?=some v):aF G b (k+j)=some v:=by
 unfold aF
 rw [h]
 show cs.toArray[k+j]?=some v
 rw [hd,zY] at hj
 split at hj
 ·simpa using hj
 cases hj
end
end Go.Proofs.YthmanofbmnfemaaGreat
