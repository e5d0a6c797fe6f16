/-
  What the claim stands on, part 5: Package document: the checker's rows. Package document: the checker's item. Package document: all with blocks that are lent; the checker's items. Package document: checkRevs. Package document: Check. Package obeluslaw13: has, the model checker's revision and refers. Package obeluslaw13: the model checker's id. Package obeluslaw13: the model checker's head. Package obeluslaw13: the model's own. How many ids a checker notes. Package obeluslaw13: the model checker's rows. Package obeluslaw13: the model checker's flow.
-/
import Derived.Test.YtlnhhlighgaapaaGreatWcd
namespace Go.Proofs.YtlnhhlighgaapaaGreat
section
open Go.RowKit
theorem en64rws:∀ args w,(callFunc 64 args).run Tryz.prog w=.ok (.enter 64 args) w:=enters Tryz.func64 rfl (by kernel_rfl)
theorem en198rws:∀ args w,(callFunc 198 args).run Tryz.prog w=.ok (.enter 198 args) w:=enters Tryz.func198 rfl (by kernel_rfl)
theorem en66rws:∀ args w,(callFunc 66 args).run Tryz.prog w=.ok (.enter 66 args) w:=enters Tryz.func66 rfl (by kernel_rfl)
theorem headL_spec (G:GH) (L:OL) (w0:World) (st:List StyleD) (li:List LiD) (rv:List RvD) (b ms ml mr mb mu:Nat) (n:Int) (hck:CkG G st li rv ms ml mr mu) (hO:Owns G (ckB b ms ml mr mb mu n :: L) w0)
  (e:Int) (h:HeadD) (p d l:Value) (hh:HeadR G h p d l) (hz:zHead h≤4294967296) :
  Calls Tryz.prog 64 #[.pointer (some ⟨b,0,none⟩),vi e,hdV h p d l] w0 (RetL w0 G (ckB b ms ml mr mb mu n :: L) fun v G' L'=>G=G'∧L'=ckB b ms ml mr mb mu n :: L∧v=vi (headE (ckP st li rv) e h)):=by
 have hm:=GH.add_mono G (o:=(ckB b ms ml mr mb mu n).2) (hO.sep _ List.mem_cons_self);exact (head_spec (G.add b (ckB b ms ml mr mb mu n).2) w0 hO.add st li rv b ms ml mr mb mu n (hck.mono hm) (GH.add_self _ _ _) e h p d l (hh.mono hm) hz).mono fun _ _=>ret_lend (b:=b) (o:=(ckB b ms ml mr mb mu n).2) (R':=fun v=>v=vi (headE (ckP st li rv) e h)) hO fun _ _ h=>h
/-- What a call of the checker leaves. -/
abbrev CkR (b ms ml mr mb mu:Nat) (L:OL) (r:CR):Value→OL→Prop:=fun u L'=>∃ s:CS,u=vi r.1∧L'=ckB b ms ml mr mb mu s.n :: (mb,mpK (mSet s.bef)) :: L∧(r.1=0→s=r.2)
def ItemsOk (m:Nat):Prop:=∀ (G:GH) (L:OL) (w0:World) (st:List StyleD) (li:List LiD) (rv:List RvD) (b ms ml mr mb mu:Nat) (s:CS) (l:List ItemD) (v:Value) (body note:Bool) (t:Int),
 CkG G st li rv ms ml mr mu→Owns G (ckB b ms ml mr mb mu s.n :: (mb,mpK (mSet s.bef)) :: L) w0→RepV G (.sl 11 (l.map ItemD.dat)) v→zItems l < m→0≤t→t≤4→0≤s.n→s.n+(zItems l:Nat)≤1099511627776 →
 Calls Tryz.prog 66 #[.pointer (some ⟨b,0,none⟩),v,.agg #[.bool body,.bool note,vi t]] w0 (RetL w0 G (ckB b ms ml mr mb mu s.n :: (mb,mpK (mSet s.bef)) :: L) fun u G' L'=>G=G'∧CkR b ms ml mr mb mu L (itemsC (ckP st li rv) body note t l s) u L')
theorem rows_ok {m:Nat} (ih:ItemsOk m) (hm:m≤4294967296) (Gt:GH) (L:OL) (w0:World) (st:List StyleD) (li:List LiD) (rv:List RvD) (b ms ml mr mb mu:Nat) (s:CS) (l:List RowD) (v:Value) (note:Bool) (t:Int)
  (hck:CkG Gt st li rv ms ml mr mu) (hO:Owns Gt (ckB b ms ml mr mb mu s.n :: (mb,mpK (mSet s.bef)) :: L) w0) (hv:RepV Gt (.sl 6 (l.map RowD.dat)) v) (hz:zRows l < m) (ht0:0≤t) (ht4:t≤4) (hs0:0≤s.n) (hs1:s.n+(zRows l:Nat)≤1099511627776) :
  Calls Tryz.prog 199 #[.pointer (some ⟨b,0,none⟩),v,.agg #[.bool false,.bool note,vi t]] w0 (RetL w0 Gt (ckB b ms ml mr mb mu s.n :: (mb,mpK (mSet s.bef)) :: L) fun u G' L'=>CkR b ms ml mr mb mu L (rowsC0 l.length (fun s=>rowsC (ckP st li rv) note t l s) s) u L'):=by
 obtain ⟨A,c,rfl,hc1,hc2,hg⟩:=hv.slice;rw [List.length_map] at *;have hll:=zRows_length l;refine enterL (N:=77) (T:=[(0,_),(1,_),(2,_)]) Tryz.func199 rfl Tryz.ntmps199 rfl rfl hO ?_;intro a H;refine c_seqR (fun _ K1=>?_);refine s_box (cs:=[_,_,_]) H wn rfl rfl rfl ?_;clear H;intro b5 a w hb5 H;refine kH H (Ra rfl (Kz K1 (SQ fun _ K2=>SR fun _ K3=>Rm rfl (Rl un33run rfl (Rc rfl (Kz K3 ?_))))));clear H K1 K3;intro a H;refine c_cond H rfl ?_ ?_
 ·intro h17
  try have p17:=dT h17
  refine c_seq (fun _ K4=>?_);have hE:rowsC0 l.length (fun s=>rowsC (ckP st li rv) note t l s) s=(11,s):=if_pos (by omega);refine kP H (SC (Ra rfl (Kn K4 ?_)));clear H K4;intro a H;refine lr H Tryz.results199 rfl ?_;exact H.hp.retD (L':=ckB b ms ml mr mb mu s.n :: (mb,mpK (mSet s.bef)) :: L) (by repeat (first|exact List.Sublist.refl _|apply List.Sublist.cons)) ⟨s,by rw [hE],rfl,fun h=>by rw [hE]⟩
 intro h17
 try have p17:=dF h17
 refine kP H (Kc K2 (SQ fun _ K5=>SR fun _ K6=>Rm rfl (Rl un33run rfl (Rc rfl (Kz K6 ?_)))));clear H K2 K6;intro a H;refine c_cond H rfl ?_ ?_
 ·intro h20
  try have p20:=dT h20
  refine c_seq (fun _ K7=>?_)
  have hE:rowsC0 l.length (fun s=>rowsC (ckP st li rv) note t l s) s=(9,s):=by rw [rowsC0,if_neg (by omega),if_pos (by omega)]
  refine kP H (SC (Ra rfl (Kn K7 ?_)));clear H K7;intro a H;refine lr H Tryz.results199 rfl ?_;exact H.hp.retD (L':=ckB b ms ml mr mb mu s.n :: (mb,mpK (mSet s.bef)) :: L) (by repeat (first|exact List.Sublist.refl _|apply List.Sublist.cons)) ⟨s,by rw [hE],rfl,fun h=>by rw [hE]⟩
 intro h20
 try have p20:=dF h20
 refine kP H (Kc K5 (SQ fun _ K8=>SQ fun _ K9=>?_));clear H K5;intro a H
 have hE:rowsC0 l.length (fun s=>rowsC (ckP st li rv) note t l s) s=rowsC (ckP st li rv) note t l s:=by rw [rowsC0,if_neg (by omega),if_neg (by omega)]
 refine kP H (SC (Rm rfl (Rl un33run rfl (Rm rfl (Kn K9 (SB ?_))))));clear H K9;intro a H;skip;refine c_loopS (ι:=Nat × CS × GH) (Tc:=[(0,_),(5,_),(21,_),(22,_)]) (Lc:=[(_,_)]) (fun (gh:Nat × CS × GH)=>[(23,vi gh.1)]) (fun (gh:Nat × CS × GH)=>[ckB b ms ml mr mb mu gh.2.1.n,(mb,mpK (mSet gh.2.1.bef))]++L) (fun (gh:Nat × CS × GH)=>gh.2.2) (fun (gh:Nat × CS × GH)=>gh.1≤l.length∧(∀ b o,Gt b=some o→gh.2.2 b=some o)∧rowsC (ckP st li rv) note t l s=rowsC (ckP st li rv) note t (l.drop gh.1) gh.2.1∧0≤gh.2.1.n∧gh.2.1.n+(zRows (l.drop gh.1):Nat)≤1099511627776) (fun (gh:Nat × CS × GH)=>l.length - gh.1) ((0,s,Gt)) (by exact (H).sub ⟨rfl,rfl,rfl,rfl,rfl,trivial⟩) ?_ ?_
 ·exact ⟨Nat.zero_le _,fun _ _ h=>h,rfl,hs0,hs1⟩
 clear H;intro gh a w hI H;obtain ⟨k,s1,g⟩:=gh;dsimp only at hI H;obtain ⟨hk,hgm,hR,hn0,hn1⟩:=hI;dsimp only [List.cons_append,List.nil_append,List.append_nil] at H;refine kP H (SR fun _ K10=>Rc rfl (Kz K10 (SQ fun _ K11=>?_)));clear H K10;intro a H;refine c_cond H rfl ?_ ?_
 ·intro h24
  try have p24:=dT h24
  have hk2:k < l.length:=by omega
  have hsz:=zRows_get hk2;have hcs:=zCells_length l[k].cells
  have hdz:zRows (l.drop k)=1+szR l[k].dat+zRows (l.drop (k+1)):=by simp only [zRows];rw [List.drop_eq_getElem_cons hk2,List.map_cons,szRs]
  have hrz:=zRow_eq l[k];obtain ⟨xb,xo,qA,qn,qc,eA,en,ec,zA,zn,zc,cA,cn,cc,rfl,hrow,hrh,hcl⟩:=row_get hk2 hg;replace hrow:=fun j u hj=>gcell_mono hgm (hrow j u hj);replace hrh:=hrh.mono hgm;replace hcl:=hcl.mono hgm;have hcn:=hcl.len;rw [List.length_map] at hcn;subst hcn;have hckg:=hck.mono hgm;rw [List.drop_eq_getElem_cons hk2,rowsC,rowC_eq] at hR;refine kP H (Kc K11 (SQ fun _ K12=>SB (SR fun _ K13=>Ri un33run ty171run rfl rfl ?_)));clear H K11;intro a H;refine s_loada ty171run (cs:=[_,_,_,_,_,_]) H wn rfl rfl (fun j v hj=>H.hp.gcell (hrow j v hj)) rfl ?_;clear H;intro a H;refine s_alloc ty171run H wn rfl ?_;clear H;intro b8 a w hb8 H;refine s_store ty171run 0 (vs:=[_,_,_,_,_,_]) _ H wn rfl rfl rfl rfl rfl rfl rfl rfl ?_;clear H;intro w H;dsimp only [List.set,setRow] at H;refine K13 _ _ ?_;clear K13;refine c_seq (fun _ K14=>?_);refine c_seq (fun _ K15=>?_);refine c_drawI (hmx) [[],[],[1],[0,1,2],[],[4],[4,5],[4,5,6],(List.range 8),[],[9],[9,10],[9,10,11],(List.range 13),(List.range 14),(List.range 15),(List.range 16)] [14,15,16] (by kernel_rfl) (by kernel_rfl) (fun (ix_:Nat) (v:Value) (G:GH)=>match ix_ with|0=>v=.pointer (some ⟨b,0,none⟩)|1=>v=.pointer (some ⟨b8,0,none⟩)|2=>v=hdV l[k].head (.slice qA qn qc) (.slice eA en ec) (.slice zA zn zc)|3=>v=vi (headE (ckP st li rv) 9 l[k].head)|4=>v=.pointer (some ⟨b8,5,none⟩)|5=>v=.slice cA l[k].cells.length cc|6=>v=vi l[k].cells.length|7=>v=.bool (decide ((l[k].cells.length:Int)=0))|8=>v=vi (whenE (decide ((l[k].cells.length:Int)=0)) 11)|9=>v=.pointer (some ⟨b8,5,none⟩)|10=>v=.slice cA l[k].cells.length cc|11=>v=vi l[k].cells.length|12=>v=.bool (decide (32 < (l[k].cells.length:Int)))|13=>v=vi (whenE (decide (32 < (l[k].cells.length:Int))) 9)|_=>True) (fun _ _ _ _ _ h=>h) H ?_ ?_
  ·clear H;refine al4 ?_ ?_ ?_ ?_ (al4 ?_ ?_ ?_ ?_ (al4 ?_ ?_ ?_ ?_ (al4 ?_ ?_ ?_ ?_ (allI_cons ?_ allI_nil))))
   ·exact Z0 rfl rfl fun _ _ _ _ _=>Rm rfl
   ·exact Z0 rfl rfl fun _ _ _ _ _=>Rf fd171_0run rfl
   ·refine Op1 1 28 rfl rfl fun _ a w G1 hG HT H fin=>?_;refine s_loada ty31run (cs:=[_,_,_,_,_]) H wn rfl rfl (H.hp.ocells 0 rfl rfl) rfl ?_;clear H;intro a H;exact fin H iJ rfl
   ·refine Op2 0 27 2 29 rfl rfl fun _ a w G1 hG HT H fin=>?_;refine s_callL en64rws (Li:=[_,_]) (L:=ckB b ms ml mr mb mu s1.n :: (mb,mpK (mSet s1.bef)) :: L) H wn rfl (headL_spec _ _ _ st li rv b ms ml mr mb mu _ (hckg.mono hG) (Hp.owns (Li:=[_,_]) H.hp) 9 l[k].head _ _ _ (hrh.mono hG) (by omega)) rfl ?_;clear H;rintro v30 _ _ a w ⟨rfl,rfl,rfl⟩ hGm30 H;dsimp only [List.cons_append,List.nil_append] at H;exact fin H hGm30 (rfl)
   ·exact Z0 rfl rfl fun _ _ _ _ _=>Rf fd171_1run rfl
   ·exact Z1 4 31 rfl rfl fun _ _ _ _ _=>Ro ty169run 0 rfl rfl
   ·exact Z1 5 32 rfl rfl fun _ _ _ _ _=>Rl un169run rfl
   ·exact Z1 6 33 rfl rfl fun _ _ _ _ _=>Rc rfl
   ·refine Op1 7 34 rfl rfl fun _ a w G1 hG HT H fin=>?_;refine s_call en65nam H wn rfl (when_spec _ _ H.hp.ro _ 11) rfl ?_;clear H;rintro v35 G35 a w ⟨rfl,-⟩ hGm35 H;exact fin H hGm35 (rfl)
   ·exact Z0 rfl rfl fun _ _ _ _ _=>Rf fd171_1run rfl
   ·exact Z1 9 36 rfl rfl fun _ _ _ _ _=>Ro ty169run 0 rfl rfl
   ·exact Z1 10 37 rfl rfl fun _ _ _ _ _=>Rl un169run rfl
   ·exact Z1 11 38 rfl rfl fun _ _ _ _ _=>Rc rfl
   ·refine Op1 12 39 rfl rfl fun _ a w G1 hG HT H fin=>?_;refine s_call en65nam H wn rfl (when_spec _ _ H.hp.ro _ 9) rfl ?_;clear H;rintro v40 G40 a w ⟨rfl,-⟩ hGm40 H;exact fin H hGm40 (rfl)
   ·exact opB rfl
   ·exact opB rfl
   exact opB rfl
  clear H;intro a w G hGm8 H hv;obtain ⟨u30,hu30,hp30⟩:=hv 3 30 (by decide) rfl;obtain rfl:u30=vi (headE (ckP st li rv) 9 l[k].head):=hp30;have H:=H.addS hu30;obtain ⟨u35,hu35,hp35⟩:=hv 8 35 (by decide) rfl;obtain rfl:u35=vi (whenE (decide ((l[k].cells.length:Int)=0)) 11):=hp35;have H:=H.addS hu35;obtain ⟨u40,hu40,hp40⟩:=hv 13 40 (by decide) rfl;obtain rfl:u40=vi (whenE (decide (32 < (l[k].cells.length:Int))) 9):=hp40;have H:=H.addS hu40;clear hv;refine s_buildSlice un221fst ty22fst [_,_,_] [_,_,_] H wn rfl rfl rfl rfl rfl (by intro i q h;match i,h with|0,h=>exact h|1,h=>exact h|2,h=>exact h|n+3,h=>simp at h) rfl rfl ?_;clear H;intro b41 a w hb41 H;obtain ⟨G41,hm41,hb41',H⟩:=H.giveBox;have hgm1:∀ b o,Gt b=some o→G41 b=some o:=fun b o h=>hm41 _ _ (hGm8 _ _ (hgm _ _ h));refine s_call en52nam H wn rfl (first_spec1 _ _ H.hp.ro _ _ (ints_rep [headE (ckP st li rv) 9 l[k].head,whenE (decide ((l[k].cells.length:Int)=0)) 11,whenE (decide (32 < (l[k].cells.length:Int))) 9] hb41' (show 3≤maxLen by decide))) rfl ?_;clear H;rintro v42 _ a w ⟨rfl,rfl⟩ - H;refine kH H (Ra rfl ?_);clear H;intro a H;refine wl_nil ⟨rfl,?_⟩;refine K15 _ _ ?_;clear K15;refine kP H (SR fun _ K16=>Rm rfl (Rc rfl (Kz K16 ?_)));clear H K16;intro a H;refine c_cond H rfl ?_ ?_
  ·intro h44
   try have p44:=dT h44
   have e44:rowE (ckP st li rv) l[k].head l[k].cells.length≠0:=p44
   have hF1:(rowsC0 l.length (fun s=>rowsC (ckP st li rv) note t l s) s).1=rowE (ckP st li rv) l[k].head l[k].cells.length:=by rw [hE,hR,andT_err (r:=(rowE (ckP st li rv) l[k].head l[k].cells.length,s1)) e44,andT_err e44]
   have hF2:(rowsC0 l.length (fun s=>rowsC (ckP st li rv) note t l s) s).1=0→s1=(rowsC0 l.length (fun s=>rowsC (ckP st li rv) note t l s) s).2:=fun h=>absurd (hF1.symm.trans h) e44;refine kP H (SR fun _ K17=>Rm rfl (Ra rfl (Kz K17 ?_)));clear H K17;intro a H;refine lr H Tryz.results199 rfl ?_;exact H.hp.retD (L':=ckB b ms ml mr mb mu s1.n :: (mb,mpK (mSet s1.bef)) :: L) (by repeat (first|exact List.Sublist.refl _|apply List.Sublist.cons)) ⟨s1,congrArg vi hF1.symm,rfl,hF2⟩
  intro h44
  try have p44:=dF h44
  have e44:rowE (ckP st li rv) l[k].head l[k].cells.length=0:=Decidable.not_not.1 p44;rw [andT_ok (r:=(rowE (ckP st li rv) l[k].head l[k].cells.length,s1)) e44] at hR;dsimp only at hR;have hckg1:=hck.mono hgm1;replace hcl:=hcl.mono (fun b o h=>hm41 _ _ (hGm8 b o h));refine kP H (Kc K14 (SR fun _ K18=>Rf fd171_1run rfl (Ro ty169run 0 rfl rfl (Rl un169run rfl (Rm rfl (Kz K18 (SB ?_)))))));clear H K14 K18;intro a H;skip;refine c_loopS (ι:=Nat × CS × GH) (Tc:=[(0,_),(5,_),(21,_),(22,_),(23,_),(47,_),(48,_)]) (Lc:=[(_,_),(_,_)]) (fun (gh:Nat × CS × GH)=>[(49,vi gh.1)]) (fun (gh:Nat × CS × GH)=>[ckB b ms ml mr mb mu gh.2.1.n,(mb,mpK (mSet gh.2.1.bef))]++L) (fun (gh:Nat × CS × GH)=>gh.2.2) (fun (gh:Nat × CS × GH)=>gh.1≤l[k].cells.length∧(∀ b o,G41 b=some o→gh.2.2 b=some o)∧rowsC (ckP st li rv) note t l s=andT (cellsC (ckP st li rv) note t (l[k].cells.drop gh.1) gh.2.1) (fun s=>rowsC (ckP st li rv) note t (l.drop (k+1)) s)∧0≤gh.2.1.n∧gh.2.1.n+(zCells (l[k].cells.drop gh.1):Nat)+(zRows (l.drop (k+1)):Nat)≤1099511627776) (fun (gh:Nat × CS × GH)=>l[k].cells.length - gh.1) ((0,s1,G41)) (by exact (H).sub ⟨rfl,rfl,rfl,rfl,rfl,rfl,rfl,rfl,trivial⟩) ?_ ?_
  ·exact ⟨Nat.zero_le _,fun _ _ h=>h,hR,hn0,by dsimp only;rw [List.drop_zero];omega⟩
  clear H;intro gh a w hI H;obtain ⟨c,s2,g2⟩:=gh;dsimp only at hI H;obtain ⟨hc,hgm2',hR2,hm0,hm1⟩:=hI;have hgm2:=fun b o h=>hgm2' b o (hgm1 b o h);dsimp only [List.cons_append,List.nil_append,List.append_nil] at H;refine kP H (SR fun _ K19=>Rc rfl (Kz K19 (SQ fun _ K20=>?_)));clear H K19;intro a H;refine c_cond H rfl ?_ ?_
  ·intro h50
   try have p50:=dT h50
   have hk4:c < l[k].cells.length:=by omega
   have hsz4:=zCells_get hk4
   have hdz4:zCells (l[k].cells.drop c)=1+szR l[k].cells[c].dat+zCells (l[k].cells.drop (c+1)):=by simp only [zCells];rw [List.drop_eq_getElem_cons hk4,List.map_cons,szRs]
   have hcz:=zCell_eq l[k].cells[c];obtain ⟨b3',o3,sA,sn,sc,tA,tn,tc,uA,un,uc,gA,gn,gc,rfl,hrow,hch,hcf⟩:=cell_get hk4 (hcl.mono hgm2').at_;have hckg2:=hckg1.mono hgm2';rw [List.drop_eq_getElem_cons hk4,cellsC,cellC_eq] at hR2;obtain ⟨y,hy⟩:∃ y,y=l[k].cells[c]:=⟨_,rfl⟩;rw [← hy] at hR2 hrow hch hcf hcz hsz4 hdz4;refine kP H (Kc K20 (SQ fun _ K21=>SB (SR fun _ K22=>Ri un169run ty174run rfl rfl ?_)));clear H K20;intro a H;refine s_loada ty174run (cs:=[_,_,_,_,_,_,_]) H wn rfl rfl (fun j v hj=>H.hp.gcell (hrow j v hj)) rfl ?_;clear H;intro a H;refine s_alloc ty174run H wn rfl ?_;clear H;intro b11 a w hb11 H;refine s_store ty174run 0 (vs:=[_,_,_,_,_,_,_]) _ H wn rfl rfl rfl rfl rfl rfl rfl rfl ?_;clear H;intro w H;dsimp only [List.set,setRow] at H;refine K22 _ _ ?_;clear K22;refine kP H (SQ fun _ K23=>SR fun _ K24=>Rm rfl (Rf fd174_0run rfl (Ro ty3run 0 rfl rfl ?_)));clear H;intro a H;refine s_callL en198rws (Li:=[_,_,_]) (L:=ckB b ms ml mr mb mu s2.n :: (mb,mpK (mSet s2.bef)) :: L) H wn rfl (ckId_spec _ _ _ st li rv b ms ml mr mb mu _ s2.bef y.id hckg2 (Hp.owns (Li:=[_,_,_]) H.hp)) rfl ?_;clear H;rintro v56 _ _ a w ⟨rfl,rfl,rfl⟩ - H;dsimp only [List.cons_append,List.nil_append] at H;refine kH H (Ra rfl (Kz K24 (SR fun _ K25=>Rm rfl (Rc rfl (Kz K25 ?_)))));clear H K24 K25;intro a H;refine c_cond H rfl ?_ ?_
   ·intro h58
    try have p58:=dT h58
    have hF1:(rowsC0 l.length (fun s=>rowsC (ckP st li rv) note t l s) s).1=idE s2.bef y.id:=by rw [hE,hR2];simp [andT,idC,p58]
    have hF2:(rowsC0 l.length (fun s=>rowsC (ckP st li rv) note t l s) s).1=0→(⟨s2.n,idB s2.bef y.id⟩:CS)=(rowsC0 l.length (fun s=>rowsC (ckP st li rv) note t l s) s).2:=fun h=>absurd (hF1.symm.trans h) p58;refine kP H (SR fun _ K26=>Rm rfl (Ra rfl (Kz K26 ?_)));clear H K26;intro a H;refine lr H Tryz.results199 rfl ?_;exact H.hp.retD (L':=ckB b ms ml mr mb mu s2.n :: (mb,mpK (mSet (idB s2.bef y.id))) :: L) (by repeat (first|exact List.Sublist.refl _|apply List.Sublist.cons)) ⟨⟨s2.n,idB s2.bef y.id⟩,congrArg vi hF1.symm,rfl,hF2⟩
   intro h58
   try have p58:=dF h58
   have e58:idE s2.bef y.id=0:=Decidable.not_not.1 p58;refine kP H (Kc K23 (SQ fun _ K27=>SR fun _ K28=>Rm rfl (Rf fd174_1run rfl ?_)));clear H K23;intro a H;refine s_loada ty31run (cs:=[_,_,_,_,_]) H wn rfl rfl (H.hp.ocells 0 rfl rfl) rfl ?_;clear H;intro a H;refine s_callL en64rws (Li:=[_,_,_]) (L:=ckB b ms ml mr mb mu s2.n :: (mb,mpK (mSet (idB s2.bef y.id))) :: L) H wn rfl (headL_spec _ _ _ st li rv b ms ml mr mb mu _ hckg2 (Hp.owns (Li:=[_,_,_]) H.hp) 10 y.head _ _ _ hch (by omega)) rfl ?_;clear H;rintro v63 _ _ a w ⟨rfl,rfl,rfl⟩ - H;dsimp only [List.cons_append,List.nil_append] at H;refine kH H (Ra rfl (Kz K28 (SR fun _ K29=>Rm rfl (Rc rfl (Kz K29 ?_)))));clear H K28 K29;intro a H;refine c_cond H rfl ?_ ?_
   ·intro h65
    try have p65:=dT h65
    have hF1:(rowsC0 l.length (fun s=>rowsC (ckP st li rv) note t l s) s).1=headE (ckP st li rv) 10 y.head:=by rw [hE,hR2];simp [andT,idC,e58,p65]
    have hF2:(rowsC0 l.length (fun s=>rowsC (ckP st li rv) note t l s) s).1=0→(⟨s2.n,idB s2.bef y.id⟩:CS)=(rowsC0 l.length (fun s=>rowsC (ckP st li rv) note t l s) s).2:=fun h=>absurd (hF1.symm.trans h) p65;refine kP H (SR fun _ K30=>Rm rfl (Ra rfl (Kz K30 ?_)));clear H K30;intro a H;refine lr H Tryz.results199 rfl ?_;exact H.hp.retD (L':=ckB b ms ml mr mb mu s2.n :: (mb,mpK (mSet (idB s2.bef y.id))) :: L) (by repeat (first|exact List.Sublist.refl _|apply List.Sublist.cons)) ⟨⟨s2.n,idB s2.bef y.id⟩,congrArg vi hF1.symm,rfl,hF2⟩
   intro h65
   try have p65:=dF h65
   have e65:headE (ckP st li rv) 10 y.head=0:=Decidable.not_not.1 p65;refine kP H (Kc K27 (SR fun _ K31=>Rm rfl (Rf fd174_2run rfl (Ro ty32run 0 rfl rfl ?_))));clear H K27;intro a H;refine s_loada ty136doc (cs:=[_,_,_]) H wn rfl rfl (H.hp.ocells 2 rfl rfl) rfl ?_;clear H;intro a H;refine s_callL en66rws (Li:=[_,_,_]) (L:=ckB b ms ml mr mb mu s2.n :: (mb,mpK (mSet (idB s2.bef y.id))) :: L) H wn rfl (ih _ _ _ st li rv b ms ml mr mb mu ⟨s2.n,idB s2.bef y.id⟩ y.flow _ false note t hckg2 (Hp.owns (Li:=[_,_,_]) H.hp) hcf (by omega) ht0 ht4 hm0 (by dsimp only;omega)) rfl ?_;clear H;rintro v71 _ _ a w ⟨rfl,s3,rfl,rfl,h3⟩ - H;dsimp only [List.cons_append,List.nil_append] at H;refine kH H (Ra rfl (Kz K31 (SR fun _ K32=>Rm rfl (Rc rfl (Kz K32 ?_)))));clear H K31 K32;intro a H;refine c_cond H rfl ?_ ?_
   ·intro h73
    try have p73:=dT h73
    have hF1:(rowsC0 l.length (fun s=>rowsC (ckP st li rv) note t l s) s).1=(itemsC (ckP st li rv) false note t y.flow ⟨s2.n,idB s2.bef y.id⟩).1:=by rw [hE,hR2];simp [andT,idC,e58,e65,p73]
    have hF2:(rowsC0 l.length (fun s=>rowsC (ckP st li rv) note t l s) s).1=0→s3=(rowsC0 l.length (fun s=>rowsC (ckP st li rv) note t l s) s).2:=fun h=>absurd (hF1.symm.trans h) p73;refine kP H (SR fun _ K33=>Rm rfl (Ra rfl (Kz K33 ?_)));clear H K33;intro a H;refine lr H Tryz.results199 rfl ?_;exact H.hp.retD (L':=ckB b ms ml mr mb mu s3.n :: (mb,mpK (mSet s3.bef)) :: L) (by repeat (first|exact List.Sublist.refl _|apply List.Sublist.cons)) ⟨s3,congrArg vi hF1.symm,rfl,hF2⟩
   intro h73
   try have p73:=dF h73
   have e73:(itemsC (ckP st li rv) false note t y.flow ⟨s2.n,idB s2.bef y.id⟩).1=0:=Decidable.not_not.1 p73;obtain ⟨hu1,hu2⟩:=up_items (ckP st li rv) false note t y.flow ⟨s2.n,idB s2.bef y.id⟩;rw [← h3 e73] at hu1 hu2;dsimp only at hu1 hu2
   have hS:andT (andT (andT (idC s2 y.id) fun s=>andT (headE (ckP st li rv) 10 y.head,s) fun s=>itemsC (ckP st li rv) false note t y.flow s) fun s=>cellsC (ckP st li rv) note t (l[k].cells.drop (c+1)) s) (fun s=>rowsC (ckP st li rv) note t (l.drop (k+1)) s)=andT (cellsC (ckP st li rv) note t (l[k].cells.drop (c+1)) s3) (fun s=>rowsC (ckP st li rv) note t (l.drop (k+1)) s):=by
    rw [h3 e73];simp [andT,idC,e58,e65,e73]
   refine kP H (Kc K21 (SC (Rd rfl (Rm rfl ?_))));clear H K21;intro a H;refine wl_nil ?_;refine loop_end ((c+1,s3,g2)) (by exact (H.pickT (Pl:=[_,_,_,_,_]) (Pl':=[_,_,_,_]) [1,2,3,4] (by decide) rfl).sub ⟨rfl,rfl,rfl,rfl,rfl,rfl,rfl,rfl,trivial⟩) ?_ ?_
   ·(try dsimp only);exact ⟨by omega,hgm2',hR2.trans hS,by omega,by omega⟩
   first|omega|(dsimp only;omega)
  intro h50
  try have p50:=dF h50
  refine c_exit ?_;refine K12 _ _ ?_;clear K12;refine kP H (SC (Rd rfl (Rm rfl ?_)));clear H;intro a H;refine wl_nil ?_;refine loop_end ((k+1,s2,g2)) (by exact (H.pickT (Pl:=[_,_,_,_]) (Pl':=[_,_,_]) [1,2,3] (by decide) rfl).sub ⟨rfl,rfl,rfl,rfl,rfl,trivial⟩) ?_ ?_
  ·(try dsimp only);exact ⟨by omega,hgm2,by rw [hR2,List.drop_of_length_le (by omega),cellsC,andT_ok rfl],hm0,by omega⟩
  first|omega|(dsimp only;omega)
 intro h24
 try have p24:=dF h24
 refine c_exit ?_;refine K8 _ _ ?_;clear K8;refine c_seq (fun _ K34=>?_)
 have hF1:(rowsC0 l.length (fun s=>rowsC (ckP st li rv) note t l s) s).1=0:=by rw [hE,hR,List.drop_of_length_le (by omega),rowsC]
 have hF2:(rowsC0 l.length (fun s=>rowsC (ckP st li rv) note t l s) s).1=0→s1=(rowsC0 l.length (fun s=>rowsC (ckP st li rv) note t l s) s).2:=fun h=>by rw [hE,hR,List.drop_of_length_le (by omega),rowsC]
 refine kP H (SC (Ra rfl (Kn K34 ?_)));clear H K34;intro a H;refine lr H Tryz.results199 rfl ?_;exact H.hp.retD (L':=ckB b ms ml mr mb mu s1.n :: (mb,mpK (mSet s1.bef)) :: L) (by repeat (first|exact List.Sublist.refl _|apply List.Sublist.cons)) ⟨s1,congrArg vi hF1.symm,rfl,hF2⟩
end
section
open Go.RowKit
theorem en199itm:∀ args w,(callFunc 199 args).run Tryz.prog w=.ok (.enter 199 args) w:=enters Tryz.func199 rfl (by kernel_rfl)
theorem en197itm:∀ args w,(callFunc 197 args).run Tryz.prog w=.ok (.enter 197 args) w:=enters Tryz.func197 rfl (by kernel_rfl)
theorem fd140_5itm:Fld Tryz.prog 140 5 5:=⟨by kernel_rfl⟩
theorem fd136_0itm:Fld Tryz.prog 136 0 0:=⟨by kernel_rfl⟩
theorem one_rep {G:GH} {b:Nat} {x:Int} (h:G b=some (.cells #[vi x] 22 (0,0))):RepV G (.sl 1 ([x].map fun k=>[li k])) (.slice (some ⟨b,0,none⟩) 1 1):=ints_rep [x] h (show 1≤maxLen by decide)
theorem item_ok {m:Nat} (ih:ItemsOk m) (hm:m≤4294967296) (Gt:GH) (L:OL) (w0:World) (st:List StyleD) (li:List LiD) (rv:List RvD) (b ms ml mr mb mu:Nat) (s:CS) (x:ItemD) (p d y f r:Value) (body note:Bool) (t:Int)
  (hck:CkG Gt st li rv ms ml mr mu) (hO:Owns Gt (ckB b ms ml mr mb mu s.n :: (mb,mpK (mSet s.bef)) :: L) w0) (hh:HeadR Gt x.head p d y) (hf:RepV Gt (.sl 11 (x.flow.map ItemD.dat)) f) (hr:RepV Gt (.sl 6 (x.rows.map RowD.dat)) r) (hz:szR x.dat≤m) (ht0:0≤t) (ht4:t≤4) (hs0:0≤s.n) (hs1:s.n+(szR x.dat:Nat)≤1099511627776) :
  Calls Tryz.prog 140 #[.pointer (some ⟨b,0,none⟩),.agg #[vi x.kind,vi x.code,vi x.id,.string x.text,p,vi x.head.marks.ins,vi x.head.marks.move,d,y,f,r],.agg #[.bool body,.bool note,vi t]] w0 (RetL w0 Gt (ckB b ms ml mr mb mu s.n :: (mb,mpK (mSet s.bef)) :: L) fun u G' L'=>CkR b ms ml mr mb mu L (itemC (ckP st li rv) body note t x s) u L'):=by
 obtain ⟨pA,pn,pc,rfl⟩:=hh.props.form;obtain ⟨dA,dn,dc,rfl⟩:=hh.dels.form;obtain ⟨lA,ln,lc,rfl⟩:=hh.layers.form;obtain ⟨fA,fc,rfl,-⟩:=hf.slice;obtain ⟨rA,rc,rfl,-⟩:=hr.slice;(iterate 2 rw [List.length_map] at *);have hxz:=zItem_eq x;have hcl:=cntS_le x.text
 have hus:unitsS x≤x.text.size+1:=by unfold unitsS;split <;> omega
 have hE:=itemC_eq (ckP st li rv) body note t x s;refine enterL (N:=117) (T:=[(0,_),(1,_),(2,_)]) Tryz.func140 rfl Tryz.ntmps140 rfl rfl hO ?_;intro a H;refine c_seqR (fun _ K1=>?_);refine s_box (cs:=[_,_,_,_,_,_,_,_,_,_,_]) H wn rfl rfl rfl ?_;clear H;intro b4 a w hb4 H;refine s_box (cs:=[_,_,_]) H wn rfl rfl rfl ?_;clear H;intro b5 a w hb5 H;refine kH H (Ra rfl (Kz K1 (SQ fun _ K2=>SR fun _ K3=>?_)));clear H K1;intro a H;refine s_loada ty35run (cs:=[_,_,_,_,_,_,_,_,_,_,_]) H wn rfl rfl (H.hp.ocells 1 rfl rfl) rfl ?_;clear H;intro a H;refine s_call en197itm H wn rfl (form_spec _ _ H.hp.ro x _ _ _ _ _ _ _ (by omega)) rfl ?_;clear H;rintro v15 _ a w ⟨rfl,rfl⟩ - H;refine kH H (Ra rfl (Kz K3 (SR fun _ K4=>Rm rfl (Rc rfl (Kz K4 ?_)))));clear H K3 K4;intro a H;refine c_cond H rfl ?_ ?_
 ·intro h17
  try have p17:=dT h17
  rw [andT_err (r:=(formE x,s)) p17] at hE;refine kP H (SR fun _ K5=>Rm rfl (Ra rfl (Kz K5 ?_)));clear H K5;intro a H;refine lr H Tryz.results140 rfl ?_;exact H.hp.retD (L':=ckB b ms ml mr mb mu s.n :: (mb,mpK (mSet s.bef)) :: L) (by repeat (first|exact List.Sublist.refl _|apply List.Sublist.cons)) ⟨s,by rw [hE],rfl,fun h=>by rw [hE]⟩
 intro h17
 try have p17:=dF h17
 rw [andT_ok (r:=(formE x,s)) (Decidable.not_not.1 p17)] at hE;dsimp only at hE;refine kP H (Kc K2 (SR fun _ K6=>Rm rfl (Rk rfl (Rf fd140_5itm rfl (Ro ty3run 2 rfl rfl (Rd rfl (Rk rfl (Rf fd140_5itm rfl ?_))))))));clear H K2;intro a H;refine s_store ty3run 2 (vs:=[_]) _ H wn rfl rfl rfl rfl rfl rfl rfl rfl ?_;clear H;intro w H;dsimp only [List.set,setRow] at H;refine K6 _ _ ?_;clear K6;refine c_seqJ (ι:=CS × GH) (Tc:=[(0,_),(4,_),(5,_)]) (Lc:=[(_,_),(_,_)]) (fun (gh:CS × GH)=>[]) (fun (gh:CS × GH)=>[ckB b ms ml mr mb mu gh.1.n,(mb,mpK (mSet gh.1.bef))]++L) (fun (gh:CS × GH)=>gh.2) (fun (gh:CS × GH)=>preC body note t x.kind x.id ⟨s.n+(unitsS x:Nat),s.bef⟩=(0,gh.1)∧(∀ b o,Gt b=some o→gh.2 b=some o)∧gh.1.n=s.n+(unitsS x:Nat)∧(x.kind=7→t < 4)) (by exact (H).sub ⟨rfl,rfl,rfl,trivial⟩) ?_ ?_
 ·skip;refine kP H (SR fun _ K7=>Rf fd35_0run rfl (Ro ty3run 1 rfl rfl (Kz K7 (SB (SR fun _ K8=>Rc rfl (Ra rfl (Kz K8 ?_)))))));clear H K7 K8;intro a H;refine c_cond H rfl ?_ ?_
  ·intro h28
   try have p28:=dT h28
   have hu:((unitsS x:Nat):Int)=cntS x.text:=by rw [unitsS,if_pos p28]
   refine kP H (SR fun _ K9=>Rf fd35_3run rfl (Ro ty9run 1 rfl rfl ?_));clear H;intro a H;refine s_call en93run H wn rfl (count_spec _ _ H.hp.ro x.text (by omega)) rfl ?_;clear H;rintro v33 _ a w ⟨rfl,rfl⟩ - H;refine kH H (Rm rfl ?_);clear H;intro a H;(iterate 2 refine s_extract H wn rfl rfl rfl ?_;clear H;intro a H);refine kH H (Ra rfl (Ra rfl (Kz K9 (SC (Rm rfl (Rk rfl (Rf fd140_5itm rfl (Ro ty3run 2 rfl rfl (Rm rfl (Rs rfl (Rd rfl ?_)))))))))));clear H K9;intro a H;rw [show s.n+1+((cntS x.text:Int) - 1)=s.n+(unitsS x:Nat) by omega] at H;refine kH H (Rk rfl (Rf fd140_5itm rfl ?_));clear H;intro a H;refine s_store ty3run 2 (vs:=[_]) _ H wn rfl rfl rfl rfl rfl rfl rfl rfl ?_;clear H;intro w H;dsimp only [List.set,setRow] at H;refine wl_nil ?_;refine ⟨(⟨s.n+(unitsS x:Nat),s.bef⟩,Gt),by exact (H).sub ⟨rfl,rfl,rfl,trivial⟩,?_⟩;(try dsimp only)
   first
   | exact ⟨by simp_all [preC,whenE,andT,idC],fun _ _ h=>h,rfl,fun h7=>by first|omega|(exfalso;simp_all)⟩
   | exact ⟨by simp_all [preC,whenE,andT,idC],hm55,rfl,fun h7=>by first|omega|(exfalso;simp_all)⟩
  intro h28
  try have p28:=dF h28
  have hu:((unitsS x:Nat):Int)=1:=by rw [unitsS,if_neg p28];rfl
  rw [show s.n+1=s.n+((unitsS x:Nat):Int) by omega] at H;refine kP H (SR fun _ K10=>Rc rfl (Ra rfl (Kz K10 ?_)));clear H K10;intro a H;refine c_cond H rfl ?_ ?_
  ·intro h45
   try have p45:=dT h45
   refine kP H (SR fun _ K11=>Rf fd136_0itm rfl (Ro ty4doc 0 rfl rfl (Rn rfl (Kz K11 ?_))));clear H K11;intro a H;refine c_cond H rfl ?_ ?_
   ·intro h49
    try have p49:=dT h49
    refine c_seq (fun _ K12=>?_)
    have hF1:(itemC (ckP st li rv) body note t x s).1=19:=by rw [hE];simp [andT,preC,p45,whenE,h49]
    have hF2:(itemC (ckP st li rv) body note t x s).1=0→(⟨s.n+(unitsS x:Nat),s.bef⟩:CS)=(itemC (ckP st li rv) body note t x s).2:=fun h=>absurd (hF1.symm.trans h) (by decide);refine kP H (SC (Ra rfl (Kn K12 ?_)));clear H K12;intro a H;refine lr H Tryz.results140 rfl ?_;exact H.hp.retD (L':=ckB b ms ml mr mb mu (s.n+(unitsS x:Nat)) :: (mb,mpK (mSet (s.bef))) :: L) (by repeat (first|exact List.Sublist.refl _|apply List.Sublist.cons)) ⟨⟨s.n+(unitsS x:Nat),s.bef⟩,congrArg vi hF1.symm,rfl,hF2⟩
   intro h49
   try have p49:=dF h49
   refine c_skip ?_;refine ⟨(⟨s.n+(unitsS x:Nat),s.bef⟩,Gt),by exact (H).sub ⟨rfl,rfl,rfl,trivial⟩,?_⟩;(try dsimp only)
   first
   | exact ⟨by simp_all [preC,whenE,andT,idC],fun _ _ h=>h,rfl,fun h7=>by first|omega|(exfalso;simp_all)⟩
   | exact ⟨by simp_all [preC,whenE,andT,idC],hm55,rfl,fun h7=>by first|omega|(exfalso;simp_all)⟩
  intro h45
  try have p45:=dF h45
  refine kP H (SR fun _ K13=>Rc rfl (Ra rfl (Kz K13 ?_)));clear H K13;intro a H;refine c_cond H rfl ?_ ?_
  ·intro h50
   try have p50:=dT h50
   refine kP H (SQ fun _ K14=>SR fun _ K15=>Rf fd136_1doc rfl (Ro ty4doc 0 rfl rfl ?_));clear H;intro a H;refine s_call en65nam H wn rfl (when_spec _ _ H.hp.ro _ 19) rfl ?_;clear H;rintro v54 _ a w ⟨rfl,rfl⟩ - H;refine s_buildSlice un221fst ty22fst [_] [_] H wn rfl rfl rfl rfl rfl (by intro i q h;match i,h with|0,h=>exact h|n+1,h=>simp at h) rfl rfl ?_;clear H;intro b55 a w hb55 H;obtain ⟨G55,hm55,hb55',H⟩:=H.giveBox;refine s_call en52nam H wn rfl (first_spec1 _ _ H.hp.ro _ _ (one_rep hb55')) rfl ?_;clear H;rintro v56 _ a w ⟨rfl,rfl⟩ - H;refine kH H (Ra rfl (Kz K15 (SR fun _ K16=>Rm rfl (Rc rfl (Kz K16 ?_)))));clear H K15 K16;intro a H;refine c_cond H rfl ?_ ?_
   ·intro h58
    try have p58:=dT h58
    have e58:whenE note 19≠0:=fun h=>p58 (by rw [h];rfl)
    have hv58:firstE [whenE note 19]=whenE note 19:=by simp [firstE,e58]
    rw [hv58] at H
    have hF1:(itemC (ckP st li rv) body note t x s).1=whenE note 19:=by rw [hE];simp [andT,preC,p50,e58]
    have hF2:(itemC (ckP st li rv) body note t x s).1=0→(⟨s.n+(unitsS x:Nat),s.bef⟩:CS)=(itemC (ckP st li rv) body note t x s).2:=fun h=>absurd (hF1.symm.trans h) (e58);refine kP H (SR fun _ K17=>Rm rfl (Ra rfl (Kz K17 ?_)));clear H K17;intro a H;refine lr H Tryz.results140 rfl ?_;exact H.hp.retD (L':=ckB b ms ml mr mb mu (s.n+(unitsS x:Nat)) :: (mb,mpK (mSet (s.bef))) :: L) (by repeat (first|exact List.Sublist.refl _|apply List.Sublist.cons)) ⟨⟨s.n+(unitsS x:Nat),s.bef⟩,congrArg vi hF1.symm,rfl,hF2⟩
   intro h58
   try have p58:=dF h58
   have e58:whenE note 19=0:=Decidable.byContradiction fun h=>p58 (by simp [firstE,h]);refine kP H (Kc K14 (SR fun _ K18=>Rm rfl (Rf fd35_2doc rfl (Ro ty3run 1 rfl rfl ?_))));clear H K14;intro a H;refine s_callL en198rws (Li:=[_,_]) (L:=ckB b ms ml mr mb mu _ :: (mb,mpK (mSet s.bef)) :: L) H wn rfl (ckId_spec _ _ _ st li rv b ms ml mr mb mu _ s.bef x.id (hck.mono hm55) (Hp.owns (Li:=[_,_]) H.hp)) rfl ?_;clear H;rintro v63 _ _ a w ⟨rfl,rfl,rfl⟩ - H;dsimp only [List.cons_append,List.nil_append] at H;refine kH H (Ra rfl (Kz K18 (SR fun _ K19=>Rm rfl (Rc rfl (Kz K19 ?_)))));clear H K18 K19;intro a H;refine c_cond H rfl ?_ ?_
   ·intro h65
    try have p65:=dT h65
    have hF1:(itemC (ckP st li rv) body note t x s).1=idE s.bef x.id:=by rw [hE];simp [andT,preC,p50,e58,idC,p65]
    have hF2:(itemC (ckP st li rv) body note t x s).1=0→(⟨s.n+(unitsS x:Nat),idB s.bef x.id⟩:CS)=(itemC (ckP st li rv) body note t x s).2:=fun h=>absurd (hF1.symm.trans h) (p65);refine kP H (SR fun _ K20=>Rm rfl (Ra rfl (Kz K20 ?_)));clear H K20;intro a H;refine lr H Tryz.results140 rfl ?_;exact H.hp.retD (L':=ckB b ms ml mr mb mu (s.n+(unitsS x:Nat)) :: (mb,mpK (mSet (idB s.bef x.id))) :: L) (by repeat (first|exact List.Sublist.refl _|apply List.Sublist.cons)) ⟨⟨s.n+(unitsS x:Nat),idB s.bef x.id⟩,congrArg vi hF1.symm,rfl,hF2⟩
   intro h65
   try have p65:=dF h65
   have e65:idE s.bef x.id=0:=Decidable.not_not.1 p65;refine c_skip ?_;refine ⟨(⟨s.n+(unitsS x:Nat),idB s.bef x.id⟩,G55),by exact (H).sub ⟨rfl,rfl,rfl,trivial⟩,?_⟩;(try dsimp only)
   first
   | exact ⟨by simp_all [preC,whenE,andT,idC],fun _ _ h=>h,rfl,fun h7=>by first|omega|(exfalso;simp_all)⟩
   | exact ⟨by simp_all [preC,whenE,andT,idC],hm55,rfl,fun h7=>by first|omega|(exfalso;simp_all)⟩
  intro h50
  try have p50:=dF h50
  refine kP H (SR fun _ K21=>Rc rfl (Ra rfl (Kz K21 ?_)));clear H K21;intro a H;refine c_cond H rfl ?_ ?_
  ·intro h67
   try have p67:=dT h67
   refine kP H (SQ fun _ K22=>SR fun _ K23=>Rf fd136_2doc rfl (Ro ty3run 0 rfl rfl (Rc rfl (Kz K23 ?_))));clear H K23;intro a H;refine c_cond H rfl ?_ ?_
   ·intro h71
    try have p71:=dT h71
    refine c_seq (fun _ K24=>?_)
    have hF1:(itemC (ckP st li rv) body note t x s).1=17:=by rw [hE];simp [andT,preC,p67,whenE,p71]
    have hF2:(itemC (ckP st li rv) body note t x s).1=0→(⟨s.n+(unitsS x:Nat),s.bef⟩:CS)=(itemC (ckP st li rv) body note t x s).2:=fun h=>absurd (hF1.symm.trans h) (by decide);refine kP H (SC (Ra rfl (Kn K24 ?_)));clear H K24;intro a H;refine lr H Tryz.results140 rfl ?_;exact H.hp.retD (L':=ckB b ms ml mr mb mu (s.n+(unitsS x:Nat)) :: (mb,mpK (mSet (s.bef))) :: L) (by repeat (first|exact List.Sublist.refl _|apply List.Sublist.cons)) ⟨⟨s.n+(unitsS x:Nat),s.bef⟩,congrArg vi hF1.symm,rfl,hF2⟩
   intro h71
   try have p71:=dF h71
   have e71:¬ 4≤t:=by omega
   refine kP H (Kc K22 (SR fun _ K25=>Rm rfl (Rf fd35_2doc rfl (Ro ty3run 1 rfl rfl ?_))));clear H K22;intro a H;refine s_callL en198rws (Li:=[_,_]) (L:=ckB b ms ml mr mb mu _ :: (mb,mpK (mSet s.bef)) :: L) H wn rfl (ckId_spec _ _ _ st li rv b ms ml mr mb mu _ s.bef x.id hck (Hp.owns (Li:=[_,_]) H.hp)) rfl ?_;clear H;rintro v75 _ _ a w ⟨rfl,rfl,rfl⟩ - H;dsimp only [List.cons_append,List.nil_append] at H;refine kH H (Ra rfl (Kz K25 (SR fun _ K26=>Rm rfl (Rc rfl (Kz K26 ?_)))));clear H K25 K26;intro a H;refine c_cond H rfl ?_ ?_
   ·intro h77
    try have p77:=dT h77
    have hF1:(itemC (ckP st li rv) body note t x s).1=idE s.bef x.id:=by rw [hE];simp [andT,preC,p67,whenE,e71,idC,p77]
    have hF2:(itemC (ckP st li rv) body note t x s).1=0→(⟨s.n+(unitsS x:Nat),idB s.bef x.id⟩:CS)=(itemC (ckP st li rv) body note t x s).2:=fun h=>absurd (hF1.symm.trans h) (p77);refine kP H (SR fun _ K27=>Rm rfl (Ra rfl (Kz K27 ?_)));clear H K27;intro a H;refine lr H Tryz.results140 rfl ?_;exact H.hp.retD (L':=ckB b ms ml mr mb mu (s.n+(unitsS x:Nat)) :: (mb,mpK (mSet (idB s.bef x.id))) :: L) (by repeat (first|exact List.Sublist.refl _|apply List.Sublist.cons)) ⟨⟨s.n+(unitsS x:Nat),idB s.bef x.id⟩,congrArg vi hF1.symm,rfl,hF2⟩
   intro h77
   try have p77:=dF h77
   have e77:idE s.bef x.id=0:=Decidable.not_not.1 p77;refine c_skip ?_;refine ⟨(⟨s.n+(unitsS x:Nat),idB s.bef x.id⟩,Gt),by exact (H).sub ⟨rfl,rfl,rfl,trivial⟩,?_⟩;(try dsimp only)
   first
   | exact ⟨by simp_all [preC,whenE,andT,idC],fun _ _ h=>h,rfl,fun h7=>by first|omega|(exfalso;simp_all)⟩
   | exact ⟨by simp_all [preC,whenE,andT,idC],hm55,rfl,fun h7=>by first|omega|(exfalso;simp_all)⟩
  intro h67
  try have p67:=dF h67
  refine kP H (SR fun _ K28=>Rc rfl (Ra rfl (Kz K28 ?_)));clear H K28;intro a H;refine c_cond H rfl ?_ ?_
  ·intro h79
   try have p79:=dT h79
   refine kP H (SR fun _ K29=>Rf fd35_2doc rfl (Ro ty3run 1 rfl rfl ?_));clear H;intro a H;refine s_call en128fst H wn rfl (in_spec _ _ H.hp.ro x.id 1 1073741824) rfl ?_;clear H;rintro v83 _ a w ⟨rfl,rfl⟩ - H;refine kH H (Rn rfl (Kz K29 ?_));clear H K29;intro a H;refine c_cond H rfl ?_ ?_
   ·intro h84
    try have p84:=dT h84
    refine c_seq (fun _ K30=>?_)
    have e84:¬ (1≤x.id∧x.id≤1073741824):=by have h0:=h84;simp at h0;omega
    have hF1:(itemC (ckP st li rv) body note t x s).1=18:=by rw [hE];simp [andT,preC,p79,whenE,e84]
    have hF2:(itemC (ckP st li rv) body note t x s).1=0→(⟨s.n+(unitsS x:Nat),s.bef⟩:CS)=(itemC (ckP st li rv) body note t x s).2:=fun h=>absurd (hF1.symm.trans h) (by decide);refine kP H (SC (Ra rfl (Kn K30 ?_)));clear H K30;intro a H;refine lr H Tryz.results140 rfl ?_;exact H.hp.retD (L':=ckB b ms ml mr mb mu (s.n+(unitsS x:Nat)) :: (mb,mpK (mSet (s.bef))) :: L) (by repeat (first|exact List.Sublist.refl _|apply List.Sublist.cons)) ⟨⟨s.n+(unitsS x:Nat),s.bef⟩,congrArg vi hF1.symm,rfl,hF2⟩
   intro h84
   try have p84:=dF h84
   refine c_skip ?_;refine ⟨(⟨s.n+(unitsS x:Nat),s.bef⟩,Gt),by exact (H).sub ⟨rfl,rfl,rfl,trivial⟩,?_⟩;(try dsimp only)
   first
   | exact ⟨by simp_all [preC,whenE,andT,idC],fun _ _ h=>h,rfl,fun h7=>by first|omega|(exfalso;simp_all)⟩
   | exact ⟨by simp_all [preC,whenE,andT,idC],hm55,rfl,fun h7=>by first|omega|(exfalso;simp_all)⟩
  intro h79
  try have p79:=dF h79
  refine c_skip ?_;refine ⟨(⟨s.n+(unitsS x:Nat),s.bef⟩,Gt),by exact (H).sub ⟨rfl,rfl,rfl,trivial⟩,?_⟩;(try dsimp only)
  first
  | exact ⟨by simp_all [preC,whenE,andT,idC],fun _ _ h=>h,rfl,fun h7=>by first|omega|(exfalso;simp_all)⟩
  | exact ⟨by simp_all [preC,whenE,andT,idC],hm55,rfl,fun h7=>by first|omega|(exfalso;simp_all)⟩
 clear H;intro gh a w hI H;obtain ⟨s1,g⟩:=gh;dsimp only at hI H;obtain ⟨hP,hmg,hs1n,ht7⟩:=hI;rw [hP,andT_ok rfl] at hE;dsimp only at hE;replace hck:=hck.mono hmg;replace hh:=hh.mono hmg;replace hf:=hf.mono hmg;replace hr:=hr.mono hmg;dsimp only [List.cons_append,List.nil_append,List.append_nil] at H;refine kP H (SQ fun _ K31=>SR fun _ K32=>Rm rfl (Rf fd35_0run rfl (Ro ty3run 1 rfl rfl (Rf fd35_4run rfl ?_))));clear H;intro a H;refine s_loada ty31run (cs:=[_,_,_,_,_]) H wn rfl rfl (H.hp.ocells 1 rfl rfl) rfl ?_;clear H;intro a H;refine s_callL en64rws (Li:=[_,_]) (L:=ckB b ms ml mr mb mu s1.n :: (mb,mpK (mSet s1.bef)) :: L) H wn rfl (headL_spec _ _ _ st li rv b ms ml mr mb mu _ hck (Hp.owns (Li:=[_,_]) H.hp) x.kind x.head _ _ _ hh (by omega)) rfl ?_;clear H;rintro v90 _ _ a w ⟨rfl,rfl,rfl⟩ - H;dsimp only [List.cons_append,List.nil_append] at H;refine kH H (Ra rfl (Kz K32 (SR fun _ K33=>Rm rfl (Rc rfl (Kz K33 ?_)))));clear H K32 K33;intro a H;refine c_cond H rfl ?_ ?_
 ·intro h92
  try have p92:=dT h92
  have hF1:(itemC (ckP st li rv) body note t x s).1=headE (ckP st li rv) x.kind x.head:=by rw [hE,andT_err (r:=(headE (ckP st li rv) x.kind x.head,s1)) p92]
  have hF2:(itemC (ckP st li rv) body note t x s).1=0→s1=(itemC (ckP st li rv) body note t x s).2:=fun h=>absurd (hF1.symm.trans h) p92;refine kP H (SR fun _ K34=>Rm rfl (Ra rfl (Kz K34 ?_)));clear H K34;intro a H;refine lr H Tryz.results140 rfl ?_;exact H.hp.retD (L':=ckB b ms ml mr mb mu (s1.n) :: (mb,mpK (mSet (s1.bef))) :: L) (by repeat (first|exact List.Sublist.refl _|apply List.Sublist.cons)) ⟨s1,congrArg vi hF1.symm,rfl,hF2⟩
 intro h92
 try have p92:=dF h92
 rw [andT_ok (r:=(headE (ckP st li rv) x.kind x.head,s1)) (Decidable.not_not.1 p92)] at hE;dsimp only at hE;refine kP H (Kc K31 (SQ fun _ K35=>SR fun _ K36=>Rf fd35_0run rfl (Ro ty3run 1 rfl rfl (Kz K36 (SB (SR fun _ K37=>Rc rfl (Ra rfl (Kz K37 ?_))))))));clear H K31 K36 K37;intro a H;refine c_cond H rfl ?_ ?_
 ·intro h96
  try have p96:=dT h96
  rw [if_pos p96] at hE;refine kP H (SR fun _ K38=>Rm rfl (Rf fd35_5run rfl (Ro ty32run 1 rfl rfl (Rf fd136_2doc rfl (Ro ty3run 0 rfl rfl ?_)))));clear H;intro a H;refine s_build sr136doc [_,_,_] H wn rfl rfl rfl rfl ?_;clear H;intro a H;refine s_callL en66rws (Li:=[_,_]) (L:=ckB b ms ml mr mb mu s1.n :: (mb,mpK (mSet s1.bef)) :: L) H wn rfl (ih _ _ _ st li rv b ms ml mr mb mu s1 x.flow _ false true t hck (Hp.owns (Li:=[_,_]) H.hp) hf (by omega) ht0 ht4 (by omega) (by omega)) rfl ?_;clear H;rintro v104 _ _ a w ⟨rfl,s3,rfl,rfl,h3⟩ - H;dsimp only [List.cons_append,List.nil_append] at H
  have hF1:(itemC (ckP st li rv) body note t x s).1=(itemsC (ckP st li rv) false true t x.flow s1).1:=by rw [hE]
  have hF2:(itemC (ckP st li rv) body note t x s).1=0→s3=(itemC (ckP st li rv) body note t x s).2:=by rw [hE];exact h3
  refine kH H (Ra rfl (Kz K38 ?_));clear H K38;intro a H;refine lr H Tryz.results140 rfl ?_;exact H.hp.retD (L':=ckB b ms ml mr mb mu (s3.n) :: (mb,mpK (mSet (s3.bef))) :: L) (by repeat (first|exact List.Sublist.refl _|apply List.Sublist.cons)) ⟨s3,congrArg vi hF1.symm,rfl,hF2⟩
 intro h96
 try have p96:=dF h96
 rw [if_neg p96] at hE;refine kP H (SR fun _ K39=>Rc rfl (Ra rfl (Kz K39 ?_)));clear H K39;intro a H;refine c_cond H rfl ?_ ?_
 ·intro h105
  try have p105:=dT h105
  rw [if_pos p105] at hE;refine kP H (SR fun _ K40=>Rm rfl (Rf fd35_6run rfl (Ro ty33run 1 rfl rfl (Rf fd136_1doc rfl (Ro ty4doc 0 rfl rfl (Rf fd136_2doc rfl (Ro ty3run 0 rfl rfl (Rd rfl ?_))))))));clear H;intro a H;refine s_build sr136doc [_,_,_] H wn rfl rfl rfl rfl ?_;clear H;intro a H;refine s_callL en199itm (Li:=[_,_]) (L:=ckB b ms ml mr mb mu s1.n :: (mb,mpK (mSet s1.bef)) :: L) H wn rfl (rows_ok ih hm _ _ _ st li rv b ms ml mr mb mu s1 x.rows _ note (t+1) hck (Hp.owns (Li:=[_,_]) H.hp) hr (by omega) (by omega) (by have:=ht7 p105;omega) (by omega) (by omega)) rfl ?_;clear H;rintro v116 _ _ a w ⟨s3,rfl,rfl,h3⟩ - H;dsimp only [List.cons_append,List.nil_append] at H
  have hF1:(itemC (ckP st li rv) body note t x s).1=(rowsC0 x.rows.length (fun s=>rowsC (ckP st li rv) note (t+1) x.rows s) s1).1:=by rw [hE]
  have hF2:(itemC (ckP st li rv) body note t x s).1=0→s3=(itemC (ckP st li rv) body note t x s).2:=by rw [hE];exact h3
  refine kH H (Ra rfl (Kz K40 ?_));clear H K40;intro a H;refine lr H Tryz.results140 rfl ?_;exact H.hp.retD (L':=ckB b ms ml mr mb mu (s3.n) :: (mb,mpK (mSet (s3.bef))) :: L) (by repeat (first|exact List.Sublist.refl _|apply List.Sublist.cons)) ⟨s3,congrArg vi hF1.symm,rfl,hF2⟩
 intro h105
 try have p105:=dF h105
 rw [if_neg p105] at hE
 have hF1:(itemC (ckP st li rv) body note t x s).1=0:=by rw [hE]
 have hF2:(itemC (ckP st li rv) body note t x s).1=0→s1=(itemC (ckP st li rv) body note t x s).2:=fun h=>by rw [hE]
 refine kP H (Kc K35 (SR fun _ K41=>Ra rfl (Kz K41 ?_)));clear H K35 K41;intro a H;refine lr H Tryz.results140 rfl ?_;exact H.hp.retD (L':=ckB b ms ml mr mb mu (s1.n) :: (mb,mpK (mSet (s1.bef))) :: L) (by repeat (first|exact List.Sublist.refl _|apply List.Sublist.cons)) ⟨s1,congrArg vi hF1.symm,rfl,hF2⟩
end
section
open Go.RowKit
theorem en140its:∀ args w,(callFunc 140 args).run Tryz.prog w=.ok (.enter 140 args) w:=enters Tryz.func140 rfl (by kernel_rfl)
theorem en139its:∀ args w,(callFunc 139 args).run Tryz.prog w=.ok (.enter 139 args) w:=enters Tryz.func139 rfl (by kernel_rfl)
/-- A function of an index that gives an error and turns blocks: ahead of the call at i they are B i. -/
def IxL (fv:Value) (Gi:GH) (n:Nat) (E:Nat→Int) {σ:Type} (B:σ→OL) (S:Nat→σ):Prop:=∀ i,i < n→∀ (G1:GH) (w1:World),(∀ b o,Gi b=some o→G1 b=some o)→Owns G1 (B (S i)) w1 →
 CallV Tryz.prog fv [vi i] w1 (RetL w1 G1 (B (S i)) fun u G' L'=>∃ s,u=vi (E i)∧L'=B s∧(E i=0→s=S (i+1)))
theorem allL_spec (G:GH) (w0:World) {σ:Type} (B:σ→OL) (S:Nat→σ) (n:Nat) (E:Nat→Int) (fv:Value) (hO:Owns G (B (S 0)) w0) (hn:n≤4611686018427387904) (hf:IxL fv G n E B S) :
  Calls Tryz.prog 119 #[vi n,fv] w0 (RetL w0 G (B (S 0)) fun u G' L'=>∃ s,u=vi (allE E n)∧L'=B s∧(allE E n=0→s=S n)):=by
 refine enterL (N:=18) (T:=[(0,_),(1,_)]) Tryz.func119 rfl Tryz.ntmps119 rfl rfl hO ?_;intro a H;refine kP H (SR fun _ K1=>Ra rfl (Kz K1 (SQ fun _ K2=>SR fun _ K3=>Rm rfl (Rm rfl (Kz K3 (SB ?_))))));clear H K1 K3;intro a H;skip;refine c_loopS (ι:=Nat × GH) (Tc:=[(1,_),(7,_)]) (Lc:=[]) (fun (gh:Nat × GH)=>[(8,vi gh.1)]) (fun (gh:Nat × GH)=>[]++B (S gh.1)) (fun (gh:Nat × GH)=>gh.2) (fun (gh:Nat × GH)=>gh.1≤n∧firstE (((List.range n).map E).drop gh.1)=allE E n∧(∀ b o,G b=some o→gh.2 b=some o)) (fun (gh:Nat × GH)=>n - gh.1) ((0,G)) (by exact (H).sub ⟨rfl,rfl,rfl,trivial⟩) ?_ ?_
 ·exact ⟨Nat.zero_le _,rfl,fun _ _ h=>h⟩
 clear H;intro gh a w hI H;obtain ⟨k,g⟩:=gh;dsimp only at hI H;obtain ⟨hk,he,hgm⟩:=hI;dsimp only [List.cons_append,List.nil_append,List.append_nil] at H;refine kP H (SR fun _ K4=>Rc rfl (Kz K4 (SQ fun _ K5=>?_)));clear H K4;intro a H;refine c_cond H rfl ?_ ?_
 ·intro h9
  try have p9:=dT h9
  have hk2:k < n:=by omega
  refine kP H (Kc K5 (SQ fun _ K6=>SB (SR fun _ K7=>Rm rfl (Ra rfl (Kz K7 (SR fun _ K8=>Rm rfl (Rm rfl ?_)))))));clear H K5 K7;intro a H;refine s_callv (Li:=[]) (L:=B (S k)) H wn rfl rfl (hf k hk2 _ _ hgm (Hp.owns (Li:=[]) H.hp)) rfl ?_;clear H;rintro v13 G13 L13 a w ⟨s3,rfl,rfl,h3⟩ hm13 H;refine kH H (Ra rfl (Kz K8 (SR fun _ K9=>Rm rfl (Rc rfl (Kz K9 ?_)))));clear H K8 K9;intro a H;refine c_cond H rfl ?_ ?_
  ·intro h15
   try have p15:=dT h15
   have hE:allE E n=E k:=by rw [allE_at hk2,if_pos p15] at he;exact he.symm
   refine kP H (SR fun _ K10=>Rm rfl (Ra rfl (Kz K10 ?_)));clear H K10;intro a H;refine lr H Tryz.results119 rfl ?_;exact H.hp.retL ⟨s3,by rw [hE],rfl,fun h=>absurd (hE.symm.trans h) p15⟩
  intro h15
  try have p15:=dF h15
  have hS:=h3 (Decidable.not_not.1 p15);subst hS;refine kP H (Kc K6 (SC (Rd rfl (Rm rfl ?_))));clear H K6;intro a H;refine wl_nil ?_;refine loop_end ((k+1,G13)) (by exact (H).sub ⟨rfl,rfl,rfl,trivial⟩) ?_ ?_
  ·(try dsimp only);exact ⟨by omega,by rw [allE_at hk2,if_neg p15] at he;exact he,fun b o h=>hm13 b o (hgm b o h)⟩
  first|omega|(dsimp only;omega)
 intro h9
 try have p9:=dF h9
 refine c_exit ?_;refine K2 _ _ ?_;clear K2;refine kP H (SR fun _ K11=>Ra rfl (Kz K11 ?_));clear H K11;intro a H;refine lr H Tryz.results119 rfl ?_;exact H.hp.retL ⟨S n,congrArg vi (by rw [List.drop_of_length_le (by simp;omega)] at he;exact he),by rw [show k=n by omega],fun _=>rfl⟩
abbrev ckS (b ms ml mr mb mu:Nat) (L:OL) (s:CS):OL:=ckB b ms ml mr mb mu s.n :: (mb,mpK (mSet s.bef)) :: L
theorem item_cb {m:Nat} (ih:ItemsOk m) (hm:m≤4294967296) {G:GH} {L:OL} {st:List StyleD} {li:List LiD} {rv:List RvD} {b ms ml mr mb mu:Nat} {s:CS} {l:List ItemD} {v:Value} {body note:Bool} {t:Int} {x3 x4 x5:Nat}
  (hck:CkG G st li rv ms ml mr mu) (h3:gcell G x3 0=some (.pointer (some ⟨b,0,none⟩))) (h4:gcell G x4 0=some v) (h5:∀ (j:Nat) (u:Value),[.bool body,.bool note,vi t][j]?=some u→gcell G x5 (0+j)=some u)
  (hv:RepV G (.sl 11 (l.map ItemD.dat)) v) (hz:zItems l≤m) (ht0:0≤t) (ht4:t≤4) (hs0:0≤s.n) (hs1:s.n+(zItems l:Nat)≤1099511627776) :
  IxL (.func (.func 139) #[] #[.pointer (some ⟨x3,0,none⟩),.pointer (some ⟨x4,0,none⟩),.pointer (some ⟨x5,0,none⟩)]) G l.length (erC (itemC (ckP st li rv) body note t) l s) (ckS b ms ml mr mb mu L) (stC (itemC (ckP st li rv) body note t) l s):=by
 intro k hk G1 w0 hmG hO;refine callV_func (caps:=[.pointer (some ⟨x3,0,none⟩),.pointer (some ⟨x4,0,none⟩),.pointer (some ⟨x5,0,none⟩)]) en139its ?_;replace h3:=gcell_mono hmG h3;replace h4:=gcell_mono hmG h4;replace h5:=fun j u hj=>gcell_mono hmG (h5 j u hj);replace hck:=hck.mono hmG;replace hv:=hv.mono hmG;obtain ⟨A,c,rfl,hc1,hc2,hg⟩:=hv.slice;rw [List.length_map] at *;obtain ⟨o,xo,pA,pn,pc,dA,dn,dc,yA,yn,yc,fA,fn,fc,rA,rn,rc,rfl,hrow,hhd,hfl,hrw⟩:=flow_get hk hg;obtain ⟨hn0,hn1⟩:=up_st (ckP st li rv) body note t l s k (by omega)
 have hdz:zItems (l.drop k)=1+szR l[k].dat+zItems (l.drop (k+1)):=by
  simp only [zItems];rw [List.drop_eq_getElem_cons hk,List.map_cons,szRs]
 have hzm:=zItems_mem (List.getElem_mem hk)
 have hE:erC (itemC (ckP st li rv) body note t) l s k=(itemC (ckP st li rv) body note t l[k] (stC (itemC (ckP st li rv) body note t) l s k)).1:=by unfold erC;rw [List.getElem?_eq_getElem hk]
 have hS:stC (itemC (ckP st li rv) body note t) l s (k+1)=(itemC (ckP st li rv) body note t l[k] (stC (itemC (ckP st li rv) body note t) l s k)).2:=by rw [stC,List.getElem?_eq_getElem hk]
 rw [hE,hS]
 generalize stC (itemC (ckP st li rv) body note t) l s k=s1 at *
 refine enterL (N:=13) (T:=[(0,_),(1,_),(2,_),(3,_)]) Tryz.func139 rfl Tryz.ntmps139 rfl rfl hO ?_;intro a H;refine kP H (SR fun _ K1=>Ra rfl (Kz K1 (SQ fun _ K2=>?_)));clear H K1;intro a H;refine c_drawI (hmx) [[],[],[],[1,2],[1,2,3],[],[0,1,2,3,4,5],(List.range 7)] [6,7] (by kernel_rfl) (by kernel_rfl) (fun (ix_:Nat) (v:Value) (G:GH)=>match ix_ with|0=>v=.pointer (some ⟨b,0,none⟩)|1=>v=.slice (some ⟨o,xo,none⟩) l.length c|2=>v=vi k|3=>v=.pointer (some ⟨o,xo+k*11,none⟩)|4=>v=.agg #[vi l[k].kind,vi l[k].code,vi l[k].id,.string l[k].text,.slice pA pn pc,vi l[k].head.marks.ins,vi l[k].head.marks.move,.slice dA dn dc,.slice yA yn yc,.slice fA fn fc,.slice rA rn rc]|5=>v=.agg #[.bool body,.bool note,vi t]|_=>True) (fun _ _ _ _ _ h=>h) H ?_ ?_
 ·clear H;refine al4 ?_ ?_ ?_ ?_ (al4 ?_ ?_ ?_ ?_ allI_nil)
  ·exact Op0 rfl fun _ _ _ _ hG _ H fin=>kH H (Rg ty130hea rfl (gcell_mono hG h3) fun _ H=>fin H iJ rfl)
  ·exact Op0 rfl fun _ _ _ _ hG _ H fin=>kH H (Rg ty32run rfl (gcell_mono hG h4) fun _ H=>fin H iJ rfl)
  ·exact Z0 rfl rfl fun _ _ _ _ _=>Rm rfl
  ·exact Z2 1 7 2 8 rfl rfl fun _ _ _ _ _=>Ri un32run ty35run rfl rfl
  ·refine Op1 3 9 rfl rfl fun _ a w G1 hG HT H fin=>?_;refine s_loada ty35run (cs:=[_,_,_,_,_,_,_,_,_,_,_]) H wn rfl rfl (fun j v hj=>H.hp.gcell (gcell_mono hG (hrow j v hj))) rfl ?_;clear H;intro a H;exact fin H iJ rfl
  ·refine Op0 rfl fun _ a w G1 hG HT H fin=>?_;refine s_loada ty136doc (cs:=[.bool body,.bool note,vi t]) H wn rfl rfl (fun j v hj=>H.hp.gcell (gcell_mono hG (h5 j v hj))) rfl ?_;clear H;intro a H;exact fin H iJ rfl
  ·exact opB rfl
  exact opB rfl
 clear H;intro a w G hGm1 H hv;obtain ⟨u6,hu6,hp6⟩:=hv 0 6 (by decide) rfl;obtain rfl:u6=.pointer (some ⟨b,0,none⟩):=hp6;have H:=H.addS hu6;obtain ⟨u10,hu10,hp10⟩:=hv 4 10 (by decide) rfl;obtain rfl:u10=.agg #[vi l[k].kind,vi l[k].code,vi l[k].id,.string l[k].text,.slice pA pn pc,vi l[k].head.marks.ins,vi l[k].head.marks.move,.slice dA dn dc,.slice yA yn yc,.slice fA fn fc,.slice rA rn rc]:=hp10;have H:=H.addS hu10;obtain ⟨u11,hu11,hp11⟩:=hv 5 11 (by decide) rfl;obtain rfl:u11=.agg #[.bool body,.bool note,vi t]:=hp11;have H:=H.addS hu11;clear hv;refine s_callL en140its (Li:=[]) (L:=ckS b ms ml mr mb mu L s1) H wn rfl (item_ok ih hm _ _ _ st li rv b ms ml mr mb mu s1 l[k] _ _ _ _ _ body note t (hck.mono hGm1) (Hp.owns (Li:=[]) H.hp) (hhd.mono hGm1) (hfl.mono hGm1) (hrw.mono hGm1) (by omega) ht0 ht4 (by omega) (by omega)) rfl ?_;clear H;rintro v12 _ _ a w ⟨s3,rfl,rfl,h12⟩ - H;dsimp only [List.nil_append] at H;refine kH H (Ra rfl ?_);clear H;intro a H;refine wl_nil ⟨rfl,?_⟩;refine K2 _ _ ?_;clear K2;refine lr H Tryz.results139 rfl ?_;exact H.hp.retL ⟨s3,rfl,rfl,h12⟩
theorem items_step {m:Nat} (ih:ItemsOk m) (hm:m≤4294967296):ItemsOk (m+1):=by
 intro G L w0 st li rv b ms ml mr mb mu s l v body note t hck hO hv hz ht0 ht4 hs0 hs1;obtain ⟨hA1,hA2⟩:=items_all (ckP st li rv) body note t l s;refine Calls.backL (R:=fun u G' L'=>CkR b ms ml mr mb mu L (itemsC (ckP st li rv) body note t l s) u L') ?_ fun _ _ _ h=>h;obtain ⟨A,c,rfl,hc1,hc2,-⟩:=hv.slice;rw [List.length_map] at *;have hll:=zItems_length l;refine enterL (N:=11) (T:=[(0,_),(1,_),(2,_)]) Tryz.func66 rfl Tryz.ntmps66 rfl rfl hO ?_;intro a H;refine c_seqR (fun _ K1=>?_);refine s_box (cs:=[_]) H wn rfl rfl rfl ?_;clear H;intro b3 a w hb3 H;refine s_box (cs:=[_]) H wn rfl rfl rfl ?_;clear H;intro b4 a w hb4 H;refine s_box (cs:=[_,_,_]) H wn rfl rfl rfl ?_;clear H;intro b5 a w hb5 H;refine kH H (Ra rfl (Kz K1 (SQ fun _ K2=>?_)));clear H K1;intro a H;obtain ⟨Ga5,hma5,hb5',H⟩:=H.giveBox;obtain ⟨Ga4,hma4,hb4',H⟩:=H.giveBox;obtain ⟨Ga,hma3,hb3',H⟩:=H.giveBox;replace hb5':=hma3 _ _ (hma4 _ _ hb5');replace hb4':=hma3 _ _ hb4';have hma:∀ b o,G b=some o→Ga b=some o:=fun b o h=>hma3 _ _ (hma4 _ _ (hma5 _ _ h))
 have g3:gcell Ga b3 0=some (.pointer (some ⟨b,0,none⟩)):=by unfold gcell;rw [hb3'];rfl
 have g4:gcell Ga b4 0=some (.slice A l.length c):=by unfold gcell;rw [hb4'];rfl
 have g5:∀ (j:Nat) (u:Value),[.bool body,.bool note,vi t][j]?=some u→gcell Ga b5 (0+j)=some u:=by
  intro j u hj;unfold gcell;rw [hb5'];simpa using hj
 have hcb:=item_cb (mb:=mb) (L:=L) (s:=s) ih hm (hck.mono hma) g3 g4 g5 (hv.mono hma) (by omega) ht0 ht4 hs0 hs1;refine kP H (SC (Rg ty32run rfl (by assumption) ?_));clear H;intro a H;refine kH H (Rl un32run rfl ?_);clear H;intro a H;refine s_makeFunc H wn rfl rfl ?_;clear H;intro a H;refine s_callL en119dst (Li:=[]) (L:=ckS b ms ml mr mb mu L s) H wn rfl (allL_spec _ _ (ckS b ms ml mr mb mu L) (stC (itemC (ckP st li rv) body note t) l s) l.length (erC (itemC (ckP st li rv) body note t) l s) _ (Hp.owns (Li:=[]) H.hp) (by omega) hcb) rfl ?_;clear H;rintro v10 _ _ a w ⟨s3,rfl,rfl,h10⟩ - H;dsimp only [List.nil_append] at H;refine kH H (Ra rfl (Kn K2 ?_));clear H K2;intro a H;refine lr H Tryz.results66 rfl ?_;exact H.hp.retL ⟨s3,by rw [hA1],rfl,fun h=>by rw [hA1] at h;exact (h10 h).trans (hA2 (hA1.trans h)).symm⟩
theorem items_ok:∀ m:Nat,m≤4294967297→ItemsOk m
 | 0,_=>fun _ _ _ _ _ _ _ _ _ _ _ _ _ _ _ _ _ _ _ _ _ h=>absurd h (by omega)
 | m+1,hm=>items_step (items_ok m (by omega)) (by omega)
end
section
open Go.RowKit
theorem fd65_1rvs:Fld Tryz.prog 65 1 1:=⟨by kernel_rfl⟩
theorem fd65_2rvs:Fld Tryz.prog 65 2 2:=⟨by kernel_rfl⟩
theorem en135rvs:∀ args w,(callFunc 135 args).run Tryz.prog w=.ok (.enter 135 args) w:=enters Tryz.func135 rfl (by kernel_rfl)
theorem en134rvs:∀ args w,(callFunc 134 args).run Tryz.prog w=.ok (.enter 134 args) w:=enters Tryz.func134 rfl (by kernel_rfl)
theorem rvid_cb {G:GH} {bl:Nat} {l:List RvD} {A:Option Addr} {n c:Nat} (hb:gcell G bl 0=some (.slice A n c)) (hv:RepV G (.sl 3 (l.map RvD.dat)) (.slice A n c)):IxCb (.func (.func 135) #[] #[.pointer (some ⟨bl,0,none⟩)]) G l.length fun k=>(l[k]?.map RvD.id).getD 0:=by
 intro k hk G1 w0 hm hG;refine callV_func (caps:=[.pointer (some ⟨bl,0,none⟩)]) en135rvs ?_;replace hb:=gcell_mono hm hb
 obtain rfl:n=l.length:=by have:=hv.len;simpa using this
 obtain ⟨b,o,rfl,hrow⟩:=rv_at (hv.mono hm) hk;have hq:=hrow 0 _ rfl;refine eN [(0,_),(1,_)] Tryz.func135 rfl Tryz.ntmps135 rfl rfl hG ?_;intro a H;refine kP H (SR fun _ K1=>Ra rfl (Kz K1 (SR fun _ K2=>Rg ty48nck rfl (by assumption) ?_)));clear H K1;intro a H;refine kH H (Rm rfl (Ri un48nck ty65nck rfl rfl (Rf fd65_0nck rfl (Rg ty3run rfl (by assumption) ?_))));clear H;intro a H;refine kH H (Ra rfl (Kz K2 ?_));clear H K2;intro a H;refine lr H Tryz.results135 rfl ?_;exact H.hp.ret (by dsimp only;rw [List.getElem?_eq_getElem hk];rfl)
def revE0 (l:List RvD) (i:Nat) (x:RvD):Int:=firstE [incE (fun k=>(l[k]?.map RvD.id).getD 0) i,whenE (!autS x.author) 39,whenE (!decide (0≤x.time∧x.time≤1099511627776)) 40]
def revE (l:List RvD) (i:Nat):Int:=match l[i]? with|some x=>revE0 l i x|none=>0
theorem rev_cb {G:GH} {bl:Nat} {l:List RvD} {A:Option Addr} {n c:Nat} (hb:gcell G bl 0=some (.slice A n c)) (hv:RepV G (.sl 3 (l.map RvD.dat)) (.slice A n c)) (hl:l.length≤4294967296) (ht:∀ x∈l,x.author.size < 4611686018427387904):IxCb (.func (.func 134) #[] #[.pointer (some ⟨bl,0,none⟩)]) G l.length (revE l):=by
 intro k hk G1 w0 hm hG;refine callV_func (caps:=[.pointer (some ⟨bl,0,none⟩)]) en134rvs ?_;replace hb:=gcell_mono hm hb;replace hv:=hv.mono hm;have hcb:=rvid_cb hb hv
 obtain rfl:n=l.length:=by have:=hv.len;simpa using this
 obtain ⟨b,o,rfl,hrow⟩:=rv_at hv hk;have hte:=ht _ (List.getElem_mem hk)
 have he:revE l k=revE0 l k l[k]:=by unfold revE;rw [List.getElem?_eq_getElem hk]
 obtain ⟨x,hx⟩:∃ x,x=l[k]:=⟨_,rfl⟩;rw [← hx] at hrow hte he;refine eN [(0,_),(1,_)] Tryz.func134 rfl Tryz.ntmps134 rfl rfl hG ?_;intro a H;refine kP H (SR fun _ K1=>Ra rfl (Kz K1 (SQ fun _ K2=>?_)));clear H K1;intro a H;have H:=H.sub (T':=[(0,_),(1,_)]) ⟨rfl,rfl,trivial⟩;refine c_drawI (hmx) [[],[],[0,1],[],[],[3,4],[3,4,5],[3,4,5,6],(List.range 8),(List.range 9),(List.range 10),[],[],[11,12],[11,12,13],[11,12,13,14],(List.range 16),(List.range 17),(List.range 18),(List.range 19),(List.range 20),(List.range 21)] [19,20,21] (by kernel_rfl) (by kernel_rfl) (fun (ix_:Nat) (v:Value) (G:GH)=>match ix_ with|0=>v=vi k|1=>v=.func (.func 135) #[] #[.pointer (some ⟨bl,0,none⟩)]|2=>v=vi (incE (fun k=>(l[k]?.map RvD.id).getD 0) k)|3=>v=.slice (some ⟨b,o,none⟩) l.length c|4=>v=vi k|5=>v=.pointer (some ⟨b,o+k*3,none⟩)|6=>v=.pointer (some ⟨b,o+k*3+1,none⟩)|7=>v=.string x.author|8=>v=.bool (autS x.author)|9=>v=.bool (!autS x.author)|10=>v=vi (whenE (!autS x.author) 39)|11=>v=.slice (some ⟨b,o,none⟩) l.length c|12=>v=vi k|13=>v=.pointer (some ⟨b,o+k*3,none⟩)|14=>v=.pointer (some ⟨b,o+k*3+2,none⟩)|15=>v=vi x.time|16=>v=.bool (decide (0≤x.time∧x.time≤1099511627776))|17=>v=.bool (!decide (0≤x.time∧x.time≤1099511627776))|18=>v=vi (whenE (!decide (0≤x.time∧x.time≤1099511627776)) 40)|_=>True) (fun _ _ _ _ _ h=>h) H ?_ ?_
 ·clear H;refine al4 ?_ ?_ ?_ ?_ (al4 ?_ ?_ ?_ ?_ (al4 ?_ ?_ ?_ ?_ (al4 ?_ ?_ ?_ ?_ (al4 ?_ ?_ ?_ ?_ (allI_cons ?_ (allI_cons ?_ allI_nil))))))
  ·exact Z0 rfl rfl fun _ _ _ _ _=>Rm rfl
  ·refine Op0 rfl fun _ a w G1 hG HT H fin=>?_;refine s_makeFunc H wn rfl rfl ?_;clear H;intro a H;exact fin H iJ rfl
  ·refine Op2 0 4 1 5 rfl rfl fun _ a w G1 hG HT H fin=>?_;refine s_call en121dst H wn rfl (increasing_spec _ _ H.hp.ro k _ _ (by omega) (fun i hi=>(hcb.mono hG) i (by omega))) rfl ?_;clear H;rintro v6 G6 a w rfl hGm6 H;exact fin H hGm6 (rfl)
  ·exact Op0 rfl fun _ _ _ _ hG _ H fin=>kH H (Rg ty48nck rfl (gcell_mono hG hb) fun _ H=>fin H iJ rfl)
  ·exact Z0 rfl rfl fun _ _ _ _ _=>Rm rfl
  ·exact Z2 3 7 4 8 rfl rfl fun _ _ _ _ _=>Ri un48nck ty65nck rfl rfl
  ·exact Z1 5 9 rfl rfl fun _ _ _ _ _=>Rf fd65_1rvs rfl
  ·exact Op1 6 10 rfl rfl fun _ _ _ _ hG _ H fin=>kH H (Rg ty9run rfl (gcell_mono hG (hrow 1 _ rfl)) fun _ H=>fin H iJ rfl)
  ·refine Op1 7 11 rfl rfl fun _ a w G1 hG HT H fin=>?_;refine s_call en127dsc H wn rfl (author_spec _ _ H.hp.ro x.author hte) rfl ?_;clear H;rintro v12 G12 a w ⟨rfl,-⟩ hGm12 H;exact fin H hGm12 (rfl)
  ·exact Z1 8 12 rfl rfl fun _ _ _ _ _=>Rn rfl
  ·refine Op1 9 13 rfl rfl fun _ a w G1 hG HT H fin=>?_;refine s_call en65nam H wn rfl (when_spec _ _ H.hp.ro _ 39) rfl ?_;clear H;rintro v14 G14 a w ⟨rfl,-⟩ hGm14 H;exact fin H hGm14 (rfl)
  ·exact Op0 rfl fun _ _ _ _ hG _ H fin=>kH H (Rg ty48nck rfl (gcell_mono hG hb) fun _ H=>fin H iJ rfl)
  ·exact Z0 rfl rfl fun _ _ _ _ _=>Rm rfl
  ·exact Z2 11 15 12 16 rfl rfl fun _ _ _ _ _=>Ri un48nck ty65nck rfl rfl
  ·exact Z1 13 17 rfl rfl fun _ _ _ _ _=>Rf fd65_2rvs rfl
  ·exact Op1 14 18 rfl rfl fun _ _ _ _ hG _ H fin=>kH H (Rg ty3run rfl (gcell_mono hG (hrow 2 _ rfl)) fun _ H=>fin H iJ rfl)
  ·refine Op1 15 19 rfl rfl fun _ a w G1 hG HT H fin=>?_;refine s_call en128fst H wn rfl (in_spec _ _ H.hp.ro x.time 0 1099511627776) rfl ?_;clear H;rintro v20 G20 a w ⟨rfl,-⟩ hGm20 H;exact fin H hGm20 (rfl)
  ·exact Z1 16 20 rfl rfl fun _ _ _ _ _=>Rn rfl
  ·refine Op1 17 21 rfl rfl fun _ a w G1 hG HT H fin=>?_;refine s_call en65nam H wn rfl (when_spec _ _ H.hp.ro _ 40) rfl ?_;clear H;rintro v22 G22 a w ⟨rfl,-⟩ hGm22 H;exact fin H hGm22 (rfl)
  ·exact opB rfl
  ·exact opB rfl
  exact opB rfl
 clear H;intro a w G hGm1 H hv;obtain ⟨u6,hu6,hp6⟩:=hv 2 6 (by decide) rfl;obtain rfl:u6=vi (incE (fun k=>(l[k]?.map RvD.id).getD 0) k):=hp6;have H:=H.addS hu6;obtain ⟨u14,hu14,hp14⟩:=hv 10 14 (by decide) rfl;obtain rfl:u14=vi (whenE (!autS x.author) 39):=hp14;have H:=H.addS hu14;obtain ⟨u22,hu22,hp22⟩:=hv 18 22 (by decide) rfl;obtain rfl:u22=vi (whenE (!decide (0≤x.time∧x.time≤1099511627776)) 40):=hp22;have H:=H.addS hu22;clear hv;refine s_buildSlice un221fst ty22fst [_,_,_] [_,_,_] H wn rfl rfl rfl rfl rfl (by intro i q h;match i,h with|0,h=>exact h|1,h=>exact h|2,h=>exact h|n+3,h=>simp at h) rfl rfl ?_;clear H;intro b23 a w hb23 H;obtain ⟨G23,hm23,hb23',H⟩:=H.giveBox;refine s_call en52nam H wn rfl (first_spec1 _ _ H.hp.ro _ _ (ints_rep [incE (fun k=>(l[k]?.map RvD.id).getD 0) k,whenE (!autS x.author) 39,whenE (!decide (0≤x.time∧x.time≤1099511627776)) 40] hb23' (show 3≤maxLen by decide))) rfl ?_;clear H;rintro v24 _ a w ⟨rfl,rfl⟩ - H;refine kH H (Ra rfl ?_);clear H;intro a H;refine wl_nil ⟨rfl,?_⟩;refine K2 _ _ ?_;clear K2;refine lr H Tryz.results134 rfl ?_;exact H.hp.ret (by rw [he,revE0])
def chkRvs (l:List RvD):Int:=firstE [whenE (decide (256 < (l.length:Int))) 9,allE (revE l) (min l.length 256)]
theorem checkRevs_spec (G:GH) (w0:World) (hG:Hold G w0) (l:List RvD) (v:Value) (hv:RepV G (.sl 3 (l.map RvD.dat)) v) (hl:l.length≤4294967296) (ht:∀ x∈l,x.author.size < 4611686018427387904) :
  Calls Tryz.prog 62 #[v] w0 (Ret w0 G fun u G'=>u=vi (chkRvs l)):=by
 obtain ⟨A,c,rfl,hc1,hc2,-⟩:=hv.slice;rw [List.length_map] at *;refine eN [(0,_)] Tryz.func62 rfl Tryz.ntmps62 rfl rfl hG ?_;intro a H;refine c_seqR (fun _ K1=>?_);refine s_box (cs:=[_]) H wn rfl rfl rfl ?_;clear H;intro b1 a w hb1 H;refine kH H (Ra rfl (Kz K1 (SQ fun _ K2=>?_)));clear H K1;intro a H;have H:=H.sub (T':=[(1,_)]) ⟨rfl,trivial⟩;obtain ⟨Ga,hma,hb1',H⟩:=H.giveBox
 have hbl:gcell Ga b1 0=some (.slice A l.length c):=by unfold gcell;rw [hb1'];rfl
 have hcb:=rev_cb hbl (hv.mono hma) hl ht;refine c_drawI (hmx) [[],[0],[0,1],[0,1,2],[],[4],[4,5],[],(List.range 8),(List.range 9),(List.range 10),(List.range 11)] [9,10,11] (by kernel_rfl) (by kernel_rfl) (fun (ix_:Nat) (v:Value) (G:GH)=>match ix_ with|0=>v=.slice A l.length c|1=>v=vi l.length|2=>v=.bool (decide (256 < (l.length:Int)))|3=>v=vi (whenE (decide (256 < (l.length:Int))) 9)|4=>v=.slice A l.length c|5=>v=vi l.length|6=>v=vi ((min l.length 256:Nat):Int)|7=>v=.func (.func 134) #[] #[.pointer (some ⟨b1,0,none⟩)]|8=>v=vi (allE (revE l) (min l.length 256))|_=>True) (fun _ _ _ _ _ h=>h) H ?_ ?_
 ·clear H;refine al4 ?_ ?_ ?_ ?_ (al4 ?_ ?_ ?_ ?_ (al4 ?_ ?_ ?_ ?_ allI_nil))
  ·exact Op0 rfl fun _ _ _ _ hG _ H fin=>kH H (Rg ty48nck rfl (gcell_mono hG hbl) fun _ H=>fin H iJ rfl)
  ·exact Z1 0 3 rfl rfl fun _ _ _ _ _=>Rl un48nck rfl
  ·exact Z1 1 4 rfl rfl fun _ _ _ _ _=>Rc rfl
  ·refine Op1 2 5 rfl rfl fun _ a w G1 hG HT H fin=>?_;refine s_call en65nam H wn rfl (when_spec _ _ H.hp.ro _ 9) rfl ?_;clear H;rintro v6 G6 a w ⟨rfl,-⟩ hGm6 H;exact fin H hGm6 (rfl)
  ·exact Op0 rfl fun _ _ _ _ hG _ H fin=>kH H (Rg ty48nck rfl (gcell_mono hG hbl) fun _ H=>fin H iJ rfl)
  ·exact Z1 4 7 rfl rfl fun _ _ _ _ _=>Rl un48nck rfl
  ·refine Op1 5 8 rfl rfl fun _ a w G1 hG HT H fin=>?_;refine s_min H wn rfl rfl rfl ?_;clear H;intro a H;exact fin H iJ (congrArg vi (by omega))
  ·refine Op0 rfl fun _ a w G1 hG HT H fin=>?_;refine s_makeFunc H wn rfl rfl ?_;clear H;intro a H;exact fin H iJ rfl
  ·refine Op2 6 9 7 10 rfl rfl fun _ a w G1 hG HT H fin=>?_;refine s_call en119dst H wn rfl (all_spec _ _ H.hp.ro (min l.length 256) (revE l) _ (by omega) ((hcb.mono hG).le (Nat.min_le_left _ _))) rfl ?_;clear H;rintro v11 G11 a w rfl hGm11 H;exact fin H hGm11 (rfl)
  ·exact opB rfl
  ·exact opB rfl
  exact opB rfl
 clear H;intro a w G hGm1 H hv;obtain ⟨u6,hu6,hp6⟩:=hv 3 6 (by decide) rfl;obtain rfl:u6=vi (whenE (decide (256 < (l.length:Int))) 9):=hp6;have H:=H.addS hu6;obtain ⟨u11,hu11,hp11⟩:=hv 8 11 (by decide) rfl;obtain rfl:u11=vi (allE (revE l) (min l.length 256)):=hp11;have H:=H.addS hu11;clear hv;refine s_buildSlice un221fst ty22fst [_,_] [_,_] H wn rfl rfl rfl rfl rfl (by intro i q h;match i,h with|0,h=>exact h|1,h=>exact h|n+2,h=>simp at h) rfl rfl ?_;clear H;intro b12 a w hb12 H;obtain ⟨G12,hm12,hb12',H⟩:=H.giveBox;refine s_call en52nam H wn rfl (first_spec1 _ _ H.hp.ro _ _ (two_rep hb12')) rfl ?_;clear H;rintro v13 _ a w ⟨rfl,rfl⟩ - H;refine kH H (Ra rfl ?_);clear H;intro a H;refine wl_nil ⟨rfl,?_⟩;refine K2 _ _ ?_;clear K2;refine lr H Tryz.results62 rfl ?_;exact H.hp.ret rfl
/-! ## No id twice -/
theorem firstE_zero:∀ {l:List Int},firstE l=0→∀ x∈l,x=0
 | [],_,_,h=>by cases h
 | e :: r,h,x,hx=>by
  unfold firstE at h
  by_cases he:e=0
  ·rw [if_neg (fun h'=>h' he)] at h
   rcases List.mem_cons.1 hx with rfl|hx
   ·exact he
   exact firstE_zero h x hx
  rw [if_pos he] at h;exact absurd h he
theorem allE_zero {E:Nat→Int} {n:Nat} (h:allE E n=0) (i:Nat) (hi:i < n):E i=0:=firstE_zero h _ (by simp;exact ⟨i,hi,rfl⟩)
theorem incE_zero {id:Nat→Int} {i:Nat} (h:incE id i=0):1≤id i∧id i≤1073741824∧(0 < i→id (i - 1) < id i):=by
 unfold incE at h
 by_cases h1:1≤id i∧id i≤1073741824
 ·rw [if_neg (fun h'=>h' h1)] at h
  by_cases h2:0 < i∧id i=id (i - 1)
  ·rw [if_pos h2] at h;cases h
  rw [if_neg h2] at h
  by_cases h3:0 < i∧id i < id (i - 1)
  ·rw [if_pos h3] at h;cases h
  exact ⟨h1.1,h1.2,fun h0=>by omega⟩
 rw [if_pos h1] at h;cases h
theorem inc_fresh {l:List Int} (h:∀ i (h:i+1 < l.length),l[i] < l[i+1]):Fresh l:=by
 have hlt:∀ (j i:Nat) (hj:j < l.length) (hi:i < j),l[i] < l[j]:=by
  intro j
  induction j with
  | zero=>intro i _ hi;omega
  | succ j ih =>
   intro i hj hi;have h1:=h j hj
   by_cases e:i=j
   ·subst e;exact h1
   have:=ih i (by omega) (by omega);omega
 intro k hk hm;obtain ⟨i,hi,he⟩:=List.getElem_of_mem hm;rw [List.length_take] at hi;have:=hlt k i hk (by omega);rw [List.getElem_take] at he
 omega
theorem rev_fresh {l:List RvD} (h:chkRvs l=0):Fresh (l.map RvD.id):=by
 have h1:=firstE_zero h _ (List.mem_cons_self);have h2:=firstE_zero h _ (List.mem_cons_of_mem _ List.mem_cons_self)
 have hl:l.length≤256:=by
  unfold whenE at h1
  by_cases hd:256 < (l.length:Int)
  ·rw [if_pos (decide_eq_true hd)] at h1;cases h1
  omega
 refine inc_fresh fun i hi=>?_;rw [List.length_map] at hi;have h3:=allE_zero h2 (i+1) (by omega)
 unfold revE at h3
 rw [List.getElem?_eq_getElem hi] at h3;have h4:=(incE_zero (firstE_zero h3 _ List.mem_cons_self)).2.2 (by omega);rw [Nat.add_sub_cancel,List.getElem?_eq_getElem hi,List.getElem?_eq_getElem (show i < l.length by omega)] at h4
 simpa using h4
theorem lis_fresh {l:List LiD} (h:chkLis l=0):Fresh (l.map LiD.id):=by
 have h1:=firstE_zero h _ (List.mem_cons_self);have h2:=firstE_zero h _ (List.mem_cons_of_mem _ List.mem_cons_self)
 have hl:l.length≤64:=by
  unfold whenE at h1
  by_cases hd:64 < (l.length:Int)
  ·rw [if_pos (decide_eq_true hd)] at h1;cases h1
  omega
 refine inc_fresh fun i hi=>?_;rw [List.length_map] at hi;have h3:=allE_zero h2 (i+1) (by omega)
 unfold lisE at h3
 have h4:=(incE_zero (firstE_zero h3 _ List.mem_cons_self)).2.2 (by omega);rw [Nat.add_sub_cancel,List.getElem?_eq_getElem hi,List.getElem?_eq_getElem (show i < l.length by omega)] at h4
 simpa using h4
theorem sty_fresh {l:List StyleD} (h:checkS l=0):Fresh (l.map StyleD.id):=by
 unfold checkS at h
 by_cases h1:128 < l.length
 ·rw [if_pos h1] at h;cases h
 rw [if_neg h1] at h
 by_cases h2:errF (ownAt l) 0 l.length≠0
 ·rw [if_pos h2] at h;exact absurd h h2
 intro k hk;rw [List.length_map] at hk;have:=own_nodup (Decidable.not_not.1 h2) k hk;rw [← List.map_take,List.getElem_map];exact this
end
section
open Go.RowKit
theorem en63chd:∀ args w,(callFunc 63 args).run Tryz.prog w=.ok (.enter 63 args) w:=enters Tryz.func63 rfl (by kernel_rfl)
theorem ty46chd:Ty Tryz.prog 46 4 96 [.slice none 0 0,.slice none 0 0,.slice none 0 0,.slice none 0 0] true:=⟨by kernel_rfl,by kernel_rfl⟩
theorem en17chd:∀ args w,(callFunc 17 args).run Tryz.prog w=.ok (.enter 17 args) w:=enters Tryz.func17 rfl (by kernel_rfl)
theorem en62chd:∀ args w,(callFunc 62 args).run Tryz.prog w=.ok (.enter 62 args) w:=enters Tryz.func62 rfl (by kernel_rfl)
theorem fd50_1chd:Fld Tryz.prog 50 1 1:=⟨by kernel_rfl⟩
theorem firstE_one (e:Int):firstE [e]=e:=by
 by_cases h:e=0 <;> simp [firstE,h]
/-- A document. -/
structure DocD where
 flow:List ItemD
 fin:HeadD
 revs:List RvD
 stg:StgD
structure DocR (G:GH) (D:DocV) (d:DocD):Prop where
 fl:RepV G (.sl 11 (d.flow.map ItemD.dat)) (sl3 D.f)
 hd:HeadR G d.fin (sl3 D.p) (sl3 D.d) (sl3 D.y)
 ins:D.ins=d.fin.marks.ins
 mv:D.move=d.fin.marks.move
 rv:RepV G (.sl 3 (d.revs.map RvD.dat)) (sl3 D.r)
 st:StgR G d.stg (sl3 D.s1) (sl3 D.s2) (sl3 D.s3) (sl3 D.s4)
theorem StgR.mono {G G':GH} (hm:∀ b o,G b=some o→G' b=some o) {s:StgD} {a b c d:Value} (h:StgR G s a b c d):StgR G' s a b c d:=⟨h.st.mono hm,h.li.mono hm,h.cm.mono hm,h.va.mono hm⟩
theorem DocR.mono {G G':GH} (hm:∀ b o,G b=some o→G' b=some o) {D:DocV} {d:DocD} (h:DocR G D d):DocR G' D d:=⟨h.fl.mono hm,h.hd.mono hm,h.ins,h.mv,h.rv.mono hm,h.st.mono hm⟩
/-- Bounds that no machine passes. -/
structure DocZ (d:DocD):Prop where
 fl:zItems d.flow≤1073741824
 hd:zHead d.fin≤4294967296
 rn:d.revs.length≤4294967296
 rt:∀ x∈d.revs,x.author.size < 4611686018427387904
 sn:d.stg.styles.length≤4294967296
 st:StgZ d.stg
abbrev DocD.ckp (d:DocD):CkP:=ckP d.stg.styles d.stg.lists d.revs
def mrkB (m:MarksD):Bool:=decide ((m.ins≠0∨m.move≠0)∨0 < (m.dels.length:Int))
/-- The first error of a document. -/
def chkDoc (d:DocD):Int:=firstE [firstE [chkStg d.stg,chkRvs d.revs],firstE [headE d.ckp 3 d.fin,whenE (mrkB d.fin.marks) 21],(itemsC d.ckp true false 0 d.flow ⟨0,[]⟩).1,whenE (decide (16384 < (itemsC d.ckp true false 0 d.flow ⟨0,[]⟩).2.n)) 9]
theorem check_doc (G:GH) (w0:World) (hG:Hold G w0) (D:DocV) (d:DocD) (hR:DocR G D d) (hz:DocZ d) :
  Calls Tryz.prog 20 #[D.val] w0 (Ret w0 G fun u G'=>u=vi (chkDoc d)):=by
 obtain ⟨df,dp,dd,dy,dr,d1,d2,d3,d4,ins,mv⟩:=D;obtain ⟨hfl,hhd,hin,hmv,hrv,hst⟩:=hR;dsimp only at hfl hhd hin hmv hrv hst;subst hin;subst hmv;obtain ⟨zf,zh,zr,zt,zs,zg⟩:=hz;have hdl:=hhd.dels.len;rw [List.length_map] at hdl
 have hdn:d.fin.marks.dels.length≤4294967296:=by
  have h1:=zHead_eq d.fin;have h2:=szRs_length (d.fin.marks.dels.map DelD.dat);rw [List.length_map] at h2;omega
 refine eN [(0,_)] Tryz.func20 rfl Tryz.ntmps20 rfl rfl hG ?_;intro a H;refine c_seqR (fun _ K1=>?_);refine s_box (cs:=[_,_,_,_,_,_,_,_,_,_,_]) H wn rfl rfl rfl ?_;clear H;intro b1 a w hb1 H;refine kH H (Ra rfl (Kz K1 (SQ fun _ K2=>SQ fun _ K3=>?_)));clear H K1;intro a H;refine c_drawI (hmx) [[],[0],[0,1],[],[3],[0,1,2,3,4],[0,1,2,3,4,5],(List.range 7),(List.range 8)] [6,7,8] (by kernel_rfl) (by kernel_rfl) (fun (ix_:Nat) (v:Value) (G:GH)=>match ix_ with|0=>v=.pointer (some ⟨b1,7,none⟩)|1=>v=.agg #[sl3 d1,sl3 d2,sl3 d3,sl3 d4]|2=>v=vi (chkStg d.stg)|3=>v=.pointer (some ⟨b1,6,none⟩)|4=>v=sl3 dr|5=>v=vi (chkRvs d.revs)|_=>True) (fun _ _ _ _ _ h=>h) H ?_ ?_
 ·clear H;refine al4 ?_ ?_ ?_ ?_ (al4 ?_ ?_ ?_ ?_ (allI_cons ?_ allI_nil))
  ·exact Z0 rfl rfl fun _ _ _ _ _=>Rf fd50_3nck rfl
  ·refine Op1 0 8 rfl rfl fun _ a w G1 hG HT H fin=>?_;refine s_loada ty46chd (cs:=[_,_,_,_]) H wn rfl rfl (H.hp.ocells 0 rfl rfl) rfl ?_;clear H;intro a H;exact fin H iJ rfl
  ·refine Op1 1 9 rfl rfl fun _ a w G1 hG HT H fin=>?_;refine s_call en17chd H wn rfl (checkSettings_spec _ _ H.hp.ro d.stg _ _ _ _ (hst.mono hG) zg) rfl ?_;clear H;rintro v10 G10 a w rfl hGm10 H;exact fin H hGm10 (rfl)
  ·exact Z0 rfl rfl fun _ _ _ _ _=>Rf fd50_2nck rfl
  ·exact Z1 3 11 rfl rfl fun _ _ _ _ _=>Ro ty48nck 0 rfl rfl
  ·refine Op1 4 12 rfl rfl fun _ a w G1 hG HT H fin=>?_;refine s_call en62chd H wn rfl (checkRevs_spec _ _ H.hp.ro d.revs _ (hrv.mono hG) zr zt) rfl ?_;clear H;rintro v13 G13 a w rfl hGm13 H;exact fin H hGm13 (rfl)
  ·exact opB rfl
  ·exact opB rfl
  exact opB rfl
 clear H;intro a w G hGm1 H hv;obtain ⟨u10,hu10,hp10⟩:=hv 2 10 (by decide) rfl;obtain rfl:u10=vi (chkStg d.stg):=hp10;have H:=H.addS hu10;obtain ⟨u13,hu13,hp13⟩:=hv 5 13 (by decide) rfl;obtain rfl:u13=vi (chkRvs d.revs):=hp13;have H:=H.addS hu13;clear hv;refine s_buildSlice un221fst ty22fst [_,_] [_,_] H wn rfl rfl rfl rfl rfl (by intro i q h;match i,h with|0,h=>exact h|1,h=>exact h|n+2,h=>simp at h) rfl rfl ?_;clear H;intro b14 a w hb14 H;obtain ⟨G14,hm14,hb14',H⟩:=H.giveBox;have hg1:=fun b o h=>hm14 b o (hGm1 b o h);replace hfl:=hfl.mono hg1;replace hhd:=hhd.mono hg1;replace hrv:=hrv.mono hg1;replace hst:=hst.mono hg1;refine s_call en52nam H wn rfl (first_spec1 _ _ H.hp.ro _ _ (two_rep hb14')) rfl ?_;clear H;rintro v15 _ a w ⟨rfl,rfl⟩ - H;refine kH H (Ra rfl ?_);clear H;intro a H;refine wl_nil ⟨rfl,?_⟩;refine K3 _ _ ?_;clear K3;refine kP H (SR fun _ K4=>Rm rfl (Rc rfl (Kz K4 ?_)));clear H K4;intro a H;refine c_cond H rfl ?_ ?_
 ·intro h17
  try have p17:=dT h17
  have hE:chkDoc d=firstE [chkStg d.stg,chkRvs d.revs]:=by rw [chkDoc,firstE,if_pos p17]
  refine kP H (SR fun _ K5=>Rm rfl (Ra rfl (Kz K5 ?_)));clear H K5;intro a H;refine lr H Tryz.results20 rfl ?_;exact H.hp.ret (by rw [hE])
 intro h17
 try have p17:=dF h17
 have e1:=Decidable.not_not.1 p17;have s1:=firstE_zero e1 _ List.mem_cons_self;have s2:=firstE_zero e1 _ (List.mem_cons_of_mem _ List.mem_cons_self);have t1:=firstE_zero s1 _ List.mem_cons_self;have t2:=firstE_zero s1 _ (List.mem_cons_of_mem _ List.mem_cons_self);refine c_skip ?_;refine K2 _ _ ?_;clear K2;refine c_seqR (fun _ K6=>?_);refine s_loada ty50dq (cs:=[_,_,_,_,_,_,_,_,_,_,_]) H wn rfl rfl (H.hp.ocells 0 rfl rfl) rfl ?_;clear H;intro a H;refine s_callL en63chd (Li:=[_]) (L:=[]) H wn rfl (newChecker_spec _ _ (Hp.owns (Li:=[_]) H.hp) ⟨df,dp,dd,dy,dr,d1,d2,d3,d4,d.fin.marks.ins,d.fin.marks.move⟩ d.stg.styles d.stg.lists d.revs hst.st hst.li hrv (sty_fresh t1) (lis_fresh t2) (rev_fresh s2) zs zg.ln zr) rfl ?_;clear H;rintro v20 G20 _ a w ⟨b,ms,ml,mr,mb,mu,rfl,rfl,hck⟩ hm20 H;dsimp only [List.cons_append,List.nil_append] at H;replace hfl:=hfl.mono hm20;replace hhd:=hhd.mono hm20;refine kH H (Ra rfl (Kz K6 (SR fun _ K7=>Rf fd50_1chd rfl (Rf fd31_1run rfl ?_))));clear H K6;intro a H;refine s_loada ty29hea (cs:=[_,_,_,_]) H wn rfl rfl (H.hp.ocells 0 rfl rfl) rfl ?_;clear H;intro a H;refine s_alloc ty29hea H wn rfl ?_;clear H;intro b5 a w hb5 H;refine s_store ty29hea 0 (vs:=[_,_,_,_]) _ H wn rfl rfl rfl rfl rfl rfl rfl rfl ?_;clear H;intro w H;dsimp only [List.set,setRow] at H;refine K7 _ _ ?_;clear K7;refine c_seq (fun _ K8=>?_);refine c_seq (fun _ K9=>?_)
 by_cases c0:d.fin.marks.ins≠0
 ·skip;have c1:d.fin.marks.ins≠0∨d.fin.marks.move≠0:=Or.inl c0;refine c_drawI (hmx) [[],[],[1],[0,1,2],[],[4],[4,5],(List.range 7),(List.range 8),(List.range 9),(List.range 10),(List.range 11),(List.range 12),(List.range 13),(List.range 14),(List.range 15),(List.range 16),(List.range 17),(List.range 18),(List.range 19),(List.range 20),(List.range 21)] [19,20,21] (by kernel_rfl) (by kernel_rfl) (fun (ix_:Nat) (v:Value) (G:GH)=>match ix_ with|0=>v=.pointer (some ⟨b,0,none⟩)|1=>v=.pointer (some ⟨b1,1,none⟩)|2=>v=hdV d.fin (sl3 dp) (sl3 dd) (sl3 dy)|3=>v=vi (headE d.ckp 3 d.fin)|4=>v=.pointer (some ⟨b5,0,none⟩)|5=>v=vi d.fin.marks.ins|6=>v=.bool (decide (d.fin.marks.ins≠0))|7=>v=.bool (decide (d.fin.marks.ins≠0))|8=>v=undef|9=>v=undef|10=>v=undef|11=>v=.bool (decide (d.fin.marks.ins≠0∨d.fin.marks.move≠0))|12=>v=.bool (decide (d.fin.marks.ins≠0∨d.fin.marks.move≠0))|13=>v=undef|14=>v=undef|15=>v=undef|16=>v=undef|17=>v=.bool (mrkB d.fin.marks)|18=>v=vi (whenE (mrkB d.fin.marks) 21)|_=>True) (fun _ _ _ _ _ h=>h) H ?_ ?_
  ·clear H;refine al4 ?_ ?_ ?_ ?_ (al4 ?_ ?_ ?_ ?_ (al4 ?_ ?_ ?_ ?_ (al4 ?_ ?_ ?_ ?_ (al4 ?_ ?_ ?_ ?_ (allI_cons ?_ (allI_cons ?_ allI_nil))))))
   ·exact Z0 rfl rfl fun _ _ _ _ _=>Rm rfl
   ·exact Z0 rfl rfl fun _ _ _ _ _=>Rf fd50_1chd rfl
   ·refine Op1 1 25 rfl rfl fun _ a w G1 hG HT H fin=>?_;refine s_loada ty31run (cs:=[_,_,_,_,_]) H wn rfl rfl (H.hp.ocells 1 rfl rfl) rfl ?_;clear H;intro a H;exact fin H iJ rfl
   ·refine Op2 0 24 2 26 rfl rfl fun _ a w G1 hG HT H fin=>?_;refine s_callL en64rws (Li:=[_,_]) (L:=ckB b ms ml mr mb mu 0 :: (mb,mpK []) :: []) H wn rfl (headL_spec _ _ _ d.stg.styles d.stg.lists d.revs b ms ml mr mb mu _ (hck.mono hG) (Hp.owns (Li:=[_,_]) H.hp) 3 d.fin _ _ _ (hhd.mono hG) zh) rfl ?_;clear H;rintro v27 _ _ a w ⟨rfl,rfl,rfl⟩ hGm27 H;dsimp only [List.cons_append,List.nil_append] at H;exact fin H hGm27 (rfl)
   ·exact Z0 rfl rfl fun _ _ _ _ _=>Rf fd29_0ehd rfl
   ·exact Z1 4 28 rfl rfl fun _ _ _ _ _=>Ro ty3run 0 rfl rfl
   ·exact Z1 5 29 rfl rfl fun _ _ _ _ _=>Rc rfl
   ·exact Z1 6 30 rfl rfl fun _ _ _ _ _=>Rm rfl
   ·exact skI 7 (decide_eq_true c0) rfl rfl
   ·exact skI 7 (decide_eq_true c0) rfl rfl
   ·exact skI 7 (decide_eq_true c0) rfl rfl
   ·refine Op2 7 31 10 34 rfl rfl fun _ a w G1 hG HT H fin=>?_;refine kH H (Pt (decide_eq_true c0) rfl ?_);clear H;intro a H;exact fin H iJ (by first|exact congrArg Value.bool (decide_eq_true c1).symm|exact congrArg Value.bool (by simp [c0]))
   ·exact Z1 11 35 rfl rfl fun _ _ _ _ _=>Rm rfl
   ·exact skI 12 (decide_eq_true c1) rfl rfl
   ·exact skI 12 (decide_eq_true c1) rfl rfl
   ·exact skI 12 (decide_eq_true c1) rfl rfl
   ·exact skI 12 (decide_eq_true c1) rfl rfl
   ·refine Op2 12 36 16 40 rfl rfl fun _ a w G1 hG HT H fin=>?_;refine kH H (Pt (decide_eq_true c1) rfl ?_);clear H;intro a H;exact fin H iJ (by first|exact congrArg Value.bool (decide_eq_true (Or.inl c1)).symm|exact congrArg Value.bool (by simp [mrkB,c1]))
   ·refine Op1 17 41 rfl rfl fun _ a w G1 hG HT H fin=>?_;refine s_call en65nam H wn rfl (when_spec _ _ H.hp.ro _ 21) rfl ?_;clear H;rintro v42 G42 a w ⟨rfl,-⟩ hGm42 H;exact fin H hGm42 (rfl)
   ·exact opB rfl
   ·exact opB rfl
   exact opB rfl
  clear H;intro a w G hGm6 H hv;obtain ⟨u27,hu27,hp27⟩:=hv 3 27 (by decide) rfl;obtain rfl:u27=vi (headE d.ckp 3 d.fin):=hp27;have H:=H.addS hu27;obtain ⟨u42,hu42,hp42⟩:=hv 18 42 (by decide) rfl;obtain rfl:u42=vi (whenE (mrkB d.fin.marks) 21):=hp42;have H:=H.addS hu42;clear hv;refine s_buildSlice un221fst ty22fst [_,_] [_,_] H wn rfl rfl rfl rfl rfl (by intro i q h;match i,h with|0,h=>exact h|1,h=>exact h|n+2,h=>simp at h) rfl rfl ?_;clear H;intro b43 a w hb43 H;obtain ⟨G43,hm43,hb43',H⟩:=H.giveBox;have hg6:=fun b o h=>hm43 b o (hGm6 b o h);replace hfl:=hfl.mono hg6;replace hck:=hck.mono hg6;refine s_call en52nam H wn rfl (first_spec1 _ _ H.hp.ro _ _ (two_rep hb43')) rfl ?_;clear H;rintro v44 _ a w ⟨rfl,rfl⟩ - H;refine kH H (Ra rfl ?_);clear H;intro a H;refine wl_nil ⟨rfl,?_⟩;refine K9 _ _ ?_;clear K9;refine kP H (SR fun _ K10=>Rm rfl (Rc rfl (Kz K10 ?_)));clear H K10;intro a H;refine c_cond H rfl ?_ ?_
  ·intro h46
   try have p46:=dT h46
   have hE:chkDoc d=firstE [headE d.ckp 3 d.fin,whenE (mrkB d.fin.marks) 21]:=by rw [chkDoc,firstE,if_neg (by simpa using e1),firstE,if_pos p46]
   refine kP H (SR fun _ K11=>Rm rfl (Ra rfl (Kz K11 ?_)));clear H K11;intro a H;refine lr H Tryz.results20 rfl ?_;exact H.hp.ret (by rw [hE])
  intro h46
  try have p46:=dF h46
  have e2:=Decidable.not_not.1 p46;refine kP H (Kc K8 (SQ fun _ K12=>SR fun _ K13=>Rm rfl (Rf fd50_0doc rfl (Ro ty32run 1 rfl rfl ?_))));clear H K8;intro a H;refine s_build sr136doc [_,_,_] H wn rfl rfl rfl rfl ?_;clear H;intro a H;refine s_callL en66rws (Li:=[_,_]) (L:=ckB b ms ml mr mb mu 0 :: (mb,mpK []) :: []) H wn rfl (items_ok 4294967297 (by omega) _ _ _ d.stg.styles d.stg.lists d.revs b ms ml mr mb mu ⟨0,[]⟩ d.flow _ true false 0 hck (Hp.owns (Li:=[_,_]) H.hp) hfl (by omega) (by omega) (by omega) (by decide) (by dsimp only;omega)) rfl ?_;clear H;rintro v52 _ _ a w ⟨rfl,s3,rfl,rfl,h3⟩ - H;dsimp only [List.cons_append,List.nil_append] at H;refine kH H (Ra rfl (Kz K13 (SR fun _ K14=>Rm rfl (Rc rfl (Kz K14 ?_)))));clear H K13 K14;intro a H;refine c_cond H rfl ?_ ?_
  ·intro h54
   try have p54:=dT h54
   have hE:chkDoc d=(itemsC d.ckp true false 0 d.flow ⟨0,[]⟩).1:=by rw [chkDoc,firstE,if_neg (by simpa using e1),firstE,if_neg (by simpa using e2),firstE,if_pos p54]
   refine kP H (SR fun _ K15=>Rm rfl (Ra rfl (Kz K15 ?_)));clear H K15;intro a H;refine lr H Tryz.results20 rfl ?_;exact H.hp.ret (by rw [hE])
  intro h54
  try have p54:=dF h54
  have e3:=Decidable.not_not.1 p54;have hs3:=h3 e3;subst hs3;refine kP H (Kc K12 (SR fun _ K16=>Rm rfl (Rk rfl (Rf fd140_5itm rfl (Ro ty3run 2 rfl rfl (Rc rfl ?_))))));clear H K12;intro a H;refine s_call en65nam H wn rfl (when_spec _ _ H.hp.ro _ 9) rfl ?_;clear H;rintro v61 _ a w ⟨rfl,rfl⟩ - H
  have hE:chkDoc d=whenE (decide (16384 < (itemsC d.ckp true false 0 d.flow ⟨0,[]⟩).2.n)) 9:=by rw [chkDoc,firstE,if_neg (by simpa using e1),firstE,if_neg (by simpa using e2),firstE,if_neg (by simpa using e3)];exact firstE_one _
  refine kH H (Ra rfl (Kz K16 ?_));clear H K16;intro a H;refine lr H Tryz.results20 rfl ?_;exact H.hp.ret (by rw [hE])
 skip
 by_cases c1:d.fin.marks.ins≠0∨d.fin.marks.move≠0
 ·skip;refine c_drawI (hmx) [[],[],[1],[0,1,2],[],[4],[4,5],(List.range 7),(List.range 8),(List.range 9),(List.range 10),(List.range 11),(List.range 12),(List.range 13),(List.range 14),(List.range 15),(List.range 16),(List.range 17),(List.range 18),(List.range 19),(List.range 20),(List.range 21)] [19,20,21] (by kernel_rfl) (by kernel_rfl) (fun (ix_:Nat) (v:Value) (G:GH)=>match ix_ with|0=>v=.pointer (some ⟨b,0,none⟩)|1=>v=.pointer (some ⟨b1,1,none⟩)|2=>v=hdV d.fin (sl3 dp) (sl3 dd) (sl3 dy)|3=>v=vi (headE d.ckp 3 d.fin)|4=>v=.pointer (some ⟨b5,0,none⟩)|5=>v=vi d.fin.marks.ins|6=>v=.bool (decide (d.fin.marks.ins≠0))|7=>v=.bool (decide (d.fin.marks.ins≠0))|8=>v=.pointer (some ⟨b5,1,none⟩)|9=>v=vi d.fin.marks.move|10=>v=.bool (decide (d.fin.marks.move≠0))|11=>v=.bool (decide (d.fin.marks.ins≠0∨d.fin.marks.move≠0))|12=>v=.bool (decide (d.fin.marks.ins≠0∨d.fin.marks.move≠0))|13=>v=undef|14=>v=undef|15=>v=undef|16=>v=undef|17=>v=.bool (mrkB d.fin.marks)|18=>v=vi (whenE (mrkB d.fin.marks) 21)|_=>True) (fun _ _ _ _ _ h=>h) H ?_ ?_
  ·clear H;refine al4 ?_ ?_ ?_ ?_ (al4 ?_ ?_ ?_ ?_ (al4 ?_ ?_ ?_ ?_ (al4 ?_ ?_ ?_ ?_ (al4 ?_ ?_ ?_ ?_ (allI_cons ?_ (allI_cons ?_ allI_nil))))))
   ·exact Z0 rfl rfl fun _ _ _ _ _=>Rm rfl
   ·exact Z0 rfl rfl fun _ _ _ _ _=>Rf fd50_1chd rfl
   ·refine Op1 1 25 rfl rfl fun _ a w G1 hG HT H fin=>?_;refine s_loada ty31run (cs:=[_,_,_,_,_]) H wn rfl rfl (H.hp.ocells 1 rfl rfl) rfl ?_;clear H;intro a H;exact fin H iJ rfl
   ·refine Op2 0 24 2 26 rfl rfl fun _ a w G1 hG HT H fin=>?_;refine s_callL en64rws (Li:=[_,_]) (L:=ckB b ms ml mr mb mu 0 :: (mb,mpK []) :: []) H wn rfl (headL_spec _ _ _ d.stg.styles d.stg.lists d.revs b ms ml mr mb mu _ (hck.mono hG) (Hp.owns (Li:=[_,_]) H.hp) 3 d.fin _ _ _ (hhd.mono hG) zh) rfl ?_;clear H;rintro v27 _ _ a w ⟨rfl,rfl,rfl⟩ hGm27 H;dsimp only [List.cons_append,List.nil_append] at H;exact fin H hGm27 (rfl)
   ·exact Z0 rfl rfl fun _ _ _ _ _=>Rf fd29_0ehd rfl
   ·exact Z1 4 28 rfl rfl fun _ _ _ _ _=>Ro ty3run 0 rfl rfl
   ·exact Z1 5 29 rfl rfl fun _ _ _ _ _=>Rc rfl
   ·exact Z1 6 30 rfl rfl fun _ _ _ _ _=>Rm rfl
   ·exact Op1 7 31 rfl rfl fun _ _ _ _ hG _ H fin=>kH H (YF fd29_1ehd (decide_eq_false c0) rfl fun _ H=>fin H iJ rfl)
   ·exact Op2 8 32 7 31 rfl rfl fun _ _ _ _ hG _ H fin=>kH H (YO ty3run 0 (decide_eq_false c0) rfl rfl fun _ H=>fin H iJ rfl)
   ·exact Op2 9 33 7 31 rfl rfl fun _ _ _ _ hG _ H fin=>kH H (YC (decide_eq_false c0) rfl fun _ H=>fin H iJ rfl)
   ·refine Op2 7 31 10 34 rfl rfl fun _ a w G1 hG HT H fin=>?_;refine kH H (Pf (decide_eq_false c0) rfl ?_);clear H;intro a H;exact fin H iJ (by first|exact congrArg Value.bool (decide_eq_true c1).symm|exact congrArg Value.bool (by simp [c0]))
   ·exact Z1 11 35 rfl rfl fun _ _ _ _ _=>Rm rfl
   ·exact skI 12 (decide_eq_true c1) rfl rfl
   ·exact skI 12 (decide_eq_true c1) rfl rfl
   ·exact skI 12 (decide_eq_true c1) rfl rfl
   ·exact skI 12 (decide_eq_true c1) rfl rfl
   ·refine Op2 12 36 16 40 rfl rfl fun _ a w G1 hG HT H fin=>?_;refine kH H (Pt (decide_eq_true c1) rfl ?_);clear H;intro a H;exact fin H iJ (by first|exact congrArg Value.bool (decide_eq_true (Or.inl c1)).symm|exact congrArg Value.bool (by simp [mrkB,c1]))
   ·refine Op1 17 41 rfl rfl fun _ a w G1 hG HT H fin=>?_;refine s_call en65nam H wn rfl (when_spec _ _ H.hp.ro _ 21) rfl ?_;clear H;rintro v42 G42 a w ⟨rfl,-⟩ hGm42 H;exact fin H hGm42 (rfl)
   ·exact opB rfl
   ·exact opB rfl
   exact opB rfl
  clear H;intro a w G hGm6 H hv;obtain ⟨u27,hu27,hp27⟩:=hv 3 27 (by decide) rfl;obtain rfl:u27=vi (headE d.ckp 3 d.fin):=hp27;have H:=H.addS hu27;obtain ⟨u42,hu42,hp42⟩:=hv 18 42 (by decide) rfl;obtain rfl:u42=vi (whenE (mrkB d.fin.marks) 21):=hp42;have H:=H.addS hu42;clear hv;refine s_buildSlice un221fst ty22fst [_,_] [_,_] H wn rfl rfl rfl rfl rfl (by intro i q h;match i,h with|0,h=>exact h|1,h=>exact h|n+2,h=>simp at h) rfl rfl ?_;clear H;intro b43 a w hb43 H;obtain ⟨G43,hm43,hb43',H⟩:=H.giveBox;have hg6:=fun b o h=>hm43 b o (hGm6 b o h);replace hfl:=hfl.mono hg6;replace hck:=hck.mono hg6;refine s_call en52nam H wn rfl (first_spec1 _ _ H.hp.ro _ _ (two_rep hb43')) rfl ?_;clear H;rintro v44 _ a w ⟨rfl,rfl⟩ - H;refine kH H (Ra rfl ?_);clear H;intro a H;refine wl_nil ⟨rfl,?_⟩;refine K9 _ _ ?_;clear K9;refine kP H (SR fun _ K17=>Rm rfl (Rc rfl (Kz K17 ?_)));clear H K17;intro a H;refine c_cond H rfl ?_ ?_
  ·intro h46
   try have p46:=dT h46
   have hE:chkDoc d=firstE [headE d.ckp 3 d.fin,whenE (mrkB d.fin.marks) 21]:=by rw [chkDoc,firstE,if_neg (by simpa using e1),firstE,if_pos p46]
   refine kP H (SR fun _ K18=>Rm rfl (Ra rfl (Kz K18 ?_)));clear H K18;intro a H;refine lr H Tryz.results20 rfl ?_;exact H.hp.ret (by rw [hE])
  intro h46
  try have p46:=dF h46
  have e2:=Decidable.not_not.1 p46;refine kP H (Kc K8 (SQ fun _ K19=>SR fun _ K20=>Rm rfl (Rf fd50_0doc rfl (Ro ty32run 1 rfl rfl ?_))));clear H K8;intro a H;refine s_build sr136doc [_,_,_] H wn rfl rfl rfl rfl ?_;clear H;intro a H;refine s_callL en66rws (Li:=[_,_]) (L:=ckB b ms ml mr mb mu 0 :: (mb,mpK []) :: []) H wn rfl (items_ok 4294967297 (by omega) _ _ _ d.stg.styles d.stg.lists d.revs b ms ml mr mb mu ⟨0,[]⟩ d.flow _ true false 0 hck (Hp.owns (Li:=[_,_]) H.hp) hfl (by omega) (by omega) (by omega) (by decide) (by dsimp only;omega)) rfl ?_;clear H;rintro v52 _ _ a w ⟨rfl,s3,rfl,rfl,h3⟩ - H;dsimp only [List.cons_append,List.nil_append] at H;refine kH H (Ra rfl (Kz K20 (SR fun _ K21=>Rm rfl (Rc rfl (Kz K21 ?_)))));clear H K20 K21;intro a H;refine c_cond H rfl ?_ ?_
  ·intro h54
   try have p54:=dT h54
   have hE:chkDoc d=(itemsC d.ckp true false 0 d.flow ⟨0,[]⟩).1:=by rw [chkDoc,firstE,if_neg (by simpa using e1),firstE,if_neg (by simpa using e2),firstE,if_pos p54]
   refine kP H (SR fun _ K22=>Rm rfl (Ra rfl (Kz K22 ?_)));clear H K22;intro a H;refine lr H Tryz.results20 rfl ?_;exact H.hp.ret (by rw [hE])
  intro h54
  try have p54:=dF h54
  have e3:=Decidable.not_not.1 p54;have hs3:=h3 e3;subst hs3;refine kP H (Kc K19 (SR fun _ K23=>Rm rfl (Rk rfl (Rf fd140_5itm rfl (Ro ty3run 2 rfl rfl (Rc rfl ?_))))));clear H K19;intro a H;refine s_call en65nam H wn rfl (when_spec _ _ H.hp.ro _ 9) rfl ?_;clear H;rintro v61 _ a w ⟨rfl,rfl⟩ - H
  have hE:chkDoc d=whenE (decide (16384 < (itemsC d.ckp true false 0 d.flow ⟨0,[]⟩).2.n)) 9:=by rw [chkDoc,firstE,if_neg (by simpa using e1),firstE,if_neg (by simpa using e2),firstE,if_neg (by simpa using e3)];exact firstE_one _
  refine kH H (Ra rfl (Kz K23 ?_));clear H K23;intro a H;refine lr H Tryz.results20 rfl ?_;exact H.hp.ret (by rw [hE])
 skip;refine c_drawI (hmx) [[],[],[1],[0,1,2],[],[4],[4,5],(List.range 7),(List.range 8),(List.range 9),(List.range 10),(List.range 11),(List.range 12),(List.range 13),(List.range 14),(List.range 15),(List.range 16),(List.range 17),(List.range 18),(List.range 19),(List.range 20),(List.range 21)] [19,20,21] (by kernel_rfl) (by kernel_rfl) (fun (ix_:Nat) (v:Value) (G:GH)=>match ix_ with|0=>v=.pointer (some ⟨b,0,none⟩)|1=>v=.pointer (some ⟨b1,1,none⟩)|2=>v=hdV d.fin (sl3 dp) (sl3 dd) (sl3 dy)|3=>v=vi (headE d.ckp 3 d.fin)|4=>v=.pointer (some ⟨b5,0,none⟩)|5=>v=vi d.fin.marks.ins|6=>v=.bool (decide (d.fin.marks.ins≠0))|7=>v=.bool (decide (d.fin.marks.ins≠0))|8=>v=.pointer (some ⟨b5,1,none⟩)|9=>v=vi d.fin.marks.move|10=>v=.bool (decide (d.fin.marks.move≠0))|11=>v=.bool (decide (d.fin.marks.ins≠0∨d.fin.marks.move≠0))|12=>v=.bool (decide (d.fin.marks.ins≠0∨d.fin.marks.move≠0))|13=>v=.pointer (some ⟨b5,2,none⟩)|14=>v=sl3 dd|15=>v=vi d.fin.marks.dels.length|16=>v=.bool (decide (0 < (d.fin.marks.dels.length:Int)))|17=>v=.bool (mrkB d.fin.marks)|18=>v=vi (whenE (mrkB d.fin.marks) 21)|_=>True) (fun _ _ _ _ _ h=>h) H ?_ ?_
 ·clear H;refine al4 ?_ ?_ ?_ ?_ (al4 ?_ ?_ ?_ ?_ (al4 ?_ ?_ ?_ ?_ (al4 ?_ ?_ ?_ ?_ (al4 ?_ ?_ ?_ ?_ (allI_cons ?_ (allI_cons ?_ allI_nil))))))
  ·exact Z0 rfl rfl fun _ _ _ _ _=>Rm rfl
  ·exact Z0 rfl rfl fun _ _ _ _ _=>Rf fd50_1chd rfl
  ·refine Op1 1 25 rfl rfl fun _ a w G1 hG HT H fin=>?_;refine s_loada ty31run (cs:=[_,_,_,_,_]) H wn rfl rfl (H.hp.ocells 1 rfl rfl) rfl ?_;clear H;intro a H;exact fin H iJ rfl
  ·refine Op2 0 24 2 26 rfl rfl fun _ a w G1 hG HT H fin=>?_;refine s_callL en64rws (Li:=[_,_]) (L:=ckB b ms ml mr mb mu 0 :: (mb,mpK []) :: []) H wn rfl (headL_spec _ _ _ d.stg.styles d.stg.lists d.revs b ms ml mr mb mu _ (hck.mono hG) (Hp.owns (Li:=[_,_]) H.hp) 3 d.fin _ _ _ (hhd.mono hG) zh) rfl ?_;clear H;rintro v27 _ _ a w ⟨rfl,rfl,rfl⟩ hGm27 H;dsimp only [List.cons_append,List.nil_append] at H;exact fin H hGm27 (rfl)
  ·exact Z0 rfl rfl fun _ _ _ _ _=>Rf fd29_0ehd rfl
  ·exact Z1 4 28 rfl rfl fun _ _ _ _ _=>Ro ty3run 0 rfl rfl
  ·exact Z1 5 29 rfl rfl fun _ _ _ _ _=>Rc rfl
  ·exact Z1 6 30 rfl rfl fun _ _ _ _ _=>Rm rfl
  ·exact Op1 7 31 rfl rfl fun _ _ _ _ hG _ H fin=>kH H (YF fd29_1ehd (decide_eq_false c0) rfl fun _ H=>fin H iJ rfl)
  ·exact Op2 8 32 7 31 rfl rfl fun _ _ _ _ hG _ H fin=>kH H (YO ty3run 0 (decide_eq_false c0) rfl rfl fun _ H=>fin H iJ rfl)
  ·exact Op2 9 33 7 31 rfl rfl fun _ _ _ _ hG _ H fin=>kH H (YC (decide_eq_false c0) rfl fun _ H=>fin H iJ rfl)
  ·refine Op2 7 31 10 34 rfl rfl fun _ a w G1 hG HT H fin=>?_;refine kH H (Pf (decide_eq_false c0) rfl ?_);clear H;intro a H;exact fin H iJ (by first|exact congrArg Value.bool (decide_eq_true c1).symm|exact congrArg Value.bool (by simp [c0]))
  ·exact Z1 11 35 rfl rfl fun _ _ _ _ _=>Rm rfl
  ·exact Op1 12 36 rfl rfl fun _ _ _ _ hG _ H fin=>kH H (YF fd29_2run (decide_eq_false c1) rfl fun _ H=>fin H iJ rfl)
  ·exact Op2 13 37 12 36 rfl rfl fun _ _ _ _ hG _ H fin=>kH H (YO ty26run 0 (decide_eq_false c1) rfl rfl fun _ H=>fin H iJ rfl)
  ·refine Op2 14 38 12 36 rfl rfl fun _ a w G1 hG HT H fin=>?_;refine kH H (YL un26run (decide_eq_false c1) rfl ?_);clear H;intro a H;exact fin H iJ (by first|rfl|exact congrArg (fun n:Nat=>vi n) hdl)
  ·exact Op2 15 39 12 36 rfl rfl fun _ _ _ _ hG _ H fin=>kH H (YC (decide_eq_false c1) rfl fun _ H=>fin H iJ rfl)
  ·refine Op2 12 36 16 40 rfl rfl fun _ a w G1 hG HT H fin=>?_;refine kH H (Pf (decide_eq_false c1) rfl ?_);clear H;intro a H;exact fin H iJ (by first|exact congrArg Value.bool (decide_eq_true (Or.inl c1)).symm|exact congrArg Value.bool (by simp [mrkB,c1]))
  ·refine Op1 17 41 rfl rfl fun _ a w G1 hG HT H fin=>?_;refine s_call en65nam H wn rfl (when_spec _ _ H.hp.ro _ 21) rfl ?_;clear H;rintro v42 G42 a w ⟨rfl,-⟩ hGm42 H;exact fin H hGm42 (rfl)
  ·exact opB rfl
  ·exact opB rfl
  exact opB rfl
 clear H;intro a w G hGm6 H hv;obtain ⟨u27,hu27,hp27⟩:=hv 3 27 (by decide) rfl;obtain rfl:u27=vi (headE d.ckp 3 d.fin):=hp27;have H:=H.addS hu27;obtain ⟨u42,hu42,hp42⟩:=hv 18 42 (by decide) rfl;obtain rfl:u42=vi (whenE (mrkB d.fin.marks) 21):=hp42;have H:=H.addS hu42;clear hv;refine s_buildSlice un221fst ty22fst [_,_] [_,_] H wn rfl rfl rfl rfl rfl (by intro i q h;match i,h with|0,h=>exact h|1,h=>exact h|n+2,h=>simp at h) rfl rfl ?_;clear H;intro b43 a w hb43 H;obtain ⟨G43,hm43,hb43',H⟩:=H.giveBox;have hg6:=fun b o h=>hm43 b o (hGm6 b o h);replace hfl:=hfl.mono hg6;replace hck:=hck.mono hg6;refine s_call en52nam H wn rfl (first_spec1 _ _ H.hp.ro _ _ (two_rep hb43')) rfl ?_;clear H;rintro v44 _ a w ⟨rfl,rfl⟩ - H;refine kH H (Ra rfl ?_);clear H;intro a H;refine wl_nil ⟨rfl,?_⟩;refine K9 _ _ ?_;clear K9;refine kP H (SR fun _ K24=>Rm rfl (Rc rfl (Kz K24 ?_)));clear H K24;intro a H;refine c_cond H rfl ?_ ?_
 ·intro h46
  try have p46:=dT h46
  have hE:chkDoc d=firstE [headE d.ckp 3 d.fin,whenE (mrkB d.fin.marks) 21]:=by rw [chkDoc,firstE,if_neg (by simpa using e1),firstE,if_pos p46]
  refine kP H (SR fun _ K25=>Rm rfl (Ra rfl (Kz K25 ?_)));clear H K25;intro a H;refine lr H Tryz.results20 rfl ?_;exact H.hp.ret (by rw [hE])
 intro h46
 try have p46:=dF h46
 have e2:=Decidable.not_not.1 p46;refine kP H (Kc K8 (SQ fun _ K26=>SR fun _ K27=>Rm rfl (Rf fd50_0doc rfl (Ro ty32run 1 rfl rfl ?_))));clear H K8;intro a H;refine s_build sr136doc [_,_,_] H wn rfl rfl rfl rfl ?_;clear H;intro a H;refine s_callL en66rws (Li:=[_,_]) (L:=ckB b ms ml mr mb mu 0 :: (mb,mpK []) :: []) H wn rfl (items_ok 4294967297 (by omega) _ _ _ d.stg.styles d.stg.lists d.revs b ms ml mr mb mu ⟨0,[]⟩ d.flow _ true false 0 hck (Hp.owns (Li:=[_,_]) H.hp) hfl (by omega) (by omega) (by omega) (by decide) (by dsimp only;omega)) rfl ?_;clear H;rintro v52 _ _ a w ⟨rfl,s3,rfl,rfl,h3⟩ - H;dsimp only [List.cons_append,List.nil_append] at H;refine kH H (Ra rfl (Kz K27 (SR fun _ K28=>Rm rfl (Rc rfl (Kz K28 ?_)))));clear H K27 K28;intro a H;refine c_cond H rfl ?_ ?_
 ·intro h54
  try have p54:=dT h54
  have hE:chkDoc d=(itemsC d.ckp true false 0 d.flow ⟨0,[]⟩).1:=by rw [chkDoc,firstE,if_neg (by simpa using e1),firstE,if_neg (by simpa using e2),firstE,if_pos p54]
  refine kP H (SR fun _ K29=>Rm rfl (Ra rfl (Kz K29 ?_)));clear H K29;intro a H;refine lr H Tryz.results20 rfl ?_;exact H.hp.ret (by rw [hE])
 intro h54
 try have p54:=dF h54
 have e3:=Decidable.not_not.1 p54;have hs3:=h3 e3;subst hs3;refine kP H (Kc K26 (SR fun _ K30=>Rm rfl (Rk rfl (Rf fd140_5itm rfl (Ro ty3run 2 rfl rfl (Rc rfl ?_))))));clear H K26;intro a H;refine s_call en65nam H wn rfl (when_spec _ _ H.hp.ro _ 9) rfl ?_;clear H;rintro v61 _ a w ⟨rfl,rfl⟩ - H
 have hE:chkDoc d=whenE (decide (16384 < (itemsC d.ckp true false 0 d.flow ⟨0,[]⟩).2.n)) 9:=by rw [chkDoc,firstE,if_neg (by simpa using e1),firstE,if_neg (by simpa using e2),firstE,if_neg (by simpa using e3)];exact firstE_one _
 refine kH H (Ra rfl (Kz K30 ?_));clear H K30;intro a H;refine lr H Tryz.results20 rfl ?_;exact H.hp.ret (by rw [hE])
end
section
open Go.RowKit
theorem fd143_0mck:Fld Tryz.prog 143 0 0:=⟨by kernel_rfl⟩
/-- A model checker's block. -/
abbrev mkB (D:DocV) (b:Nat) (v:Value) (n:Int):Nat × Obj:=(b,.cells #[sl3 D.f,sl3 D.p,vi D.ins,vi D.move,sl3 D.d,sl3 D.y,sl3 D.r,sl3 D.s1,sl3 D.s2,sl3 D.s3,sl3 D.s4,v,.slice none 0 0,vi n] 143 (0,0))
/-- What a model checker reads of a document's tables. -/
structure MkG (G:GH) (D:DocV) (st:List StyleD) (li:List LiD) (rv:List RvD):Prop where
 sty:RepV G (.sl 6 (st.map StyleD.dat)) (sl3 D.s1)
 lis:RepV G (.sl 2 (li.map LiD.dat)) (sl3 D.s2)
 rev:RepV G (.sl 3 (rv.map RvD.dat)) (sl3 D.r)
theorem MkG.mono {G G':GH} {D:DocV} {st:List StyleD} {li:List LiD} {rv:List RvD} (h:MkG G D st li rv) (hm:∀ b o,G b=some o→G' b=some o):MkG G' D st li rv:=⟨h.sty.mono hm,h.lis.mono hm,h.rev.mono hm⟩
structure MkZ (st:List StyleD) (li:List LiD) (rv:List RvD):Prop where
 fr:Fresh (st.map StyleD.id)
 sn:st.length≤4294967296
 ln:li.length≤4294967296
 rn:rv.length≤4294967296
theorem ids_at {G:GH} {r:List Int} {A:Option Addr} {n c k:Nat} (hv:RepV G (.sl 1 (r.map fun k=>[li k])) (.slice A n c)) (hk:k < r.length):∃ b o,A=some ⟨b,o,none⟩∧gcell G b (o+k*1)=some (vi r[k]):=by
 obtain ⟨A',c',he,-,-,hg⟩:=hv.slice
 injection he with e1 e2 e3
 subst e1;obtain ⟨b,o,cs,h1,h2,h3,h4⟩:=hg k [li r[k]] (by simp [hk]);obtain ⟨v1,_,rfl,⟨rfl,-⟩,rfl⟩:∃ v vs,cs=v :: vs∧RepV G (li r[k]) v∧RepRow G [] vs:=h4;exact ⟨b,o,h1,by simpa using h3 0 _ rfl⟩
theorem mem_no {α:Type} {l:List α} {x:α} {k:Nat} (hk:l.length≤k) (h:x∉l.take k):x∉l:=by rwa [List.take_of_length_le hk] at h
theorem mem_step {α:Type} {l:List α} {x:α} {k:Nat} (hk:k < l.length) (h:x∉l.take k) (hn:¬ l[k]=x):x∉l.take (k+1):=by
 rw [List.take_succ_eq_append_getElem hk,List.mem_append,List.mem_singleton];exact fun h'=>h'.elim h fun e=>hn e.symm
theorem has_spec (G:GH) (w0:World) (hG:Hold G w0) (l:List Int) (v:Value) (hv:RepV G (.sl 1 (l.map fun k=>[li k])) v) (x:Int) :
  Calls Tryz.prog 200 #[v,vi x] w0 (Ret w0 G fun u G'=>u=.bool (decide (x∈l))∧G=G'):=by
 obtain ⟨A,c,rfl,hc1,hc2,-⟩:=hv.slice;have hml:maxLen=9223372036854775807:=rfl;rw [List.length_map] at *;refine eN [(0,_),(1,_)] Tryz.func200 rfl Tryz.ntmps200 rfl rfl hG ?_;intro a H;refine kP H (SR fun _ K1=>Ra rfl (Kz K1 (SQ fun _ K2=>SR fun _ K3=>Ra rfl (Kz K3 (SB ?_)))));clear H K1 K3;intro a H;skip;refine c_loopS (ι:=Nat) (Tc:=[(0,_),(1,_)]) (Lc:=[]) (fun (gh:Nat)=>[(5,vi gh)]) (fun (gh:Nat)=>[]) (fun (gh:Nat)=>G) (fun (gh:Nat)=>gh≤l.length∧x∉l.take gh) (fun (gh:Nat)=>l.length - gh) (0) (by exact (H).sub ⟨rfl,rfl,rfl,trivial⟩) ?_ ?_
 ·exact ⟨Nat.zero_le _,by simp⟩
 clear H;intro gh a w hI H;obtain ⟨k,hgh⟩:∃ x,x=gh:=⟨_,rfl⟩;subst hgh;obtain ⟨hk,he⟩:=hI;dsimp only [List.cons_append,List.nil_append,List.append_nil] at H;refine kP H (SQ fun _ K4=>SR fun _ K5=>Rm rfl (Rm rfl (Rl un38l14c rfl (Rc rfl (Kz K5 ?_)))));clear H K5;intro a H;refine c_cond H rfl ?_ ?_
 ·intro h9
  try have p9:=dT h9
  have hk2:k < l.length:=by omega
  obtain ⟨b,o,rfl,hcell⟩:=ids_at hv hk2;refine kP H (Kc K4 (SQ fun _ K6=>SB (SR fun _ K7=>Rm rfl (Rm rfl (Ri un38l14c ty3run rfl rfl (Rg ty3run rfl hcell (Rm rfl (Rc rfl (Kz K7 ?_)))))))));clear H K4 K7;intro a H;refine c_cond H rfl ?_ ?_
  ·intro h17
   try have p17:=dT h17
   refine kP H (SR fun _ K8=>Ra rfl (Kz K8 ?_));clear H K8;intro a H;refine lr H Tryz.results200 rfl ?_;exact H.hp.ret ⟨congrArg Value.bool (decide_eq_true (p17 ▸ List.getElem_mem hk2)).symm,rfl⟩
  intro h17
  try have p17:=dF h17
  refine kP H (Kc K6 (SC (Rm rfl (Rd rfl (Ra rfl ?_)))));clear H K6;intro a H;refine wl_nil ?_;refine loop_end ((k+1)) (by exact (H).sub ⟨rfl,rfl,rfl,trivial⟩) ?_ ?_
  ·exact ⟨by omega,mem_step hk2 he p17⟩
  first|omega|(dsimp only;omega)
 intro h9
 try have p9:=dF h9
 refine c_exit ?_;refine K2 _ _ ?_;clear K2;refine kP H (SR fun _ K9=>Ra rfl (Kz K9 ?_));clear H K9;intro a H;refine lr H Tryz.results200 rfl ?_;exact H.hp.ret ⟨congrArg Value.bool (decide_eq_false (mem_no (by omega) he)).symm,rfl⟩
theorem mRev_spec (G:GH) (w0:World) (hG:Hold G w0) (D:DocV) (st:List StyleD) (li:List LiD) (rv:List RvD) (b:Nat) (v:Value) (n:Int) (hk:MkG G D st li rv) (hz:MkZ st li rv) (hb:G b=some (mkB D b v n).2) (x:Int) :
  Calls Tryz.prog 142 #[.pointer (some ⟨b,0,none⟩),vi x] w0 (Ret w0 G fun u G'=>u=.bool (decide (x∈rv.map RvD.id))∧G=G'):=by
 have hc6:gcell G b 6=some (sl3 D.r):=by unfold gcell;rw [hb];rfl
 have hrv:=hk.rev
 generalize sl3 D.r=v6 at hc6 hrv
 obtain ⟨A,c,rfl,hc1,hc2,-⟩:=hrv.slice;have hrn:=hz.rn;rw [List.length_map] at *;refine eN [(0,_),(1,_)] Tryz.func142 rfl Tryz.ntmps142 rfl rfl hG ?_;intro a H;refine kP H (SR fun _ K1=>Ra rfl (Kz K1 (SQ fun _ K2=>SR fun _ K3=>Ra rfl (Kz K3 (SB ?_)))));clear H K1 K3;intro a H;skip;refine c_loopS (ι:=Nat) (Tc:=[(0,_),(1,_)]) (Lc:=[]) (fun (gh:Nat)=>[(5,vi gh)]) (fun (gh:Nat)=>[]) (fun (gh:Nat)=>G) (fun (gh:Nat)=>gh≤rv.length∧x∉(rv.map RvD.id).take gh) (fun (gh:Nat)=>rv.length - gh) (0) (by exact (H).sub ⟨rfl,rfl,rfl,trivial⟩) ?_ ?_
 ·exact ⟨Nat.zero_le _,by simp⟩
 clear H;intro gh a w hI H;obtain ⟨k,hgh⟩:∃ x,x=gh:=⟨_,rfl⟩;subst hgh;obtain ⟨hk,he⟩:=hI;dsimp only [List.cons_append,List.nil_append,List.append_nil] at H;refine kP H (SQ fun _ K4=>SR fun _ K5=>Rm rfl (Rm rfl (Rk rfl (Rf fd143_0mck rfl (Rf fd50_2nck rfl (Rg ty48nck rfl hc6 (Rl un48nck rfl (Rc rfl (Kz K5 ?_)))))))));clear H K5;intro a H;refine c_cond H rfl ?_ ?_
 ·intro h13
  try have p13:=dT h13
  have hk2:k < rv.length:=by omega
  obtain ⟨b',o,rfl,hrow⟩:=rv_at hrv hk2;have hcell:=hrow 0 _ rfl;refine kP H (Kc K4 (SQ fun _ K6=>SB (SR fun _ K7=>Rm rfl (Rk rfl (Rf fd143_0mck rfl (Rf fd50_2nck rfl (Rg ty48nck rfl hc6 (Rm rfl (Ri un48nck ty65nck rfl rfl (Rf fd65_0nck rfl (Rg ty3run rfl (by assumption) ?_)))))))))));clear H K4;intro a H;refine kH H (Rm rfl (Rc rfl (Kz K7 ?_)));clear H K7;intro a H;refine c_cond H rfl ?_ ?_
  ·intro h26
   try have p26:=dT h26
   refine kP H (SR fun _ K8=>Ra rfl (Kz K8 ?_));clear H K8;intro a H;refine lr H Tryz.results142 rfl ?_;exact H.hp.ret ⟨congrArg Value.bool (decide_eq_true (List.mem_map.2 ⟨_,List.getElem_mem hk2,p26⟩)).symm,rfl⟩
  intro h26
  try have p26:=dF h26
  refine kP H (Kc K6 (SC (Rm rfl (Rd rfl (Ra rfl ?_)))));clear H K6;intro a H;refine wl_nil ?_;refine loop_end ((k+1)) (by exact (H).sub ⟨rfl,rfl,rfl,trivial⟩) ?_ ?_
  ·exact ⟨by omega,mem_step (l:=rv.map RvD.id) (by simpa using hk2) he (by simpa using p26)⟩
  first|omega|(dsimp only;omega)
 intro h13
 try have p13:=dF h13
 refine c_exit ?_;refine K2 _ _ ?_;clear K2;refine kP H (SR fun _ K9=>Ra rfl (Kz K9 ?_));clear H K9;intro a H;refine lr H Tryz.results142 rfl ?_;exact H.hp.ret ⟨congrArg Value.bool (decide_eq_false (mem_no (by simp;omega) he)).symm,rfl⟩
theorem fresh_same {l:List StyleD} (f:Fresh (l.map StyleD.id)) {i j:Nat} (hi:i < l.length) (hj:j < l.length) (h:l[i].id=l[j].id):i=j:=by
 rcases Nat.lt_trichotomy i j with c|c|c
 ·have:=f j (by simpa using hj);exact absurd (List.mem_take_iff_getElem.2 ⟨i,by simp;omega,by simpa using h⟩) this
 ·exact c
 have:=f i (by simpa using hi);exact absurd (List.mem_take_iff_getElem.2 ⟨j,by simp;omega,by simpa using h.symm⟩) this
theorem sty_kind {l:List StyleD} (f:Fresh (l.map StyleD.id)) {x:Int} {k:Nat} (hk:k < l.length) (h:l[k].id=x):stK l x=l[k].kind:=by
 unfold stK
 cases e:l.find? fun s=>decide (s.id=x) with
 | none=>exact absurd (List.find?_eq_none.1 e _ (List.getElem_mem hk)) (by simpa using h)
 | some s =>
  obtain ⟨j,hj,rfl⟩:=List.getElem_of_mem (List.mem_of_find?_eq_some e);have h2:=List.find?_some e;have:=fresh_same f hj hk (by rw [h];simpa using h2);subst this
  rfl
theorem sty_no {l:List StyleD} {x K:Int} (hK:K≠0) (h:∀ j (hj:j < l.length),¬ (l[j].id=x∧l[j].kind=K)):stK l x≠K:=by
 unfold stK
 cases e:l.find? fun s=>decide (s.id=x) with
 | none=>exact fun h'=>hK h'.symm
 | some s =>
  obtain ⟨j,hj,rfl⟩:=List.getElem_of_mem (List.mem_of_find?_eq_some e);have h2:=List.find?_some e;exact fun h'=>h j hj ⟨by simpa using h2,h'⟩
theorem mRefs_spec (G:GH) (w0:World) (hG:Hold G w0) (D:DocV) (st:List StyleD) (li:List LiD) (rv:List RvD) (b:Nat) (v:Value) (n:Int) (hk:MkG G D st li rv) (hz:MkZ st li rv) (hb:G b=some (mkB D b v n).2) (key x:Int) :
  Calls Tryz.prog 141 #[.pointer (some ⟨b,0,none⟩),vi key,vi x] w0 (Ret w0 G fun u G'=>u=vi (refE st (li.map LiD.id) key x)∧G=G'):=by
 have hc7:gcell G b 7=some (sl3 D.s1):=by unfold gcell;rw [hb];rfl
 have hc8:gcell G b 8=some (sl3 D.s2):=by unfold gcell;rw [hb];rfl
 have hst:=hk.sty;have hli:=hk.lis
 generalize sl3 D.s1=v7 at hc7 hst
 generalize sl3 D.s2=v8 at hc8 hli
 obtain ⟨A,c,rfl,hc1,hc2,-⟩:=hst.slice;obtain ⟨B,d,rfl,hd1,hd2,-⟩:=hli.slice;have hsn:=hz.sn;have hln:=hz.ln;rw [List.length_map] at *;refine eN [(0,_),(1,_),(2,_)] Tryz.func141 rfl Tryz.ntmps141 rfl rfl hG ?_;intro a H;refine kP H (SR fun _ K1=>Ra rfl (Kz K1 (SQ fun _ K2=>SR fun _ K3=>Rm rfl (Rc rfl (Kz K3 ?_)))));clear H K1 K3;intro a H;refine c_cond H rfl ?_ ?_
 ·intro h12
  try have p12:=dT h12
  refine kP H (SR fun _ K4=>Ra rfl (Kz K4 ?_));clear H K4;intro a H;refine lr H Tryz.results141 rfl ?_;exact H.hp.ret ⟨congrArg vi (by rw [p12];unfold refE;simp [whenE]),rfl⟩
 intro h12
 try have p12:=dF h12
 refine kP H (Kc K2 (SQ fun _ K5=>SR fun _ K6=>Rm rfl (Kz K6 (SB ?_))));clear H K2 K6;intro a H;refine c_seqJ (ι:=Bool) (Tc:=[(0,_),(1,_),(2,_),(13,_)]) (Lc:=[]) (fun (gh:Bool)=>[(14,.bool gh)]) (fun (gh:Bool)=>[]) (fun (gh:Bool)=>G) (fun (gh:Bool)=>gh=decide (key=20∨key=1)) (by exact (H).sub ⟨rfl,rfl,rfl,rfl,trivial⟩) ?_ ?_
 ·skip;refine kP H (SR fun _ K7=>Rc rfl (Ra rfl (Kz K7 ?_)));clear H K7;intro a H;refine c_cond H rfl ?_ ?_
  ·intro h14
   try have p14:=dT h14
   refine c_skip ?_;refine ⟨decide (key=20),by exact (H).sub ⟨rfl,rfl,rfl,rfl,rfl,trivial⟩,?_⟩
   simp_all
  intro h14
  try have p14:=dF h14
  refine kP H (SC (Rc rfl (Ra rfl ?_)));clear H;intro a H;refine wl_nil ?_;refine ⟨decide (key=1),by exact (H).sub ⟨rfl,rfl,rfl,rfl,rfl,trivial⟩,?_⟩
  simp_all
 clear H;intro gh a w hI H;obtain ⟨q,hgh⟩:∃ x,x=gh:=⟨_,rfl⟩;subst hgh;subst hI;dsimp only [List.cons_append,List.nil_append,List.append_nil] at H;refine c_cond H rfl ?_ ?_
 ·intro h14
  try have p14:=dT h14
  refine kP H (SR fun _ K8=>Ra rfl (Kz K8 ?_));clear H K8;intro a H;refine c_seqJ (ι:=Int) (Tc:=[(0,_),(2,_)]) (Lc:=[]) (fun (gh:Int)=>[(7,vi gh)]) (fun (gh:Int)=>[]) (fun (gh:Int)=>G) (fun (gh:Int)=>(key=20∨key=1)∧gh=(if key=1 then 2 else 1)) (by exact (H).sub ⟨rfl,rfl,trivial⟩) ?_ ?_
  ·skip;refine kP H (SR fun _ K9=>Rm rfl (Rc rfl (Kz K9 ?_)));clear H K9;intro a H;refine c_cond H rfl ?_ ?_
   ·intro h18
    try have p18:=dT h18
    refine kP H (SC (Ra rfl ?_));clear H;intro a H;refine wl_nil ?_;refine ⟨2,by exact (H).sub ⟨rfl,rfl,rfl,trivial⟩,?_⟩;exact ⟨p14,by first|exact (if_pos (by omega)).symm|exact (if_neg (by omega)).symm⟩
   intro h18
   try have p18:=dF h18
   refine c_skip ?_;refine ⟨1,by exact (H).sub ⟨rfl,rfl,rfl,trivial⟩,?_⟩;exact ⟨p14,by first|exact (if_pos (by omega)).symm|exact (if_neg (by omega)).symm⟩
  clear H;intro gh a w hI H;obtain ⟨kd,hgh⟩:∃ x,x=gh:=⟨_,rfl⟩;subst hgh;obtain ⟨hkk,hkd⟩:=hI
  have hE:refE st (li.map LiD.id) key x=whenE (decide (x≠0∧stK st x≠kd)) 25:=by rw [refE,if_pos hkk,hkd]
  dsimp only [List.cons_append,List.nil_append,List.append_nil] at H;refine kP H (SQ fun _ K10=>SR fun _ K11=>Ra rfl (Kz K11 (SB ?_)));clear H K11;intro a H;skip;refine c_loopS (ι:=Nat) (Tc:=[(0,_),(2,_),(7,_)]) (Lc:=[]) (fun (gh:Nat)=>[(8,vi gh)]) (fun (gh:Nat)=>[]) (fun (gh:Nat)=>G) (fun (gh:Nat)=>gh≤st.length∧∀ j (hj:j < st.length),j < gh→¬ (st[j].id=x∧st[j].kind=kd)) (fun (gh:Nat)=>st.length - gh) (0) (by exact (H).sub ⟨rfl,rfl,rfl,rfl,trivial⟩) ?_ ?_
  ·exact ⟨Nat.zero_le _,fun j _ h=>absurd h (by omega)⟩
  clear H;intro gh a w hI H;obtain ⟨k,hgh⟩:∃ x,x=gh:=⟨_,rfl⟩;subst hgh;obtain ⟨hk,he⟩:=hI;dsimp only [List.cons_append,List.nil_append,List.append_nil] at H;refine kP H (SQ fun _ K12=>SR fun _ K13=>Rm rfl (Rm rfl (Rk rfl (Rf fd143_0mck rfl (Rf fd50_3nck rfl (Rf fd46_0dsv rfl (Rg ty41chn rfl hc7 (Rl un41sty rfl (Rc rfl (Kz K13 ?_))))))))));clear H K13;intro a H;refine c_cond H rfl ?_ ?_
  ·intro h27
   try have p27:=dT h27
   have hk2:k < st.length:=by omega
   obtain ⟨b',o,pA,pc,rfl,hrow,-,-⟩:=style_at hst hk2;refine kP H (Kc K12 (SQ fun _ K14=>SB (SR fun _ K15=>Rm rfl (Rk rfl (Rf fd143_0mck rfl (Rf fd50_3nck rfl (Rf fd46_0dsv rfl (Rg ty41chn rfl hc7 (Rm rfl (Ri un41sty ty100sty rfl rfl ?_))))))))));clear H K12;intro a H;refine s_loada ty100sty (cs:=[_,_,_,_,_,_]) H wn rfl rfl (fun j v hj=>H.hp.gcell (hrow j v hj)) rfl ?_;clear H;intro a H;refine s_alloc ty100sty H wn rfl ?_;clear H;intro b9 a w hb9 H;refine s_store ty100sty 0 (vs:=[_,_,_,_,_,_]) _ H wn rfl rfl rfl rfl rfl rfl rfl rfl ?_;clear H;intro w H;dsimp only [List.set,setRow] at H;refine K15 _ _ ?_;clear K15;refine kP H (SR fun _ K16=>Rf fd100_0sty rfl (Ro ty3run 0 rfl rfl (Rm rfl (Rc rfl (Rm rfl ?_)))));clear H;intro a H;refine s_split H 43 rfl ?_ ?_
   ·intro h43
    try have p43:=dT h43
    refine kH H (YF fd100_1sty h43 rfl (YO ty3run 0 h43 rfl rfl (YM h43 rfl (YC h43 rfl (Pt h43 rfl (Kz K16 ?_))))));clear H K16;intro a H;refine c_cond H rfl ?_ ?_
    ·intro h48
     try have p48:=dT h48
     refine kP H (SR fun _ K17=>Ra rfl (Kz K17 ?_));clear H K17;intro a H;refine lr H Tryz.results141 rfl ?_;exact H.hp.ret ⟨congrArg vi (by rw [hE,sty_kind hz.fr hk2 p43];simp [whenE,p48]),rfl⟩
    intro h48
    try have p48:=dF h48
    refine kP H (Kc K14 (SC (Rm rfl (Rd rfl (Ra rfl ?_)))));clear H K14;intro a H;refine wl_nil ?_;refine loop_end ((k+1)) (by exact (H.pickT (Pl:=[_]) (Pl':=[]) [] (by decide) rfl).sub ⟨rfl,rfl,rfl,rfl,trivial⟩) ?_ ?_
    ·exact ⟨by omega,fun j hj h=>by
     by_cases e:j=k
     ·subst e;first|exact fun h'=>p48 h'.2|exact fun h'=>p43 h'.1
     exact he j hj (by omega)⟩
    first|omega|(dsimp only;omega)
   intro h43
   try have p43:=dF h43
   refine kH H (Ks h43 rfl (Ks h43 rfl (Ks h43 rfl (Ks h43 rfl (Pf h43 rfl (Kz K16 ?_))))));clear H K16;intro a H;refine c_cond_f H rfl rfl ?_;refine kP H (Kc K14 (SC (Rm rfl (Rd rfl (Ra rfl ?_)))));clear H K14;intro a H;refine wl_nil ?_;refine loop_end ((k+1)) (by exact (H.pickT (Pl:=[_]) (Pl':=[]) [] (by decide) rfl).sub ⟨rfl,rfl,rfl,rfl,trivial⟩) ?_ ?_
   ·exact ⟨by omega,fun j hj h=>by
    by_cases e:j=k
    ·subst e;first|exact fun h'=>p48 h'.2|exact fun h'=>p43 h'.1
    exact he j hj (by omega)⟩
   first|omega|(dsimp only;omega)
  intro h27
  try have p27:=dF h27
  refine c_exit ?_;refine K10 _ _ ?_;clear K10;refine kP H (SR fun _ K18=>Ra rfl (Kz K18 ?_));clear H K18;intro a H;refine lr H Tryz.results141 rfl ?_
  exact H.hp.ret ⟨congrArg vi (by rw [hE,whenE,if_pos (decide_eq_true ⟨p12,sty_no (by rw [hkd];split <;> decide) fun j hj=>he j hj (by omega)⟩)]),rfl⟩
 intro h14
 try have p14:=dF h14
 refine kP H (SR fun _ K19=>Rc rfl (Ra rfl (Kz K19 ?_)));clear H K19;intro a H;refine c_cond H rfl ?_ ?_
 ·intro h49
  try have p49:=dT h49
  refine kP H (SQ fun _ K20=>SR fun _ K21=>Ra rfl (Kz K21 (SB ?_)));clear H K21;intro a H;skip;refine c_loopS (ι:=Nat) (Tc:=[(0,_),(2,_)]) (Lc:=[]) (fun (gh:Nat)=>[(10,vi gh)]) (fun (gh:Nat)=>[]) (fun (gh:Nat)=>G) (fun (gh:Nat)=>gh≤li.length∧x∉(li.map LiD.id).take gh) (fun (gh:Nat)=>li.length - gh) (0) (by exact (H).sub ⟨rfl,rfl,rfl,trivial⟩) ?_ ?_
  ·exact ⟨Nat.zero_le _,by simp⟩
  clear H;intro gh a w hI H;obtain ⟨k,hgh⟩:∃ x,x=gh:=⟨_,rfl⟩;subst hgh;obtain ⟨hk,he⟩:=hI;dsimp only [List.cons_append,List.nil_append,List.append_nil] at H;refine kP H (SQ fun _ K22=>SR fun _ K23=>Rm rfl (Rm rfl (Rk rfl (Rf fd143_0mck rfl (Rf fd50_3nck rfl (Rf fd46_1dsv rfl (Rg ty42dst rfl hc8 (Rl un42dst rfl (Rc rfl (Kz K23 ?_))))))))));clear H K23;intro a H;refine c_cond H rfl ?_ ?_
  ·intro h59
   try have p59:=dT h59
   have hk2:k < li.length:=by omega
   obtain ⟨b',o,B',d',rfl,hrow,-⟩:=li_at hli hk2;have hcell:=hrow 0 _ rfl;refine kP H (Kc K22 (SQ fun _ K24=>SB (SR fun _ K25=>Rm rfl (Rk rfl (Rf fd143_0mck rfl (Rf fd50_3nck rfl (Rf fd46_1dsv rfl (Rg ty42dst rfl hc8 (Rm rfl (Ri un42dst ty105dst rfl rfl (Rf fd105_0dst rfl (Rg ty3run rfl (by assumption) ?_))))))))))));clear H K22;intro a H;refine kH H (Rm rfl (Rc rfl (Kz K25 ?_)));clear H K25;intro a H;refine c_cond H rfl ?_ ?_
   ·intro h73
    try have p73:=dT h73
    refine kP H (SR fun _ K26=>Ra rfl (Kz K26 ?_));clear H K26;intro a H;refine lr H Tryz.results141 rfl ?_;exact H.hp.ret ⟨congrArg vi (by rw [refE,if_neg (by omega),if_pos p49,whenE,if_neg (by simpa using fun _=>⟨_,List.getElem_mem hk2,p73⟩)]),rfl⟩
   intro h73
   try have p73:=dF h73
   refine kP H (Kc K24 (SC (Rm rfl (Rd rfl (Ra rfl ?_)))));clear H K24;intro a H;refine wl_nil ?_;refine loop_end ((k+1)) (by exact (H).sub ⟨rfl,rfl,rfl,trivial⟩) ?_ ?_
   ·exact ⟨by omega,mem_step (l:=li.map LiD.id) (by simpa using hk2) he (by simpa using p73)⟩
   first|omega|(dsimp only;omega)
  intro h59
  try have p59:=dF h59
  refine c_exit ?_;refine K20 _ _ ?_;clear K20;refine kP H (SR fun _ K27=>Ra rfl (Kz K27 ?_));clear H K27;intro a H;refine lr H Tryz.results141 rfl ?_;exact H.hp.ret ⟨congrArg vi (by rw [refE,if_neg (by omega),if_pos p49,whenE,if_pos (decide_eq_true ⟨p12,mem_no (by simp;omega) he⟩)]),rfl⟩
 intro h49
 try have p49:=dF h49
 refine kP H (Kc K5 (SR fun _ K28=>Ra rfl (Kz K28 ?_)));clear H K5 K28;intro a H;refine lr H Tryz.results141 rfl ?_;exact H.hp.ret ⟨congrArg vi (by rw [refE,if_neg (by omega),if_neg p49]),rfl⟩
end
section
open Go.RowKit
theorem en200mid:∀ args w,(callFunc 200 args).run Tryz.prog w=.ok (.enter 200 args) w:=enters Tryz.func200 rfl (by kernel_rfl)
theorem fd143_2mid:Fld Tryz.prog 143 2 12:=⟨by kernel_rfl⟩
theorem ty38mid:Ty Tryz.prog 38 1 24 [.slice none 0 0] false:=⟨by kernel_rfl,by kernel_rfl⟩
theorem fd143_1mid:Fld Tryz.prog 143 1 11:=⟨by kernel_rfl⟩
/-- The ids that a model checker has noted, in a row of its own behind others. -/
def IdsT (v:Value) (bef:List Int) (L L0:OL):Prop:=∃ Lo,L=L0++Lo∧IsRow 3 1 v bef.length (bef.map vi) Lo
theorem hasL_spec (G:GH) (Lo:OL) (w0:World) (l:List Int) (v:Value) (hr:IsRow 3 1 v l.length (l.map vi) Lo) (hO:Owns G Lo w0) (x:Int) :
  Calls Tryz.prog 200 #[v,vi x] w0 (RetL w0 G Lo fun u G' L'=>G=G'∧L'=Lo∧u=.bool (decide (x∈l))):=by
 rcases hr.2 with ⟨rfl,hn,rfl⟩|⟨b,cap,cur,rfl,rfl,h1,h2,h3,h4⟩
 ·obtain rfl:l=[]:=List.length_eq_zero_iff.1 hn;refine (has_spec G w0 hO.ro [] _ (RepV.nil_ rfl (by decide)) x).mono fun _ _ h=>?_;obtain ⟨u,G',L',rfl,hc,rfl,rfl,rfl⟩:=Hp.ret_retL hO.ro h;exact ⟨_,_,_,rfl,hc,rfl,rfl,rfl⟩
 have hm:=GH.add_mono G (o:=.cells cur 3 (0,0)) (hO.sep _ List.mem_cons_self);exact (has_spec (G.add b (.cells cur 3 (0,0))) w0 hO.add l _ (RepV.of_row (GH.add_self _ _ _) (by simp) h1 h2 h4 (ints_cat _ l)) x).mono fun _ _=>ret_lend (b:=b) (R':=fun u=>u=.bool (decide (x∈l))) hO fun _ _ h=>h.1
theorem mId_spec (G:GH) (L L0:OL) (w0:World) (D:DocV) (b:Nat) (v:Value) (s:CS) (x:Int) (hi:IdsT v s.bef L L0) (hO:Owns G (mkB D b v s.n :: L) w0) (hn:s.bef.length < 1099511627776) :
  Calls Tryz.prog 144 #[.pointer (some ⟨b,0,none⟩),vi x] w0 (RetL w0 G (mkB D b v s.n :: L) fun u G' L'=>G=G'∧∃ v' L1,u=vi (idC s x).1∧L'=mkB D b v' s.n :: L1∧IdsT v' (idC s x).2.bef L1 L0):=by
 obtain ⟨Lo,rfl,hr⟩:=hi;obtain ⟨vA,vc,rfl,-,-⟩:=hr.shape;obtain ⟨n,bef⟩:=s;dsimp only at hr hO hn ⊢;have hml:maxLen=9223372036854775807:=rfl;refine enterL (N:=37) (T:=[(0,_),(1,_)]) Tryz.func144 rfl Tryz.ntmps144 rfl rfl hO ?_;intro a H;refine kP H (SR fun _ K1=>Ra rfl (Kz K1 (SQ fun _ K2=>SB (SR fun _ K3=>Rm rfl (Rc rfl (Rm rfl ?_))))));clear H K1;intro a H;refine s_split H 8 rfl ?_ ?_
 ·intro h8
  try have p8:=dT h8
  refine kH H (Ks h8 rfl (Ks h8 rfl (Pt h8 rfl (Rm rfl (Ks rfl rfl (Ks rfl rfl (Ks rfl rfl (Ks rfl rfl (Ks rfl rfl (Ks rfl rfl (Pt rfl rfl (Ra rfl (Kz K3 ?_)))))))))))));clear H K3;intro a H;refine c_cond_t H rfl rfl ?_;refine kP H (SR fun _ K4=>Ra rfl (Kz K4 ?_));clear H K4;intro a H;refine lr H Tryz.results144 rfl ?_
  have e:idE bef x=18:=by rw [idE,if_pos (by omega)]
  exact H.hp.retL ⟨rfl,_,_,congrArg vi e.symm,rfl,by show IdsT _ (idB bef x) _ _;rw [idB,if_neg (by rw [e];decide)];exact ⟨Lo,rfl,hr⟩⟩
 intro h8
 try have p8:=dF h8
 refine kH H (YM h8 rfl (YC h8 rfl (Pf h8 rfl (Rm rfl ?_))));clear H;intro a H;refine s_split H 12 rfl ?_ ?_
 ·intro h12
  try have p12:=dT h12
  refine kH H (Ks h12 rfl (Ks h12 rfl (Ks h12 rfl (Ks h12 rfl (Ks h12 rfl (Ks h12 rfl (Pt h12 rfl (Ra rfl (Kz K3 ?_)))))))));clear H K3;intro a H;refine c_cond_t H rfl rfl ?_;refine kP H (SR fun _ K5=>Ra rfl (Kz K5 ?_));clear H K5;intro a H;refine lr H Tryz.results144 rfl ?_
  have e:idE bef x=18:=by rw [idE,if_pos (by omega)]
  exact H.hp.retL ⟨rfl,_,_,congrArg vi e.symm,rfl,by show IdsT _ (idB bef x) _ _;rw [idB,if_neg (by rw [e];decide)];exact ⟨Lo,rfl,hr⟩⟩
 intro h12
 try have p12:=dF h12
 refine kH H (YM h12 rfl ?_);clear H;intro a H;refine s_nilCheck H (wg H rfl rfl h12) rfl rfl ?_;clear H;intro a H;refine kH H (YF fd143_2mid h12 rfl (YO ty38mid 0 h12 rfl rfl (YM h12 rfl ?_)));clear H;intro a H;refine s_call en200mid H (wg H rfl rfl h12) rfl (has_spec _ _ H.hp.ro [] _ (RepV.nil_ rfl (by decide)) x) rfl ?_;clear H;rintro v18 _ a w ⟨rfl,rfl⟩ - H;refine kH H (Pf h12 rfl (Ra rfl (Kz K3 ?_)));clear H K3;intro a H;refine c_cond H rfl ?_ ?_
 ·intro h5
  try have p5:=dT h5
  refine kP H (SR fun _ K6=>Ra rfl (Kz K6 ?_));clear H K6;intro a H;refine lr H Tryz.results144 rfl ?_;exact absurd p5 (by simp)
 intro h5
 try have p5:=dF h5
 refine kP H (SR fun _ K7=>Rm rfl (Rk rfl (Rf fd143_1mid rfl (Ro ty38mid 0 rfl rfl (Rm rfl ?_)))));clear H;intro a H;refine s_callL en200mid (Li:=_ :: L0) (L:=Lo) H wn rfl (hasL_spec _ _ _ bef _ hr (Hp.owns (Li:=_ :: L0) H.hp) x) rfl ?_;clear H;rintro v26 _ Lo a w ⟨rfl,rfl,rfl⟩ - H;refine kH H (Ra rfl (Kz K7 ?_));clear H K7;intro a H;refine c_cond H rfl ?_ ?_
 ·intro h20
  try have p20:=dT h20
  refine kP H (SR fun _ K8=>Ra rfl (Kz K8 ?_));clear H K8;intro a H;refine lr H Tryz.results144 rfl ?_
  have e:idE bef x=7:=by rw [idE,if_neg (by omega),if_pos p20]
  exact H.hp.retL ⟨rfl,_,_,congrArg vi e.symm,rfl,by show IdsT _ (idB bef x) _ _;rw [idB,if_neg (by rw [e];decide)];exact ⟨Lo,rfl,hr⟩⟩
 intro h20
 try have p20:=dF h20
 refine kP H (Kc K2 (SR fun _ K9=>Rm rfl (Rm rfl (Rk rfl (Rf fd143_1mid rfl (Ro ty38mid 0 rfl rfl (Rm rfl ?_)))))));clear H K2;intro a H;refine s_buildSlice un38l14c ty3run [_] [_] H wn rfl rfl rfl rfl rfl (by intro i q h;match i,h with|0,h=>exact h|n+1,h=>simp at h) rfl rfl ?_;clear H;intro b33 a w hb33 H;refine s_append (Li:=_ :: _ :: L0) (Lo:=Lo) (news:=[vi x]) un38l14c ty3run rfl rfl H wn rfl rfl hr rfl (H.hp.ocells 0 rfl rfl) rfl (by omega) (by omega) rfl ?_;clear H;intro v34 Lo34 a w hr34 H;obtain ⟨A34,c34,rfl,-,-⟩:=hr34.shape;refine kH H (Rk rfl (Rf fd143_1mid rfl ?_));clear H;intro a H;refine s_store ty38mid 1 (vs:=[_]) _ H wn rfl rfl rfl rfl rfl rfl rfl rfl ?_;clear H;intro w H;dsimp only [List.set,setRow] at H;refine K9 _ _ ?_;clear K9;refine kP H (SR fun _ K10=>Ra rfl (Kz K10 ?_));clear H K10;intro a H;refine lr H Tryz.results144 rfl ?_
 have e:idE bef x=0:=by rw [idE,if_neg (by omega),if_neg p20]
 exact H.hp.retD (L':=mkB D b _ n :: (L0++Lo34)) (by repeat (first|exact List.Sublist.refl _|apply List.Sublist.cons|apply List.Sublist.cons₂)) ⟨rfl,_,_,congrArg vi e.symm,rfl,by show IdsT _ (idB bef x) _ _;rw [idB,if_pos e];exact ⟨Lo34,rfl,by simpa using hr34⟩⟩
end
section
open Go.RowKit
theorem en141mhd:∀ args w,(callFunc 141 args).run Tryz.prog w=.ok (.enter 141 args) w:=enters Tryz.func141 rfl (by kernel_rfl)
theorem en142mhd:∀ args w,(callFunc 142 args).run Tryz.prog w=.ok (.enter 142 args) w:=enters Tryz.func142 rfl (by kernel_rfl)
set_option maxHeartbeats 8000000 in
theorem mHead_spec (G:GH) (w0:World) (hG:Hold G w0) (D:DocV) (st:List StyleD) (li:List LiD) (rv:List RvD) (b:Nat) (v:Value) (n:Int) (hck:MkG G D st li rv) (hmz:MkZ st li rv) (hb:G b=some (mkB D b v n).2)
  (e:Int) (h:HeadD) (p d l:Value) (hh:HeadR G h p d l) (hz:zHead h≤4294967296) :
  Calls Tryz.prog 67 #[.pointer (some ⟨b,0,none⟩),vi e,hdV h p d l] w0 (Ret w0 G fun u G'=>u=vi (headE (ckP st li rv) e h)):=by
 obtain ⟨pA,pc,rfl,-,-,-⟩:=hh.props.slice;obtain ⟨dA,dc,rfl,-,-,-⟩:=hh.dels.slice;obtain ⟨lA,lc,rfl,-,-,-⟩:=hh.layers.slice;have hml:maxLen=9223372036854775807:=rfl;have hzz:=zHead_eq h;have hz1:=szRs_length (h.props.map PropD.dat);have hz2:=szRs_length (h.marks.dels.map DelD.dat);have hz3:=szRs_length (h.marks.layers.map LayerD.dat)
 simp only [List.length_map] at hh hz1 hz2 hz3 ⊢
 generalize zHead h=zz at hz hzz
 refine eN [(0,_),(1,_),(2,_)] Tryz.func67 rfl Tryz.ntmps67 rfl rfl hG ?_;intro a H;refine c_seqR (fun _ K1=>?_);refine s_box (cs:=[_,_,_,_,_]) H wn rfl rfl rfl ?_;clear H;intro b5 a w hb5 H;refine kH H (Ra rfl (Kz K1 (SQ fun _ K2=>SQ fun _ K3=>?_)));clear H K1;intro a H;obtain ⟨Ga,hma,hb5',H⟩:=H.giveBox;replace hck:=hck.mono hma;replace hb:=hma _ _ hb;replace hh:=hh.mono hma
 have g50:gcell Ga b5 0=some (.slice pA h.props.length pc):=by unfold gcell;rw [hb5'];rfl
 have g51:∀ (j:Nat) (u:Value),[vi h.marks.ins,vi h.marks.move,.slice dA h.marks.dels.length dc,.slice lA h.marks.layers.length lc][j]?=some u→gcell Ga b5 (1+j)=some u:=by
  intro j u hj
  unfold gcell;rw [hb5']
  match j,hj with
  | 0,hj=>exact hj
  | 1,hj=>exact hj
  | 2,hj=>exact hj
  | 3,hj=>exact hj
  | n+4,hj=>simp at hj
 refine kP H (SC (Rm rfl (Rf fd31_0run rfl (Rg ty25run rfl g50 ?_))));clear H;intro a H;refine s_call en44stz H wn rfl (backR (propCheck_spec _ _ H.hp.ro e h.props _ hh.props)) rfl ?_;clear H;rintro v19 _ a w ⟨⟨_,rfl⟩,rfl⟩ - H;refine kH H (Ra rfl (Kn K3 (SR fun _ K4=>Rm rfl (Rc rfl (Kz K4 ?_)))));clear H K3 K4;intro a H;refine c_cond H rfl ?_ ?_
 ·intro h21
  try have p21:=dT h21
  refine c_seq (fun _ K5=>?_);have hE:=headE_1 (C:=ckP st li rv) (e:=e) (h:=h) p21;refine kP H (SC (Rm rfl (Ra rfl (Kn K5 ?_))));clear H K5;intro a H;refine lr H Tryz.results67 rfl ?_;exact H.hp.ret (by rw [hE])
 intro h21
 try have p21:=dF h21
 have e1:chkPS e h.props=0:=by simpa using p21
 refine kP H (Kc K2 (SQ fun _ K6=>SR fun _ K7=>Ra rfl (Kz K7 (SB ?_))));clear H K2 K7;intro a H;skip;refine c_loopS (ι:=Nat × GH) (Tc:=[(0,_),(1,_),(5,_)]) (Lc:=[]) (fun (gh:Nat × GH)=>[(8,vi gh.1)]) (fun (gh:Nat × GH)=>[]) (fun (gh:Nat × GH)=>gh.2) (fun (gh:Nat × GH)=>gh.1≤h.props.length∧firstE ((h.props.map fun p=>refE st (li.map LiD.id) p.key p.value).drop gh.1)=refsE (ckP st li rv) h.props∧∀ b o,Ga b=some o→gh.2 b=some o) (fun (gh:Nat × GH)=>h.props.length - gh.1) ((0,Ga)) (by exact (H).sub ⟨rfl,rfl,rfl,rfl,trivial⟩) ?_ ?_
 ·exact ⟨Nat.zero_le _,rfl,fun _ _ h=>h⟩
 clear H;intro gh a w hI H;obtain ⟨k,g⟩:=gh;dsimp only at hI H;obtain ⟨hk,heq,hgm⟩:=hI;have g50':=gcell_mono hgm g50;have hh':=hh.mono hgm;dsimp only [List.cons_append,List.nil_append,List.append_nil] at H;refine kP H (SQ fun _ K8=>SR fun _ K9=>Rm rfl (Rf fd31_0run rfl ?_));clear H;intro a H;refine s_load ty25run H wn rfl (H.hp.gcell g50') rfl ?_;clear H;intro a H;refine kH H (Rl un25run rfl (Rc rfl (Kz K9 ?_)));clear H K9;intro a H;refine c_cond H rfl ?_ ?_
 ·intro h27
  try have p27:=dT h27
  have hk2:k < h.props.length:=by omega
  obtain ⟨xb,xo,rfl,hrow⟩:=prop_at hh'.props hk2;have r0:=hrow 0 _ rfl;have r1:=hrow 1 _ rfl;refine kP H (Kc K8 (SQ fun _ K10=>SB (SQ fun _ K11=>?_)));clear H K8;intro a H;refine c_drawI (hmx) [[],[],[1],[],[1,2,3],[1,2,3,4],[1,2,3,4,5],[],[7],[],[7,8,9],[7,8,9,10],[7,8,9,10,11],(List.range 13),(List.range 14)] [14] (by kernel_rfl) (by kernel_rfl) (fun (ix_:Nat) (v:Value) (G:GH)=>match ix_ with|0=>v=.pointer (some ⟨b,0,none⟩)|1=>v=.pointer (some ⟨b5,0,none⟩)|2=>v=.slice (some ⟨xb,xo,none⟩) h.props.length pc|3=>v=vi k|4=>v=.pointer (some ⟨xb,xo+k*2,none⟩)|5=>v=.pointer (some ⟨xb,xo+k*2+0,none⟩)|6=>v=vi h.props[k].key|7=>v=.pointer (some ⟨b5,0,none⟩)|8=>v=.slice (some ⟨xb,xo,none⟩) h.props.length pc|9=>v=vi k|10=>v=.pointer (some ⟨xb,xo+k*2,none⟩)|11=>v=.pointer (some ⟨xb,xo+k*2+1,none⟩)|12=>v=vi h.props[k].value|13=>v=vi (refE st (li.map LiD.id) h.props[k].key h.props[k].value)|_=>True) (fun _ _ _ _ _ h=>h) H ?_ ?_
  ·clear H;refine al4 ?_ ?_ ?_ ?_ (al4 ?_ ?_ ?_ ?_ (al4 ?_ ?_ ?_ ?_ (allI_cons ?_ (allI_cons ?_ (allI_cons ?_ allI_nil)))))
   ·exact Z0 rfl rfl fun _ _ _ _ _=>Rm rfl
   ·exact Z0 rfl rfl fun _ _ _ _ _=>Rf fd31_0run rfl
   ·exact Op1 1 31 rfl rfl fun _ _ _ _ hG _ H fin=>kH H (Rg ty25run rfl (gcell_mono hG g50') fun _ H=>fin H iJ rfl)
   ·exact Z0 rfl rfl fun _ _ _ _ _=>Rm rfl
   ·exact Z2 2 32 3 33 rfl rfl fun _ _ _ _ _=>Ri un25run ty40run rfl rfl
   ·exact Z1 4 34 rfl rfl fun _ _ _ _ _=>Rf fd40_0prp rfl
   ·exact Op1 5 35 rfl rfl fun _ _ _ _ hG _ H fin=>kH H (Rg ty3run rfl (gcell_mono hG r0) fun _ H=>fin H iJ rfl)
   ·exact Z0 rfl rfl fun _ _ _ _ _=>Rf fd31_0run rfl
   ·exact Op1 7 37 rfl rfl fun _ _ _ _ hG _ H fin=>kH H (Rg ty25run rfl (gcell_mono hG g50') fun _ H=>fin H iJ rfl)
   ·exact Z0 rfl rfl fun _ _ _ _ _=>Rm rfl
   ·exact Z2 8 38 9 39 rfl rfl fun _ _ _ _ _=>Ri un25run ty40run rfl rfl
   ·exact Z1 10 40 rfl rfl fun _ _ _ _ _=>Rf fd40_1prc rfl
   ·exact Op1 11 41 rfl rfl fun _ _ _ _ hG _ H fin=>kH H (Rg ty3run rfl (gcell_mono hG r1) fun _ H=>fin H iJ rfl)
   ·refine Op3 0 30 6 36 12 42 rfl rfl fun _ a w G1 hG HT H fin=>?_;refine s_call en141mhd H wn rfl (mRefs_spec _ _ H.hp.ro D st li rv b v n ((hck.mono hgm).mono hG) hmz (hG _ _ (hgm _ _ hb)) h.props[k].key h.props[k].value) rfl ?_;clear H;rintro v43 G43 a w ⟨rfl,-⟩ hGm43 H;exact fin H hGm43 (rfl)
   exact opB rfl
  clear H;intro a w G hGm7 H hv;obtain ⟨u43,hu43,hp43⟩:=hv 13 43 (by decide) rfl;obtain rfl:u43=vi (refE st (li.map LiD.id) h.props[k].key h.props[k].value):=hp43;have H:=H.addS hu43;clear hv;refine kH H (Ra rfl ?_);clear H;intro a H;refine wl_nil ⟨rfl,?_⟩;refine K11 _ _ ?_;clear K11;refine kP H (SR fun _ K12=>Rm rfl (Rc rfl (Kz K12 ?_)));clear H K12;intro a H;refine c_cond H rfl ?_ ?_
  ·intro h45
   try have p45:=dT h45
   refine c_seq (fun _ K13=>?_)
   have hr:refsE (ckP st li rv) h.props=refE st (li.map LiD.id) h.props[k].key h.props[k].value:=by rw [← heq];exact (refsE_at (C:=ckP st li rv) hk2).trans (if_pos p45)
   have hE:=(headE_2 (C:=ckP st li rv) (e:=e) (h:=h) e1 (by rw [hr];exact p45)).trans hr;refine kP H (SC (Rm rfl (Ra rfl (Kn K13 ?_))));clear H K13;intro a H;refine lr H Tryz.results67 rfl ?_;exact H.hp.ret (by rw [hE])
  intro h45
  try have p45:=dF h45
  refine kP H (Kc K10 (SC (Rm rfl (Rd rfl (Ra rfl ?_)))));clear H K10;intro a H;refine wl_nil ?_;refine loop_end ((k+1,G)) (by exact (H).sub ⟨rfl,rfl,rfl,rfl,trivial⟩) ?_ ?_
  ·(try dsimp only);exact ⟨by omega,by rw [refsE_at (C:=ckP st li rv) hk2,if_neg (by simpa using p45)] at heq;exact heq,fun b o h=>hGm7 b o (hgm b o h)⟩
  first|omega|(dsimp only;omega)
 intro h27
 try have p27:=dF h27
 refine c_exit ?_;refine K6 _ _ ?_;clear K6;refine c_seq (fun _ K14=>?_)
 have e2:refsE (ckP st li rv) h.props=0:=by rw [← heq,List.drop_of_length_le (by rw [List.length_map];omega)];rfl
 refine kP H (SC (Rf fd31_1run rfl ?_));clear H;intro a H;refine s_loada ty29hea (cs:=[vi h.marks.ins,vi h.marks.move,.slice dA h.marks.dels.length dc,.slice lA h.marks.layers.length lc]) H wn rfl rfl (fun j v hj=>H.hp.gcell (gcell_mono hgm (g51 j v hj))) rfl ?_;clear H;intro a H;refine s_alloc ty29hea H wn rfl ?_;clear H;intro b10 a w hb10 H;refine s_store ty29hea 0 (vs:=[_,_,_,_]) _ H wn rfl rfl rfl rfl rfl rfl rfl rfl ?_;clear H;intro w H;dsimp only [List.set,setRow] at H;obtain ⟨Gb,hmb,hb10',H⟩:=H.giveBox;have hgb:∀ b o,Ga b=some o→Gb b=some o:=fun b o h=>hmb b o (hgm b o h);replace hck:=hck.mono hgb;replace hb:=hgb _ _ hb;replace hh:=hh.mono hgb
 have q0:gcell Gb b10 0=some (vi h.marks.ins):=by unfold gcell;rw [hb10'];rfl
 have q1:gcell Gb b10 1=some (vi h.marks.move):=by unfold gcell;rw [hb10'];rfl
 have q2:gcell Gb b10 2=some (.slice dA h.marks.dels.length dc):=by unfold gcell;rw [hb10'];rfl
 have q3:gcell Gb b10 3=some (.slice lA h.marks.layers.length lc):=by unfold gcell;rw [hb10'];rfl
 refine wl_nil ?_;refine K14 _ _ ?_;clear K14;refine c_seqJ (ι:=Unit) (Tc:=[(0,_),(1,_),(10,_)]) (Lc:=[]) (fun (gh:Unit)=>[]) (fun (gh:Unit)=>[]) (fun (gh:Unit)=>Gb) (fun (gh:Unit)=>mrkE (ckP st li rv) h.marks=0) (by exact (H).sub ⟨rfl,rfl,rfl,trivial⟩) ?_ ?_
 ·skip;refine kP H (SB (SR fun _ K15=>Rf fd29_0ehd rfl (Rg ty3run rfl q0 (Rc rfl (Rm rfl ?_)))));clear H;intro a H;refine s_split H 53 rfl ?_ ?_
  ·intro h53
   try have p53:=dT h53
   refine kH H (YM h53 rfl (YF fd29_0ehd h53 rfl (YR ty3run h53 rfl q0 ?_)));clear H;intro a H;refine s_call en142mhd H (wg H rfl rfl h53) rfl (mRev_spec _ _ H.hp.ro D st li rv b v n hck hmz hb h.marks.ins) rfl ?_;clear H;rintro v57 _ a w ⟨rfl,rfl⟩ - H;refine kH H (YN h53 rfl (Pt h53 rfl (Ra rfl (Kz K15 ?_))));clear H K15;intro a H;refine c_cond H rfl ?_ ?_
   ·intro h49
    try have p49:=dT h49
    refine c_seq (fun _ K16=>?_);have e3:mrkE (ckP st li rv) h.marks=22:=if_pos (by first|(simp_all;done)|exact ⟨p52,by simpa using h49⟩);have hE:=(headE_3 (C:=ckP st li rv) (e:=e) (h:=h) e1 e2 (by rw [e3];decide)).trans e3;refine kP H (SC (Ra rfl (Kn K16 ?_)));clear H K16;intro a H;refine lr H Tryz.results67 rfl ?_;exact H.hp.ret (by rw [hE])
   intro h49
   try have p49:=dF h49
   refine c_seq (fun _ K17=>?_)
   have hno:¬ (h.marks.ins≠0∧h.marks.ins∉(ckP st li rv).rvs):=by first|(simp_all;done)|exact fun h=>p52 h.1
   refine kP H (SC (Rf fd29_1ehd rfl (Rg ty3run rfl q1 (Rc rfl (Rm rfl ?_)))));clear H;intro a H;refine s_split H 64 rfl ?_ ?_
   ·intro h64
    try have p64:=dT h64
    refine kH H (Ks h64 rfl (Ks h64 rfl (Ks h64 rfl (Pt h64 rfl (Rm rfl (Ks rfl rfl (Ks rfl rfl (Ks rfl rfl (Ks rfl rfl (Ku rfl (Ku rfl (Ku rfl (Ks rfl rfl (Pt rfl rfl ?_))))))))))))));clear H;intro a H;refine kH H (Ra rfl (Kn K17 ?_));clear H K17;intro a H;refine c_cond_t H rfl rfl ?_;refine c_seq (fun _ K18=>?_)
    have e3:mrkE (ckP st li rv) h.marks=21:=by unfold mrkE;rw [if_neg hno,if_pos (by first|(simp_all;done)|(simp_all;omega)|omega)]
    have hE:=(headE_3 (C:=ckP st li rv) (e:=e) (h:=h) e1 e2 (by rw [e3];decide)).trans e3;refine kP H (SC (Ra rfl (Kn K18 ?_)));clear H K18;intro a H;refine lr H Tryz.results67 rfl ?_;exact H.hp.ret (by rw [hE])
   intro h64
   try have p64:=dF h64
   refine kH H (YF fd29_1ehd h64 rfl (YR ty3run h64 rfl q1 (YC h64 rfl (Pf h64 rfl (Rm rfl ?_)))));clear H;intro a H;refine s_split H 69 rfl ?_ ?_
   ·intro h69
    try have p69:=dT h69
    refine kH H (Ks h69 rfl (Ks h69 rfl (Ks h69 rfl (Ks h69 rfl (Ku rfl (Ku rfl (Ku rfl (Ks h69 rfl (Pt h69 rfl (Ra rfl (Kn K17 ?_)))))))))));clear H K17;intro a H;refine c_cond_t H rfl rfl ?_;refine c_seq (fun _ K19=>?_)
    have e3:mrkE (ckP st li rv) h.marks=21:=by unfold mrkE;rw [if_neg hno,if_pos (by first|(simp_all;done)|(simp_all;omega)|omega)]
    have hE:=(headE_3 (C:=ckP st li rv) (e:=e) (h:=h) e1 e2 (by rw [e3];decide)).trans e3;refine kP H (SC (Ra rfl (Kn K19 ?_)));clear H K19;intro a H;refine lr H Tryz.results67 rfl ?_;exact H.hp.ret (by rw [hE])
   intro h69
   try have p69:=dF h69
   refine kH H (YF fd29_1ehd h69 rfl (YR ty3run h69 rfl q1 (YC h69 rfl (YM h69 rfl ?_))));clear H;intro a H;refine s_split H 73 rfl ?_ ?_
   ·intro h73
    try have p73:=dT h73
    refine kH H (YF fd29_0ehd h73 rfl (YR ty3run h73 rfl q0 (YC h73 rfl (PT h69 h73 rfl (Pf h69 rfl (Ra rfl (Kn K17 ?_)))))));clear H K17;intro a H;refine c_cond H rfl ?_ ?_
    ·intro h60
     try have p60:=dT h60
     refine c_seq (fun _ K20=>?_)
     have e3:mrkE (ckP st li rv) h.marks=21:=by unfold mrkE;rw [if_neg hno,if_pos (by first|(simp_all;done)|(simp_all;omega)|omega)]
     have hE:=(headE_3 (C:=ckP st li rv) (e:=e) (h:=h) e1 e2 (by rw [e3];decide)).trans e3;refine kP H (SC (Ra rfl (Kn K20 ?_)));clear H K20;intro a H;refine lr H Tryz.results67 rfl ?_;exact H.hp.ret (by rw [hE])
    intro h60
    try have p60:=dF h60
    refine c_seq (fun _ K21=>?_)
    have hn2:¬ (¬ (0≤h.marks.move∧h.marks.move≤1073741824)∨(h.marks.move≠0∧h.marks.ins=0)):=by first|(simp_all;done)|(simp_all;omega)|omega
    refine kP H (SC (Rf fd29_2run rfl (Rg ty26run rfl q2 (Rl un26run rfl (Rc rfl (Ra rfl (Kn K21 ?_)))))));clear H K21;intro a H;refine c_cond H rfl ?_ ?_
    ·intro h79
     try have p79:=dT h79
     refine c_seq (fun _ K22=>?_)
     have e3:mrkE (ckP st li rv) h.marks=9:=by unfold mrkE;rw [if_neg hno,if_neg hn2,if_pos (by simpa using h79)]
     have hE:=(headE_3 (C:=ckP st li rv) (e:=e) (h:=h) e1 e2 (by rw [e3];decide)).trans e3;refine kP H (SC (Ra rfl (Kn K22 ?_)));clear H K22;intro a H;refine lr H Tryz.results67 rfl ?_;exact H.hp.ret (by rw [hE])
    intro h79
    try have p79:=dF h79
    have e3:mrkE (ckP st li rv) h.marks=0:=by unfold mrkE;rw [if_neg hno,if_neg hn2,if_neg (by simpa using h79)]
    refine c_skip ?_;refine ⟨(),by exact (H).sub ⟨rfl,rfl,rfl,trivial⟩,?_⟩;exact e3
   intro h73
   try have p73:=dF h73
   refine kH H (Ks h73 rfl (Ks h73 rfl (Ks h73 rfl (PF h69 h73 rfl (Pf h69 rfl (Ra rfl (Kn K17 ?_)))))));clear H K17;intro a H;refine c_cond_f H rfl rfl ?_;refine c_seq (fun _ K23=>?_)
   have hn2:¬ (¬ (0≤h.marks.move∧h.marks.move≤1073741824)∨(h.marks.move≠0∧h.marks.ins=0)):=by first|(simp_all;done)|(simp_all;omega)|omega
   refine kP H (SC (Rf fd29_2run rfl (Rg ty26run rfl q2 (Rl un26run rfl (Rc rfl (Ra rfl (Kn K23 ?_)))))));clear H K23;intro a H;refine c_cond H rfl ?_ ?_
   ·intro h79
    try have p79:=dT h79
    refine c_seq (fun _ K24=>?_)
    have e3:mrkE (ckP st li rv) h.marks=9:=by unfold mrkE;rw [if_neg hno,if_neg hn2,if_pos (by simpa using h79)]
    have hE:=(headE_3 (C:=ckP st li rv) (e:=e) (h:=h) e1 e2 (by rw [e3];decide)).trans e3;refine kP H (SC (Ra rfl (Kn K24 ?_)));clear H K24;intro a H;refine lr H Tryz.results67 rfl ?_;exact H.hp.ret (by rw [hE])
   intro h79
   try have p79:=dF h79
   have e3:mrkE (ckP st li rv) h.marks=0:=by unfold mrkE;rw [if_neg hno,if_neg hn2,if_neg (by simpa using h79)]
   refine c_skip ?_;refine ⟨(),by exact (H).sub ⟨rfl,rfl,rfl,trivial⟩,?_⟩;exact e3
  intro h53
  try have p53:=dF h53
  refine kH H (Ks h53 rfl (Ks h53 rfl (Ks h53 rfl (Ks h53 rfl (Ks h53 rfl (Pf h53 rfl (Ra rfl (Kz K15 ?_))))))));clear H K15;intro a H;refine c_cond_f H rfl rfl ?_;refine c_seq (fun _ K25=>?_)
  have hno:¬ (h.marks.ins≠0∧h.marks.ins∉(ckP st li rv).rvs):=by first|(simp_all;done)|exact fun h=>p52 h.1
  refine kP H (SC (Rf fd29_1ehd rfl (Rg ty3run rfl q1 (Rc rfl (Rm rfl ?_)))));clear H;intro a H;refine s_split H 64 rfl ?_ ?_
  ·intro h64
   try have p64:=dT h64
   refine kH H (Ks h64 rfl (Ks h64 rfl (Ks h64 rfl (Pt h64 rfl (Rm rfl (Ks rfl rfl (Ks rfl rfl (Ks rfl rfl (Ks rfl rfl (Ku rfl (Ku rfl (Ku rfl (Ks rfl rfl (Pt rfl rfl ?_))))))))))))));clear H;intro a H;refine kH H (Ra rfl (Kn K25 ?_));clear H K25;intro a H;refine c_cond_t H rfl rfl ?_;refine c_seq (fun _ K26=>?_)
   have e3:mrkE (ckP st li rv) h.marks=21:=by unfold mrkE;rw [if_neg hno,if_pos (by first|(simp_all;done)|(simp_all;omega)|omega)]
   have hE:=(headE_3 (C:=ckP st li rv) (e:=e) (h:=h) e1 e2 (by rw [e3];decide)).trans e3;refine kP H (SC (Ra rfl (Kn K26 ?_)));clear H K26;intro a H;refine lr H Tryz.results67 rfl ?_;exact H.hp.ret (by rw [hE])
  intro h64
  try have p64:=dF h64
  refine kH H (YF fd29_1ehd h64 rfl (YR ty3run h64 rfl q1 (YC h64 rfl (Pf h64 rfl (Rm rfl ?_)))));clear H;intro a H;refine s_split H 69 rfl ?_ ?_
  ·intro h69
   try have p69:=dT h69
   refine kH H (Ks h69 rfl (Ks h69 rfl (Ks h69 rfl (Ks h69 rfl (Ku rfl (Ku rfl (Ku rfl (Ks h69 rfl (Pt h69 rfl (Ra rfl (Kn K25 ?_)))))))))));clear H K25;intro a H;refine c_cond_t H rfl rfl ?_;refine c_seq (fun _ K27=>?_)
   have e3:mrkE (ckP st li rv) h.marks=21:=by unfold mrkE;rw [if_neg hno,if_pos (by first|(simp_all;done)|(simp_all;omega)|omega)]
   have hE:=(headE_3 (C:=ckP st li rv) (e:=e) (h:=h) e1 e2 (by rw [e3];decide)).trans e3;refine kP H (SC (Ra rfl (Kn K27 ?_)));clear H K27;intro a H;refine lr H Tryz.results67 rfl ?_;exact H.hp.ret (by rw [hE])
  intro h69
  try have p69:=dF h69
  refine kH H (YF fd29_1ehd h69 rfl (YR ty3run h69 rfl q1 (YC h69 rfl (YM h69 rfl ?_))));clear H;intro a H;refine s_split H 73 rfl ?_ ?_
  ·intro h73
   try have p73:=dT h73
   refine kH H (YF fd29_0ehd h73 rfl (YR ty3run h73 rfl q0 (YC h73 rfl (PT h69 h73 rfl (Pf h69 rfl (Ra rfl (Kn K25 ?_)))))));clear H K25;intro a H;refine c_cond H rfl ?_ ?_
   ·intro h60
    try have p60:=dT h60
    refine c_seq (fun _ K28=>?_)
    have e3:mrkE (ckP st li rv) h.marks=21:=by unfold mrkE;rw [if_neg hno,if_pos (by first|(simp_all;done)|(simp_all;omega)|omega)]
    have hE:=(headE_3 (C:=ckP st li rv) (e:=e) (h:=h) e1 e2 (by rw [e3];decide)).trans e3;refine kP H (SC (Ra rfl (Kn K28 ?_)));clear H K28;intro a H;refine lr H Tryz.results67 rfl ?_;exact H.hp.ret (by rw [hE])
   intro h60
   try have p60:=dF h60
   refine c_seq (fun _ K29=>?_)
   have hn2:¬ (¬ (0≤h.marks.move∧h.marks.move≤1073741824)∨(h.marks.move≠0∧h.marks.ins=0)):=by first|(simp_all;done)|(simp_all;omega)|omega
   refine kP H (SC (Rf fd29_2run rfl (Rg ty26run rfl q2 (Rl un26run rfl (Rc rfl (Ra rfl (Kn K29 ?_)))))));clear H K29;intro a H;refine c_cond H rfl ?_ ?_
   ·intro h79
    try have p79:=dT h79
    refine c_seq (fun _ K30=>?_)
    have e3:mrkE (ckP st li rv) h.marks=9:=by unfold mrkE;rw [if_neg hno,if_neg hn2,if_pos (by simpa using h79)]
    have hE:=(headE_3 (C:=ckP st li rv) (e:=e) (h:=h) e1 e2 (by rw [e3];decide)).trans e3;refine kP H (SC (Ra rfl (Kn K30 ?_)));clear H K30;intro a H;refine lr H Tryz.results67 rfl ?_;exact H.hp.ret (by rw [hE])
   intro h79
   try have p79:=dF h79
   have e3:mrkE (ckP st li rv) h.marks=0:=by unfold mrkE;rw [if_neg hno,if_neg hn2,if_neg (by simpa using h79)]
   refine c_skip ?_;refine ⟨(),by exact (H).sub ⟨rfl,rfl,rfl,trivial⟩,?_⟩;exact e3
  intro h73
  try have p73:=dF h73
  refine kH H (Ks h73 rfl (Ks h73 rfl (Ks h73 rfl (PF h69 h73 rfl (Pf h69 rfl (Ra rfl (Kn K25 ?_)))))));clear H K25;intro a H;refine c_cond_f H rfl rfl ?_;refine c_seq (fun _ K31=>?_)
  have hn2:¬ (¬ (0≤h.marks.move∧h.marks.move≤1073741824)∨(h.marks.move≠0∧h.marks.ins=0)):=by first|(simp_all;done)|(simp_all;omega)|omega
  refine kP H (SC (Rf fd29_2run rfl (Rg ty26run rfl q2 (Rl un26run rfl (Rc rfl (Ra rfl (Kn K31 ?_)))))));clear H K31;intro a H;refine c_cond H rfl ?_ ?_
  ·intro h79
   try have p79:=dT h79
   refine c_seq (fun _ K32=>?_)
   have e3:mrkE (ckP st li rv) h.marks=9:=by unfold mrkE;rw [if_neg hno,if_neg hn2,if_pos (by simpa using h79)]
   have hE:=(headE_3 (C:=ckP st li rv) (e:=e) (h:=h) e1 e2 (by rw [e3];decide)).trans e3;refine kP H (SC (Ra rfl (Kn K32 ?_)));clear H K32;intro a H;refine lr H Tryz.results67 rfl ?_;exact H.hp.ret (by rw [hE])
  intro h79
  try have p79:=dF h79
  have e3:mrkE (ckP st li rv) h.marks=0:=by unfold mrkE;rw [if_neg hno,if_neg hn2,if_neg (by simpa using h79)]
  refine c_skip ?_;refine ⟨(),by exact (H).sub ⟨rfl,rfl,rfl,trivial⟩,?_⟩;exact e3
 clear H;intro gh a w hI H;obtain ⟨un,hgh⟩:∃ x,x=gh:=⟨_,rfl⟩;subst hgh;have e3:=hI;dsimp only [List.cons_append,List.nil_append,List.append_nil] at H;refine kP H (SQ fun _ K33=>SR fun _ K34=>Ra rfl (Kz K34 (SB ?_)));clear H K34;intro a H;skip;refine c_loopS (ι:=Nat × GH) (Tc:=[(0,_),(1,_),(10,_)]) (Lc:=[]) (fun (gh:Nat × GH)=>[(11,vi gh.1)]) (fun (gh:Nat × GH)=>[]) (fun (gh:Nat × GH)=>gh.2) (fun (gh:Nat × GH)=>gh.1≤h.marks.dels.length∧firstE (((List.range h.marks.dels.length).map (delE (ckP st li rv) h.marks.dels)).drop gh.1)=allE (delE (ckP st li rv) h.marks.dels) h.marks.dels.length∧(∀ b o,Gb b=some o→gh.2 b=some o)) (fun (gh:Nat × GH)=>h.marks.dels.length - gh.1) ((0,Gb)) (by exact (H).sub ⟨rfl,rfl,rfl,rfl,trivial⟩) ?_ ?_
 ·exact ⟨Nat.zero_le _,rfl,fun _ _ h=>h⟩
 clear H;intro gh a w hI H;obtain ⟨k,g2⟩:=gh;dsimp only at hI H;obtain ⟨hk,heq,hgm⟩:=hI;have q2':=gcell_mono hgm q2;dsimp only [List.cons_append,List.nil_append,List.append_nil] at H;refine kP H (SQ fun _ K35=>SR fun _ K36=>Rm rfl (Rf fd29_2run rfl ?_));clear H;intro a H;refine s_load ty26run H wn rfl (H.hp.gcell q2') rfl ?_;clear H;intro a H;refine kH H (Rl un26run rfl (Rc rfl (Kz K36 ?_)));clear H K36;intro a H;refine c_cond H rfl ?_ ?_
 ·intro h88
  try have p88:=dT h88
  have hk2:k < h.marks.dels.length:=by omega
  have hd2:=hh.dels.mono hgm;obtain ⟨xb,xo,rfl,hrow⟩:=del_at hd2 hk2
  have hk1:k - 1 < h.marks.dels.length:=by omega
  obtain ⟨b',o',he',hrow'⟩:=del_at hd2 hk1
  injection he' with he'
  injection he' with e1' e2'
  subst e1';subst e2'
  have hde:delE (ckP st li rv) h.marks.dels k=delE0 (ckP st li rv) k h.marks.dels[k] h.marks.dels[k - 1].rev:=by unfold delE;rw [List.getElem?_eq_getElem hk2,List.getElem?_eq_getElem hk1];rfl
  have hX:∀ v,delE0 (ckP st li rv) k h.marks.dels[k] h.marks.dels[k - 1].rev=v→v≠0→headE (ckP st li rv) e h=v:=fun v h1 h2=>by
   have h4:allE (delE (ckP st li rv) h.marks.dels) h.marks.dels.length=v:=by rw [← heq,allE_at hk2,hde,h1,if_pos h2]
   exact (headE_4 e1 e2 e3 (by rw [h4];exact h2)).trans h4
  have hp:=hrow' 0 _ rfl;have r0:=hrow 0 _ rfl;have r1:=hrow 1 _ rfl;refine c_skip ?_;refine K35 _ _ ?_;clear K35;refine c_seq (fun _ K37=>?_);(iterate 2 refine c_block ?_);refine kP H (SR fun _ K38=>Rm rfl (Rf fd29_2run rfl ?_));clear H;intro a H;refine s_load ty26run H wn rfl (H.hp.gcell q2') rfl ?_;clear H;intro a H;refine kH H (Rm rfl (Ri un26run ty214run rfl rfl (Rf fd214_0hea rfl (Rg ty3run rfl r0 ?_))));clear H;intro a H;refine s_call en142mhd H wn rfl (mRev_spec _ _ H.hp.ro D st li rv b v n (hck.mono hgm) hmz (hgm _ _ hb) h.marks.dels[k].rev) rfl ?_;clear H;rintro v99 _ a w ⟨rfl,rfl⟩ - H;refine kH H (Rn rfl (Ra rfl (Kz K38 ?_)));clear H K38;intro a H;refine c_cond H rfl ?_ ?_
  ·intro h91
   try have p91:=dT h91
   refine c_seq (fun _ K39=>?_);have hE:=hX 22 (by unfold delE0;rw [if_pos (by simpa using h91)]) (by decide);refine kP H (SC (Ra rfl (Kn K39 ?_)));clear H K39;intro a H;refine lr H Tryz.results67 rfl ?_;exact H.hp.ret (by rw [hE])
  intro h91
  try have p91:=dF h91
  have hm91:¬ (h.marks.dels[k].rev∉(ckP st li rv).rvs):=by simpa using h91
  refine c_seq (fun _ K40=>?_)
  by_cases c3:0 < (k:Int)
  ·skip
   by_cases c4:h.marks.dels[k].rev≤h.marks.dels[k - 1].rev
   ·skip;refine c_drawI (hmx) [[],[0],[0,1],[0,1,2],[0,1,2,3],[0,1,2],[0,1,2,3,4,5],(List.range 7),(List.range 8),[0,1,2],[0,1,2,9],[0,1,2],[0,1,2,11],[0,1,2,9,10,11,12],[0,1,2,9,10,11,12,13],[0,1,2,9,10,11,12,13,14],(List.range 16),(List.range 17),(List.range 18)] [18] (by kernel_rfl) (by kernel_rfl) (fun (ix_:Nat) (v:Value) (G:GH)=>match ix_ with|0=>v=vi k|1=>v=.bool (decide (0 < (k:Int)))|2=>v=.bool (decide (0 < (k:Int)))|3=>v=.pointer (some ⟨b10,2,none⟩)|4=>v=.slice (some ⟨xb,xo,none⟩) h.marks.dels.length dc|5=>v=vi k|6=>v=.pointer (some ⟨xb,xo+k*2,none⟩)|7=>v=.pointer (some ⟨xb,xo+k*2+0,none⟩)|8=>v=vi h.marks.dels[k].rev|9=>v=.pointer (some ⟨b10,2,none⟩)|10=>v=.slice (some ⟨xb,xo,none⟩) h.marks.dels.length dc|11=>v=vi k|12=>v=vi ((k - 1:Nat):Int)|13=>v=.pointer (some ⟨xb,xo+(k - 1)*2,none⟩)|14=>v=.pointer (some ⟨xb,xo+(k - 1)*2+0,none⟩)|15=>v=vi h.marks.dels[k - 1].rev|16=>v=.bool (decide (h.marks.dels[k].rev≤h.marks.dels[k - 1].rev))|17=>v=.bool (decide (h.marks.dels[k].rev≤h.marks.dels[k - 1].rev))|_=>True) (fun _ _ _ _ _ h=>h) H ?_ ?_
    ·clear H;refine al4 ?_ ?_ ?_ ?_ (al4 ?_ ?_ ?_ ?_ (al4 ?_ ?_ ?_ ?_ (al4 ?_ ?_ ?_ ?_ (allI_cons ?_ (allI_cons ?_ (allI_cons ?_ allI_nil))))))
     ·exact Z0 rfl rfl fun _ _ _ _ _=>Rm rfl
     ·exact Z1 0 102 rfl rfl fun _ _ _ _ _=>Rc rfl
     ·exact Z1 1 103 rfl rfl fun _ _ _ _ _=>Rm rfl
     ·exact Op1 2 104 rfl rfl fun _ _ _ _ hG _ H fin=>kH H (YF fd29_2run (decide_eq_true c3) rfl fun _ H=>fin H iJ rfl)
     ·exact Op2 3 105 2 104 rfl rfl fun _ _ _ _ hG _ H fin=>kH H (YR ty26run (decide_eq_true c3) rfl (gcell_mono hG q2') fun _ H=>fin H iJ rfl)
     ·exact Op1 2 104 rfl rfl fun _ _ _ _ hG _ H fin=>kH H (YM (decide_eq_true c3) rfl fun _ H=>fin H iJ rfl)
     ·exact Op3 4 106 5 107 2 104 rfl rfl fun _ _ _ _ hG _ H fin=>kH H (YI un26run ty214run (decide_eq_true c3) rfl rfl fun _ H=>fin H iJ rfl)
     ·exact Op2 6 108 2 104 rfl rfl fun _ _ _ _ hG _ H fin=>kH H (YF fd214_0hea (decide_eq_true c3) rfl fun _ H=>fin H iJ rfl)
     ·exact Op2 7 109 2 104 rfl rfl fun _ _ _ _ hG _ H fin=>kH H (YR ty3run (decide_eq_true c3) rfl (gcell_mono hG r0) fun _ H=>fin H iJ rfl)
     ·exact Op1 2 104 rfl rfl fun _ _ _ _ hG _ H fin=>kH H (YF fd29_2run (decide_eq_true c3) rfl fun _ H=>fin H iJ rfl)
     ·exact Op2 9 111 2 104 rfl rfl fun _ _ _ _ hG _ H fin=>kH H (YR ty26run (decide_eq_true c3) rfl (gcell_mono hG q2') fun _ H=>fin H iJ rfl)
     ·exact Op1 2 104 rfl rfl fun _ _ _ _ hG _ H fin=>kH H (YM (decide_eq_true c3) rfl fun _ H=>fin H iJ rfl)
     ·refine Op2 11 113 2 104 rfl rfl fun _ a w G1 hG HT H fin=>?_;refine s_sub _ H (wg H rfl rfl (decide_eq_true c3)) rfl rfl rfl (by omega) (by omega) rfl ?_;clear H;intro a H;exact fin H iJ (by first|rfl|exact congrArg vi (by omega))
     ·exact Op3 10 112 12 114 2 104 rfl rfl fun _ _ _ _ hG _ H fin=>kH H (YI un26run ty214run (decide_eq_true c3) rfl rfl fun _ H=>fin H iJ rfl)
     ·exact Op2 13 115 2 104 rfl rfl fun _ _ _ _ hG _ H fin=>kH H (YF fd214_0hea (decide_eq_true c3) rfl fun _ H=>fin H iJ rfl)
     ·exact Op2 14 116 2 104 rfl rfl fun _ _ _ _ hG _ H fin=>kH H (YR ty3run (decide_eq_true c3) rfl (gcell_mono hG hp) fun _ H=>fin H iJ rfl)
     ·exact Op3 8 110 15 117 2 104 rfl rfl fun _ _ _ _ hG _ H fin=>kH H (YC (decide_eq_true c3) rfl fun _ H=>fin H iJ rfl)
     ·exact Op2 2 104 16 118 rfl rfl fun _ _ _ _ hG _ H fin=>kH H (Pt (decide_eq_true c3) rfl fun _ H=>fin H iJ rfl)
     exact opB rfl
    clear H;intro a w G hGm22 H hv;obtain ⟨u119,hu119,hp119⟩:=hv 17 119 (by decide) rfl;obtain rfl:u119=.bool (decide (h.marks.dels[k].rev≤h.marks.dels[k - 1].rev)):=hp119;have H:=H.addS hu119;clear hv;refine kH H (Ra rfl ?_);clear H;intro a H;refine wl_nil ⟨rfl,?_⟩;refine K40 _ _ ?_;clear K40;refine c_cond_t H rfl (decide_eq_true c4) ?_;refine c_seq (fun _ K41=>?_);have hz:0 < k∧h.marks.dels[k].rev≤h.marks.dels[k - 1].rev:=⟨by omega,c4⟩;have hE:=hX 6 (by unfold delE0;rw [if_neg hm91,if_pos hz]) (by decide);refine kP H (SC (Ra rfl (Kn K41 ?_)));clear H K41;intro a H;refine lr H Tryz.results67 rfl ?_;exact H.hp.ret (by rw [hE])
   skip;refine c_drawI (hmx) [[],[0],[0,1],[0,1,2],[0,1,2,3],[0,1,2],[0,1,2,3,4,5],(List.range 7),(List.range 8),[0,1,2],[0,1,2,9],[0,1,2],[0,1,2,11],[0,1,2,9,10,11,12],[0,1,2,9,10,11,12,13],[0,1,2,9,10,11,12,13,14],(List.range 16),(List.range 17),(List.range 18)] [18] (by kernel_rfl) (by kernel_rfl) (fun (ix_:Nat) (v:Value) (G:GH)=>match ix_ with|0=>v=vi k|1=>v=.bool (decide (0 < (k:Int)))|2=>v=.bool (decide (0 < (k:Int)))|3=>v=.pointer (some ⟨b10,2,none⟩)|4=>v=.slice (some ⟨xb,xo,none⟩) h.marks.dels.length dc|5=>v=vi k|6=>v=.pointer (some ⟨xb,xo+k*2,none⟩)|7=>v=.pointer (some ⟨xb,xo+k*2+0,none⟩)|8=>v=vi h.marks.dels[k].rev|9=>v=.pointer (some ⟨b10,2,none⟩)|10=>v=.slice (some ⟨xb,xo,none⟩) h.marks.dels.length dc|11=>v=vi k|12=>v=vi ((k - 1:Nat):Int)|13=>v=.pointer (some ⟨xb,xo+(k - 1)*2,none⟩)|14=>v=.pointer (some ⟨xb,xo+(k - 1)*2+0,none⟩)|15=>v=vi h.marks.dels[k - 1].rev|16=>v=.bool (decide (h.marks.dels[k].rev≤h.marks.dels[k - 1].rev))|17=>v=.bool (decide (h.marks.dels[k].rev≤h.marks.dels[k - 1].rev))|_=>True) (fun _ _ _ _ _ h=>h) H ?_ ?_
   ·clear H;refine al4 ?_ ?_ ?_ ?_ (al4 ?_ ?_ ?_ ?_ (al4 ?_ ?_ ?_ ?_ (al4 ?_ ?_ ?_ ?_ (allI_cons ?_ (allI_cons ?_ (allI_cons ?_ allI_nil))))))
    ·exact Z0 rfl rfl fun _ _ _ _ _=>Rm rfl
    ·exact Z1 0 102 rfl rfl fun _ _ _ _ _=>Rc rfl
    ·exact Z1 1 103 rfl rfl fun _ _ _ _ _=>Rm rfl
    ·exact Op1 2 104 rfl rfl fun _ _ _ _ hG _ H fin=>kH H (YF fd29_2run (decide_eq_true c3) rfl fun _ H=>fin H iJ rfl)
    ·exact Op2 3 105 2 104 rfl rfl fun _ _ _ _ hG _ H fin=>kH H (YR ty26run (decide_eq_true c3) rfl (gcell_mono hG q2') fun _ H=>fin H iJ rfl)
    ·exact Op1 2 104 rfl rfl fun _ _ _ _ hG _ H fin=>kH H (YM (decide_eq_true c3) rfl fun _ H=>fin H iJ rfl)
    ·exact Op3 4 106 5 107 2 104 rfl rfl fun _ _ _ _ hG _ H fin=>kH H (YI un26run ty214run (decide_eq_true c3) rfl rfl fun _ H=>fin H iJ rfl)
    ·exact Op2 6 108 2 104 rfl rfl fun _ _ _ _ hG _ H fin=>kH H (YF fd214_0hea (decide_eq_true c3) rfl fun _ H=>fin H iJ rfl)
    ·exact Op2 7 109 2 104 rfl rfl fun _ _ _ _ hG _ H fin=>kH H (YR ty3run (decide_eq_true c3) rfl (gcell_mono hG r0) fun _ H=>fin H iJ rfl)
    ·exact Op1 2 104 rfl rfl fun _ _ _ _ hG _ H fin=>kH H (YF fd29_2run (decide_eq_true c3) rfl fun _ H=>fin H iJ rfl)
    ·exact Op2 9 111 2 104 rfl rfl fun _ _ _ _ hG _ H fin=>kH H (YR ty26run (decide_eq_true c3) rfl (gcell_mono hG q2') fun _ H=>fin H iJ rfl)
    ·exact Op1 2 104 rfl rfl fun _ _ _ _ hG _ H fin=>kH H (YM (decide_eq_true c3) rfl fun _ H=>fin H iJ rfl)
    ·refine Op2 11 113 2 104 rfl rfl fun _ a w G1 hG HT H fin=>?_;refine s_sub _ H (wg H rfl rfl (decide_eq_true c3)) rfl rfl rfl (by omega) (by omega) rfl ?_;clear H;intro a H;exact fin H iJ (by first|rfl|exact congrArg vi (by omega))
    ·exact Op3 10 112 12 114 2 104 rfl rfl fun _ _ _ _ hG _ H fin=>kH H (YI un26run ty214run (decide_eq_true c3) rfl rfl fun _ H=>fin H iJ rfl)
    ·exact Op2 13 115 2 104 rfl rfl fun _ _ _ _ hG _ H fin=>kH H (YF fd214_0hea (decide_eq_true c3) rfl fun _ H=>fin H iJ rfl)
    ·exact Op2 14 116 2 104 rfl rfl fun _ _ _ _ hG _ H fin=>kH H (YR ty3run (decide_eq_true c3) rfl (gcell_mono hG hp) fun _ H=>fin H iJ rfl)
    ·exact Op3 8 110 15 117 2 104 rfl rfl fun _ _ _ _ hG _ H fin=>kH H (YC (decide_eq_true c3) rfl fun _ H=>fin H iJ rfl)
    ·exact Op2 2 104 16 118 rfl rfl fun _ _ _ _ hG _ H fin=>kH H (Pt (decide_eq_true c3) rfl fun _ H=>fin H iJ rfl)
    exact opB rfl
   clear H;intro a w G hGm22 H hv;obtain ⟨u119,hu119,hp119⟩:=hv 17 119 (by decide) rfl;obtain rfl:u119=.bool (decide (h.marks.dels[k].rev≤h.marks.dels[k - 1].rev)):=hp119;have H:=H.addS hu119;clear hv;refine kH H (Ra rfl ?_);clear H;intro a H;refine wl_nil ⟨rfl,?_⟩;refine K40 _ _ ?_;clear K40;refine c_cond_f H rfl (decide_eq_false c4) ?_;refine c_seq (fun _ K42=>?_)
   have hz:¬ (0 < k∧h.marks.dels[k].rev≤h.marks.dels[k - 1].rev):=by first|exact fun h=>c4 h.2|exact fun h=>c3 (by omega)
   replace q2':=gcell_mono hGm22 q2';replace r1:=gcell_mono hGm22 r1;refine kP H (SC (Rf fd29_2run rfl ?_));clear H;intro a H;refine s_load ty26run H wn rfl (H.hp.gcell q2') rfl ?_;clear H;intro a H;refine kH H (Rm rfl (Ri un26run ty214run rfl rfl (Rf fd214_1hea rfl (Rg ty3run rfl r1 (Rc rfl (Rm rfl ?_))))));clear H;intro a H;refine s_split H 128 rfl ?_ ?_
   ·intro h128
    try have p128:=dT h128
    refine kH H (Ks h128 rfl (Ks h128 rfl (Ks h128 rfl (Ks h128 rfl (Ks h128 rfl (Ks h128 rfl (Ks h128 rfl (Pt h128 rfl (Ra rfl (Kn K42 ?_))))))))));clear H K42;intro a H;refine c_cond_t H rfl rfl ?_;refine c_seq (fun _ K43=>?_);have hE:=hX 21 (by unfold delE0;rw [if_neg hm91,if_neg hz,if_pos (by first|omega|(simp_all;omega))]) (by decide);refine kP H (SC (Ra rfl (Kn K43 ?_)));clear H K43;intro a H;refine lr H Tryz.results67 rfl ?_;exact H.hp.ret (by rw [hE])
   intro h128
   try have p128:=dF h128
   refine kH H (YF fd29_2run h128 rfl ?_);clear H;intro a H;refine s_load ty26run H (wg H rfl rfl h128) rfl (H.hp.gcell q2') rfl ?_;clear H;intro a H;refine kH H (YM h128 rfl (YI un26run ty214run h128 rfl rfl (YF fd214_1hea h128 rfl (YR ty3run h128 rfl r1 (YC h128 rfl (Pf h128 rfl (Ra rfl (Kn K42 ?_))))))));clear H K42;intro a H;refine c_cond H rfl ?_ ?_
   ·intro h120
    try have p120:=dT h120
    refine c_seq (fun _ K44=>?_);have hE:=hX 21 (by unfold delE0;rw [if_neg hm91,if_neg hz,if_pos (by first|omega|(simp_all;omega))]) (by decide);refine kP H (SC (Ra rfl (Kn K44 ?_)));clear H K44;intro a H;refine lr H Tryz.results67 rfl ?_;exact H.hp.ret (by rw [hE])
   intro h120
   try have p120:=dF h120
   have hde0:delE0 (ckP st li rv) k h.marks.dels[k] h.marks.dels[k - 1].rev=0:=by unfold delE0;rw [if_neg hm91,if_neg hz,if_neg (by first|omega|(simp_all;omega))]
   refine kP H (Kc K37 (SC (Rm rfl (Rd rfl (Ra rfl ?_)))));clear H K37;intro a H;refine wl_nil ?_;refine loop_end ((k+1,G)) (by exact (H).sub ⟨rfl,rfl,rfl,rfl,trivial⟩) ?_ ?_
   ·(try dsimp only);exact ⟨by omega,by rw [allE_at hk2,if_neg (by rw [hde];simpa using hde0)] at heq;exact heq,fun b o h=>hGm22 b o (hgm b o h)⟩
   first|omega|(dsimp only;omega)
  skip;refine c_drawI (hmx) [[],[0],[0,1],[0,1,2],[0,1,2,3],[0,1,2],[0,1,2,3,4,5],(List.range 7),(List.range 8),[0,1,2],[0,1,2,9],[0,1,2],[0,1,2,11],[0,1,2,9,10,11,12],[0,1,2,9,10,11,12,13],[0,1,2,9,10,11,12,13,14],(List.range 16),(List.range 17),(List.range 18)] [18] (by kernel_rfl) (by kernel_rfl) (fun (ix_:Nat) (v:Value) (G:GH)=>match ix_ with|0=>v=vi k|1=>v=.bool (decide (0 < (k:Int)))|2=>v=.bool (decide (0 < (k:Int)))|3=>v=undef|4=>v=undef|5=>v=undef|6=>v=undef|7=>v=undef|8=>v=undef|9=>v=undef|10=>v=undef|11=>v=undef|12=>v=undef|13=>v=undef|14=>v=undef|15=>v=undef|16=>v=undef|17=>v=.bool false|_=>True) (fun _ _ _ _ _ h=>h) H ?_ ?_
  ·clear H;refine al4 ?_ ?_ ?_ ?_ (al4 ?_ ?_ ?_ ?_ (al4 ?_ ?_ ?_ ?_ (al4 ?_ ?_ ?_ ?_ (allI_cons ?_ (allI_cons ?_ (allI_cons ?_ allI_nil))))))
   ·exact Z0 rfl rfl fun _ _ _ _ _=>Rm rfl
   ·exact Z1 0 102 rfl rfl fun _ _ _ _ _=>Rc rfl
   ·exact Z1 1 103 rfl rfl fun _ _ _ _ _=>Rm rfl
   ·exact skI 2 (decide_eq_false c3) rfl rfl
   ·exact skI 2 (decide_eq_false c3) rfl rfl
   ·exact skI 2 (decide_eq_false c3) rfl rfl
   ·exact skI 2 (decide_eq_false c3) rfl rfl
   ·exact skI 2 (decide_eq_false c3) rfl rfl
   ·exact skI 2 (decide_eq_false c3) rfl rfl
   ·exact skI 2 (decide_eq_false c3) rfl rfl
   ·exact skI 2 (decide_eq_false c3) rfl rfl
   ·exact skI 2 (decide_eq_false c3) rfl rfl
   ·exact skI 2 (decide_eq_false c3) rfl rfl
   ·exact skI 2 (decide_eq_false c3) rfl rfl
   ·exact skI 2 (decide_eq_false c3) rfl rfl
   ·exact skI 2 (decide_eq_false c3) rfl rfl
   ·exact skI 2 (decide_eq_false c3) rfl rfl
   ·exact Op2 2 104 16 118 rfl rfl fun _ _ _ _ hG _ H fin=>kH H (Pf (decide_eq_false c3) rfl fun _ H=>fin H iJ rfl)
   exact opB rfl
  clear H;intro a w G hGm22 H hv;obtain ⟨u119,hu119,hp119⟩:=hv 17 119 (by decide) rfl;obtain rfl:u119=.bool false:=hp119;have H:=H.addS hu119;clear hv;refine kH H (Ra rfl ?_);clear H;intro a H;refine wl_nil ⟨rfl,?_⟩;refine K40 _ _ ?_;clear K40;refine c_cond_f H rfl rfl ?_;refine c_seq (fun _ K45=>?_)
  have hz:¬ (0 < k∧h.marks.dels[k].rev≤h.marks.dels[k - 1].rev):=by first|exact fun h=>c4 h.2|exact fun h=>c3 (by omega)
  replace q2':=gcell_mono hGm22 q2';replace r1:=gcell_mono hGm22 r1;refine kP H (SC (Rf fd29_2run rfl ?_));clear H;intro a H;refine s_load ty26run H wn rfl (H.hp.gcell q2') rfl ?_;clear H;intro a H;refine kH H (Rm rfl (Ri un26run ty214run rfl rfl (Rf fd214_1hea rfl (Rg ty3run rfl r1 (Rc rfl (Rm rfl ?_))))));clear H;intro a H;refine s_split H 128 rfl ?_ ?_
  ·intro h128
   try have p128:=dT h128
   refine kH H (Ks h128 rfl (Ks h128 rfl (Ks h128 rfl (Ks h128 rfl (Ks h128 rfl (Ks h128 rfl (Ks h128 rfl (Pt h128 rfl (Ra rfl (Kn K45 ?_))))))))));clear H K45;intro a H;refine c_cond_t H rfl rfl ?_;refine c_seq (fun _ K46=>?_);have hE:=hX 21 (by unfold delE0;rw [if_neg hm91,if_neg hz,if_pos (by first|omega|(simp_all;omega))]) (by decide);refine kP H (SC (Ra rfl (Kn K46 ?_)));clear H K46;intro a H;refine lr H Tryz.results67 rfl ?_;exact H.hp.ret (by rw [hE])
  intro h128
  try have p128:=dF h128
  refine kH H (YF fd29_2run h128 rfl ?_);clear H;intro a H;refine s_load ty26run H (wg H rfl rfl h128) rfl (H.hp.gcell q2') rfl ?_;clear H;intro a H;refine kH H (YM h128 rfl (YI un26run ty214run h128 rfl rfl (YF fd214_1hea h128 rfl (YR ty3run h128 rfl r1 (YC h128 rfl (Pf h128 rfl (Ra rfl (Kn K45 ?_))))))));clear H K45;intro a H;refine c_cond H rfl ?_ ?_
  ·intro h120
   try have p120:=dT h120
   refine c_seq (fun _ K47=>?_);have hE:=hX 21 (by unfold delE0;rw [if_neg hm91,if_neg hz,if_pos (by first|omega|(simp_all;omega))]) (by decide);refine kP H (SC (Ra rfl (Kn K47 ?_)));clear H K47;intro a H;refine lr H Tryz.results67 rfl ?_;exact H.hp.ret (by rw [hE])
  intro h120
  try have p120:=dF h120
  have hde0:delE0 (ckP st li rv) k h.marks.dels[k] h.marks.dels[k - 1].rev=0:=by unfold delE0;rw [if_neg hm91,if_neg hz,if_neg (by first|omega|(simp_all;omega))]
  refine kP H (Kc K37 (SC (Rm rfl (Rd rfl (Ra rfl ?_)))));clear H K37;intro a H;refine wl_nil ?_;refine loop_end ((k+1,G)) (by exact (H).sub ⟨rfl,rfl,rfl,rfl,trivial⟩) ?_ ?_
  ·(try dsimp only);exact ⟨by omega,by rw [allE_at hk2,if_neg (by rw [hde];simpa using hde0)] at heq;exact heq,fun b o h=>hGm22 b o (hgm b o h)⟩
  first|omega|(dsimp only;omega)
 intro h88
 try have p88:=dF h88
 refine c_exit ?_;refine K33 _ _ ?_;clear K33;refine c_seq (fun _ K48=>?_);refine c_seq (fun _ K49=>?_)
 have e4:allE (delE (ckP st li rv) h.marks.dels) h.marks.dels.length=0:=by rw [← heq,List.drop_of_length_le (by simp;omega)];rfl
 replace hck:=hck.mono hgm;replace hb:=hgm _ _ hb;replace hh:=hh.mono hgm;replace q3:=gcell_mono hgm q3;refine kP H (SC (Rf fd29_3run rfl (Rg ty27run rfl q3 (Rl un27run rfl (Rc rfl (Kn K49 ?_))))));clear H K49;intro a H;refine c_cond H rfl ?_ ?_
 ·intro h140
  try have p140:=dT h140
  refine c_seq (fun _ K50=>?_);have hE:=headE_5 (C:=ckP st li rv) (e:=e) (h:=h) e1 e2 e3 e4 p140;refine kP H (SC (Ra rfl (Kn K50 ?_)));clear H K50;intro a H;refine lr H Tryz.results67 rfl ?_;exact H.hp.ret (by rw [hE])
 intro h140
 try have p140:=dF h140
 refine kP H (Kc K48 (SQ fun _ K51=>SQ fun _ K52=>?_));clear H K48;intro a H;have hE:=headE_6 (C:=ckP st li rv) (e:=e) (h:=h) e1 e2 e3 e4 p140;refine kP H (SC (Ra rfl (Kn K52 (SB ?_))));clear H K52;intro a H;skip;refine c_loopS (ι:=Nat × GH) (Tc:=[(0,_),(1,_),(10,_)]) (Lc:=[]) (fun (gh:Nat × GH)=>[(12,vi gh.1)]) (fun (gh:Nat × GH)=>[]) (fun (gh:Nat × GH)=>gh.2) (fun (gh:Nat × GH)=>gh.1≤h.marks.layers.length∧firstE (((List.range h.marks.layers.length).map (layE (ckP st li rv) e h.marks.layers)).drop gh.1)=allE (layE (ckP st li rv) e h.marks.layers) h.marks.layers.length∧(∀ b o,g2 b=some o→gh.2 b=some o)) (fun (gh:Nat × GH)=>h.marks.layers.length - gh.1) ((0,g2)) (by exact (H).sub ⟨rfl,rfl,rfl,rfl,trivial⟩) ?_ ?_
 ·exact ⟨Nat.zero_le _,rfl,fun _ _ h=>h⟩
 clear H;intro gh a w hI H;obtain ⟨k,g3⟩:=gh;dsimp only at hI H;obtain ⟨hk,heq3,hgm3⟩:=hI;have q3':=gcell_mono hgm3 q3;dsimp only [List.cons_append,List.nil_append,List.append_nil] at H;refine kP H (SQ fun _ K53=>SR fun _ K54=>Rm rfl (Rf fd29_3run rfl ?_));clear H;intro a H;refine s_load ty27run H wn rfl (H.hp.gcell q3') rfl ?_;clear H;intro a H;refine kH H (Rl un27run rfl (Rc rfl (Kz K54 ?_)));clear H K54;intro a H;refine c_cond H rfl ?_ ?_
 ·intro h145
  try have p145:=dT h145
  have hk2:k < h.marks.layers.length:=by omega
  have hl2:=hh.layers.mono hgm3;obtain ⟨xb,xo,rfl,hrow⟩:=layer_at hl2 hk2
  have hk1:k - 1 < h.marks.layers.length:=by omega
  obtain ⟨b',o',he',hrow'⟩:=layer_at hl2 hk1
  injection he' with he'
  injection he' with e1' e2'
  subst e1';subst e2'
  have hly:layE (ckP st li rv) e h.marks.layers k=layE0 (ckP st li rv) e k h.marks.layers[k] h.marks.layers[k - 1].key:=by unfold layE;rw [List.getElem?_eq_getElem hk2,List.getElem?_eq_getElem hk1];rfl
  have hX:∀ v,layE0 (ckP st li rv) e k h.marks.layers[k] h.marks.layers[k - 1].key=v→v≠0→headE (ckP st li rv) e h=v:=fun v h1 h2=>by rw [hE,← heq3,allE_at hk2,hly,h1,if_pos h2]
  have hp:=hrow' 1 _ rfl;refine kP H (Kc K53 (SQ fun _ K55=>SB (SR fun _ K56=>Rf fd29_3run rfl ?_)));clear H K53;intro a H;refine s_load ty27run H wn rfl (H.hp.gcell q3') rfl ?_;clear H;intro a H;refine kH H (Rm rfl (Ri un27run ty217run rfl rfl ?_));clear H;intro a H;refine s_loada ty217run (cs:=h.marks.layers[k].cells) H wn rfl rfl (fun j v hj=>H.hp.gcell (hrow j v hj)) rfl ?_;clear H;intro a H;refine s_alloc ty217run H wn rfl ?_;clear H;intro b13 a w hb13 H;refine s_store ty217run 0 (vs:=[_,_,_,_]) _ H wn rfl rfl rfl rfl rfl rfl rfl rfl ?_;clear H;intro w H;dsimp only [List.set,setRow] at H;obtain ⟨Gc,hmc,hb13',H⟩:=H.giveBox;have hgc:∀ b o,g2 b=some o→Gc b=some o:=fun b o h=>hmc b o (hgm3 b o h);replace hp:=gcell_mono hmc hp;replace q3':=gcell_mono hmc q3'
  have y0:gcell Gc b13 0=some (vi h.marks.layers[k].rev):=by unfold gcell;rw [hb13'];rfl
  have y1:gcell Gc b13 1=some (vi h.marks.layers[k].key):=by unfold gcell;rw [hb13'];rfl
  have y2:gcell Gc b13 2=some (vi h.marks.layers[k].before):=by unfold gcell;rw [hb13'];rfl
  have y3:gcell Gc b13 3=some (.bool h.marks.layers[k].had):=by unfold gcell;rw [hb13'];rfl
  refine K56 _ _ ?_;clear K56;refine kP H (SQ fun _ K57=>SB (SR fun _ K58=>Rm rfl (Rf fd217_0hdr rfl (Rg ty3run rfl y0 ?_))));clear H;intro a H;refine s_call en142mhd H wn rfl (mRev_spec _ _ H.hp.ro D st li rv b v n (hck.mono hgc) hmz (hgc _ _ hb) h.marks.layers[k].rev) rfl ?_;clear H;rintro v157 _ a w ⟨rfl,rfl⟩ - H;refine kH H (Rn rfl (Ra rfl (Kz K58 ?_)));clear H K58;intro a H;refine c_cond H rfl ?_ ?_
  ·intro h153
   try have p153:=dT h153
   refine c_seq (fun _ K59=>?_);have hE:=hX 22 (by unfold layE0;rw [if_pos (by simpa using h153)]) (by decide);refine kP H (SC (Ra rfl (Kn K59 ?_)));clear H K59;intro a H;refine lr H Tryz.results67 rfl ?_;exact H.hp.ret (by rw [hE])
  intro h153
  try have p153:=dF h153
  have hm153:¬ (h.marks.layers[k].rev∉(ckP st li rv).rvs):=by simpa using h153
  refine kP H (SR fun _ K60=>Rm rfl (Rf fd217_1hdr rfl (Rg ty3run rfl y1 ?_)));clear H;intro a H;refine s_call en106prc H wn rfl (backR (fits_spec _ _ H.hp.ro e h.marks.layers[k].key)) rfl ?_;clear H;rintro v163 _ a w ⟨⟨_,rfl⟩,rfl⟩ - H;refine kH H (Rn rfl (Ra rfl (Kz K60 ?_)));clear H K60;intro a H;refine c_cond H rfl ?_ ?_
  ·intro h159
   try have p159:=dT h159
   refine c_seq (fun _ K61=>?_);have hE:=hX 4 (by unfold layE0;rw [if_neg hm153,if_pos (by simpa using h159)]) (by decide);refine kP H (SC (Ra rfl (Kn K61 ?_)));clear H K61;intro a H;refine lr H Tryz.results67 rfl ?_;exact H.hp.ret (by rw [hE])
  intro h159
  try have p159:=dF h159
  have hm159:¬ (fitsS e h.marks.layers[k].key=false):=by simpa using h159
  refine c_seq (fun _ K62=>?_)
  by_cases c3:0 < (k:Int)
  ·skip
   by_cases c4:h.marks.layers[k].key < h.marks.layers[k - 1].key
   ·skip;refine c_drawI (hmx) [[],[0],[0,1],[0,1,2],[0,1,2,3],[0,1,2],[0,1,2,5],[0,1,2],[0,1,2,7],[0,1,2,5,6,7,8],[0,1,2,5,6,7,8,9],[0,1,2,5,6,7,8,9,10],(List.range 12),(List.range 13),(List.range 14)] [14] (by kernel_rfl) (by kernel_rfl) (fun (ix_:Nat) (v:Value) (G:GH)=>match ix_ with|0=>v=vi k|1=>v=.bool (decide (0 < (k:Int)))|2=>v=.bool (decide (0 < (k:Int)))|3=>v=.pointer (some ⟨b13,1,none⟩)|4=>v=vi h.marks.layers[k].key|5=>v=.pointer (some ⟨b10,3,none⟩)|6=>v=.slice (some ⟨xb,xo,none⟩) h.marks.layers.length lc|7=>v=vi k|8=>v=vi ((k - 1:Nat):Int)|9=>v=.pointer (some ⟨xb,xo+(k - 1)*4,none⟩)|10=>v=.pointer (some ⟨xb,xo+(k - 1)*4+1,none⟩)|11=>v=vi h.marks.layers[k - 1].key|12=>v=.bool (decide (h.marks.layers[k].key < h.marks.layers[k - 1].key))|13=>v=.bool (decide (h.marks.layers[k].key < h.marks.layers[k - 1].key))|_=>True) (fun _ _ _ _ _ h=>h) H ?_ ?_
    ·clear H;refine al4 ?_ ?_ ?_ ?_ (al4 ?_ ?_ ?_ ?_ (al4 ?_ ?_ ?_ ?_ (allI_cons ?_ (allI_cons ?_ (allI_cons ?_ allI_nil)))))
     ·exact Z0 rfl rfl fun _ _ _ _ _=>Rm rfl
     ·exact Z1 0 166 rfl rfl fun _ _ _ _ _=>Rc rfl
     ·exact Z1 1 167 rfl rfl fun _ _ _ _ _=>Rm rfl
     ·exact Op1 2 168 rfl rfl fun _ _ _ _ hG _ H fin=>kH H (YF fd217_1hdr (decide_eq_true c3) rfl fun _ H=>fin H iJ rfl)
     ·exact Op2 3 169 2 168 rfl rfl fun _ _ _ _ hG _ H fin=>kH H (YR ty3run (decide_eq_true c3) rfl (gcell_mono hG y1) fun _ H=>fin H iJ rfl)
     ·exact Op1 2 168 rfl rfl fun _ _ _ _ hG _ H fin=>kH H (YF fd29_3run (decide_eq_true c3) rfl fun _ H=>fin H iJ rfl)
     ·exact Op2 5 171 2 168 rfl rfl fun _ _ _ _ hG _ H fin=>kH H (YR ty27run (decide_eq_true c3) rfl (gcell_mono hG q3') fun _ H=>fin H iJ rfl)
     ·exact Op1 2 168 rfl rfl fun _ _ _ _ hG _ H fin=>kH H (YM (decide_eq_true c3) rfl fun _ H=>fin H iJ rfl)
     ·refine Op2 7 173 2 168 rfl rfl fun _ a w G1 hG HT H fin=>?_;refine s_sub _ H (wg H rfl rfl (decide_eq_true c3)) rfl rfl rfl (by omega) (by omega) rfl ?_;clear H;intro a H;exact fin H iJ (by first|rfl|exact congrArg vi (by omega))
     ·exact Op3 6 172 8 174 2 168 rfl rfl fun _ _ _ _ hG _ H fin=>kH H (YI un27run ty217run (decide_eq_true c3) rfl rfl fun _ H=>fin H iJ rfl)
     ·exact Op2 9 175 2 168 rfl rfl fun _ _ _ _ hG _ H fin=>kH H (YF fd217_1hdr (decide_eq_true c3) rfl fun _ H=>fin H iJ rfl)
     ·exact Op2 10 176 2 168 rfl rfl fun _ _ _ _ hG _ H fin=>kH H (YR ty3run (decide_eq_true c3) rfl (gcell_mono hG hp) fun _ H=>fin H iJ rfl)
     ·exact Op3 4 170 11 177 2 168 rfl rfl fun _ _ _ _ hG _ H fin=>kH H (YC (decide_eq_true c3) rfl fun _ H=>fin H iJ rfl)
     ·exact Op2 2 168 12 178 rfl rfl fun _ _ _ _ hG _ H fin=>kH H (Pt (decide_eq_true c3) rfl fun _ H=>fin H iJ rfl)
     exact opB rfl
    clear H;intro a w G hGm36 H hv;obtain ⟨u179,hu179,hp179⟩:=hv 13 179 (by decide) rfl;obtain rfl:u179=.bool (decide (h.marks.layers[k].key < h.marks.layers[k - 1].key)):=hp179;have H:=H.addS hu179;clear hv;refine kH H (Ra rfl ?_);clear H;intro a H;refine wl_nil ⟨rfl,?_⟩;refine K62 _ _ ?_;clear K62;refine c_cond_t H rfl (decide_eq_true c4) ?_;refine c_seq (fun _ K63=>?_);have hz:0 < k∧h.marks.layers[k].key < h.marks.layers[k - 1].key:=⟨by omega,c4⟩;have hE:=hX 6 (by unfold layE0;rw [if_neg hm153,if_neg hm159,if_pos hz]) (by decide);refine kP H (SC (Ra rfl (Kn K63 ?_)));clear H K63;intro a H;refine lr H Tryz.results67 rfl ?_;exact H.hp.ret (by rw [hE])
   skip;refine c_drawI (hmx) [[],[0],[0,1],[0,1,2],[0,1,2,3],[0,1,2],[0,1,2,5],[0,1,2],[0,1,2,7],[0,1,2,5,6,7,8],[0,1,2,5,6,7,8,9],[0,1,2,5,6,7,8,9,10],(List.range 12),(List.range 13),(List.range 14)] [14] (by kernel_rfl) (by kernel_rfl) (fun (ix_:Nat) (v:Value) (G:GH)=>match ix_ with|0=>v=vi k|1=>v=.bool (decide (0 < (k:Int)))|2=>v=.bool (decide (0 < (k:Int)))|3=>v=.pointer (some ⟨b13,1,none⟩)|4=>v=vi h.marks.layers[k].key|5=>v=.pointer (some ⟨b10,3,none⟩)|6=>v=.slice (some ⟨xb,xo,none⟩) h.marks.layers.length lc|7=>v=vi k|8=>v=vi ((k - 1:Nat):Int)|9=>v=.pointer (some ⟨xb,xo+(k - 1)*4,none⟩)|10=>v=.pointer (some ⟨xb,xo+(k - 1)*4+1,none⟩)|11=>v=vi h.marks.layers[k - 1].key|12=>v=.bool (decide (h.marks.layers[k].key < h.marks.layers[k - 1].key))|13=>v=.bool (decide (h.marks.layers[k].key < h.marks.layers[k - 1].key))|_=>True) (fun _ _ _ _ _ h=>h) H ?_ ?_
   ·clear H;refine al4 ?_ ?_ ?_ ?_ (al4 ?_ ?_ ?_ ?_ (al4 ?_ ?_ ?_ ?_ (allI_cons ?_ (allI_cons ?_ (allI_cons ?_ allI_nil)))))
    ·exact Z0 rfl rfl fun _ _ _ _ _=>Rm rfl
    ·exact Z1 0 166 rfl rfl fun _ _ _ _ _=>Rc rfl
    ·exact Z1 1 167 rfl rfl fun _ _ _ _ _=>Rm rfl
    ·exact Op1 2 168 rfl rfl fun _ _ _ _ hG _ H fin=>kH H (YF fd217_1hdr (decide_eq_true c3) rfl fun _ H=>fin H iJ rfl)
    ·exact Op2 3 169 2 168 rfl rfl fun _ _ _ _ hG _ H fin=>kH H (YR ty3run (decide_eq_true c3) rfl (gcell_mono hG y1) fun _ H=>fin H iJ rfl)
    ·exact Op1 2 168 rfl rfl fun _ _ _ _ hG _ H fin=>kH H (YF fd29_3run (decide_eq_true c3) rfl fun _ H=>fin H iJ rfl)
    ·exact Op2 5 171 2 168 rfl rfl fun _ _ _ _ hG _ H fin=>kH H (YR ty27run (decide_eq_true c3) rfl (gcell_mono hG q3') fun _ H=>fin H iJ rfl)
    ·exact Op1 2 168 rfl rfl fun _ _ _ _ hG _ H fin=>kH H (YM (decide_eq_true c3) rfl fun _ H=>fin H iJ rfl)
    ·refine Op2 7 173 2 168 rfl rfl fun _ a w G1 hG HT H fin=>?_;refine s_sub _ H (wg H rfl rfl (decide_eq_true c3)) rfl rfl rfl (by omega) (by omega) rfl ?_;clear H;intro a H;exact fin H iJ (by first|rfl|exact congrArg vi (by omega))
    ·exact Op3 6 172 8 174 2 168 rfl rfl fun _ _ _ _ hG _ H fin=>kH H (YI un27run ty217run (decide_eq_true c3) rfl rfl fun _ H=>fin H iJ rfl)
    ·exact Op2 9 175 2 168 rfl rfl fun _ _ _ _ hG _ H fin=>kH H (YF fd217_1hdr (decide_eq_true c3) rfl fun _ H=>fin H iJ rfl)
    ·exact Op2 10 176 2 168 rfl rfl fun _ _ _ _ hG _ H fin=>kH H (YR ty3run (decide_eq_true c3) rfl (gcell_mono hG hp) fun _ H=>fin H iJ rfl)
    ·exact Op3 4 170 11 177 2 168 rfl rfl fun _ _ _ _ hG _ H fin=>kH H (YC (decide_eq_true c3) rfl fun _ H=>fin H iJ rfl)
    ·exact Op2 2 168 12 178 rfl rfl fun _ _ _ _ hG _ H fin=>kH H (Pt (decide_eq_true c3) rfl fun _ H=>fin H iJ rfl)
    exact opB rfl
   clear H;intro a w G hGm36 H hv;obtain ⟨u179,hu179,hp179⟩:=hv 13 179 (by decide) rfl;obtain rfl:u179=.bool (decide (h.marks.layers[k].key < h.marks.layers[k - 1].key)):=hp179;have H:=H.addS hu179;clear hv;refine kH H (Ra rfl ?_);clear H;intro a H;refine wl_nil ⟨rfl,?_⟩;refine K62 _ _ ?_;clear K62;refine c_cond_f H rfl (decide_eq_false c4) ?_;refine c_seq (fun _ K64=>?_)
   have hz:¬ (0 < k∧h.marks.layers[k].key < h.marks.layers[k - 1].key):=by first|exact fun h=>c4 h.2|exact fun h=>c3 (by omega)
   replace y1:=gcell_mono hGm36 y1;replace y2:=gcell_mono hGm36 y2;replace y3:=gcell_mono hGm36 y3;have hge:=fun b o h=>hGm36 b o (hgc b o h);refine kP H (SC (Rf fd217_3hdr rfl (Rg ty4doc rfl y3 (Rn rfl (Rm rfl ?_)))));clear H;intro a H;refine s_split H 184 rfl ?_ ?_
   ·intro h184
    try have p184:=dT h184
    refine kH H (YF fd217_2hdr h184 rfl (YR ty3run h184 rfl y2 (YC h184 rfl (Pt h184 rfl (Ra rfl (Kn K64 ?_))))));clear H K64;intro a H;refine c_cond H rfl ?_ ?_
    ·intro h180
     try have p180:=dT h180
     refine c_seq (fun _ K65=>?_);have hE:=hX 21 (by unfold layE0;rw [if_neg hm153,if_neg hm159,if_neg hz];simp_all [whenE]) (by decide);refine kP H (SC (Ra rfl (Kn K65 ?_)));clear H K65;intro a H;refine lr H Tryz.results67 rfl ?_;exact H.hp.ret (by rw [hE])
    intro h180
    try have p180:=dF h180
    refine kP H (Kc K57 (SR fun _ K66=>Rf fd217_3hdr rfl (Rg ty4doc rfl y3 (Kz K66 ?_))));clear H K57 K66;intro a H;refine c_cond H rfl ?_ ?_
    ·intro h190
     try have p190:=dT h190
     have hly2:layE0 (ckP st li rv) e k h.marks.layers[k] h.marks.layers[k - 1].key=firstE [chkVS h.marks.layers[k].key h.marks.layers[k].before,refE st (li.map LiD.id) h.marks.layers[k].key h.marks.layers[k].before]:=by unfold layE0;rw [if_neg hm153,if_neg hm159,if_neg hz,if_neg (by simp_all)]
     refine kP H (SQ fun _ K67=>SR fun _ K68=>Rf fd217_1hdr rfl (Rg ty3run rfl y1 (Rf fd217_2hdr rfl (Rg ty3run rfl y2 ?_))));clear H;intro a H;refine s_call en107prc H wn rfl (backR (checkValue_spec _ _ H.hp.ro h.marks.layers[k].key h.marks.layers[k].before)) rfl ?_;clear H;rintro v195 _ a w ⟨⟨_,rfl⟩,rfl⟩ - H;refine kH H (Ra rfl (Kz K68 (SR fun _ K69=>Rm rfl (Rc rfl (Kz K69 ?_)))));clear H K68 K69;intro a H;refine c_cond H rfl ?_ ?_
     ·intro h197
      try have p197:=dT h197
      refine c_seq (fun _ K70=>?_);have hE:=hX _ (hly2.trans (firstE_ne p197)) p197;refine kP H (SC (Rm rfl (Ra rfl (Kn K70 ?_))));clear H K70;intro a H;refine lr H Tryz.results67 rfl ?_;exact H.hp.ret (by rw [hE])
     intro h197
     try have p197:=dF h197
     rw [firstE_z (Decidable.not_not.1 p197),firstE_one] at hly2;refine kP H (Kc K67 (SR fun _ K71=>Rm rfl (Rf fd217_1hdr rfl (Rg ty3run rfl y1 (Rf fd217_2hdr rfl (Rg ty3run rfl y2 ?_))))));clear H K67;intro a H;refine s_call en141mhd H wn rfl (mRefs_spec _ _ H.hp.ro D st li rv b v n (hck.mono hge) hmz (hge _ _ hb) h.marks.layers[k].key h.marks.layers[k].before) rfl ?_;clear H;rintro v204 _ a w ⟨rfl,rfl⟩ - H;refine kH H (Ra rfl (Kz K71 (SR fun _ K72=>Rm rfl (Rc rfl (Kz K72 ?_)))));clear H K71 K72;intro a H;refine c_cond H rfl ?_ ?_
     ·intro h206
      try have p206:=dT h206
      refine c_seq (fun _ K73=>?_);have hE:=hX _ hly2 p206;refine kP H (SC (Rm rfl (Ra rfl (Kn K73 ?_))));clear H K73;intro a H;refine lr H Tryz.results67 rfl ?_;exact H.hp.ret (by rw [hE])
     intro h206
     try have p206:=dF h206
     have hly0:=hly2.trans (Decidable.not_not.1 p206);have hGk:=hge;refine kP H (Kc K55 (SC (Rm rfl (Rd rfl (Ra rfl ?_)))));clear H K55;intro a H;refine wl_nil ?_;refine loop_end ((k+1,G)) (by exact (H).sub ⟨rfl,rfl,rfl,rfl,trivial⟩) ?_ ?_
     ·(try dsimp only);exact ⟨by omega,by rw [allE_at hk2,if_neg (by rw [hly];simpa using hly0)] at heq3;exact heq3,hGk⟩
     first|omega|(dsimp only;omega)
    intro h190
    try have p190:=dF h190
    have hly0:layE0 (ckP st li rv) e k h.marks.layers[k] h.marks.layers[k - 1].key=0:=by unfold layE0;rw [if_neg hm153,if_neg hm159,if_neg hz];simp_all [whenE]
    have hGk:=hge;refine kP H (Kc K55 (SC (Rm rfl (Rd rfl (Ra rfl ?_)))));clear H K55;intro a H;refine wl_nil ?_;refine loop_end ((k+1,G)) (by exact (H).sub ⟨rfl,rfl,rfl,rfl,trivial⟩) ?_ ?_
    ·(try dsimp only);exact ⟨by omega,by rw [allE_at hk2,if_neg (by rw [hly];simpa using hly0)] at heq3;exact heq3,hGk⟩
    first|omega|(dsimp only;omega)
   intro h184
   try have p184:=dF h184
   refine kH H (Ks h184 rfl (Ks h184 rfl (Ks h184 rfl (Pf h184 rfl (Ra rfl (Kn K64 ?_))))));clear H K64;intro a H;refine c_cond_f H rfl rfl ?_;refine kP H (Kc K57 (SR fun _ K74=>Rf fd217_3hdr rfl (Rg ty4doc rfl y3 (Kz K74 ?_))));clear H K57 K74;intro a H;refine c_cond H rfl ?_ ?_
   ·intro h190
    try have p190:=dT h190
    have hly2:layE0 (ckP st li rv) e k h.marks.layers[k] h.marks.layers[k - 1].key=firstE [chkVS h.marks.layers[k].key h.marks.layers[k].before,refE st (li.map LiD.id) h.marks.layers[k].key h.marks.layers[k].before]:=by unfold layE0;rw [if_neg hm153,if_neg hm159,if_neg hz,if_neg (by simp_all)]
    refine kP H (SQ fun _ K75=>SR fun _ K76=>Rf fd217_1hdr rfl (Rg ty3run rfl y1 (Rf fd217_2hdr rfl (Rg ty3run rfl y2 ?_))));clear H;intro a H;refine s_call en107prc H wn rfl (backR (checkValue_spec _ _ H.hp.ro h.marks.layers[k].key h.marks.layers[k].before)) rfl ?_;clear H;rintro v195 _ a w ⟨⟨_,rfl⟩,rfl⟩ - H;refine kH H (Ra rfl (Kz K76 (SR fun _ K77=>Rm rfl (Rc rfl (Kz K77 ?_)))));clear H K76 K77;intro a H;refine c_cond H rfl ?_ ?_
    ·intro h197
     try have p197:=dT h197
     refine c_seq (fun _ K78=>?_);have hE:=hX _ (hly2.trans (firstE_ne p197)) p197;refine kP H (SC (Rm rfl (Ra rfl (Kn K78 ?_))));clear H K78;intro a H;refine lr H Tryz.results67 rfl ?_;exact H.hp.ret (by rw [hE])
    intro h197
    try have p197:=dF h197
    rw [firstE_z (Decidable.not_not.1 p197),firstE_one] at hly2;refine kP H (Kc K75 (SR fun _ K79=>Rm rfl (Rf fd217_1hdr rfl (Rg ty3run rfl y1 (Rf fd217_2hdr rfl (Rg ty3run rfl y2 ?_))))));clear H K75;intro a H;refine s_call en141mhd H wn rfl (mRefs_spec _ _ H.hp.ro D st li rv b v n (hck.mono hge) hmz (hge _ _ hb) h.marks.layers[k].key h.marks.layers[k].before) rfl ?_;clear H;rintro v204 _ a w ⟨rfl,rfl⟩ - H;refine kH H (Ra rfl (Kz K79 (SR fun _ K80=>Rm rfl (Rc rfl (Kz K80 ?_)))));clear H K79 K80;intro a H;refine c_cond H rfl ?_ ?_
    ·intro h206
     try have p206:=dT h206
     refine c_seq (fun _ K81=>?_);have hE:=hX _ hly2 p206;refine kP H (SC (Rm rfl (Ra rfl (Kn K81 ?_))));clear H K81;intro a H;refine lr H Tryz.results67 rfl ?_;exact H.hp.ret (by rw [hE])
    intro h206
    try have p206:=dF h206
    have hly0:=hly2.trans (Decidable.not_not.1 p206);have hGk:=hge;refine kP H (Kc K55 (SC (Rm rfl (Rd rfl (Ra rfl ?_)))));clear H K55;intro a H;refine wl_nil ?_;refine loop_end ((k+1,G)) (by exact (H).sub ⟨rfl,rfl,rfl,rfl,trivial⟩) ?_ ?_
    ·(try dsimp only);exact ⟨by omega,by rw [allE_at hk2,if_neg (by rw [hly];simpa using hly0)] at heq3;exact heq3,hGk⟩
    first|omega|(dsimp only;omega)
   intro h190
   try have p190:=dF h190
   have hly0:layE0 (ckP st li rv) e k h.marks.layers[k] h.marks.layers[k - 1].key=0:=by unfold layE0;rw [if_neg hm153,if_neg hm159,if_neg hz];simp_all [whenE]
   have hGk:=hge;refine kP H (Kc K55 (SC (Rm rfl (Rd rfl (Ra rfl ?_)))));clear H K55;intro a H;refine wl_nil ?_;refine loop_end ((k+1,G)) (by exact (H).sub ⟨rfl,rfl,rfl,rfl,trivial⟩) ?_ ?_
   ·(try dsimp only);exact ⟨by omega,by rw [allE_at hk2,if_neg (by rw [hly];simpa using hly0)] at heq3;exact heq3,hGk⟩
   first|omega|(dsimp only;omega)
  skip;refine c_drawI (hmx) [[],[0],[0,1],[0,1,2],[0,1,2,3],[0,1,2],[0,1,2,5],[0,1,2],[0,1,2,7],[0,1,2,5,6,7,8],[0,1,2,5,6,7,8,9],[0,1,2,5,6,7,8,9,10],(List.range 12),(List.range 13),(List.range 14)] [14] (by kernel_rfl) (by kernel_rfl) (fun (ix_:Nat) (v:Value) (G:GH)=>match ix_ with|0=>v=vi k|1=>v=.bool (decide (0 < (k:Int)))|2=>v=.bool (decide (0 < (k:Int)))|3=>v=undef|4=>v=undef|5=>v=undef|6=>v=undef|7=>v=undef|8=>v=undef|9=>v=undef|10=>v=undef|11=>v=undef|12=>v=undef|13=>v=.bool false|_=>True) (fun _ _ _ _ _ h=>h) H ?_ ?_
  ·clear H;refine al4 ?_ ?_ ?_ ?_ (al4 ?_ ?_ ?_ ?_ (al4 ?_ ?_ ?_ ?_ (allI_cons ?_ (allI_cons ?_ (allI_cons ?_ allI_nil)))))
   ·exact Z0 rfl rfl fun _ _ _ _ _=>Rm rfl
   ·exact Z1 0 166 rfl rfl fun _ _ _ _ _=>Rc rfl
   ·exact Z1 1 167 rfl rfl fun _ _ _ _ _=>Rm rfl
   ·exact skI 2 (decide_eq_false c3) rfl rfl
   ·exact skI 2 (decide_eq_false c3) rfl rfl
   ·exact skI 2 (decide_eq_false c3) rfl rfl
   ·exact skI 2 (decide_eq_false c3) rfl rfl
   ·exact skI 2 (decide_eq_false c3) rfl rfl
   ·exact skI 2 (decide_eq_false c3) rfl rfl
   ·exact skI 2 (decide_eq_false c3) rfl rfl
   ·exact skI 2 (decide_eq_false c3) rfl rfl
   ·exact skI 2 (decide_eq_false c3) rfl rfl
   ·exact skI 2 (decide_eq_false c3) rfl rfl
   ·exact Op2 2 168 12 178 rfl rfl fun _ _ _ _ hG _ H fin=>kH H (Pf (decide_eq_false c3) rfl fun _ H=>fin H iJ rfl)
   exact opB rfl
  clear H;intro a w G hGm36 H hv;obtain ⟨u179,hu179,hp179⟩:=hv 13 179 (by decide) rfl;obtain rfl:u179=.bool false:=hp179;have H:=H.addS hu179;clear hv;refine kH H (Ra rfl ?_);clear H;intro a H;refine wl_nil ⟨rfl,?_⟩;refine K62 _ _ ?_;clear K62;refine c_cond_f H rfl rfl ?_;refine c_seq (fun _ K82=>?_)
  have hz:¬ (0 < k∧h.marks.layers[k].key < h.marks.layers[k - 1].key):=by first|exact fun h=>c4 h.2|exact fun h=>c3 (by omega)
  replace y1:=gcell_mono hGm36 y1;replace y2:=gcell_mono hGm36 y2;replace y3:=gcell_mono hGm36 y3;have hge:=fun b o h=>hGm36 b o (hgc b o h);refine kP H (SC (Rf fd217_3hdr rfl (Rg ty4doc rfl y3 (Rn rfl (Rm rfl ?_)))));clear H;intro a H;refine s_split H 184 rfl ?_ ?_
  ·intro h184
   try have p184:=dT h184
   refine kH H (YF fd217_2hdr h184 rfl (YR ty3run h184 rfl y2 (YC h184 rfl (Pt h184 rfl (Ra rfl (Kn K82 ?_))))));clear H K82;intro a H;refine c_cond H rfl ?_ ?_
   ·intro h180
    try have p180:=dT h180
    refine c_seq (fun _ K83=>?_);have hE:=hX 21 (by unfold layE0;rw [if_neg hm153,if_neg hm159,if_neg hz];simp_all [whenE]) (by decide);refine kP H (SC (Ra rfl (Kn K83 ?_)));clear H K83;intro a H;refine lr H Tryz.results67 rfl ?_;exact H.hp.ret (by rw [hE])
   intro h180
   try have p180:=dF h180
   refine kP H (Kc K57 (SR fun _ K84=>Rf fd217_3hdr rfl (Rg ty4doc rfl y3 (Kz K84 ?_))));clear H K57 K84;intro a H;refine c_cond H rfl ?_ ?_
   ·intro h190
    try have p190:=dT h190
    have hly2:layE0 (ckP st li rv) e k h.marks.layers[k] h.marks.layers[k - 1].key=firstE [chkVS h.marks.layers[k].key h.marks.layers[k].before,refE st (li.map LiD.id) h.marks.layers[k].key h.marks.layers[k].before]:=by unfold layE0;rw [if_neg hm153,if_neg hm159,if_neg hz,if_neg (by simp_all)]
    refine kP H (SQ fun _ K85=>SR fun _ K86=>Rf fd217_1hdr rfl (Rg ty3run rfl y1 (Rf fd217_2hdr rfl (Rg ty3run rfl y2 ?_))));clear H;intro a H;refine s_call en107prc H wn rfl (backR (checkValue_spec _ _ H.hp.ro h.marks.layers[k].key h.marks.layers[k].before)) rfl ?_;clear H;rintro v195 _ a w ⟨⟨_,rfl⟩,rfl⟩ - H;refine kH H (Ra rfl (Kz K86 (SR fun _ K87=>Rm rfl (Rc rfl (Kz K87 ?_)))));clear H K86 K87;intro a H;refine c_cond H rfl ?_ ?_
    ·intro h197
     try have p197:=dT h197
     refine c_seq (fun _ K88=>?_);have hE:=hX _ (hly2.trans (firstE_ne p197)) p197;refine kP H (SC (Rm rfl (Ra rfl (Kn K88 ?_))));clear H K88;intro a H;refine lr H Tryz.results67 rfl ?_;exact H.hp.ret (by rw [hE])
    intro h197
    try have p197:=dF h197
    rw [firstE_z (Decidable.not_not.1 p197),firstE_one] at hly2;refine kP H (Kc K85 (SR fun _ K89=>Rm rfl (Rf fd217_1hdr rfl (Rg ty3run rfl y1 (Rf fd217_2hdr rfl (Rg ty3run rfl y2 ?_))))));clear H K85;intro a H;refine s_call en141mhd H wn rfl (mRefs_spec _ _ H.hp.ro D st li rv b v n (hck.mono hge) hmz (hge _ _ hb) h.marks.layers[k].key h.marks.layers[k].before) rfl ?_;clear H;rintro v204 _ a w ⟨rfl,rfl⟩ - H;refine kH H (Ra rfl (Kz K89 (SR fun _ K90=>Rm rfl (Rc rfl (Kz K90 ?_)))));clear H K89 K90;intro a H;refine c_cond H rfl ?_ ?_
    ·intro h206
     try have p206:=dT h206
     refine c_seq (fun _ K91=>?_);have hE:=hX _ hly2 p206;refine kP H (SC (Rm rfl (Ra rfl (Kn K91 ?_))));clear H K91;intro a H;refine lr H Tryz.results67 rfl ?_;exact H.hp.ret (by rw [hE])
    intro h206
    try have p206:=dF h206
    have hly0:=hly2.trans (Decidable.not_not.1 p206);have hGk:=hge;refine kP H (Kc K55 (SC (Rm rfl (Rd rfl (Ra rfl ?_)))));clear H K55;intro a H;refine wl_nil ?_;refine loop_end ((k+1,G)) (by exact (H).sub ⟨rfl,rfl,rfl,rfl,trivial⟩) ?_ ?_
    ·(try dsimp only);exact ⟨by omega,by rw [allE_at hk2,if_neg (by rw [hly];simpa using hly0)] at heq3;exact heq3,hGk⟩
    first|omega|(dsimp only;omega)
   intro h190
   try have p190:=dF h190
   have hly0:layE0 (ckP st li rv) e k h.marks.layers[k] h.marks.layers[k - 1].key=0:=by unfold layE0;rw [if_neg hm153,if_neg hm159,if_neg hz];simp_all [whenE]
   have hGk:=hge;refine kP H (Kc K55 (SC (Rm rfl (Rd rfl (Ra rfl ?_)))));clear H K55;intro a H;refine wl_nil ?_;refine loop_end ((k+1,G)) (by exact (H).sub ⟨rfl,rfl,rfl,rfl,trivial⟩) ?_ ?_
   ·(try dsimp only);exact ⟨by omega,by rw [allE_at hk2,if_neg (by rw [hly];simpa using hly0)] at heq3;exact heq3,hGk⟩
   first|omega|(dsimp only;omega)
  intro h184
  try have p184:=dF h184
  refine kH H (Ks h184 rfl (Ks h184 rfl (Ks h184 rfl (Pf h184 rfl (Ra rfl (Kn K82 ?_))))));clear H K82;intro a H;refine c_cond_f H rfl rfl ?_;refine kP H (Kc K57 (SR fun _ K92=>Rf fd217_3hdr rfl (Rg ty4doc rfl y3 (Kz K92 ?_))));clear H K57 K92;intro a H;refine c_cond H rfl ?_ ?_
  ·intro h190
   try have p190:=dT h190
   have hly2:layE0 (ckP st li rv) e k h.marks.layers[k] h.marks.layers[k - 1].key=firstE [chkVS h.marks.layers[k].key h.marks.layers[k].before,refE st (li.map LiD.id) h.marks.layers[k].key h.marks.layers[k].before]:=by unfold layE0;rw [if_neg hm153,if_neg hm159,if_neg hz,if_neg (by simp_all)]
   refine kP H (SQ fun _ K93=>SR fun _ K94=>Rf fd217_1hdr rfl (Rg ty3run rfl y1 (Rf fd217_2hdr rfl (Rg ty3run rfl y2 ?_))));clear H;intro a H;refine s_call en107prc H wn rfl (backR (checkValue_spec _ _ H.hp.ro h.marks.layers[k].key h.marks.layers[k].before)) rfl ?_;clear H;rintro v195 _ a w ⟨⟨_,rfl⟩,rfl⟩ - H;refine kH H (Ra rfl (Kz K94 (SR fun _ K95=>Rm rfl (Rc rfl (Kz K95 ?_)))));clear H K94 K95;intro a H;refine c_cond H rfl ?_ ?_
   ·intro h197
    try have p197:=dT h197
    refine c_seq (fun _ K96=>?_);have hE:=hX _ (hly2.trans (firstE_ne p197)) p197;refine kP H (SC (Rm rfl (Ra rfl (Kn K96 ?_))));clear H K96;intro a H;refine lr H Tryz.results67 rfl ?_;exact H.hp.ret (by rw [hE])
   intro h197
   try have p197:=dF h197
   rw [firstE_z (Decidable.not_not.1 p197),firstE_one] at hly2;refine kP H (Kc K93 (SR fun _ K97=>Rm rfl (Rf fd217_1hdr rfl (Rg ty3run rfl y1 (Rf fd217_2hdr rfl (Rg ty3run rfl y2 ?_))))));clear H K93;intro a H;refine s_call en141mhd H wn rfl (mRefs_spec _ _ H.hp.ro D st li rv b v n (hck.mono hge) hmz (hge _ _ hb) h.marks.layers[k].key h.marks.layers[k].before) rfl ?_;clear H;rintro v204 _ a w ⟨rfl,rfl⟩ - H;refine kH H (Ra rfl (Kz K97 (SR fun _ K98=>Rm rfl (Rc rfl (Kz K98 ?_)))));clear H K97 K98;intro a H;refine c_cond H rfl ?_ ?_
   ·intro h206
    try have p206:=dT h206
    refine c_seq (fun _ K99=>?_);have hE:=hX _ hly2 p206;refine kP H (SC (Rm rfl (Ra rfl (Kn K99 ?_))));clear H K99;intro a H;refine lr H Tryz.results67 rfl ?_;exact H.hp.ret (by rw [hE])
   intro h206
   try have p206:=dF h206
   have hly0:=hly2.trans (Decidable.not_not.1 p206);have hGk:=hge;refine kP H (Kc K55 (SC (Rm rfl (Rd rfl (Ra rfl ?_)))));clear H K55;intro a H;refine wl_nil ?_;refine loop_end ((k+1,G)) (by exact (H).sub ⟨rfl,rfl,rfl,rfl,trivial⟩) ?_ ?_
   ·(try dsimp only);exact ⟨by omega,by rw [allE_at hk2,if_neg (by rw [hly];simpa using hly0)] at heq3;exact heq3,hGk⟩
   first|omega|(dsimp only;omega)
  intro h190
  try have p190:=dF h190
  have hly0:layE0 (ckP st li rv) e k h.marks.layers[k] h.marks.layers[k - 1].key=0:=by unfold layE0;rw [if_neg hm153,if_neg hm159,if_neg hz];simp_all [whenE]
  have hGk:=hge;refine kP H (Kc K55 (SC (Rm rfl (Rd rfl (Ra rfl ?_)))));clear H K55;intro a H;refine wl_nil ?_;refine loop_end ((k+1,G)) (by exact (H).sub ⟨rfl,rfl,rfl,rfl,trivial⟩) ?_ ?_
  ·(try dsimp only);exact ⟨by omega,by rw [allE_at hk2,if_neg (by rw [hly];simpa using hly0)] at heq3;exact heq3,hGk⟩
  first|omega|(dsimp only;omega)
 intro h145
 try have p145:=dF h145
 refine c_exit ?_;refine K51 _ _ ?_;clear K51;refine c_seq (fun _ K100=>?_)
 replace hE:headE (ckP st li rv) e h=0:=by rw [hE,← heq3,List.drop_of_length_le (by simp;omega)];rfl
 refine kP H (SC (Ra rfl (Kn K100 ?_)));clear H K100;intro a H;refine lr H Tryz.results67 rfl ?_;exact H.hp.ret (by rw [hE])
end
section
open Go.RowKit
def codesI (x:ItemD):Int:=if x.kind=4 then 3 else if x.kind=6 then 2 else if x.kind=8 then 4 else 0
theorem codesI_coded (x:ItemD):decide (codesI x=0)=!codedB x:=by
 unfold codesI codedB
 by_cases h4:x.kind=4
 ·simp [h4]
 by_cases h6:x.kind=6
 ·simp [h6]
 by_cases h8:x.kind=8 <;> simp [h4,h6,h8]
theorem codesI_ok (x:ItemD):(decide (0 < codesI x) && (decide (x.code < 1) || decide (codesI x < x.code)))=!codeOk x:=by
 unfold codesI codeOk
 by_cases h4:x.kind=4
 ·simp only [h4,if_pos];by_cases a:x.code < 1 <;> by_cases b:3 < x.code <;> simp [a,b] <;> omega
 by_cases h6:x.kind=6
 ·simp only [h6,if_pos];by_cases a:x.code < 1 <;> by_cases b:2 < x.code <;> simp [a,b] <;> omega
 by_cases h8:x.kind=8
 ·simp only [h8,if_pos];by_cases a:x.code < 1 <;> by_cases b:4 < x.code <;> simp [a,b] <;> omega
 simp [h4,h6,h8]
set_option maxHeartbeats 8000000 in
theorem mOwn_spec (G:GH) (w0:World) (hG:Hold G w0) (x:ItemD) (p d l:Value) (fA rA:Option Addr) (fc rc:Nat) (hs:x.text.size < 4611686018427387904) :
  Calls Tryz.prog 143 #[.agg #[vi x.kind,vi x.code,vi x.id,.string x.text,p,vi x.head.marks.ins,vi x.head.marks.move,d,l,.slice fA x.flow.length fc,.slice rA x.rows.length rc]] w0 (Ret w0 G fun u G'=>u=vi (formE x)∧G=G'):=by
 refine eN [(0,_)] Tryz.func143 rfl Tryz.ntmps143 rfl rfl hG ?_;intro a H;refine c_seqR (fun _ K1=>?_);refine s_box (cs:=[_,_,_,_,_,_,_,_,_,_,_]) H wn rfl rfl rfl ?_;clear H;intro b1 a w hb1 H;refine kH H (Ra rfl (Kz K1 (SR fun _ K2=>Ra rfl (Kz K2 ?_))));clear H K1 K2;intro a H;refine c_seqJ (ι:=Int) (Tc:=[(1,_)]) (Lc:=[(_,_)]) (fun (gh:Int)=>[(3,vi gh)]) (fun (gh:Int)=>[]) (fun (gh:Int)=>G) (fun (gh:Int)=>gh=codesI x) (by exact (H).sub ⟨rfl,trivial⟩) ?_ ?_
 ·skip;refine kP H (SR fun _ K3=>Rf fd35_0run rfl (Ro ty3run 0 rfl rfl (Kz K3 (SB (SR fun _ K4=>Rc rfl (Ra rfl (Kz K4 ?_)))))));clear H K3 K4;intro a H;refine c_cond H rfl ?_ ?_
  ·intro h9
   try have p9:=dT h9
   refine kP H (SC (Ra rfl ?_));clear H;intro a H;refine wl_nil ?_;refine ⟨_,by exact (H).sub ⟨rfl,rfl,trivial⟩,?_⟩
   unfold codesI;first|(simp_all;done)
  intro h9
  try have p9:=dF h9
  refine kP H (SR fun _ K5=>Rc rfl (Ra rfl (Kz K5 ?_)));clear H K5;intro a H;refine c_cond H rfl ?_ ?_
  ·intro h11
   try have p11:=dT h11
   refine kP H (SC (Ra rfl ?_));clear H;intro a H;refine wl_nil ?_;refine ⟨_,by exact (H).sub ⟨rfl,rfl,trivial⟩,?_⟩
   unfold codesI;first|(simp_all;done)
  intro h11
  try have p11:=dF h11
  refine kP H (SR fun _ K6=>Rc rfl (Ra rfl (Kz K6 ?_)));clear H K6;intro a H;refine c_cond H rfl ?_ ?_
  ·intro h13
   try have p13:=dT h13
   refine kP H (SC (Ra rfl ?_));clear H;intro a H;refine wl_nil ?_;refine ⟨_,by exact (H).sub ⟨rfl,rfl,trivial⟩,?_⟩
   unfold codesI;first|(simp_all;done)
  intro h13
  try have p13:=dF h13
  refine c_skip ?_;refine ⟨_,by exact (H).sub ⟨rfl,rfl,trivial⟩,?_⟩
  unfold codesI;first|(simp_all;done)
 clear H;intro gh a w hI H;obtain ⟨cs,hgh⟩:∃ x,x=gh:=⟨_,rfl⟩;subst hgh;have hcs:=hI;dsimp only [List.cons_append,List.nil_append,List.append_nil] at H;refine c_seqR (fun _ K7=>?_);refine wl_meet (ι:=Bool) (Tc:=[(1,_),(3,_)]) 8 (fun (st:Bool)=>[(22,.bool st)]) (fun (st:Bool)=>st=startB x) (by exact H.sub ⟨rfl,rfl,trivial⟩) ?_ ?_
 ·intro hM9_0;refine kH H (Rf fd35_0run rfl (Ro ty3run 0 rfl rfl (Rc rfl (Rm rfl ?_))));clear H;intro a H;refine s_split H 18 rfl ?_ ?_
  ·intro h18
   try have p18:=dT h18
   refine kH H (YF fd35_1frm h18 rfl (YO ty3run 0 h18 rfl rfl (YC h18 rfl (Pt h18 rfl ?_))));clear H;intro a H;refine hM9_0 (_) _ _ ?_ (by exact H.sub ⟨rfl,rfl,rfl,trivial⟩)
   unfold startB;clear hcs;simp_all
  intro h18
  try have p18:=dF h18
  refine kH H (Ks h18 rfl (Ks h18 rfl (Ks h18 rfl (Pf h18 rfl ?_))));clear H;intro a H;refine hM9_0 (_) _ _ ?_ (by exact H.sub ⟨rfl,rfl,rfl,trivial⟩)
  unfold startB;clear hcs;simp_all
 clear H;intro st a w hI H;dsimp only [List.cons_append,List.nil_append] at H;simp only [List.drop_succ_cons,List.drop_zero];have hst:=hI;refine kH H (Ra rfl (Kz K7 (SR fun _ K8=>?_)));clear H K7;intro a H;refine wl_meet (ι:=Bool) (Tc:=[(1,_),(3,_),(4,_)]) 8 (fun (w0b:Bool)=>[(30,.bool w0b)]) (fun (w0b:Bool)=>w0b=decide (x.kind=1∨x.kind=5)) (by exact H.sub ⟨rfl,rfl,rfl,trivial⟩) ?_ ?_
 ·intro hM10_0;refine kH H (Rf fd35_0run rfl (Ro ty3run 0 rfl rfl (Rc rfl (Rm rfl ?_))));clear H;intro a H;refine s_split H 26 rfl ?_ ?_
  ·intro h26
   try have p26:=dT h26
   refine kH H (Ks h26 rfl (Ks h26 rfl (Ks h26 rfl (Pt h26 rfl ?_))));clear H;intro a H;refine hM10_0 (_) _ _ ?_ (by exact H.sub ⟨rfl,rfl,rfl,rfl,trivial⟩);clear hst hcs;simp_all
  intro h26
  try have p26:=dF h26
  refine kH H (YF fd35_0run h26 rfl (YO ty3run 0 h26 rfl rfl (YC h26 rfl (Pf h26 rfl ?_))));clear H;intro a H;refine hM10_0 (_) _ _ ?_ (by exact H.sub ⟨rfl,rfl,rfl,rfl,trivial⟩);clear hst hcs;simp_all
 clear H;intro w0b a w hI H;dsimp only [List.cons_append,List.nil_append] at H;simp only [List.drop_succ_cons,List.drop_zero];have hw0b:=hI;refine kH H (Ra rfl (Kz K8 (SR fun _ K9=>?_)));clear H K8;intro a H;refine wl_meet (ι:=Bool) (Tc:=[(1,_),(3,_),(4,_),(5,_)]) 13 (fun (nm:Bool)=>[(43,.bool nm)]) (fun (nm:Bool)=>nm=namedB x) (by exact H.sub ⟨rfl,rfl,rfl,rfl,trivial⟩) ?_ ?_
 ·intro hM11_0;refine kH H (Rf fd35_0run rfl (Ro ty3run 0 rfl rfl (Rc rfl (Rm rfl ?_))));clear H;intro a H;refine s_split H 34 rfl ?_ ?_
  ·intro h34
   try have p34:=dT h34
   refine kH H (Ks h34 rfl (Ks h34 rfl (Ks h34 rfl (Pt h34 rfl (Rm rfl (Ks rfl rfl (Ks rfl rfl (Ks rfl rfl (Pt rfl rfl ?_)))))))));clear H;intro a H;refine hM11_0 (_) _ _ ?_ (by exact H.sub ⟨rfl,rfl,rfl,rfl,rfl,trivial⟩)
   unfold namedB;clear hst hcs;(try clear hw0b);simp_all
  intro h34
  try have p34:=dF h34
  refine kH H (YF fd35_0run h34 rfl (YO ty3run 0 h34 rfl rfl (YC h34 rfl (Pf h34 rfl (Rm rfl ?_)))));clear H;intro a H;refine s_split H 39 rfl ?_ ?_
  ·intro h39
   try have p39:=dT h39
   refine kH H (Ks h39 rfl (Ks h39 rfl (Ks h39 rfl (Pt h39 rfl ?_))));clear H;intro a H;refine hM11_0 (_) _ _ ?_ (by exact H.sub ⟨rfl,rfl,rfl,rfl,rfl,trivial⟩)
   unfold namedB;clear hst hcs;(try clear hw0b);simp_all
  intro h39
  try have p39:=dF h39
  refine kH H (YF fd35_0run h39 rfl (YO ty3run 0 h39 rfl rfl (YC h39 rfl (Pf h39 rfl ?_))));clear H;intro a H;refine hM11_0 (_) _ _ ?_ (by exact H.sub ⟨rfl,rfl,rfl,rfl,rfl,trivial⟩)
  unfold namedB;clear hst hcs;(try clear hw0b);simp_all
 clear H;intro nm a w hI H;dsimp only [List.cons_append,List.nil_append] at H;simp only [List.drop_succ_cons,List.drop_zero];have hnm:=hI;refine kH H (Ra rfl (Kz K9 (SQ fun _ K10=>SB (SR fun _ K11=>?_))));clear H K9;intro a H;refine wl_meet (ι:=Bool) (Tc:=[(1,_),(3,_),(4,_),(5,_),(6,_)]) 8 (fun (qa:Bool)=>[(52,.bool qa)]) (fun (qa:Bool)=>qa=!decide (1≤x.kind∧x.kind≤8)) (by exact H.sub ⟨rfl,rfl,rfl,rfl,rfl,trivial⟩) ?_ ?_
 ·intro hM12_0;refine kH H (Rf fd35_0run rfl (Ro ty3run 0 rfl rfl (Rc rfl (Rm rfl ?_))));clear H;intro a H;refine s_split H 48 rfl ?_ ?_
  ·intro h48
   try have p48:=dT h48
   refine kH H (Ks h48 rfl (Ks h48 rfl (Ks h48 rfl (Pt h48 rfl ?_))));clear H;intro a H;refine hM12_0 (_) _ _ ?_ (by exact H.sub ⟨rfl,rfl,rfl,rfl,rfl,rfl,trivial⟩);rw [Bool.eq_iff_iff];simp only [decide_eq_true_eq,Bool.not_eq_true',decide_eq_false_iff_not,true_iff,eq_self_iff_true];omega
  intro h48
  try have p48:=dF h48
  refine kH H (YF fd35_0run h48 rfl (YO ty3run 0 h48 rfl rfl (YC h48 rfl (Pf h48 rfl ?_))));clear H;intro a H;refine hM12_0 (_) _ _ ?_ (by exact H.sub ⟨rfl,rfl,rfl,rfl,rfl,rfl,trivial⟩);rw [Bool.eq_iff_iff];simp only [decide_eq_true_eq,Bool.not_eq_true',decide_eq_false_iff_not,true_iff,eq_self_iff_true];omega
 clear H;intro qa a w hI H;dsimp only [List.cons_append,List.nil_append] at H;simp only [List.drop_succ_cons,List.drop_zero];have hqa:=hI;refine wl_meet (ι:=Bool) (Tc:=[(1,_),(3,_),(4,_),(5,_),(6,_)]) 15 (fun (q0:Bool)=>[(67,.bool q0)]) (fun (q0:Bool)=>q0=(!decide (1≤x.kind∧x.kind≤8) || !codeOk x)) (by exact H.sub ⟨rfl,rfl,rfl,rfl,rfl,trivial⟩) ?_ ?_
 ·intro hM12_8;refine kH H (Rm rfl ?_);clear H;intro a H;refine s_split H 53 rfl ?_ ?_
  ·intro h53
   try have p53:=dT h53
   refine kH H (Ks h53 rfl (Ks h53 rfl (Ks h53 rfl (Ku rfl (Ku rfl (Ku rfl (Ku rfl (Ku rfl (Ku rfl (Ku rfl (Ku rfl (Ku rfl (Ks h53 rfl (Pt h53 rfl ?_))))))))))))));clear H;intro a H;refine hM12_8 (_) _ _ ?_ (by exact H.sub ⟨rfl,rfl,rfl,rfl,rfl,rfl,trivial⟩)
   rw [← codesI_ok,← hcs,← hqa];clear hst hw0b hnm hcs;(try clear hq1);(try clear hq2);(try clear hq3);(try clear hq0);(try clear hqa);(try clear hq4);(try clear hq5);(try clear hq6);(try clear hq7);first|(simp_all;done)|(simp_all;omega)
  intro h53
  try have p53:=dF h53
  refine kH H (YM h53 rfl (YC h53 rfl (YM h53 rfl ?_)));clear H;intro a H;refine s_split H 56 rfl ?_ ?_
  ·intro h56
   try have p56:=dT h56
   refine kH H (YF fd35_1frm h56 rfl (YO ty3run 0 h56 rfl rfl (YC h56 rfl (YM h56 rfl ?_))));clear H;intro a H;refine s_split H 60 rfl ?_ ?_
   ·intro h60
    try have p60:=dT h60
    refine kH H (Ks h60 rfl (Ks h60 rfl (Ks h60 rfl (Ks h60 rfl (PT h56 h60 rfl (PT h53 h56 rfl (Pf h53 rfl ?_)))))));clear H;intro a H;refine hM12_8 (_) _ _ ?_ (by exact H.sub ⟨rfl,rfl,rfl,rfl,rfl,rfl,trivial⟩)
    rw [← codesI_ok,← hcs,← hqa];clear hst hw0b hnm hcs;(try clear hq1);(try clear hq2);(try clear hq3);(try clear hq0);(try clear hqa);(try clear hq4);(try clear hq5);(try clear hq6);(try clear hq7);first|(simp_all;done)|(simp_all;omega)
   intro h60
   try have p60:=dF h60
   refine kH H (YF fd35_1frm h60 rfl (YO ty3run 0 h60 rfl rfl (YM h60 rfl (YC h60 rfl (PF h56 h60 rfl (PT h53 h56 rfl (Pf h53 rfl ?_)))))));clear H;intro a H;refine hM12_8 (_) _ _ ?_ (by exact H.sub ⟨rfl,rfl,rfl,rfl,rfl,rfl,trivial⟩)
   rw [← codesI_ok,← hcs,← hqa];clear hst hw0b hnm hcs;(try clear hq1);(try clear hq2);(try clear hq3);(try clear hq0);(try clear hqa);(try clear hq4);(try clear hq5);(try clear hq6);(try clear hq7);first|(simp_all;done)|(simp_all;omega)
  intro h56
  try have p56:=dF h56
  refine kH H (Ks h56 rfl (Ks h56 rfl (Ks h56 rfl (Ks h56 rfl (Ku rfl (Ku rfl (Ku rfl (Ku rfl (Ks h56 rfl (PF h53 h56 rfl (Pf h53 rfl ?_)))))))))));clear H;intro a H;refine hM12_8 (_) _ _ ?_ (by exact H.sub ⟨rfl,rfl,rfl,rfl,rfl,rfl,trivial⟩)
  rw [← codesI_ok,← hcs,← hqa];clear hst hw0b hnm hcs;(try clear hq1);(try clear hq2);(try clear hq3);(try clear hq0);(try clear hqa);(try clear hq4);(try clear hq5);(try clear hq6);(try clear hq7);first|(simp_all;done)|(simp_all;omega)
 clear H;intro q0 a w hI H;dsimp only [List.cons_append,List.nil_append] at H;simp only [List.drop_succ_cons,List.drop_zero];have hq0:=hI;refine kH H (Ra rfl (Kz K11 ?_));clear H K11;intro a H;refine c_cond H rfl ?_ ?_
 ·intro h44
  try have p44:=dT h44
  refine c_seq (fun _ K12=>?_)
  have e:formE x=3:=by unfold formE;rw [if_pos (by rw [← hq0];exact h44)]
  refine kP H (SC (Ra rfl (Kn K12 ?_)));clear H K12;intro a H;refine lr H Tryz.results143 rfl ?_;exact H.hp.ret ⟨by rw [e],rfl⟩
 intro h44
 try have p44:=dF h44
 have f0:¬ (!decide (1≤x.kind∧x.kind≤8) || !codeOk x)=true:=by rw [← hq0,h44];decide
 refine c_seqR (fun _ K13=>?_);refine wl_meet (ι:=Bool) (Tc:=[(1,_),(4,_),(5,_),(6,_)]) 7 (fun (q1:Bool)=>[(75,.bool q1)]) (fun (q1:Bool)=>q1=(!codedB x && decide (x.code≠0))) (by exact H.sub ⟨rfl,rfl,rfl,rfl,trivial⟩) ?_ ?_
 ·intro hM14_0;refine kH H (Rm rfl (Rc rfl (Rm rfl ?_)));clear H;intro a H;refine s_split H 71 rfl ?_ ?_
  ·intro h71
   try have p71:=dT h71
   refine kH H (YF fd35_1frm h71 rfl (YO ty3run 0 h71 rfl rfl (YC h71 rfl (Pt h71 rfl ?_))));clear H;intro a H;refine hM14_0 (_) _ _ ?_ (by exact H.sub ⟨rfl,rfl,rfl,rfl,rfl,trivial⟩);rw [← codesI_coded,← hcs];clear hst hw0b hnm hcs;(try clear hq1);(try clear hq2);(try clear hq3);(try clear hq0);(try clear hqa);(try clear hq4);(try clear hq5);(try clear hq6);(try clear hq7);simp_all
  intro h71
  try have p71:=dF h71
  refine kH H (Ks h71 rfl (Ks h71 rfl (Ks h71 rfl (Pf h71 rfl ?_))));clear H;intro a H;refine hM14_0 (_) _ _ ?_ (by exact H.sub ⟨rfl,rfl,rfl,rfl,rfl,trivial⟩);rw [← codesI_coded,← hcs];clear hst hw0b hnm hcs;(try clear hq1);(try clear hq2);(try clear hq3);(try clear hq0);(try clear hqa);(try clear hq4);(try clear hq5);(try clear hq6);(try clear hq7);simp_all
 clear H;intro q1 a w hI H;dsimp only [List.cons_append,List.nil_append] at H;simp only [List.drop_succ_cons,List.drop_zero];have hq1:=hI;refine wl_meet (ι:=Bool) (Tc:=[(1,_),(4,_),(5,_)]) 9 (fun (q2:Bool)=>[(84,.bool q2)]) (fun (q2:Bool)=>q2=(q1 || !namedB x && decide (x.id≠0))) (by exact H.sub ⟨rfl,rfl,rfl,trivial⟩) ?_ ?_
 ·intro hM14_7;refine kH H (Rm rfl ?_);clear H;intro a H;refine s_split H 76 rfl ?_ ?_
  ·intro h76
   try have p76:=dT h76
   refine kH H (Ks h76 rfl (Ks h76 rfl (Ks h76 rfl (Ku rfl (Ku rfl (Ku rfl (Ks h76 rfl (Pt h76 rfl ?_))))))));clear H;intro a H;refine hM14_7 (_) _ _ ?_ (by exact H.sub ⟨rfl,rfl,rfl,rfl,trivial⟩);rw [← hnm];clear hst hw0b hnm hcs;(try clear hq1);(try clear hq2);(try clear hq3);(try clear hq0);(try clear hqa);(try clear hq4);(try clear hq5);(try clear hq6);(try clear hq7);simp_all
  intro h76
  try have p76:=dF h76
  refine kH H (YM h76 rfl (YN h76 rfl (YM h76 rfl ?_)));clear H;intro a H;refine s_split H 79 rfl ?_ ?_
  ·intro h79
   try have p79:=dT h79
   refine kH H (YF fd35_2doc h79 rfl (YO ty3run 0 h79 rfl rfl (YC h79 rfl (PT h76 h79 rfl (Pf h76 rfl ?_)))));clear H;intro a H;refine hM14_7 (_) _ _ ?_ (by exact H.sub ⟨rfl,rfl,rfl,rfl,trivial⟩);rw [← hnm];clear hst hw0b hnm hcs;(try clear hq1);(try clear hq2);(try clear hq3);(try clear hq0);(try clear hqa);(try clear hq4);(try clear hq5);(try clear hq6);(try clear hq7);simp_all
  intro h79
  try have p79:=dF h79
  refine kH H (Ks h79 rfl (Ks h79 rfl (Ks h79 rfl (PF h76 h79 rfl (Pf h76 rfl ?_)))));clear H;intro a H;refine hM14_7 (_) _ _ ?_ (by exact H.sub ⟨rfl,rfl,rfl,rfl,trivial⟩);rw [← hnm];clear hst hw0b hnm hcs;(try clear hq1);(try clear hq2);(try clear hq3);(try clear hq0);(try clear hqa);(try clear hq4);(try clear hq5);(try clear hq6);(try clear hq7);simp_all
 clear H;intro q2 a w hI H;dsimp only [List.cons_append,List.nil_append] at H;simp only [List.drop_succ_cons,List.drop_zero];have hq2:=hI;refine wl_meet (ι:=Bool) (Tc:=[(1,_),(4,_),(5,_)]) 13 (fun (q3:Bool)=>[(97,.bool q3)]) (fun (q3:Bool)=>q3=(q2 || !wordB x && !emptyB x.text)) (by exact H.sub ⟨rfl,rfl,rfl,trivial⟩) ?_ ?_
 ·intro hM14_16;refine kH H (Rm rfl ?_);clear H;intro a H;refine s_split H 85 rfl ?_ ?_
  ·intro h85
   try have p85:=dT h85
   refine kH H (Ks h85 rfl (Ks h85 rfl (Ks h85 rfl (Ku rfl (Ku rfl (Ks h85 rfl (Ks h85 rfl (Ku rfl (Ku rfl (Ku rfl (Ks h85 rfl (Pt h85 rfl ?_))))))))))));clear H;intro a H;refine hM14_16 (_) _ _ ?_ (by exact H.sub ⟨rfl,rfl,rfl,rfl,trivial⟩);rw [show wordB x=(w0b || st) by rw [hw0b,hst];rfl];clear hst hw0b hnm hcs;(try clear hq1);(try clear hq2);(try clear hq3);(try clear hq0);(try clear hqa);(try clear hq4);(try clear hq5);(try clear hq6);(try clear hq7);simp_all [emptyB]
  intro h85
  try have p85:=dF h85
  refine kH H (YM h85 rfl (YN h85 rfl (YM h85 rfl ?_)));clear H;intro a H;refine s_split H 88 rfl ?_ ?_
  ·intro h88
   try have p88:=dT h88
   refine kH H (YM h88 rfl (YN h88 rfl (PT h85 h88 rfl (YM h85 rfl ?_))));clear H;intro a H;refine s_split H 92 rfl ?_ ?_
   ·intro h92
    try have p92:=dT h92
    refine kH H (YF fd35_3run h92 rfl (YO ty9run 0 h92 rfl rfl ?_));clear H;intro a H;refine s_neqstr H (wg H rfl rfl h92) rfl rfl rfl ?_;clear H;intro a H;refine kH H (PT h85 h92 rfl (Pf h85 rfl ?_));clear H;intro a H;refine hM14_16 (_) _ _ ?_ (by exact H.sub ⟨rfl,rfl,rfl,rfl,trivial⟩);rw [show wordB x=(w0b || st) by rw [hw0b,hst];rfl];clear hst hw0b hnm hcs;(try clear hq1);(try clear hq2);(try clear hq3);(try clear hq0);(try clear hqa);(try clear hq4);(try clear hq5);(try clear hq6);(try clear hq7);simp_all [emptyB]
   intro h92
   try have p92:=dF h92
   refine kH H (Ks h92 rfl (Ks h92 rfl (Ks h92 rfl (PF h85 h92 rfl (Pf h85 rfl ?_)))));clear H;intro a H;refine hM14_16 (_) _ _ ?_ (by exact H.sub ⟨rfl,rfl,rfl,rfl,trivial⟩);rw [show wordB x=(w0b || st) by rw [hw0b,hst];rfl];clear hst hw0b hnm hcs;(try clear hq1);(try clear hq2);(try clear hq3);(try clear hq0);(try clear hqa);(try clear hq4);(try clear hq5);(try clear hq6);(try clear hq7);simp_all [emptyB]
  intro h88
  try have p88:=dF h88
  refine kH H (Ks h88 rfl (Ks h88 rfl (PF h85 h88 rfl (YM h85 rfl (Ks rfl rfl (Ks rfl rfl (Ks rfl rfl (PF h85 rfl rfl (Pf h85 rfl ?_)))))))));clear H;intro a H;refine hM14_16 (_) _ _ ?_ (by exact H.sub ⟨rfl,rfl,rfl,rfl,trivial⟩);rw [show wordB x=(w0b || st) by rw [hw0b,hst];rfl];clear hst hw0b hnm hcs;(try clear hq1);(try clear hq2);(try clear hq3);(try clear hq0);(try clear hqa);(try clear hq4);(try clear hq5);(try clear hq6);(try clear hq7);simp_all [emptyB]
 clear H;intro q3 a w hI H;dsimp only [List.cons_append,List.nil_append] at H;simp only [List.drop_succ_cons,List.drop_zero];have hq3:=hI;refine wl_meet (ι:=Bool) (Tc:=[(1,_),(4,_),(5,_)]) 11 (fun (q4:Bool)=>[(108,.bool q4)]) (fun (q4:Bool)=>q4=(q3 || decide (x.kind≠6) && decide (0 < (x.flow.length:Int)))) (by exact H.sub ⟨rfl,rfl,rfl,trivial⟩) ?_ ?_
 ·intro hM14_29;refine kH H (Rm rfl ?_);clear H;intro a H;refine s_split H 98 rfl ?_ ?_
  ·intro h98
   try have p98:=dT h98
   refine kH H (Ks h98 rfl (Ks h98 rfl (Ks h98 rfl (Ks h98 rfl (Ku rfl (Ku rfl (Ku rfl (Ku rfl (Ks h98 rfl (Pt h98 rfl ?_))))))))));clear H;intro a H;refine hM14_29 (_) _ _ ?_ (by exact H.sub ⟨rfl,rfl,rfl,rfl,trivial⟩);clear hst hw0b hnm hcs;(try clear hq1);(try clear hq2);(try clear hq3);(try clear hq0);(try clear hqa);(try clear hq4);(try clear hq5);(try clear hq6);(try clear hq7);simp_all
  intro h98
  try have p98:=dF h98
  refine kH H (YF fd35_0run h98 rfl (YO ty3run 0 h98 rfl rfl (YC h98 rfl (YM h98 rfl ?_))));clear H;intro a H;refine s_split H 102 rfl ?_ ?_
  ·intro h102
   try have p102:=dT h102
   refine kH H (YF fd35_5run h102 rfl (YO ty32run 0 h102 rfl rfl (YL un32run h102 rfl (YC h102 rfl (PT h98 h102 rfl (Pf h98 rfl ?_))))));clear H;intro a H;refine hM14_29 (_) _ _ ?_ (by exact H.sub ⟨rfl,rfl,rfl,rfl,trivial⟩);clear hst hw0b hnm hcs;(try clear hq1);(try clear hq2);(try clear hq3);(try clear hq0);(try clear hqa);(try clear hq4);(try clear hq5);(try clear hq6);(try clear hq7);simp_all
  intro h102
  try have p102:=dF h102
  refine kH H (Ks h102 rfl (Ks h102 rfl (Ks h102 rfl (Ks h102 rfl (PF h98 h102 rfl (Pf h98 rfl ?_))))));clear H;intro a H;refine hM14_29 (_) _ _ ?_ (by exact H.sub ⟨rfl,rfl,rfl,rfl,trivial⟩);clear hst hw0b hnm hcs;(try clear hq1);(try clear hq2);(try clear hq3);(try clear hq0);(try clear hqa);(try clear hq4);(try clear hq5);(try clear hq6);(try clear hq7);simp_all
 clear H;intro q4 a w hI H;dsimp only [List.cons_append,List.nil_append] at H;simp only [List.drop_succ_cons,List.drop_zero];have hq4:=hI;refine wl_meet (ι:=Bool) (Tc:=[(1,_),(4,_),(5,_)]) 11 (fun (q5:Bool)=>[(119,.bool q5)]) (fun (q5:Bool)=>q5=fmtB x) (by exact H.sub ⟨rfl,rfl,rfl,trivial⟩) ?_ ?_
 ·intro hM14_40;refine kH H (Rm rfl ?_);clear H;intro a H;refine s_split H 109 rfl ?_ ?_
  ·intro h109
   try have p109:=dT h109
   refine kH H (Ks h109 rfl (Ks h109 rfl (Ks h109 rfl (Ks h109 rfl (Ku rfl (Ku rfl (Ku rfl (Ku rfl (Ks h109 rfl (Pt h109 rfl ?_))))))))));clear H;intro a H;refine hM14_40 (_) _ _ ?_ (by exact H.sub ⟨rfl,rfl,rfl,rfl,trivial⟩);rw [show fmtB x=(q4 || decide (x.kind≠7) && decide (0 < (x.rows.length:Int))) by rw [hq4,hq3,hq2,hq1];rfl];clear hst hw0b hnm hcs;(try clear hq1);(try clear hq2);(try clear hq3);(try clear hq0);(try clear hqa);(try clear hq4);(try clear hq5);(try clear hq6);(try clear hq7);simp_all
  intro h109
  try have p109:=dF h109
  refine kH H (YF fd35_0run h109 rfl (YO ty3run 0 h109 rfl rfl (YC h109 rfl (YM h109 rfl ?_))));clear H;intro a H;refine s_split H 113 rfl ?_ ?_
  ·intro h113
   try have p113:=dT h113
   refine kH H (YF fd35_6run h113 rfl (YO ty33run 0 h113 rfl rfl (YL un33run h113 rfl (YC h113 rfl (PT h109 h113 rfl (Pf h109 rfl ?_))))));clear H;intro a H;refine hM14_40 (_) _ _ ?_ (by exact H.sub ⟨rfl,rfl,rfl,rfl,trivial⟩);rw [show fmtB x=(q4 || decide (x.kind≠7) && decide (0 < (x.rows.length:Int))) by rw [hq4,hq3,hq2,hq1];rfl];clear hst hw0b hnm hcs;(try clear hq1);(try clear hq2);(try clear hq3);(try clear hq0);(try clear hqa);(try clear hq4);(try clear hq5);(try clear hq6);(try clear hq7);simp_all
  intro h113
  try have p113:=dF h113
  refine kH H (Ks h113 rfl (Ks h113 rfl (Ks h113 rfl (Ks h113 rfl (PF h109 h113 rfl (Pf h109 rfl ?_))))));clear H;intro a H;refine hM14_40 (_) _ _ ?_ (by exact H.sub ⟨rfl,rfl,rfl,rfl,trivial⟩);rw [show fmtB x=(q4 || decide (x.kind≠7) && decide (0 < (x.rows.length:Int))) by rw [hq4,hq3,hq2,hq1];rfl];clear hst hw0b hnm hcs;(try clear hq1);(try clear hq2);(try clear hq3);(try clear hq0);(try clear hqa);(try clear hq4);(try clear hq5);(try clear hq6);(try clear hq7);simp_all
 clear H;intro q5 a w hI H;dsimp only [List.cons_append,List.nil_append] at H;simp only [List.drop_succ_cons,List.drop_zero];have hq5:=hI;refine kH H (Ra rfl (Kz K13 ?_));clear H K13;intro a H;refine c_cond H rfl ?_ ?_
 ·intro h68
  try have p68:=dT h68
  refine c_seq (fun _ K14=>?_)
  have e:formE x=15:=by unfold formE;rw [if_neg f0,if_pos (by rw [← hq5];exact h68)]
  refine kP H (SC (Ra rfl (Kn K14 ?_)));clear H K14;intro a H;refine lr H Tryz.results143 rfl ?_;exact H.hp.ret ⟨by rw [e],rfl⟩
 intro h68
 try have p68:=dF h68
 have f1:¬ fmtB x=true:=by rw [← hq5,h68];decide
 refine kP H (SR fun _ K15=>Rf fd35_3run rfl (Ro ty9run 0 rfl rfl ?_));clear H;intro a H;refine s_call en132cp H wn rfl (valid_spec _ _ H.hp.ro x.text hs) rfl ?_;clear H;rintro v123 _ a w ⟨rfl,rfl⟩ - H;refine kH H (Rn rfl (Ra rfl (Kz K15 ?_)));clear H K15;intro a H;refine c_cond H rfl ?_ ?_
 ·intro h120
  try have p120:=dT h120
  refine c_seq (fun _ K16=>?_)
  have e:formE x=12:=by unfold formE;rw [if_neg f0,if_neg f1,if_pos (by simpa using h120)]
  refine kP H (SC (Ra rfl (Kn K16 ?_)));clear H K16;intro a H;refine lr H Tryz.results143 rfl ?_;exact H.hp.ret ⟨by rw [e],rfl⟩
 intro h120
 try have p120:=dF h120
 have f2:¬ validS x.text=false:=by simpa using h120
 refine c_seqR (fun _ K17=>?_);refine wl_meet (ι:=Bool) (Tc:=[(1,_),(4,_)]) 6 (fun (q6:Bool)=>[(131,.bool q6)]) (fun (q6:Bool)=>q6=(decide (x.kind=1∨x.kind=5) && emptyB x.text)) (by exact H.sub ⟨rfl,rfl,trivial⟩) ?_ ?_
 ·intro hM18_0;refine kH H (Rm rfl (Rm rfl ?_));clear H;intro a H;refine s_split H 127 rfl ?_ ?_
  ·intro h127
   try have p127:=dT h127
   refine kH H (YF fd35_3run h127 rfl (YO ty9run 0 h127 rfl rfl ?_));clear H;intro a H;refine s_eqstr H (wg H rfl rfl h127) rfl rfl rfl ?_;clear H;intro a H;refine kH H (Pt h127 rfl ?_);clear H;intro a H;refine hM18_0 (_) _ _ ?_ (by exact H.sub ⟨rfl,rfl,rfl,trivial⟩);rw [← hw0b];clear hst hw0b hnm hcs;(try clear hq1);(try clear hq2);(try clear hq3);(try clear hq0);(try clear hqa);(try clear hq4);(try clear hq5);(try clear hq6);(try clear hq7);simp_all [emptyB]
  intro h127
  try have p127:=dF h127
  refine kH H (Ks h127 rfl (Ks h127 rfl (Ks h127 rfl (Pf h127 rfl ?_))));clear H;intro a H;refine hM18_0 (_) _ _ ?_ (by exact H.sub ⟨rfl,rfl,rfl,trivial⟩);rw [← hw0b];clear hst hw0b hnm hcs;(try clear hq1);(try clear hq2);(try clear hq3);(try clear hq0);(try clear hqa);(try clear hq4);(try clear hq5);(try clear hq6);(try clear hq7);simp_all [emptyB]
 clear H;intro q6 a w hI H;dsimp only [List.cons_append,List.nil_append] at H;simp only [List.drop_succ_cons,List.drop_zero];have hq6:=hI;refine kH H (Ra rfl (Kz K17 ?_));clear H K17;intro a H;refine c_cond H rfl ?_ ?_
 ·intro h125
  try have p125:=dT h125
  refine c_seq (fun _ K18=>?_)
  have e:formE x=11:=by unfold formE;rw [if_neg f0,if_neg f1,if_neg f2,if_pos (by rw [← hq6];exact h125)]
  refine kP H (SC (Ra rfl (Kn K18 ?_)));clear H K18;intro a H;refine lr H Tryz.results143 rfl ?_;exact H.hp.ret ⟨by rw [e],rfl⟩
 intro h125
 try have p125:=dF h125
 have f3:¬ (decide (x.kind=1∨x.kind=5) && emptyB x.text)=true:=by rw [← hq6,h125];decide
 refine c_seqR (fun _ K19=>?_);refine wl_meet (ι:=Bool) (Tc:=[(1,_),(4,_)]) 9 (fun (q7:Bool)=>[(141,.bool q7)]) (fun (q7:Bool)=>q7=(decide (x.kind=5) && decide (1024 < (x.text.size:Int)))) (by exact H.sub ⟨rfl,rfl,trivial⟩) ?_ ?_
 ·intro hM20_0;refine kH H (Rf fd35_0run rfl (Ro ty3run 0 rfl rfl (Rc rfl (Rm rfl ?_))));clear H;intro a H;refine s_split H 136 rfl ?_ ?_
  ·intro h136
   try have p136:=dT h136
   refine kH H (YF fd35_3run h136 rfl (YO ty9run 0 h136 rfl rfl ?_));clear H;intro a H;refine s_lens un9cp H (wg H rfl rfl h136) rfl rfl ?_;clear H;intro a H;refine kH H (YC h136 rfl (Pt h136 rfl ?_));clear H;intro a H;refine hM20_0 (_) _ _ ?_ (by exact H.sub ⟨rfl,rfl,rfl,trivial⟩);clear hst hw0b hnm hcs;(try clear hq1);(try clear hq2);(try clear hq3);(try clear hq0);(try clear hqa);(try clear hq4);(try clear hq5);(try clear hq6);(try clear hq7);simp_all
  intro h136
  try have p136:=dF h136
  refine kH H (Ks h136 rfl (Ks h136 rfl (Ks h136 rfl (Ks h136 rfl (Pf h136 rfl ?_)))));clear H;intro a H;refine hM20_0 (_) _ _ ?_ (by exact H.sub ⟨rfl,rfl,rfl,trivial⟩);clear hst hw0b hnm hcs;(try clear hq1);(try clear hq2);(try clear hq3);(try clear hq0);(try clear hqa);(try clear hq4);(try clear hq5);(try clear hq6);(try clear hq7);simp_all
 clear H;intro q7 a w hI H;dsimp only [List.cons_append,List.nil_append] at H;simp only [List.drop_succ_cons,List.drop_zero];have hq7:=hI;refine kH H (Ra rfl (Kz K19 ?_));clear H K19;intro a H;refine c_cond H rfl ?_ ?_
 ·intro h132
  try have p132:=dT h132
  refine c_seq (fun _ K20=>?_)
  have e:formE x=10:=by unfold formE;rw [if_neg f0,if_neg f1,if_neg f2,if_neg f3,if_pos (by rw [← hq7];exact h132)]
  refine kP H (SC (Ra rfl (Kn K20 ?_)));clear H K20;intro a H;refine lr H Tryz.results143 rfl ?_;exact H.hp.ret ⟨by rw [e],rfl⟩
 intro h132
 try have p132:=dF h132
 have f4:¬ (decide (x.kind=5) && decide (1024 < (x.text.size:Int)))=true:=by rw [← hq7,h132];decide
 refine c_seqR (fun _ K21=>?_);refine wl_meet (ι:=Bool) (Tc:=[]) 7 (fun (q8:Bool)=>[(149,.bool q8)]) (fun (q8:Bool)=>q8=(startB x && !cpNm x.text)) (by exact H.sub trivial) ?_ ?_
 ·intro hM22_0;refine kH H (Rm rfl (Rm rfl ?_));clear H;intro a H;refine s_split H 144 rfl ?_ ?_
  ·intro h144
   try have p144:=dT h144
   refine kH H (YF fd35_3run h144 rfl (YO ty9run 0 h144 rfl rfl ?_));clear H;intro a H;refine s_call en60dsv H (wg H rfl rfl h144) rfl (cpNm_spec _ _ H.hp.ro x.text hs) rfl ?_;clear H;rintro v147 _ a w ⟨rfl,rfl⟩ - H;refine kH H (YN h144 rfl (Pt h144 rfl ?_));clear H;intro a H;refine hM22_0 (_) _ _ ?_ (by exact H.sub ⟨rfl,trivial⟩);rw [← hst];clear hst hw0b hnm hcs;(try clear hq1);(try clear hq2);(try clear hq3);(try clear hq0);(try clear hqa);(try clear hq4);(try clear hq5);(try clear hq6);(try clear hq7);simp_all
  intro h144
  try have p144:=dF h144
  refine kH H (Ks h144 rfl (Ks h144 rfl (Ks h144 rfl (Ks h144 rfl (Pf h144 rfl ?_)))));clear H;intro a H;refine hM22_0 (_) _ _ ?_ (by exact H.sub ⟨rfl,trivial⟩);rw [← hst];clear hst hw0b hnm hcs;(try clear hq1);(try clear hq2);(try clear hq3);(try clear hq0);(try clear hqa);(try clear hq4);(try clear hq5);(try clear hq6);(try clear hq7);simp_all
 clear H;intro q8 a w hI H;dsimp only [List.cons_append,List.nil_append] at H;simp only [List.drop_succ_cons,List.drop_zero];have hq8:=hI;refine kH H (Ra rfl (Kz K21 ?_));clear H K21;intro a H;refine c_cond H rfl ?_ ?_
 ·intro h142
  try have p142:=dT h142
  refine c_seq (fun _ K22=>?_)
  have e:formE x=13:=by unfold formE;rw [if_neg f0,if_neg f1,if_neg f2,if_neg f3,if_neg f4,if_pos (by rw [← hq8];exact h142)]
  refine kP H (SC (Ra rfl (Kn K22 ?_)));clear H K22;intro a H;refine lr H Tryz.results143 rfl ?_;exact H.hp.ret ⟨by rw [e],rfl⟩
 intro h142
 try have p142:=dF h142
 refine c_skip ?_;refine K10 _ _ ?_;clear K10;refine c_seq (fun _ K23=>?_)
 have e:formE x=0:=by unfold formE;rw [if_neg f0,if_neg f1,if_neg f2,if_neg f3,if_neg f4,if_neg (by rw [← hq8,h142];decide)]
 refine kP H (SC (Ra rfl (Kn K23 ?_)));clear H K23;intro a H;refine lr H Tryz.results143 rfl ?_;exact H.hp.ret ⟨by rw [e],rfl⟩
end
section
open Go.RowKit
/-- From s to r no more than z ids come to it. -/
def UpB (s:CS) (z:Nat) (r:CR):Prop:=r.2.bef.length≤s.bef.length+z
theorem UpB.and {s:CS} {z y q:Nat} {r:CR} {f:CS→CR} (h:UpB s z r) (hq:z+y≤q) (hf:∀ s,UpB s y (f s)):UpB s q (andT r f):=by
 unfold UpB at *
 unfold andT
 split
 ·omega
 have:=hf r.2
 omega
theorem UpB.zero (s:CS) (e:Int) (q:Nat):UpB s q (e,s):=by unfold UpB;dsimp only;omega
theorem UpB.le {s:CS} {z y:Nat} {r:CR} (h:UpB s z r) (hq:z≤y):UpB s y r:=by unfold UpB at *;omega
theorem idB_len (l:List Int) (x:Int):(idB l x).length≤l.length+1:=by
 unfold idB
 split
 ·simp
 omega
theorem ub_id (s:CS) (x:Int):UpB s 1 (idC s x):=idB_len _ _
theorem ub_pre (body note:Bool) (t k i:Int) (s:CS):UpB s 1 (preC body note t k i s):=by
 unfold preC
 (repeat' split) <;> first|exact UpB.zero _ _ _|exact (UpB.zero _ _ 0).and (y:=1) (by omega) fun s=>ub_id _ _
mutual
theorem ub_item (C:CkP) (body note:Bool) (t:Int):∀ (x:ItemD) (s:CS),UpB s (szR x.dat) (itemC C body note t x s)
 | .mk k c i tx h f r,s=>by
  have hz:=zItem_eq (.mk k c i tx h f r);have hf:=ub_items C false true t f;have hr:=ub_rows C note (t+1) r;rw [itemC];dsimp only [ItemD.text,ItemD.flow,ItemD.rows,ItemD.head] at hz;refine (UpB.zero s _ 0).and (Nat.le_of_eq (Nat.zero_add _)) fun s=>?_;refine UpB.and (z:=1) (s:=s) (ub_pre body note t k i ⟨_,s.bef⟩) (y:=zItems f+zRows r) (by omega) fun s=>(UpB.zero s _ 0).and (Nat.le_of_eq (Nat.zero_add _)) fun s=>?_
  by_cases h6:k=6
  ·rw [if_pos h6];exact (hf s).le (by omega)
  rw [if_neg h6]
  by_cases h7:k=7
  ·rw [if_pos h7]
   unfold rowsC0
   by_cases c1:r.length=0
   ·rw [if_pos c1];exact UpB.zero _ _ _
   rw [if_neg c1]
   by_cases c2:256 < r.length
   ·rw [if_pos c2];exact UpB.zero _ _ _
   rw [if_neg c2];exact (hr s).le (by omega)
  rw [if_neg h7];exact UpB.zero _ _ _
theorem ub_row (C:CkP) (note:Bool) (t:Int):∀ (x:RowD) (s:CS),UpB s (szR x.dat) (rowC C note t x s)
 | .mk h cs,s=>by
  have hz:=zRow_eq (.mk h cs);have hc:=ub_cells C note t cs;rw [rowC_eq];dsimp only [RowD.cells,RowD.head] at hz ⊢;exact (UpB.zero s _ 0).and (y:=zCells cs) (by omega) fun s=>hc s
theorem ub_cell (C:CkP) (note:Bool) (t:Int):∀ (x:CellD) (s:CS),UpB s (szR x.dat) (cellC C note t x s)
 | .mk i h f,s=>by
  have hz:=zCell_eq (.mk i h f);have hf:=ub_items C false note t f;rw [cellC_eq];dsimp only [CellD.flow,CellD.head,CellD.id] at hz ⊢;exact (ub_id s _).and (y:=zItems f) (by omega) fun s=>(UpB.zero s _ 0).and (Nat.le_of_eq (Nat.zero_add _)) fun s=>hf s
theorem ub_items (C:CkP) (body note:Bool) (t:Int):∀ (l:List ItemD) (s:CS),UpB s (zItems l) (itemsC C body note t l s)
 | [],s=>by rw [itemsC];exact UpB.zero _ _ _
 | x :: r,s=>by
  rw [itemsC];exact (ub_item C body note t x s).and (y:=zItems r) (by simp only [zItems,List.map_cons,szRs];omega) fun s=>ub_items C body note t r s
theorem ub_rows (C:CkP) (note:Bool) (t:Int):∀ (l:List RowD) (s:CS),UpB s (zRows l) (rowsC C note t l s)
 | [],s=>by rw [rowsC];exact UpB.zero _ _ _
 | x :: r,s=>by
  rw [rowsC];exact (ub_row C note t x s).and (y:=zRows r) (by simp only [zRows,List.map_cons,szRs];omega) fun s=>ub_rows C note t r s
theorem ub_cells (C:CkP) (note:Bool) (t:Int):∀ (l:List CellD) (s:CS),UpB s (zCells l) (cellsC C note t l s)
 | [],s=>by rw [cellsC];exact UpB.zero _ _ _
 | x :: r,s=>by
  rw [cellsC];exact (ub_cell C note t x s).and (y:=zCells r) (by simp only [zCells,List.map_cons,szRs];omega) fun s=>ub_cells C note t r s
end
/-- What a piece leaves for the rest. -/
theorem both_item {C:CkP} {body note:Bool} {t:Int} {x:ItemD} {s s':CS} {e:Int} (h:itemC C body note t x s=(e,s')):s.n≤s'.n∧s'.n≤s.n+szR x.dat∧s'.bef.length≤s.bef.length+szR x.dat:=by
 have h1:=up_item C body note t x s;have h2:=ub_item C body note t x s;rw [h] at h1 h2;exact ⟨h1.1,h1.2,h2⟩
theorem both_cell {C:CkP} {note:Bool} {t:Int} {x:CellD} {s s':CS} {e:Int} (h:cellC C note t x s=(e,s')):s.n≤s'.n∧s'.n≤s.n+szR x.dat∧s'.bef.length≤s.bef.length+szR x.dat:=by
 have h1:=up_cell C note t x s;have h2:=ub_cell C note t x s;rw [h] at h1 h2;exact ⟨h1.1,h1.2,h2⟩
theorem itemsC_at {C:CkP} {body note:Bool} {t:Int} {l:List ItemD} {k:Nat} (hk:k < l.length) (s:CS):itemsC C body note t (l.drop k) s=andT (itemC C body note t l[k] s) fun s=>itemsC C body note t (l.drop (k+1)) s:=by rw [List.drop_eq_getElem_cons hk,itemsC]
theorem rowsC_at {C:CkP} {note:Bool} {t:Int} {l:List RowD} {k:Nat} (hk:k < l.length) (s:CS):rowsC C note t (l.drop k) s=andT (rowC C note t l[k] s) fun s=>rowsC C note t (l.drop (k+1)) s:=by rw [List.drop_eq_getElem_cons hk,rowsC]
theorem cellsC_at {C:CkP} {note:Bool} {t:Int} {l:List CellD} {k:Nat} (hk:k < l.length) (s:CS):cellsC C note t (l.drop k) s=andT (cellC C note t l[k] s) fun s=>cellsC C note t (l.drop (k+1)) s:=by rw [List.drop_eq_getElem_cons hk,cellsC]
theorem zItems_at {l:List ItemD} {k:Nat} (hk:k < l.length):zItems (l.drop k)=1+szR l[k].dat+zItems (l.drop (k+1)):=by
 simp only [zItems];rw [List.drop_eq_getElem_cons hk,List.map_cons,szRs]
theorem zRows_at {l:List RowD} {k:Nat} (hk:k < l.length):zRows (l.drop k)=1+szR l[k].dat+zRows (l.drop (k+1)):=by
 simp only [zRows];rw [List.drop_eq_getElem_cons hk,List.map_cons,szRs]
theorem zCells_at {l:List CellD} {k:Nat} (hk:k < l.length):zCells (l.drop k)=1+szR l[k].dat+zCells (l.drop (k+1)):=by
 simp only [zCells];rw [List.drop_eq_getElem_cons hk,List.map_cons,szRs]
end
section
open Go.RowKit
theorem en67mro:∀ args w,(callFunc 67 args).run Tryz.prog w=.ok (.enter 67 args) w:=enters Tryz.func67 rfl (by kernel_rfl)
theorem en144mro:∀ args w,(callFunc 144 args).run Tryz.prog w=.ok (.enter 144 args) w:=enters Tryz.func144 rfl (by kernel_rfl)
theorem en68mro:∀ args w,(callFunc 68 args).run Tryz.prog w=.ok (.enter 68 args) w:=enters Tryz.func68 rfl (by kernel_rfl)
/-- What a call of the model checker leaves. -/
abbrev MkR (D:DocV) (b:Nat) (L0:OL) (r:CR):Value→OL→Prop:=fun u L'=>∃ v' L1 s',u=vi r.1∧L'=mkB D b v' s'.n :: L1∧IdsT v' s'.bef L1 L0∧(r.1=0→s'=r.2)
def FlowOk (m:Nat):Prop:=∀ (G:GH) (L L0:OL) (w0:World) (D:DocV) (st:List StyleD) (li:List LiD) (rv:List RvD) (b:Nat) (v:Value) (s:CS) (l:List ItemD) (u:Value) (body note:Bool) (t:Int),
 MkG G D st li rv→MkZ st li rv→IdsT v s.bef L L0→Owns G (mkB D b v s.n :: L) w0→RepV G (.sl 11 (l.map ItemD.dat)) u→zItems l < m→0≤t→t≤4→0≤s.n→s.n+(zItems l:Nat)≤1099511627776→s.bef.length+zItems l < 1099511627776 →
 Calls Tryz.prog 68 #[.pointer (some ⟨b,0,none⟩),u,.bool body,.bool note,vi t] w0 (RetL w0 G (mkB D b v s.n :: L) fun u G' L'=>G=G'∧MkR D b L0 (itemsC (ckP st li rv) body note t l s) u L')
theorem mHeadL_spec (G:GH) (L:OL) (w0:World) (D:DocV) (st:List StyleD) (li:List LiD) (rv:List RvD) (b:Nat) (v:Value) (n:Int) (hck:MkG G D st li rv) (hmz:MkZ st li rv) (hO:Owns G (mkB D b v n :: L) w0)
  (e:Int) (h:HeadD) (p d l:Value) (hh:HeadR G h p d l) (hz:zHead h≤4294967296) :
  Calls Tryz.prog 67 #[.pointer (some ⟨b,0,none⟩),vi e,hdV h p d l] w0 (RetL w0 G (mkB D b v n :: L) fun u G' L'=>G=G'∧L'=mkB D b v n :: L∧u=vi (headE (ckP st li rv) e h)):=by
 have hm:=GH.add_mono G (o:=(mkB D b v n).2) (hO.sep _ List.mem_cons_self);exact (mHead_spec (G.add b (mkB D b v n).2) w0 hO.add D st li rv b v n (hck.mono hm) hmz (GH.add_self _ _ _) e h p d l (hh.mono hm) hz).mono fun _ _=>ret_lend (b:=b) (o:=(mkB D b v n).2) (R':=fun u=>u=vi (headE (ckP st li rv) e h)) hO fun _ _ h=>h
theorem rowE_1 {C:CkP} {h:HeadD} {n:Nat} (e:headE C 9 h≠0):rowE C h n=headE C 9 h:=by simp [rowE,firstE,e]
theorem rowE_2 {C:CkP} {h:HeadD} {n:Nat} (e:headE C 9 h=0) (h0:n=0):rowE C h n=11:=by simp [rowE,firstE,e,h0,whenE]
theorem rowE_3 {C:CkP} {h:HeadD} {n:Nat} (e:headE C 9 h=0) (h0:n≠0) (h1:32 < n):rowE C h n=9:=by
 have h2:¬ (n:Int)=0:=by omega
 have h3:(32:Int) < n:=by omega
 simp only [rowE,firstE,e,whenE,decide_eq_false h2,decide_eq_true h3];decide
theorem rowE_4 {C:CkP} {h:HeadD} {n:Nat} (e:headE C 9 h=0) (h0:n≠0) (h1:¬ 32 < n):rowE C h n=0:=by
 have h2:¬ (n:Int)=0:=by omega
 have h3:¬ (32:Int) < n:=by omega
 simp only [rowE,firstE,e,whenE,decide_eq_false h2,decide_eq_false h3];decide
set_option maxHeartbeats 4000000 in
theorem mRows_ok {m:Nat} (ih:FlowOk m) (hm:m≤4294967296) (G:GH) (L L0:OL) (w0:World) (D:DocV) (st:List StyleD) (li:List LiD) (rv:List RvD) (b:Nat) (v:Value) (s:CS) (l:List RowD) (u:Value) (note:Bool) (t:Int)
  (hck:MkG G D st li rv) (hmz:MkZ st li rv) (hi:IdsT v s.bef L L0) (hO:Owns G (mkB D b v s.n :: L) w0) (hv:RepV G (.sl 6 (l.map RowD.dat)) u) (hz:zRows l < m) (ht0:0≤t) (ht4:t≤4) (hs0:0≤s.n) (hs1:s.n+(zRows l:Nat)≤1099511627776) (hs2:s.bef.length+zRows l < 1099511627776) :
  Calls Tryz.prog 145 #[.pointer (some ⟨b,0,none⟩),u,.bool note,vi t] w0 (RetL w0 G (mkB D b v s.n :: L) fun u G' L'=>G=G'∧MkR D b L0 (rowsC0 l.length (fun s=>rowsC (ckP st li rv) note t l s) s) u L'):=by
 obtain ⟨A,c,rfl,hc1,hc2,hg⟩:=hv.slice;rw [List.length_map] at *;have hll:=zRows_length l;obtain ⟨R,hR⟩:∃ R,R=rowsC0 l.length (fun s=>rowsC (ckP st li rv) note t l s) s:=⟨_,rfl⟩;rw [← hR];refine enterL (N:=97) (T:=[(0,_),(1,_),(2,_),(3,_)]) Tryz.func145 rfl Tryz.ntmps145 rfl rfl hO ?_;intro a H;refine kP H (SR fun _ K1=>Ra rfl (Kz K1 (SQ fun _ K2=>SB (SR fun _ K3=>Rm rfl (Rl un33run rfl (Rc rfl (Ra rfl (Kz K3 ?_))))))));clear H K1 K3;intro a H;refine c_cond H rfl ?_ ?_
 ·intro h16
  try have p16:=dT h16
  refine c_seq (fun _ K4=>?_)
  have hF:R.1=11:=by rw [hR,rowsC0,if_pos (by omega)]
  refine kP H (SC (Ra rfl (Kn K4 ?_)));clear H K4;intro a H;refine lr H Tryz.results145 rfl ?_;exact H.hp.retD (L':=mkB D b v s.n :: L) (by repeat (first|exact List.Sublist.refl _|apply List.Sublist.cons)) ⟨rfl,v,L,s,congrArg vi hF.symm,rfl,hi,fun h=>absurd (hF.symm.trans h) (by decide)⟩
 intro h16
 try have p16:=dF h16
 refine kP H (SR fun _ K5=>Rm rfl (Rl un33run rfl (Rc rfl (Ra rfl (Kz K5 ?_)))));clear H K5;intro a H;refine c_cond H rfl ?_ ?_
 ·intro h20
  try have p20:=dT h20
  refine c_seq (fun _ K6=>?_)
  have hF:R.1=9:=by rw [hR,rowsC0,if_neg (by omega),if_pos (by omega)]
  refine kP H (SC (Ra rfl (Kn K6 ?_)));clear H K6;intro a H;refine lr H Tryz.results145 rfl ?_;exact H.hp.retD (L':=mkB D b v s.n :: L) (by repeat (first|exact List.Sublist.refl _|apply List.Sublist.cons)) ⟨rfl,v,L,s,congrArg vi hF.symm,rfl,hi,fun h=>absurd (hF.symm.trans h) (by decide)⟩
 intro h20
 try have p20:=dF h20
 rw [rowsC0,if_neg (by omega),if_neg (by omega)] at hR;refine kP H (Kc K2 (SQ fun _ K7=>SR fun _ K8=>Ra rfl (Kz K8 (SB ?_))));clear H K2 K8;intro a H;skip;refine c_loopS (ι:=Nat × CS × Value × OL) (Tc:=[(0,_),(1,_),(2,_),(3,_)]) (Lc:=[]) (fun (gh:Nat × CS × Value × OL)=>[(9,vi gh.1)]) (fun (gh:Nat × CS × Value × OL)=>[mkB D b gh.2.2.1 gh.2.1.n]++gh.2.2.2) (fun (gh:Nat × CS × Value × OL)=>G) (fun (gh:Nat × CS × Value × OL)=>gh.1≤l.length∧rowsC (ckP st li rv) note t (l.drop gh.1) gh.2.1=R∧IdsT gh.2.2.1 gh.2.1.bef gh.2.2.2 L0∧0≤gh.2.1.n∧gh.2.1.n+(zRows (l.drop gh.1):Nat)≤1099511627776∧gh.2.1.bef.length+zRows (l.drop gh.1) < 1099511627776) (fun (gh:Nat × CS × Value × OL)=>l.length - gh.1) ((0,s,v,L)) (by exact (H).sub ⟨rfl,rfl,rfl,rfl,rfl,trivial⟩) ?_ ?_
 ·exact ⟨Nat.zero_le _,hR.symm,hi,hs0,hs1,hs2⟩
 clear H;intro gh a w hI H;obtain ⟨k,s1,v1,L1⟩:=gh;dsimp only at hI H;obtain ⟨hk,hX,hv1,hn0,hn1,hn2⟩:=hI;dsimp only [List.cons_append,List.nil_append,List.append_nil] at H;refine kP H (SQ fun _ K9=>SR fun _ K10=>Rm rfl (Rm rfl (Rl un33run rfl (Rc rfl (Kz K10 ?_)))));clear H K10;intro a H;refine c_cond H rfl ?_ ?_
 ·intro h27
  try have p27:=dT h27
  have hk2:k < l.length:=by omega
  obtain ⟨o,xo,pA,pn,pc,dA,dn,dc,yA,yn,yc,cA,cn,cc,rfl,hrow,hhd,hcl⟩:=row_get hk2 hg;have hcn:=hcl.len;rw [List.length_map] at hcn;subst hcn;obtain ⟨_,cc',hce,hcc1,hcc2,hcg⟩:=hcl.slice
  injection hce with e1 e2 e3
  subst e1;subst e3;rw [List.length_map] at hcc1;have hzs:=zRows_at hk2;have hzi:=zRow_eq l[k];have hzm:=zRows_mem (List.getElem_mem hk2);have hcll:=zCells_length l[k].cells;rw [rowsC_at hk2,rowC_eq] at hX
  have rh:∀ (j:Nat) (u:Value),[.slice pA pn pc,vi l[k].head.marks.ins,vi l[k].head.marks.move,.slice dA dn dc,.slice yA yn yc][j]?=some u→gcell G o (xo+k*6+0+j)=some u:=by
   intro j u hj;refine hrow j u ?_
   match j,hj with
   | 0,hj=>exact hj
   | 1,hj=>exact hj
   | 2,hj=>exact hj
   | 3,hj=>exact hj
   | 4,hj=>exact hj
   | n+5,hj=>simp at hj
  have rc:gcell G o (xo+k*6+5)=some (.slice cA l[k].cells.length cc):=hrow 5 _ rfl
  have hEr:∀ e,e≠0→rowE (ckP st li rv) l[k].head l[k].cells.length=e→R.1=e:=fun e h1 h2=>by
   rw [← hX,andT_err (r:=(rowE (ckP st li rv) l[k].head l[k].cells.length,s1)) (by dsimp only;rw [h2];exact h1)];rw [andT_err (by dsimp only;rw [h2];exact h1)];exact h2
  refine kP H (Kc K9 (SQ fun _ K11=>SB (SQ fun _ K12=>SR fun _ K13=>Rm rfl (Rm rfl (Rm rfl (Ri un33run ty171run rfl rfl (Rf fd171_0run rfl ?_)))))));clear H K9;intro a H;refine s_loada ty31run (cs:=[.slice pA pn pc,vi l[k].head.marks.ins,vi l[k].head.marks.move,.slice dA dn dc,.slice yA yn yc]) H wn rfl rfl (fun j v hj=>H.hp.gcell (rh j v hj)) rfl ?_;clear H;intro a H;refine s_callL en67mro (Li:=[]) (L:=mkB D b v1 s1.n :: L1) H wn rfl (mHeadL_spec _ _ _ D st li rv b v1 s1.n hck hmz (Hp.owns (Li:=[]) H.hp) 9 l[k].head _ _ _ hhd (by omega)) rfl ?_;clear H;rintro v36 _ _ a w ⟨rfl,rfl,rfl⟩ - H;dsimp only [List.nil_append] at H;refine kH H (Ra rfl (Kz K13 (SR fun _ K14=>Rm rfl (Rc rfl (Kz K14 ?_)))));clear H K13 K14;intro a H;refine c_cond H rfl ?_ ?_
  ·intro h38
   try have p38:=dT h38
   refine c_seq (fun _ K15=>?_);have hF:=hEr _ p38 (rowE_1 p38);refine kP H (SC (Rm rfl (Ra rfl (Kn K15 ?_))));clear H K15;intro a H;refine lr H Tryz.results145 rfl ?_;exact H.hp.retD (L':=mkB D b v1 s1.n :: L1) (by repeat (first|exact List.Sublist.refl _|apply List.Sublist.cons)) ⟨rfl,v1,L1,s1,congrArg vi hF.symm,rfl,hv1,fun h=>absurd (hF.symm.trans h) p38⟩
  intro h38
  try have p38:=dF h38
  have e1:headE (ckP st li rv) 9 l[k].head=0:=Decidable.not_not.1 p38;refine kP H (Kc K12 (SQ fun _ K16=>SB (SR fun _ K17=>Rm rfl (Rm rfl (Ri un33run ty171run rfl rfl (Rf fd171_1run rfl (Rg ty169run rfl rc (Rl un169run rfl (Rc rfl (Ra rfl (Kz K17 ?_)))))))))));clear H K12 K17;intro a H;refine c_cond H rfl ?_ ?_
  ·intro h40
   try have p40:=dT h40
   refine c_seq (fun _ K18=>?_);have hF:=hEr 11 (by decide) (rowE_2 e1 (by omega));refine kP H (SC (Ra rfl (Kn K18 ?_)));clear H K18;intro a H;refine lr H Tryz.results145 rfl ?_;exact H.hp.retD (L':=mkB D b v1 s1.n :: L1) (by repeat (first|exact List.Sublist.refl _|apply List.Sublist.cons)) ⟨rfl,v1,L1,s1,congrArg vi hF.symm,rfl,hv1,fun h=>absurd (hF.symm.trans h) (by decide)⟩
  intro h40
  try have p40:=dF h40
  refine kP H (SR fun _ K19=>Rm rfl (Rm rfl (Ri un33run ty171run rfl rfl (Rf fd171_1run rfl (Rg ty169run rfl rc (Rl un169run rfl (Rc rfl (Ra rfl (Kz K19 ?_)))))))));clear H K19;intro a H;refine c_cond H rfl ?_ ?_
  ·intro h48
   try have p48:=dT h48
   refine c_seq (fun _ K20=>?_);have hF:=hEr 9 (by decide) (rowE_3 e1 (by omega) (by omega));refine kP H (SC (Ra rfl (Kn K20 ?_)));clear H K20;intro a H;refine lr H Tryz.results145 rfl ?_;exact H.hp.retD (L':=mkB D b v1 s1.n :: L1) (by repeat (first|exact List.Sublist.refl _|apply List.Sublist.cons)) ⟨rfl,v1,L1,s1,congrArg vi hF.symm,rfl,hv1,fun h=>absurd (hF.symm.trans h) (by decide)⟩
  intro h48
  try have p48:=dF h48
  rw [andT_ok (r:=(rowE (ckP st li rv) l[k].head l[k].cells.length,s1)) (rowE_4 e1 (by omega) (by omega))] at hX;dsimp only at hX;refine kP H (Kc K16 (SR fun _ K21=>Ra rfl (Kz K21 (SB ?_))));clear H K16 K21;intro a H;skip;refine c_loopS (ι:=Nat × CS × Value × OL) (Tc:=[(0,_),(1,_),(2,_),(3,_),(9,_)]) (Lc:=[]) (fun (gh:Nat × CS × Value × OL)=>[(11,vi gh.1)]) (fun (gh:Nat × CS × Value × OL)=>[mkB D b gh.2.2.1 gh.2.1.n]++gh.2.2.2) (fun (gh:Nat × CS × Value × OL)=>G) (fun (gh:Nat × CS × Value × OL)=>gh.1≤l[k].cells.length∧cellsC (ckP st li rv) note t (l[k].cells.drop gh.1) gh.2.1=cellsC (ckP st li rv) note t l[k].cells s1∧IdsT gh.2.2.1 gh.2.1.bef gh.2.2.2 L0∧0≤gh.2.1.n∧gh.2.1.n+(zCells (l[k].cells.drop gh.1):Nat)≤s1.n+(zCells l[k].cells:Nat)∧gh.2.1.bef.length+zCells (l[k].cells.drop gh.1)≤s1.bef.length+zCells l[k].cells) (fun (gh:Nat × CS × Value × OL)=>l[k].cells.length - gh.1) ((0,s1,v1,L1)) (by exact (H).sub ⟨rfl,rfl,rfl,rfl,rfl,rfl,trivial⟩) ?_ ?_
  ·exact ⟨Nat.zero_le _,rfl,hv1,hn0,Int.le_refl _,Nat.le_refl _⟩
  clear H;intro gh a w hI H;obtain ⟨j,s2,v2,L2⟩:=gh;dsimp only at hI H;obtain ⟨hj,hY,hv2,hm0,hm1,hm2⟩:=hI;dsimp only [List.cons_append,List.nil_append,List.append_nil] at H;refine kP H (SQ fun _ K22=>SR fun _ K23=>Rm rfl (Rm rfl (Rm rfl (Ri un33run ty171run rfl rfl (Rf fd171_1run rfl (Rg ty169run rfl rc (Rl un169run rfl (Rc rfl (Kz K23 ?_)))))))));clear H K23;intro a H;refine c_cond H rfl ?_ ?_
  ·intro h63
   try have p63:=dT h63
   have hj2:j < l[k].cells.length:=by omega
   obtain ⟨o2,xo2,pA2,pn2,pc2,dA2,dn2,dc2,yA2,yn2,yc2,fA2,fn2,fc2,rfl,hrow2,hhd2,hfl2⟩:=cell_get hj2 hcg;have hzs2:=zCells_at hj2;have hzi2:=zCell_eq l[k].cells[j];have hzm2:=zCells_mem (List.getElem_mem hj2);rw [cellsC_at hj2,cellC_eq] at hY
   have hEc:∀ e s9,e≠0→cellC (ckP st li rv) note t l[k].cells[j] s2=(e,s9)→R.1=e:=fun e s9 h1 h2=>by
    rw [cellC_eq] at h2;rw [h2,andT_err (by exact h1)] at hY;rw [← hX,← hY,andT_err (by exact h1)]
   refine kP H (Kc K22 (SQ fun _ K24=>SB (SR fun _ K25=>Rm rfl (Rm rfl (Ri un33run ty171run rfl rfl (Rf fd171_1run rfl (Rg ty169run rfl rc (Rm rfl (Ri un169run ty174run rfl rfl ?_)))))))));clear H K22;intro a H;refine s_loada ty174run (cs:=[vi l[k].cells[j].id,.slice pA2 pn2 pc2,vi l[k].cells[j].head.marks.ins,vi l[k].cells[j].head.marks.move,.slice dA2 dn2 dc2,.slice yA2 yn2 yc2,.slice fA2 fn2 fc2]) H wn rfl rfl (fun j v hj=>H.hp.gcell (hrow2 j v hj)) rfl ?_;clear H;intro a H;refine s_alloc ty174run H wn rfl ?_;clear H;intro b12 a w hb12 H;refine s_store ty174run 0 (vs:=[_,_,_,_,_,_,_]) _ H wn rfl rfl rfl rfl rfl rfl rfl rfl ?_;clear H;intro w H;dsimp only [List.set,setRow] at H;refine K25 _ _ ?_;clear K25;refine kP H (SQ fun _ K26=>SR fun _ K27=>Rm rfl (Rf fd174_0run rfl (Ro ty3run 0 rfl rfl ?_)));clear H;intro a H;refine s_callL en144mro (Li:=[_]) (L:=mkB D b v2 s2.n :: L2) H wn rfl (mId_spec _ _ L0 _ D b v2 s2 l[k].cells[j].id hv2 (Hp.owns (Li:=[_]) H.hp) (by omega)) rfl ?_;clear H;rintro v77 _ _ a w ⟨rfl,v3,L3,rfl,rfl,hv3⟩ - H;dsimp only [List.cons_append,List.nil_append] at H;refine kH H (Ra rfl (Kz K27 (SR fun _ K28=>Rm rfl (Rc rfl (Kz K28 ?_)))));clear H K27 K28;intro a H;refine c_cond H rfl ?_ ?_
   ·intro h79
    try have p79:=dT h79
    refine c_seq (fun _ K29=>?_);have hF:=hEc (idC s2 l[k].cells[j].id).1 _ p79 (by rw [cellC_eq,andT_err p79]);refine kP H (SC (Rm rfl (Ra rfl (Kn K29 ?_))));clear H K29;intro a H;refine lr H Tryz.results145 rfl ?_;exact H.hp.retD (L':=mkB D b v3 s2.n :: L3) (by repeat (first|exact List.Sublist.refl _|apply List.Sublist.cons)) ⟨rfl,v3,L3,⟨s2.n,(idC s2 l[k].cells[j].id).2.bef⟩,congrArg vi hF.symm,rfl,hv3,fun h=>absurd (hF.symm.trans h) p79⟩
   intro h79
   try have p79:=dF h79
   have eid:(idC s2 l[k].cells[j].id).1=0:=Decidable.not_not.1 p79;have hub:=ub_id s2 l[k].cells[j].id
   unfold UpB at hub
   obtain ⟨s3,hs3⟩:∃ s3,s3=(idC s2 l[k].cells[j].id).2:=⟨_,rfl⟩
   have hs3n:s3.n=s2.n:=by rw [hs3];rfl
   rw [← hs3] at hv3 hub;rw [← hs3n] at H;refine kP H (Kc K26 (SQ fun _ K30=>SR fun _ K31=>Rm rfl (Rf fd174_1run rfl ?_)));clear H K26;intro a H;refine s_loada ty31run (cs:=[.slice pA2 pn2 pc2,vi l[k].cells[j].head.marks.ins,vi l[k].cells[j].head.marks.move,.slice dA2 dn2 dc2,.slice yA2 yn2 yc2]) H wn rfl rfl (H.hp.ocells 0 rfl rfl) rfl ?_;clear H;intro a H;refine s_callL en67mro (Li:=[_]) (L:=mkB D b v3 s3.n :: L3) H wn rfl (mHeadL_spec _ _ _ D st li rv b v3 s3.n hck hmz (Hp.owns (Li:=[_]) H.hp) 10 l[k].cells[j].head _ _ _ hhd2 (by omega)) rfl ?_;clear H;rintro v84 _ _ a w ⟨rfl,rfl,rfl⟩ - H;dsimp only [List.cons_append,List.nil_append] at H;refine kH H (Ra rfl (Kz K31 (SR fun _ K32=>Rm rfl (Rc rfl (Kz K32 ?_)))));clear H K31 K32;intro a H;refine c_cond H rfl ?_ ?_
   ·intro h86
    try have p86:=dT h86
    refine c_seq (fun _ K33=>?_);have hF:=hEc (headE (ckP st li rv) 10 l[k].cells[j].head) s3 p86 (by rw [cellC_eq,andT_ok eid,← hs3,andT_err (by exact p86)]);refine kP H (SC (Rm rfl (Ra rfl (Kn K33 ?_))));clear H K33;intro a H;refine lr H Tryz.results145 rfl ?_;exact H.hp.retD (L':=mkB D b v3 s3.n :: L3) (by repeat (first|exact List.Sublist.refl _|apply List.Sublist.cons)) ⟨rfl,v3,L3,s3,congrArg vi hF.symm,rfl,hv3,fun h=>absurd (hF.symm.trans h) p86⟩
   intro h86
   try have p86:=dF h86
   have e86:headE (ckP st li rv) 10 l[k].cells[j].head=0:=Decidable.not_not.1 p86;refine kP H (Kc K30 (SR fun _ K34=>Rm rfl (Rf fd174_2run rfl (Ro ty32run 0 rfl rfl (Rm rfl (Rm rfl ?_))))));clear H K30;intro a H;refine s_callL en68mro (Li:=[_]) (L:=mkB D b v3 s3.n :: L3) H wn rfl (ih _ _ L0 _ D st li rv b v3 s3 l[k].cells[j].flow _ false note t hck hmz hv3 (Hp.owns (Li:=[_]) H.hp) hfl2 (by omega) ht0 ht4 (by omega) (by omega) (by omega)) rfl ?_;clear H;rintro v93 _ _ a w ⟨rfl,v5,L5,s5,rfl,rfl,hv5,h5⟩ - H;dsimp only [List.cons_append,List.nil_append] at H
   have hcc5:cellC (ckP st li rv) note t l[k].cells[j] s2=itemsC (ckP st li rv) false note t l[k].cells[j].flow s3:=by rw [cellC_eq,andT_ok eid,← hs3,andT_ok (r:=(headE (ckP st li rv) 10 l[k].cells[j].head,s3)) e86]
   refine kH H (Ra rfl (Kz K34 (SR fun _ K35=>Rm rfl (Rc rfl (Kz K35 ?_)))));clear H K34 K35;intro a H;refine c_cond H rfl ?_ ?_
   ·intro h95
    try have p95:=dT h95
    refine c_seq (fun _ K36=>?_);have hF:=hEc _ _ p95 hcc5;refine kP H (SC (Rm rfl (Ra rfl (Kn K36 ?_))));clear H K36;intro a H;refine lr H Tryz.results145 rfl ?_;exact H.hp.retD (L':=mkB D b v5 s5.n :: L5) (by repeat (first|exact List.Sublist.refl _|apply List.Sublist.cons)) ⟨rfl,v5,L5,s5,congrArg vi hF.symm,rfl,hv5,fun h=>absurd (hF.symm.trans h) p95⟩
   intro h95
   try have p95:=dF h95
   have e95:=Decidable.not_not.1 p95;have hs5:=h5 e95
   have hcell:cellC (ckP st li rv) note t l[k].cells[j] s2=(0,s5):=by rw [hcc5,hs5,← e95]
   obtain ⟨z1,z2,z3⟩:=both_cell hcell
   have hC:cellsC (ckP st li rv) note t (l[k].cells.drop (j+1)) s5=cellsC (ckP st li rv) note t l[k].cells s1:=by
    rw [cellC_eq] at hcell;rw [hcell,andT_ok rfl] at hY;exact hY
   refine kP H (Kc K24 (SC (Rm rfl (Rd rfl (Ra rfl ?_)))));clear H K24;intro a H;refine wl_nil ?_;refine loop_end ((j+1,s5,v5,L5)) (by exact (H.pickT (Pl:=[_,_]) (Pl':=[_]) [1] (by decide) rfl).sub ⟨rfl,rfl,rfl,rfl,rfl,rfl,trivial⟩) ?_ ?_
   ·(try dsimp only);exact ⟨by omega,hC,hv5,by omega,by omega,by omega⟩
   first|omega|(dsimp only;omega)
  intro h63
  try have p63:=dF h63
  have hj3:l[k].cells.drop j=[]:=List.drop_of_length_le (by omega);rw [hj3,cellsC] at hY;rw [← hY,andT_ok rfl] at hX;have hB:rowsC (ckP st li rv) note t (l.drop (k+1)) s2=rowsC (ckP st li rv) note t (l.drop (k+1)) s2:=rfl;rw [hj3] at hm1 hm2;have hz0:zCells []=0:=rfl;refine c_exit ?_;refine K11 _ _ ?_;clear K11;refine kP H (SC (Rm rfl (Rd rfl (Ra rfl ?_))));clear H;intro a H;refine wl_nil ?_;refine loop_end ((k+1,s2,v2,L2)) (by exact (H).sub ⟨rfl,rfl,rfl,rfl,rfl,trivial⟩) ?_ ?_
  ·(try dsimp only);exact ⟨by omega,by rw [hB];exact hX,hv2,by omega,by omega,by omega⟩
  first|omega|(dsimp only;omega)
 intro h27
 try have p27:=dF h27
 have hk3:l.drop k=[]:=List.drop_of_length_le (by omega);rw [hk3,rowsC] at hX;refine c_exit ?_;refine K7 _ _ ?_;clear K7;refine kP H (SR fun _ K37=>Ra rfl (Kz K37 ?_));clear H K37;intro a H;refine lr H Tryz.results145 rfl ?_;exact H.hp.retL ⟨rfl,v1,L1,s1,congrArg vi (by rw [← hX]),rfl,hv1,fun _=>by rw [← hX]⟩
end
section
open Go.RowKit
theorem en145mfl:∀ args w,(callFunc 145 args).run Tryz.prog w=.ok (.enter 145 args) w:=enters Tryz.func145 rfl (by kernel_rfl)
theorem en143mfl:∀ args w,(callFunc 143 args).run Tryz.prog w=.ok (.enter 143 args) w:=enters Tryz.func143 rfl (by kernel_rfl)
theorem fd143_3mfl:Fld Tryz.prog 143 3 13:=⟨by kernel_rfl⟩
theorem pre_9 {body note:Bool} {t k i:Int} {s:CS} {q:Bool} (hq:q=(decide (k=3) && !body || decide (k=6) && note)) (h:q=true):preC body note t k i s=(19,s):=by
 subst hq
 unfold preC
 rcases Bool.or_eq_true_iff.1 h with h|h
 ·obtain ⟨h1,h2⟩:=Bool.and_eq_true_iff.1 h;rw [if_pos (of_decide_eq_true h1),h2];rfl
 obtain ⟨h1,h2⟩:=Bool.and_eq_true_iff.1 h;have h3:=of_decide_eq_true h1;subst h3;rw [if_neg (by decide),if_pos rfl,h2];rfl
theorem pre_n {body note:Bool} {t k i:Int} {s:CS} (h:¬ (decide (k=3) && !body || decide (k=6) && note)=true) (h7:k=7→¬ 4≤t) (h8:k=8→1≤i∧i≤1073741824):preC body note t k i s=if k=6∨k=7 then idC s i else (0,s):=by
 unfold preC
 by_cases k3:k=3
 ·subst k3;rw [if_pos rfl,if_neg (by decide)]
  cases body
  ·exact absurd rfl h
  rfl
 rw [if_neg k3]
 by_cases k6:k=6
 ·subst k6;rw [if_pos rfl,if_pos (by decide)]
  cases note
  ·exact andT_ok rfl
  exact absurd (by simp) h
 rw [if_neg k6]
 by_cases k7:k=7
 ·subst k7;rw [if_pos rfl,if_pos (by decide),show whenE (decide (4≤t)) 17=0 by rw [whenE,if_neg (by simpa using h7 rfl)]];exact andT_ok rfl
 rw [if_neg k7,if_neg (show ¬ (k=6∨k=7) by omega)]
 by_cases k8:k=8
 ·rw [if_pos k8,decide_eq_true (h8 k8)];rfl
 rw [if_neg k8]
theorem pre_7 {body note:Bool} {t i:Int} {s:CS} (h:4≤t):preC body note t 7 i s=(17,s):=by
 unfold preC
 rw [if_neg (by decide),if_neg (by decide),if_pos rfl,decide_eq_true h];rfl
theorem pre_8 {body note:Bool} {t i:Int} {s:CS} (h:¬ (1≤i∧i≤1073741824)):preC body note t 8 i s=(18,s):=by
 unfold preC
 rw [if_neg (by decide),if_neg (by decide),if_neg (by decide),if_pos rfl,decide_eq_false h];rfl
set_option maxHeartbeats 8000000 in
theorem mFlow_step {m:Nat} (ih:FlowOk m) (hm:m≤4294967296):FlowOk (m+1):=by
 intro G L L0 w0 D st li rv b v s l u body note t hck hmz hi hO hv hz ht0 ht4 hs0 hs1 hs2;obtain ⟨A,c,rfl,hc1,hc2,hg⟩:=hv.slice;rw [List.length_map] at *;have hll:=zItems_length l;obtain ⟨R,hR⟩:∃ R,R=itemsC (ckP st li rv) body note t l s:=⟨_,rfl⟩;rw [← hR];refine enterL (N:=139) (T:=[(0,_),(1,_),(2,_),(3,_),(4,_)]) Tryz.func68 rfl Tryz.ntmps68 rfl rfl hO ?_;intro a H;refine kP H (SR fun _ K1=>Ra rfl (Kz K1 (SQ fun _ K2=>SR fun _ K3=>Ra rfl (Kz K3 (SB ?_)))));clear H K1 K3;intro a H;skip;refine c_loopS (ι:=Nat × CS × Value × OL) (Tc:=[(0,_),(1,_),(2,_),(3,_),(4,_)]) (Lc:=[]) (fun (gh:Nat × CS × Value × OL)=>[(11,vi gh.1)]) (fun (gh:Nat × CS × Value × OL)=>[mkB D b gh.2.2.1 gh.2.1.n]++gh.2.2.2) (fun (gh:Nat × CS × Value × OL)=>G) (fun (gh:Nat × CS × Value × OL)=>gh.1≤l.length∧itemsC (ckP st li rv) body note t (l.drop gh.1) gh.2.1=R∧IdsT gh.2.2.1 gh.2.1.bef gh.2.2.2 L0∧0≤gh.2.1.n∧gh.2.1.n+(zItems (l.drop gh.1):Nat)≤1099511627776∧gh.2.1.bef.length+zItems (l.drop gh.1) < 1099511627776) (fun (gh:Nat × CS × Value × OL)=>l.length - gh.1) ((0,s,v,L)) (by exact (H).sub ⟨rfl,rfl,rfl,rfl,rfl,rfl,trivial⟩) ?_ ?_
 ·exact ⟨Nat.zero_le _,hR.symm,hi,hs0,hs1,hs2⟩
 clear H;intro gh a w hI H;obtain ⟨k,s1,v1,L1⟩:=gh;dsimp only at hI H;obtain ⟨hk,hX,hv1,hn0,hn1,hn2⟩:=hI;dsimp only [List.cons_append,List.nil_append,List.append_nil] at H;refine kP H (SQ fun _ K4=>SR fun _ K5=>Rm rfl (Rm rfl (Rl un32run rfl (Rc rfl (Kz K5 ?_)))));clear H K5;intro a H;refine c_cond H rfl ?_ ?_
 ·intro h23
  try have p23:=dT h23
  have hk2:k < l.length:=by omega
  obtain ⟨o,xo,pA,pn,pc,dA,dn,dc,yA,yn,yc,fA,fn,fc,rA,rn,rc,rfl,hrow,hhd,hfl,hrw⟩:=flow_get hk2 hg;have hfn:=hfl.len;rw [List.length_map] at hfn;subst hfn;have hrn:=hrw.len;rw [List.length_map] at hrn;subst hrn;have hzs:=zItems_at hk2;have hzi:=zItem_eq l[k];have hzm:=zItems_mem (List.getElem_mem hk2);rw [itemsC_at hk2] at hX;obtain ⟨x,hx⟩:∃ x,x=l[k]:=⟨_,rfl⟩;rw [← hx] at hX hrow hhd hfl hrw hzs hzi hzm;have hcl:=cntS_le x.text
  have hus:unitsS x≤x.text.size+1:=by unfold unitsS;split <;> omega
  have hEc:∀ e s9,e≠0→itemC (ckP st li rv) body note t x s1=(e,s9)→R.1=e:=fun e s9 h1 h2=>by rw [← hX,h2,andT_err (by exact h1)]
  have hN:∀ {s9},itemC (ckP st li rv) body note t x s1=(0,s9)→itemsC (ckP st li rv) body note t (l.drop (k+1)) s9=R:=fun {s9} h2=>by rw [h2,andT_ok rfl] at hX;exact hX
  have hIt:=itemC_eq (ckP st li rv) body note t x s1;refine kP H (Kc K4 (SQ fun _ K6=>SB (SR fun _ K7=>Rm rfl (Rm rfl (Ri un32run ty35run rfl rfl ?_)))));clear H K4;intro a H;refine s_loada ty35run (cs:=[vi x.kind,vi x.code,vi x.id,.string x.text,.slice pA pn pc,vi x.head.marks.ins,vi x.head.marks.move,.slice dA dn dc,.slice yA yn yc,.slice fA x.flow.length fc,.slice rA x.rows.length rc]) H wn rfl rfl (fun j v hj=>H.hp.gcell (hrow j v hj)) rfl ?_;clear H;intro a H;refine s_alloc ty35run H wn rfl ?_;clear H;intro b12 a w hb12 H;refine s_store ty35run 0 (vs:=[_,_,_,_,_,_,_,_,_,_,_]) _ H wn rfl rfl rfl rfl rfl rfl rfl rfl ?_;clear H;intro w H;dsimp only [List.set,setRow] at H;refine K7 _ _ ?_;clear K7;refine c_seq (fun _ K8=>?_);refine c_seqR (fun _ K9=>?_);refine s_loada ty35run (cs:=[vi x.kind,vi x.code,vi x.id,.string x.text,.slice pA pn pc,vi x.head.marks.ins,vi x.head.marks.move,.slice dA dn dc,.slice yA yn yc,.slice fA x.flow.length fc,.slice rA x.rows.length rc]) H wn rfl rfl (H.hp.ocells 0 rfl rfl) rfl ?_;clear H;intro a H;refine s_call en143mfl H wn rfl (mOwn_spec _ _ H.hp.ro x _ _ _ _ _ _ _ (by omega)) rfl ?_;clear H;rintro v31 _ a w ⟨rfl,rfl⟩ - H;refine kH H (Ra rfl (Kz K9 (SR fun _ K10=>Rm rfl (Rc rfl (Kz K10 ?_)))));clear H K9 K10;intro a H;refine c_cond H rfl ?_ ?_
  ·intro h33
   try have p33:=dT h33
   refine c_seq (fun _ K11=>?_);have hF:=hEc (formE x) s1 p33 (by rw [hIt,andT_err (by exact p33)]);refine kP H (SC (Rm rfl (Ra rfl (Kn K11 ?_))));clear H K11;intro a H;refine lr H Tryz.results68 rfl ?_;exact H.hp.retD (L':=mkB D b v1 s1.n :: L1) (by repeat (first|exact List.Sublist.refl _|apply List.Sublist.cons)) ⟨rfl,v1,L1,s1,congrArg vi hF.symm,rfl,hv1,fun h=>absurd (hF.symm.trans h) p33⟩
  intro h33
  try have p33:=dF h33
  have e1:formE x=0:=Decidable.not_not.1 p33;rw [andT_ok (r:=(formE x,s1)) e1] at hIt;dsimp only at hIt;refine kP H (Kc K8 (SR fun _ K12=>Rf fd35_3run rfl (Ro ty9run 0 rfl rfl ?_)));clear H K8;intro a H;refine s_call en93run H wn rfl (count_spec _ _ H.hp.ro x.text (by omega)) rfl ?_;clear H;rintro v38 _ a w ⟨rfl,rfl⟩ - H;refine kH H (Rm rfl ?_);clear H;intro a H;(iterate 2 refine s_extract H wn rfl rfl rfl ?_;clear H;intro a H);refine kH H (Ra rfl (Ra rfl (Kz K12 ?_)));clear H K12;intro a H;refine c_seqJ (ι:=Int) (Tc:=[(0,_),(1,_),(2,_),(3,_),(4,_),(11,_),(12,_)]) (Lc:=[(_,_),(_,_)]) (fun (gh:Int)=>[(14,vi gh)]) (fun (gh:Int)=>[]++L1) (fun (gh:Int)=>G) (fun (gh:Int)=>gh=(unitsS x:Nat)) (by exact (H).sub ⟨rfl,rfl,rfl,rfl,rfl,rfl,rfl,trivial⟩) ?_ ?_
  ·skip;refine kP H (SR fun _ K13=>Rf fd35_0run rfl (Ro ty3run 0 rfl rfl (Rc rfl (Kz K13 ?_))));clear H K13;intro a H;refine c_cond H rfl ?_ ?_
   ·intro h43
    try have p43:=dT h43
    refine kP H (SC (Ra rfl ?_));clear H;intro a H;refine wl_nil ?_;refine ⟨_,by exact (H).sub ⟨rfl,rfl,rfl,rfl,rfl,rfl,rfl,rfl,trivial⟩,?_⟩
    unfold unitsS;first|rw [if_pos (by simpa using p43)]|(rw [if_neg (by simpa using p43)];rfl)
   intro h43
   try have p43:=dF h43
   refine c_skip ?_;refine ⟨_,by exact (H).sub ⟨rfl,rfl,rfl,rfl,rfl,rfl,rfl,rfl,trivial⟩,?_⟩
   unfold unitsS;first|rw [if_pos (by simpa using p43)]|(rw [if_neg (by simpa using p43)];rfl)
  clear H;intro gh a w hI H;obtain ⟨un,hgh⟩:∃ x,x=gh:=⟨_,rfl⟩;subst hgh;have hun:=hI;dsimp only [List.cons_append,List.nil_append,List.append_nil] at H;refine kP H (SR fun _ K14=>Rm rfl (Rm rfl (Rk rfl (Rf fd143_3mfl rfl (Ro ty3run 1 rfl rfl (Rm rfl (Rd rfl (Rk rfl (Rf fd143_3mfl rfl ?_)))))))));clear H;intro a H;refine s_store ty3run 1 (vs:=[_]) _ H wn rfl rfl rfl rfl rfl rfl rfl rfl ?_;clear H;intro w H;dsimp only [List.set,setRow] at H;refine K14 _ _ ?_;clear K14;refine kP H (SQ fun _ K15=>SB (SQ fun _ K16=>?_));clear H;intro a H
  have hsn:s1.n+un=s1.n+(unitsS x:Nat):=by omega
  rw [hsn] at H;obtain ⟨s2,hs2⟩:∃ s2:CS,s2=⟨s1.n+(unitsS x:Nat),s1.bef⟩:=⟨_,rfl⟩;rw [← hs2] at hIt
  have hs2n:s2.n=s1.n+(unitsS x:Nat):=by rw [hs2]
  have hs2b:s2.bef=s1.bef:=by rw [hs2]
  rw [← hs2n] at H;rw [← hs2b] at hv1;refine c_region ?_;refine wl_meet (ι:=Bool) (Tc:=[(0,_),(1,_),(2,_),(3,_),(4,_),(11,_),(12,_)]) 15 (fun (q1:Bool)=>[(68,.bool q1)]) (fun (q1:Bool)=>q1=(decide (x.kind=3) && !body || decide (x.kind=6) && note)) (by exact H.sub ⟨rfl,rfl,rfl,rfl,rfl,rfl,rfl,trivial⟩) ?_ ?_
  ·intro hM12_0;refine kH H (Rf fd35_0run rfl (Ro ty3run 0 rfl rfl (Rc rfl (Rm rfl ?_))));clear H;intro a H;refine s_split H 57 rfl ?_ ?_
   ·intro h57
    try have p57:=dT h57
    refine kH H (YM h57 rfl (YN h57 rfl (Pt h57 rfl (Rm rfl ?_))));clear H;intro a H;refine s_split H 61 rfl ?_ ?_
    ·intro h61
     try have p61:=dT h61
     refine kH H (Ks h61 rfl (Ks h61 rfl (Ks h61 rfl (Ks h61 rfl (Ku rfl (Ks h61 rfl (Pt h61 rfl ?_)))))));clear H;intro a H;refine hM12_0 (_) _ _ ?_ (by exact H.sub ⟨rfl,rfl,rfl,rfl,rfl,rfl,rfl,rfl,trivial⟩)
     clear hIt hEc hN hX;first|(simp_all;done)|(simp_all;omega)
    intro h61
    try have p61:=dF h61
    refine kH H (YF fd35_0run h61 rfl (YO ty3run 0 h61 rfl rfl (YC h61 rfl (YM h61 rfl ?_))));clear H;intro a H;refine s_split H 65 rfl ?_ ?_
    ·intro h65
     try have p65:=dT h65
     refine kH H (YM h65 rfl (PT h61 h65 rfl (Pf h61 rfl ?_)));clear H;intro a H;refine hM12_0 (_) _ _ ?_ (by exact H.sub ⟨rfl,rfl,rfl,rfl,rfl,rfl,rfl,rfl,trivial⟩)
     clear hIt hEc hN hX;first|(simp_all;done)|(simp_all;omega)
    intro h65
    try have p65:=dF h65
    refine kH H (Ks h65 rfl (PF h61 h65 rfl (Pf h61 rfl ?_)));clear H;intro a H;refine hM12_0 (_) _ _ ?_ (by exact H.sub ⟨rfl,rfl,rfl,rfl,rfl,rfl,rfl,rfl,trivial⟩)
    clear hIt hEc hN hX;first|(simp_all;done)|(simp_all;omega)
   intro h57
   try have p57:=dF h57
   refine kH H (Ks h57 rfl (Ks h57 rfl (Pf h57 rfl (Rm rfl ?_))));clear H;intro a H;refine s_field fd35_0run H (wg H rfl rfl rfl) rfl rfl ?_;clear H;intro a H;refine s_load ty3run H (wg H rfl rfl rfl) rfl (H.hp.ocell 0 rfl rfl) rfl ?_;clear H;intro a H;refine s_cmp H (wg H rfl rfl rfl) rfl rfl rfl rfl ?_;clear H;intro a H;refine s_move H (wg H rfl rfl rfl) rfl rfl ?_;clear H;intro a H;refine s_split H 65 rfl ?_ ?_
   ·intro h65
    try have p65:=dT h65
    refine kH H (YM h65 rfl ?_);clear H;intro a H;refine s_pick_t H (wg H rfl rfl rfl) rfl h65 rfl rfl ?_;clear H;intro a H;refine kH H (Pf rfl rfl ?_);clear H;intro a H;refine hM12_0 (_) _ _ ?_ (by exact H.sub ⟨rfl,rfl,rfl,rfl,rfl,rfl,rfl,rfl,trivial⟩)
    clear hIt hEc hN hX;first|(simp_all;done)|(simp_all;omega)
   intro h65
   try have p65:=dF h65
   refine kH H (Ks h65 rfl ?_);clear H;intro a H;refine s_pick_f H (wg H rfl rfl rfl) rfl h65 rfl rfl ?_;clear H;intro a H;refine kH H (Pf rfl rfl ?_);clear H;intro a H;refine hM12_0 (_) _ _ ?_ (by exact H.sub ⟨rfl,rfl,rfl,rfl,rfl,rfl,rfl,rfl,trivial⟩)
   clear hIt hEc hN hX;first|(simp_all;done)|(simp_all;omega)
  clear H;intro q1 a w hI H;dsimp only [List.cons_append,List.nil_append] at H;simp only [List.drop_succ_cons,List.drop_zero];have hq1:=hI;refine kH H (Ra rfl (Kn K16 ?_));clear H K16;intro a H;refine c_cond H rfl ?_ ?_
  ·intro h53
   try have p53:=dT h53
   refine c_seq (fun _ K17=>?_);have hF:=hEc 19 s2 (by decide) (by rw [hIt,pre_9 hq1 h53,andT_err (r:=(19,s2)) (show (19:Int)≠0 by decide)]);refine kP H (SC (Ra rfl (Kn K17 ?_)));clear H K17;intro a H;refine lr H Tryz.results68 rfl ?_;exact H.hp.retD (L':=mkB D b v1 s2.n :: L1) (by repeat (first|exact List.Sublist.refl _|apply List.Sublist.cons)) ⟨rfl,v1,L1,s2,congrArg vi hF.symm,rfl,hv1,fun h=>absurd (hF.symm.trans h) (by decide)⟩
  intro h53
  try have p53:=dF h53
  have hq1n:¬ (decide (x.kind=3) && !body || decide (x.kind=6) && note)=true:=by rw [← hq1,h53];decide
  refine c_seqR (fun _ K18=>?_);refine wl_meet (ι:=Bool) (Tc:=[(0,_),(1,_),(2,_),(3,_),(4,_),(11,_),(12,_)]) 7 (fun (q2:Bool)=>[(76,.bool q2)]) (fun (q2:Bool)=>q2=(decide (x.kind=7) && decide (4≤t))) (by exact H.sub ⟨rfl,rfl,rfl,rfl,rfl,rfl,rfl,trivial⟩) ?_ ?_
  ·intro hM14_0;refine kH H (Rf fd35_0run rfl (Ro ty3run 0 rfl rfl (Rc rfl (Rm rfl ?_))));clear H;intro a H;refine s_split H 73 rfl ?_ ?_
   ·intro h73
    try have p73:=dT h73
    refine kH H (YM h73 rfl (YC h73 rfl (Pt h73 rfl ?_)));clear H;intro a H;refine hM14_0 (_) _ _ ?_ (by exact H.sub ⟨rfl,rfl,rfl,rfl,rfl,rfl,rfl,rfl,trivial⟩)
    clear hIt hEc hN hX;first|(simp_all;done)|(simp_all;omega)
   intro h73
   try have p73:=dF h73
   refine kH H (Ks h73 rfl (Ks h73 rfl (Pf h73 rfl ?_)));clear H;intro a H;refine hM14_0 (_) _ _ ?_ (by exact H.sub ⟨rfl,rfl,rfl,rfl,rfl,rfl,rfl,rfl,trivial⟩)
   clear hIt hEc hN hX;first|(simp_all;done)|(simp_all;omega)
  clear H;intro q2 a w hI H;dsimp only [List.cons_append,List.nil_append] at H;simp only [List.drop_succ_cons,List.drop_zero];have hq2:=hI;refine kH H (Ra rfl (Kz K18 ?_));clear H K18;intro a H;refine c_cond H rfl ?_ ?_
  ·intro h69
   try have p69:=dT h69
   refine c_seq (fun _ K19=>?_);rw [h69] at hq2;have hq3:=Bool.and_eq_true_iff.1 hq2.symm;have hF:=hEc 17 s2 (by decide) (by rw [hIt,of_decide_eq_true hq3.1,pre_7 (of_decide_eq_true hq3.2),andT_err (r:=(17,s2)) (show (17:Int)≠0 by decide)]);refine kP H (SC (Ra rfl (Kn K19 ?_)));clear H K19;intro a H;refine lr H Tryz.results68 rfl ?_;exact H.hp.retD (L':=mkB D b v1 s2.n :: L1) (by repeat (first|exact List.Sublist.refl _|apply List.Sublist.cons)) ⟨rfl,v1,L1,s2,congrArg vi hF.symm,rfl,hv1,fun h=>absurd (hF.symm.trans h) (by decide)⟩
  intro h69
  try have p69:=dF h69
  have hq2n:x.kind=7→¬ 4≤t:=fun h1 h2=>by rw [h69,decide_eq_true h1,decide_eq_true h2] at hq2;cases hq2
  refine c_seqR (fun _ K20=>?_);refine wl_meet (ι:=Bool) (Tc:=[(0,_),(1,_),(2,_),(3,_),(4,_),(11,_),(12,_)]) 13 (fun (q3:Bool)=>[(90,.bool q3)]) (fun (q3:Bool)=>q3=(decide (x.kind=8) && !decide (1≤x.id∧x.id≤1073741824))) (by exact H.sub ⟨rfl,rfl,rfl,rfl,rfl,rfl,rfl,trivial⟩) ?_ ?_
  ·intro hM16_0;refine kH H (Rf fd35_0run rfl (Ro ty3run 0 rfl rfl (Rc rfl (Rm rfl ?_))));clear H;intro a H;refine s_split H 81 rfl ?_ ?_
   ·intro h81
    try have p81:=dT h81
    refine kH H (YF fd35_2doc h81 rfl (YO ty3run 0 h81 rfl rfl (YC h81 rfl (YM h81 rfl ?_))));clear H;intro a H;refine s_split H 85 rfl ?_ ?_
    ·intro h85
     try have p85:=dT h85
     refine kH H (Ks h85 rfl (Ks h85 rfl (Ks h85 rfl (PT h81 h85 rfl (Pt h81 rfl ?_)))));clear H;intro a H;refine hM16_0 (_) _ _ ?_ (by exact H.sub ⟨rfl,rfl,rfl,rfl,rfl,rfl,rfl,rfl,trivial⟩)
     clear hIt hEc hN hX;first|(rw [decide_eq_false p81];rfl)|(rw [decide_eq_true p81,decide_eq_false (by omega)];rfl)|(rw [decide_eq_true p81,Bool.true_and,← decide_not];exact decide_eq_decide.2 (by omega))
    intro h85
    try have p85:=dF h85
    refine kH H (YF fd35_2doc h85 rfl (YO ty3run 0 h85 rfl rfl (YC h85 rfl (PF h81 h85 rfl (Pt h81 rfl ?_)))));clear H;intro a H;refine hM16_0 (_) _ _ ?_ (by exact H.sub ⟨rfl,rfl,rfl,rfl,rfl,rfl,rfl,rfl,trivial⟩)
    clear hIt hEc hN hX;first|(rw [decide_eq_false p81];rfl)|(rw [decide_eq_true p81,decide_eq_false (by omega)];rfl)|(rw [decide_eq_true p81,Bool.true_and,← decide_not];exact decide_eq_decide.2 (by omega))
   intro h81
   try have p81:=dF h81
   refine kH H (Ks h81 rfl (Ks h81 rfl (Ks h81 rfl (Ks h81 rfl (Ku rfl (Ku rfl (Ku rfl (Ks h81 rfl (Pf h81 rfl ?_)))))))));clear H;intro a H;refine hM16_0 (_) _ _ ?_ (by exact H.sub ⟨rfl,rfl,rfl,rfl,rfl,rfl,rfl,rfl,trivial⟩)
   clear hIt hEc hN hX;first|(rw [decide_eq_false p81];rfl)|(rw [decide_eq_true p81,decide_eq_false (by omega)];rfl)|(rw [decide_eq_true p81,Bool.true_and,← decide_not];exact decide_eq_decide.2 (by omega))
  clear H;intro q3 a w hI H;dsimp only [List.cons_append,List.nil_append] at H;simp only [List.drop_succ_cons,List.drop_zero];have hq3:=hI;refine kH H (Ra rfl (Kz K20 ?_));clear H K20;intro a H;refine c_cond H rfl ?_ ?_
  ·intro h77
   try have p77:=dT h77
   refine c_seq (fun _ K21=>?_);rw [h77] at hq3;have hq4:=Bool.and_eq_true_iff.1 hq3.symm
   have hq5:¬ (1≤x.id∧x.id≤1073741824):=by have:=hq4.2;simp at this;omega
   have hF:=hEc 18 s2 (by decide) (by rw [hIt,of_decide_eq_true hq4.1,pre_8 hq5,andT_err (r:=(18,s2)) (show (18:Int)≠0 by decide)]);refine kP H (SC (Ra rfl (Kn K21 ?_)));clear H K21;intro a H;refine lr H Tryz.results68 rfl ?_;exact H.hp.retD (L':=mkB D b v1 s2.n :: L1) (by repeat (first|exact List.Sublist.refl _|apply List.Sublist.cons)) ⟨rfl,v1,L1,s2,congrArg vi hF.symm,rfl,hv1,fun h=>absurd (hF.symm.trans h) (by decide)⟩
  intro h77
  try have p77:=dF h77
  have hq3n:x.kind=8→1≤x.id∧x.id≤1073741824:=fun h1=>by rw [h77,decide_eq_true h1] at hq3;simpa using hq3
  rw [pre_n hq1n hq2n hq3n] at hIt;refine c_skip ?_;refine K15 _ _ ?_;clear K15;refine c_seqJ (ι:=CS × Value × OL) (Tc:=[(0,_),(1,_),(2,_),(3,_),(4,_),(11,_),(12,_)]) (Lc:=[(_,_)]) (fun (gh:CS × Value × OL)=>[]) (fun (gh:CS × Value × OL)=>[mkB D b gh.2.1 gh.1.n]++gh.2.2) (fun (gh:CS × Value × OL)=>G) (fun (gh:CS × Value × OL)=>(itemC (ckP st li rv) body note t x s1=andT (headE (ckP st li rv) x.kind x.head,gh.1) fun s=>if x.kind=6 then itemsC (ckP st li rv) false true t x.flow s else if x.kind=7 then rowsC0 x.rows.length (fun s=>rowsC (ckP st li rv) note (t+1) x.rows s) s else (0,s))∧IdsT gh.2.1 gh.1.bef gh.2.2 L0∧gh.1.n=s1.n+(unitsS x:Nat)∧gh.1.bef.length≤s1.bef.length+1) (by exact (H).sub ⟨rfl,rfl,rfl,rfl,rfl,rfl,rfl,trivial⟩) ?_ ?_
  ·skip;refine c_seqR (fun _ K22=>?_);refine wl_meet (ι:=Bool) (Tc:=[(0,_),(1,_),(2,_),(3,_),(4,_),(11,_),(12,_)]) 8 (fun (q4:Bool)=>[(98,.bool q4)]) (fun (q4:Bool)=>q4=decide (x.kind=6∨x.kind=7)) (by exact H.sub ⟨rfl,rfl,rfl,rfl,rfl,rfl,rfl,trivial⟩) ?_ ?_
   ·intro hM18_0;refine kH H (Rf fd35_0run rfl (Ro ty3run 0 rfl rfl (Rc rfl (Rm rfl ?_))));clear H;intro a H;refine s_split H 94 rfl ?_ ?_
    ·intro h94
     try have p94:=dT h94
     refine kH H (Ks h94 rfl (Ks h94 rfl (Ks h94 rfl (Pt h94 rfl ?_))));clear H;intro a H;refine hM18_0 (_) _ _ ?_ (by exact H.sub ⟨rfl,rfl,rfl,rfl,rfl,rfl,rfl,rfl,trivial⟩)
     clear hIt hEc hN hX hq1n hq2n hq3n;first|(simp_all;done)|(simp_all;omega)
    intro h94
    try have p94:=dF h94
    refine kH H (YF fd35_0run h94 rfl (YO ty3run 0 h94 rfl rfl (YC h94 rfl (Pf h94 rfl ?_))));clear H;intro a H;refine hM18_0 (_) _ _ ?_ (by exact H.sub ⟨rfl,rfl,rfl,rfl,rfl,rfl,rfl,rfl,trivial⟩)
    clear hIt hEc hN hX hq1n hq2n hq3n;first|(simp_all;done)|(simp_all;omega)
   clear H;intro q4 a w hI H;dsimp only [List.cons_append,List.nil_append] at H;simp only [List.drop_succ_cons,List.drop_zero];have hq4:=hI;refine K22 _ _ ?_;clear K22;refine c_cond H rfl ?_ ?_
   ·intro h98
    try have p98:=dT h98
    have h67:x.kind=6∨x.kind=7:=by rw [h98] at hq4;exact of_decide_eq_true hq4.symm
    rw [if_pos h67] at hIt;refine kP H (SR fun _ K23=>Rm rfl (Rf fd35_2doc rfl (Ro ty3run 0 rfl rfl ?_)));clear H;intro a H;refine s_callL en144mro (Li:=[_]) (L:=mkB D b v1 s2.n :: L1) H wn rfl (mId_spec _ _ L0 _ D b v1 s2 x.id hv1 (Hp.owns (Li:=[_]) H.hp) (by rw [hs2b];omega)) rfl ?_;clear H;rintro v102 _ _ a w ⟨rfl,v2,L2,rfl,rfl,hv2⟩ - H;dsimp only [List.cons_append,List.nil_append] at H;refine kH H (Ra rfl (Kz K23 (SR fun _ K24=>Rm rfl (Rc rfl (Kz K24 ?_)))));clear H K23 K24;intro a H;refine c_cond H rfl ?_ ?_
    ·intro h104
     try have p104:=dT h104
     refine c_seq (fun _ K25=>?_);have hF:=hEc (idC s2 x.id).1 _ p104 (by rw [hIt,andT_err p104]);refine kP H (SC (Rm rfl (Ra rfl (Kn K25 ?_))));clear H K25;intro a H;refine lr H Tryz.results68 rfl ?_;exact H.hp.retD (L':=mkB D b v2 s2.n :: L2) (by repeat (first|exact List.Sublist.refl _|apply List.Sublist.cons)) ⟨rfl,v2,L2,⟨s2.n,(idC s2 x.id).2.bef⟩,congrArg vi hF.symm,rfl,hv2,fun h=>absurd (hF.symm.trans h) p104⟩
    intro h104
    try have p104:=dF h104
    have eid:(idC s2 x.id).1=0:=Decidable.not_not.1 p104;rw [andT_ok eid] at hIt;have hub:=ub_id s2 x.id
    unfold UpB at hub
    obtain ⟨s3,hs3⟩:∃ s3,s3=(idC s2 x.id).2:=⟨_,rfl⟩
    have hs3n:s3.n=s2.n:=by rw [hs3];rfl
    rw [← hs3] at hv2 hub hIt;rw [← hs3n] at H
    have hsb:s3.bef.length≤s1.bef.length+1:=by rw [← hs2b];omega
    refine c_skip ?_;refine ⟨(s3,v2,L2),by exact (H).sub ⟨rfl,rfl,rfl,rfl,rfl,rfl,rfl,trivial⟩,?_⟩;(try dsimp only);exact ⟨hIt,hv2,by omega,hsb⟩
   intro h98
   try have p98:=dF h98
   have h67:¬ (x.kind=6∨x.kind=7):=by rw [h98] at hq4;exact of_decide_eq_false hq4.symm
   rw [if_neg h67,andT_ok rfl] at hIt;dsimp only at hIt;have hw2:=hv1
   have hsb:s2.bef.length≤s1.bef.length+1:=by rw [hs2b];omega
   refine c_skip ?_;refine ⟨(s2,v1,L1),by exact (H).sub ⟨rfl,rfl,rfl,rfl,rfl,rfl,rfl,trivial⟩,?_⟩;(try dsimp only);exact ⟨hIt,hv1,hs2n,hsb⟩
  clear H;intro gh a w hI H;obtain ⟨s3,v3,L3⟩:=gh;dsimp only at hI H;clear hIt hv1;obtain ⟨hIt,hv3,hs3n,hsb⟩:=hI;dsimp only [List.cons_append,List.nil_append,List.append_nil] at H;refine kP H (SQ fun _ K26=>SR fun _ K27=>Rm rfl (Rf fd35_0run rfl (Ro ty3run 0 rfl rfl (Rf fd35_4run rfl ?_))));clear H;intro a H;refine s_loada ty31run (cs:=[.slice pA pn pc,vi x.head.marks.ins,vi x.head.marks.move,.slice dA dn dc,.slice yA yn yc]) H wn rfl rfl (H.hp.ocells 0 rfl rfl) rfl ?_;clear H;intro a H;refine s_callL en67mro (Li:=[_]) (L:=mkB D b v3 s3.n :: L3) H wn rfl (mHeadL_spec _ _ _ D st li rv b v3 s3.n hck hmz (Hp.owns (Li:=[_]) H.hp) x.kind x.head _ _ _ hhd (by omega)) rfl ?_;clear H;rintro v111 _ _ a w ⟨rfl,rfl,rfl⟩ - H;dsimp only [List.cons_append,List.nil_append] at H;refine kH H (Ra rfl (Kz K27 (SR fun _ K28=>Rm rfl (Rc rfl (Kz K28 ?_)))));clear H K27 K28;intro a H;refine c_cond H rfl ?_ ?_
  ·intro h113
   try have p113:=dT h113
   refine c_seq (fun _ K29=>?_);have hF:=hEc (headE (ckP st li rv) x.kind x.head) s3 p113 (by rw [hIt,andT_err (by exact p113)]);refine kP H (SC (Rm rfl (Ra rfl (Kn K29 ?_))));clear H K29;intro a H;refine lr H Tryz.results68 rfl ?_;exact H.hp.retD (L':=mkB D b v3 s3.n :: L3) (by repeat (first|exact List.Sublist.refl _|apply List.Sublist.cons)) ⟨rfl,v3,L3,s3,congrArg vi hF.symm,rfl,hv3,fun h=>absurd (hF.symm.trans h) p113⟩
  intro h113
  try have p113:=dF h113
  rw [andT_ok (r:=(headE (ckP st li rv) x.kind x.head,s3)) (Decidable.not_not.1 p113)] at hIt;dsimp only at hIt;refine c_skip ?_;refine K26 _ _ ?_;clear K26;refine c_seqJ (ι:=CS × Value × OL) (Tc:=[(0,_),(1,_),(2,_),(3,_),(4,_),(11,_),(12,_)]) (Lc:=[(_,_)]) (fun (gh:CS × Value × OL)=>[]) (fun (gh:CS × Value × OL)=>[mkB D b gh.2.1 gh.1.n]++gh.2.2) (fun (gh:CS × Value × OL)=>G) (fun (gh:CS × Value × OL)=>(itemC (ckP st li rv) body note t x s1=if x.kind=7 then rowsC0 x.rows.length (fun s=>rowsC (ckP st li rv) note (t+1) x.rows s) gh.1 else (0,gh.1))∧IdsT gh.2.1 gh.1.bef gh.2.2 L0∧(x.kind=7→gh.1.n=s1.n+(unitsS x:Nat)∧gh.1.bef.length≤s1.bef.length+1)) (by exact (H).sub ⟨rfl,rfl,rfl,rfl,rfl,rfl,rfl,trivial⟩) ?_ ?_
  ·skip;refine kP H (SR fun _ K30=>Rf fd35_0run rfl (Ro ty3run 0 rfl rfl (Rc rfl (Kz K30 ?_))));clear H K30;intro a H;refine c_cond H rfl ?_ ?_
   ·intro h117
    try have p117:=dT h117
    rw [if_pos p117] at hIt;refine kP H (SR fun _ K31=>Rm rfl (Rf fd35_5run rfl (Ro ty32run 0 rfl rfl (Rm rfl ?_))));clear H;intro a H;refine s_callL en68mro (Li:=[_]) (L:=mkB D b v3 s3.n :: L3) H wn rfl (ih _ _ L0 _ D st li rv b v3 s3 x.flow _ false true t hck hmz hv3 (Hp.owns (Li:=[_]) H.hp) hfl (by omega) ht0 ht4 (by omega) (by omega) (by omega)) rfl ?_;clear H;rintro v122 _ _ a w ⟨rfl,v5,L5,s5,rfl,rfl,hv5,h5⟩ - H;dsimp only [List.cons_append,List.nil_append] at H;refine kH H (Ra rfl (Kz K31 (SR fun _ K32=>Rm rfl (Rc rfl (Kz K32 ?_)))));clear H K31 K32;intro a H;refine c_cond H rfl ?_ ?_
    ·intro h124
     try have p124:=dT h124
     refine c_seq (fun _ K33=>?_);have hF:=hEc _ _ p124 hIt;refine kP H (SC (Rm rfl (Ra rfl (Kn K33 ?_))));clear H K33;intro a H;refine lr H Tryz.results68 rfl ?_;exact H.hp.retD (L':=mkB D b v5 s5.n :: L5) (by repeat (first|exact List.Sublist.refl _|apply List.Sublist.cons)) ⟨rfl,v5,L5,s5,congrArg vi hF.symm,rfl,hv5,fun h=>absurd (hF.symm.trans h) p124⟩
    intro h124
    try have p124:=dF h124
    have e124:=Decidable.not_not.1 p124;have hs5:=h5 e124
    have hit5:itemC (ckP st li rv) body note t x s1=if x.kind=7 then rowsC0 x.rows.length (fun s=>rowsC (ckP st li rv) note (t+1) x.rows s) s5 else (0,s5):=by rw [if_neg (by omega),hIt,hs5,← e124]
    refine c_skip ?_;refine ⟨(s5,v5,L5),by exact (H).sub ⟨rfl,rfl,rfl,rfl,rfl,rfl,rfl,trivial⟩,?_⟩;(try dsimp only);exact ⟨hit5,hv5,fun h=>by omega⟩
   intro h117
   try have p117:=dF h117
   rw [if_neg p117] at hIt;refine c_skip ?_;refine ⟨(s3,v3,L3),by exact (H).sub ⟨rfl,rfl,rfl,rfl,rfl,rfl,rfl,trivial⟩,?_⟩;(try dsimp only);exact ⟨hIt,hv3,fun _=>⟨hs3n,hsb⟩⟩
  clear H;intro gh a w hI H;obtain ⟨s3,v3,L3⟩:=gh;dsimp only at hI H;clear hIt hv3;obtain ⟨hIt,hv3,hs37⟩:=hI;dsimp only [List.cons_append,List.nil_append,List.append_nil] at H;refine kP H (SR fun _ K34=>Rf fd35_0run rfl (Ro ty3run 0 rfl rfl (Rc rfl (Kz K34 ?_))));clear H K34;intro a H;refine c_cond H rfl ?_ ?_
  ·intro h128
   try have p128:=dT h128
   rw [if_pos p128] at hIt;obtain ⟨hs3n,hsb⟩:=hs37 p128;have ht7:=hq2n p128;refine kP H (SR fun _ K35=>Rm rfl (Rf fd35_6run rfl (Ro ty33run 0 rfl rfl (Rm rfl (Rm rfl (Rd rfl ?_))))));clear H;intro a H;refine s_callL en145mfl (Li:=[_]) (L:=mkB D b v3 s3.n :: L3) H wn rfl (mRows_ok ih hm _ _ L0 _ D st li rv b v3 s3 x.rows _ note (t+1) hck hmz hv3 (Hp.owns (Li:=[_]) H.hp) hrw (by omega) (by omega) (by omega) (by omega) (by omega) (by omega)) rfl ?_;clear H;rintro v135 _ _ a w ⟨rfl,v6,L6,s6,rfl,rfl,hv6,h6⟩ - H;dsimp only [List.cons_append,List.nil_append] at H;refine kH H (Ra rfl (Kz K35 (SR fun _ K36=>Rm rfl (Rc rfl (Kz K36 ?_)))));clear H K35 K36;intro a H;refine c_cond H rfl ?_ ?_
   ·intro h137
    try have p137:=dT h137
    refine c_seq (fun _ K37=>?_);have hF:=hEc _ _ p137 hIt;refine kP H (SC (Rm rfl (Ra rfl (Kn K37 ?_))));clear H K37;intro a H;refine lr H Tryz.results68 rfl ?_;exact H.hp.retD (L':=mkB D b v6 s6.n :: L6) (by repeat (first|exact List.Sublist.refl _|apply List.Sublist.cons)) ⟨rfl,v6,L6,s6,congrArg vi hF.symm,rfl,hv6,fun h=>absurd (hF.symm.trans h) p137⟩
   intro h137
   try have p137:=dF h137
   have e137:=Decidable.not_not.1 p137
   have hit6:itemC (ckP st li rv) body note t x s1=(0,s6):=by rw [hIt,h6 e137,← e137]
   refine kP H (Kc K6 (SC (Rm rfl (Rd rfl (Ra rfl ?_)))));clear H K6;intro a H;refine wl_nil ?_;refine loop_end ((k+1,s6,v6,L6)) (by exact (H.pickT (Pl:=[_,_]) (Pl':=[_]) [1] (by decide) rfl).sub ⟨rfl,rfl,rfl,rfl,rfl,rfl,trivial⟩) ?_ ?_
   ·(try dsimp only);exact ⟨by omega,hN hit6,hv6,by have:=both_item hit6;omega,by have:=both_item hit6;omega,by have:=both_item hit6;omega⟩
   first|omega|(dsimp only;omega)
  intro h128
  try have p128:=dF h128
  rw [if_neg p128] at hIt;refine kP H (Kc K6 (SC (Rm rfl (Rd rfl (Ra rfl ?_)))));clear H K6;intro a H;refine wl_nil ?_;refine loop_end ((k+1,s3,v3,L3)) (by exact (H.pickT (Pl:=[_,_]) (Pl':=[_]) [1] (by decide) rfl).sub ⟨rfl,rfl,rfl,rfl,rfl,rfl,trivial⟩) ?_ ?_
  ·(try dsimp only);exact ⟨by omega,hN hIt,hv3,by have:=both_item hIt;omega,by have:=both_item hIt;omega,by have:=both_item hIt;omega⟩
  first|omega|(dsimp only;omega)
 intro h23
 try have p23:=dF h23
 have hk3:l.drop k=[]:=List.drop_of_length_le (by omega);rw [hk3,itemsC] at hX;refine c_exit ?_;refine K2 _ _ ?_;clear K2;refine kP H (SR fun _ K38=>Ra rfl (Kz K38 ?_));clear H K38;intro a H;refine lr H Tryz.results68 rfl ?_;exact H.hp.retL ⟨rfl,v1,L1,s1,congrArg vi (by rw [← hX]),rfl,hv1,fun _=>by rw [← hX]⟩
theorem mFlow_ok:∀ m:Nat,m≤4294967297→FlowOk m
 | 0,_=>fun _ _ _ _ _ _ _ _ _ _ _ _ _ _ _ _ _ _ _ _ _ h=>absurd h (by omega)
 | m+1,hm=>mFlow_step (mFlow_ok m (by omega)) (by omega)
end
end Go.Proofs.YtlnhhlighgaapaaGreat
