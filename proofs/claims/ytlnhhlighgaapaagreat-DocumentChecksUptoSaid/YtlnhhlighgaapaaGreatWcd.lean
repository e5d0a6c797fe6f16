/-
  What the claim stands on, part 4: Package stylesheet: Check. Package document: checkVars, CheckSettings. Package obeluslaw13: the model's checkSettings. Maps from numbers to values: lookups of one result, in what is owned or only read; new keys. Package document: newChecker. Package document: the checker's id and reference. Paths within a region that meet; what a call that only reads leaves; calls that are lent what they only read. Package document: the checker's layer. Package document: the checker's head. Package document: form. What the checker's item, items and rows compute.
-/
import Derived.Test.YtlnhhlighgaapaaGreatWcc
namespace Go.Proofs.YtlnhhlighgaapaaGreat
section
open Go.RowKit
theorem en105chk:∀ args w,(callFunc 105 args).run Tryz.prog w=.ok (.enter 105 args) w:=enters Tryz.func105 rfl (by kernel_rfl)
theorem en103chk:∀ args w,(callFunc 103 args).run Tryz.prog w=.ok (.enter 103 args) w:=enters Tryz.func103 rfl (by kernel_rfl)
theorem en104chk:∀ args w,(callFunc 104 args).run Tryz.prog w=.ok (.enter 104 args) w:=enters Tryz.func104 rfl (by kernel_rfl)
theorem fd100_4chk:Fld Tryz.prog 100 4 4:=⟨by kernel_rfl⟩
theorem chain_spec {G:GH} {w0:World} (hO:Owns G [] w0) (l:List StyleD) (id:Int) (v:Value) (hv:RepV G (.sl 6 (l.map StyleD.dat)) v) :
  Calls Tryz.prog 105 #[v,vi id] w0 (RetL w0 G [] fun u G' L'=>∃ bl bi,u=.func (.func 181) #[] #[.pointer (some ⟨bl,0,none⟩),.pointer (some ⟨bi,0,none⟩)]∧L'=[bI bi id]∧gcell G' bl 0=some v):=by
 obtain ⟨A,c,rfl,hc1,hc2,-⟩:=hv.slice;refine enterL (N:=6) (T:=[(0,_),(1,_)]) Tryz.func105 rfl Tryz.ntmps105 rfl rfl hO ?_;intro a H;refine c_seqR (fun _ K1=>?_);refine s_box (cs:=[_]) H wn rfl rfl rfl ?_;clear H;intro b2 a w hb2 H;refine s_box (cs:=[_]) H wn rfl rfl rfl ?_;clear H;intro b3 a w hb3 H;refine kH H (Ra rfl (Kz K1 (SR fun _ K2=>?_)));clear H K1;intro a H;refine s_makeFunc H wn rfl rfl ?_;clear H;intro a H;refine kH H (Ra rfl (Kz K2 ?_));clear H K2;intro a H;refine lr H Tryz.results105 rfl ?_;have H:=H.pickT (Pl:=[_,_]) (Pl':=[_,_]) [1,0] (by decide) rfl;obtain ⟨Ga,hma,hb2',H⟩:=H.giveBox;exact H.hp.retL ⟨b2,b3,rfl,rfl,by unfold gcell;rw [hb2'];rfl⟩
/-- The first of some errors. -/
def errF (p:Nat→Int):Nat→Nat→Int
 | _,0=>0
 | k,n+1=>if p k=0 then errF p (k+1) n else p k
theorem errF_step {p:Nat→Int} {k m:Nat} (h:k < m):errF p k (m - k)=if p k=0 then errF p (k+1) (m - (k+1)) else p k:=by
 obtain ⟨n,hn⟩:∃ n,m - k=n+1:=⟨m - k - 1,by omega⟩;rw [hn,errF,show m - (k+1)=n by omega]
theorem errF_end {p:Nat→Int} {k m:Nat} (h:m≤k):errF p k (m - k)=0:=by rw [show m - k=0 by omega];rfl
theorem errF_zero {p:Nat→Int}:∀ {n k:Nat},errF p k n=0→∀ j,k≤j→j < k+n→p j=0
 | 0,k,_,j,h1,h2=>by omega
 | n+1,k,h,j,h1,h2=>by
  rw [errF] at h;split at h
  ·rename_i hp
   by_cases e:j=k
   ·rw [e];exact hp
   exact errF_zero h j (by omega) (by omega)
  rename_i hp;exact absurd h hp
def ownAt (l:List StyleD) (k:Nat):Int:=match l[k]? with|some s=>ownS l k s|none=>0
theorem ownAt_in {l:List StyleD} {k:Nat} (h:k < l.length):ownAt l k=ownS l k l[k]:=by unfold ownAt;rw [List.getElem?_eq_getElem h]
def badRef (l:List StyleD) (s:StyleD):Bool:=(decide (s.base≠0) && !isS l s.kind s.base) || (decide (s.next≠0) && (decide (s.kind=2) || !isS l 1 s.next))
def cyc (l:List StyleD) (s:StyleD):Bool:=decide (l.length < (chL l s.id).length)
/-- The first error of a list of styles. -/
def checkS (l:List StyleD):Int:=if 128 < l.length then 9 else if errF (ownAt l) 0 l.length≠0 then errF (ownAt l) 0 l.length else if l.any (badRef l)=true then 25 else if l.any (cyc l)=true then 16 else 0
theorem own_inc {l:List StyleD} (h:errF (ownAt l) 0 l.length=0) {k:Nat} (hk:k+1 < l.length):l[k].id < l[k+1].id:=by
 have h1:=errF_zero h (k+1) (Nat.zero_le _) (by omega);rw [ownAt_in hk,ownS,ownE] at h1
 have hp:prevS l (k+1)=some l[k].id:=by rw [prevS,if_neg (by omega),Nat.add_sub_cancel,List.getElem?_eq_getElem (by omega)];rfl
 rw [hp] at h1
 split at h1
 ·cases h1
 split at h1
 ·cases h1
 split at h1
 ·cases h1
 rename_i _ h2 h3
 have h2':¬ l[k].id=l[k+1].id:=fun e=>h2 (by rw [e]);have h3':¬ l[k+1].id < l[k].id:=fun e=>h3 (decide_eq_true e)
 omega
theorem own_mono {l:List StyleD} (h:errF (ownAt l) 0 l.length=0):∀ {k j:Nat} (hk:k < l.length) (hj:j < k),l[j].id < l[k].id
 | k+1,j,hk,hj=>by
  have h1:=own_inc h hk
  by_cases e:j=k
  ·subst e;exact h1
  have:=own_mono h (k:=k) (j:=j) (by omega) (by omega)
  omega
theorem own_nodup {l:List StyleD} (h:errF (ownAt l) 0 l.length=0) (k:Nat) (hk:k < l.length):l[k].id∉(l.take k).map StyleD.id:=by
 intro hm;obtain ⟨x,hx1,hx2⟩:=List.mem_map.1 hm;obtain ⟨j,hj,rfl⟩:=List.getElem_of_mem hx1;rw [List.getElem_take] at hx2;rw [List.length_take] at hj;have:=own_mono h hk (j:=j) (by omega)
 omega
theorem any_next {α:Type} {p:α→Bool} {l:List α} {k:Nat} (hk:k < l.length) (h:(l.take k).any p=false) (hp:p l[k]=false):(l.take (k+1)).any p=false:=by
 rw [List.take_succ_eq_append_getElem hk,List.any_append,h];simp [hp]
theorem any_stop {α:Type} {p:α→Bool} {l:List α} {k:Nat} (hk:k < l.length) (hp:p l[k]=true):l.any p=true:=List.any_eq_true.2 ⟨_,List.getElem_mem hk,hp⟩
theorem any_done {α:Type} {p:α→Bool} {l:List α} {k:Nat} (hk:l.length≤k) (h:(l.take k).any p=false):¬ l.any p=true:=by
 rw [List.take_of_length_le hk] at h;rw [h];decide
set_option maxHeartbeats 1000000 in
theorem check_styles (G:GH) (w0:World) (hG:Hold G w0) (l:List StyleD) (v:Value) (hv:RepV G (.sl 6 (l.map StyleD.dat)) v) (hN:∀ s∈l,s.name.size≤4611686018427387904) :
  Calls Tryz.prog 43 #[v] w0 (Ret w0 G fun u G'=>u=vi (checkS l)):=by
 obtain ⟨A,c,rfl,hc1,hc2,-⟩:=hv.slice;have hml:maxLen=9223372036854775807:=rfl;rw [List.length_map] at *;refine eN [(0,_)] Tryz.func43 rfl Tryz.ntmps43 rfl rfl hG ?_;intro a H;refine c_seqR (fun _ K1=>?_);refine s_box (cs:=[_]) H wn rfl rfl rfl ?_;clear H;intro b1 a w hb1 H;refine s_alloc ty22fst H wn rfl ?_;clear H;intro b2 a w hb2 H;refine K1 _ _ ?_;clear K1;refine kP H (SQ fun _ K2=>SR fun _ K3=>Ro ty41chn 1 rfl rfl (Rl un41sty rfl (Rc rfl (Kz K3 ?_))));clear H K3;intro a H;refine c_cond H rfl ?_ ?_
 ·intro h12
  try have p12:=dT h12
  refine c_seqR (fun _ K4=>?_);refine s_store ty22fst 0 (vs:=[_]) _ H wn rfl rfl rfl rfl rfl rfl rfl rfl ?_;clear H;intro w H;dsimp only [List.set,setRow] at H;refine K4 _ _ ?_;clear K4;refine c_ret ?_;refine (leave1 H Tryz.results43 (.cons (rv_cell ty22fst H rfl (H.hp.ocell 0 rfl rfl)) .nil) ?_).1
  first
   | exact H.hp.ret (congrArg vi (by rw [checkS,if_pos (by omega)]))
   | exact H.hp.ret (congrArg vi (by rw [if_neg (by simpa using p22)] at heq;rw [checkS,if_neg (by omega),← heq,if_pos (by simpa using p22)]))
   | exact H.hp.ret (congrArg vi (by rw [checkS,if_neg (by omega),if_neg (by rw [hok];decide),if_pos hbad]))
   | exact H.hp.ret (congrArg vi (by rw [checkS,if_neg (by omega),if_neg (by rw [hok];decide),if_neg hbad,if_pos (any_stop hj2 hI)]))
   | exact H.hp.ret (congrArg vi (by rw [checkS,if_neg (by omega),if_neg (by rw [hok];decide),if_neg hbad,if_neg (any_done (by omega) hnc)]))
 intro h12
 try have p12:=dF h12
 refine kP H (Kc K2 (SQ fun _ K5=>SR fun _ K6=>Ro ty41chn 1 rfl rfl (Rl un41sty rfl (Rm rfl (Kz K6 (SB ?_))))));clear H K2 K6;intro a H;skip;refine c_loopS (ι:=Nat × GH) (Tc:=[(1,_),(2,_),(14,_)]) (Lc:=[(_,_),(_,_)]) (fun (gh:Nat × GH)=>[(15,vi gh.1)]) (fun (gh:Nat × GH)=>[]) (fun (gh:Nat × GH)=>gh.2) (fun (gh:Nat × GH)=>gh.1≤l.length∧errF (ownAt l) gh.1 (l.length - gh.1)=errF (ownAt l) 0 l.length∧(∀ b o,G b=some o→gh.2 b=some o)) (fun (gh:Nat × GH)=>l.length - gh.1) ((0,G)) (by exact (H).sub ⟨rfl,rfl,rfl,rfl,trivial⟩) ?_ ?_
 ·exact ⟨Nat.zero_le _,rfl,fun _ _ h=>h⟩
 clear H;intro gh a w hI H;obtain ⟨k,g⟩:=gh;dsimp only at hI H;obtain ⟨hk,heq,hgm⟩:=hI;dsimp only [List.cons_append,List.nil_append,List.append_nil] at H;refine kP H (SR fun _ K7=>Rc rfl (Kz K7 (SQ fun _ K8=>?_)));clear H K7;intro a H;refine c_cond H rfl ?_ ?_
 ·intro h16
  try have p16:=dT h16
  have hk2:k < l.length:=by omega
  rw [errF_step hk2,ownAt_in hk2] at heq;refine kP H (Kc K8 (SQ fun _ K9=>SB (SR fun _ K10=>Rm rfl (Ra rfl (Kz K10 (SR fun _ K11=>Ro ty41chn 1 rfl rfl (Rm rfl ?_)))))));clear H K8 K10;intro a H;refine s_call en103chk H wn rfl (own_spec _ _ H.hp.ro l k _ (hv.mono hgm) hk2 (hN _ (List.getElem_mem hk2))) rfl ?_;clear H;rintro v20 G20 a w rfl hm20 H;refine kH H (Ra rfl (Kz K11 (SR fun _ K12=>Rm rfl (Rc rfl (Kz K12 ?_)))));clear H K11 K12;intro a H;refine c_cond H rfl ?_ ?_
  ·intro h22
   try have p22:=dT h22
   refine kP H (SR fun _ K13=>Rm rfl ?_);clear H;intro a H;refine s_store ty22fst 0 (vs:=[_]) _ H wn rfl rfl rfl rfl rfl rfl rfl rfl ?_;clear H;intro w H;dsimp only [List.set,setRow] at H;refine K13 _ _ ?_;clear K13;refine c_ret ?_;refine (leave1 H Tryz.results43 (.cons (rv_cell ty22fst H rfl (H.hp.ocell 0 rfl rfl)) .nil) ?_).1
   first
    | exact H.hp.ret (congrArg vi (by rw [checkS,if_pos (by omega)]))
    | exact H.hp.ret (congrArg vi (by rw [if_neg (by simpa using p22)] at heq;rw [checkS,if_neg (by omega),← heq,if_pos (by simpa using p22)]))
    | exact H.hp.ret (congrArg vi (by rw [checkS,if_neg (by omega),if_neg (by rw [hok];decide),if_pos hbad]))
    | exact H.hp.ret (congrArg vi (by rw [checkS,if_neg (by omega),if_neg (by rw [hok];decide),if_neg hbad,if_pos (any_stop hj2 hI)]))
    | exact H.hp.ret (congrArg vi (by rw [checkS,if_neg (by omega),if_neg (by rw [hok];decide),if_neg hbad,if_neg (any_done (by omega) hnc)]))
  intro h22
  try have p22:=dF h22
  refine kP H (Kc K9 (SC (Rd rfl (Rm rfl ?_))));clear H K9;intro a H;refine wl_nil ?_;refine loop_end ((k+1,G20)) (by exact (H).sub ⟨rfl,rfl,rfl,rfl,trivial⟩) ?_ ?_
  ·(try dsimp only);exact ⟨by omega,by rw [if_pos (by simpa using p22)] at heq;exact heq,fun b o h=>hm20 b o (hgm b o h)⟩
  first|omega|(dsimp only;omega)
 intro h16
 try have p16:=dF h16
 have hok:errF (ownAt l) 0 l.length=0:=by rw [← heq];exact errF_end (by omega)
 clear heq;have hvg:=hv.mono hgm;refine c_exit ?_;refine K5 _ _ ?_;clear K5;refine kP H (SQ fun _ K14=>SR fun _ K15=>Ro ty41chn 1 rfl rfl (Rl un41sty rfl (Rm rfl (Kz K15 (SB ?_)))));clear H K15;intro a H;skip;refine c_loopS (ι:=Nat × GH) (Tc:=[(1,_),(2,_),(25,_),(26,_)]) (Lc:=[(_,_),(_,_)]) (fun (gh:Nat × GH)=>[(27,vi gh.1)]) (fun (gh:Nat × GH)=>[]) (fun (gh:Nat × GH)=>gh.2) (fun (gh:Nat × GH)=>gh.1≤l.length∧(l.take gh.1).any (badRef l)=false∧(∀ b o,g b=some o→gh.2 b=some o)) (fun (gh:Nat × GH)=>l.length - gh.1) ((0,g)) (by exact (H).sub ⟨rfl,rfl,rfl,rfl,rfl,trivial⟩) ?_ ?_
 ·exact ⟨Nat.zero_le _,rfl,fun _ _ h=>h⟩
 clear H;intro gh a w hI H;obtain ⟨k,g2⟩:=gh;dsimp only at hI H;obtain ⟨hk3,hno,hgm2⟩:=hI;have hvg2:=hvg.mono hgm2;dsimp only [List.cons_append,List.nil_append,List.append_nil] at H;refine kP H (SR fun _ K16=>Rc rfl (Kz K16 (SQ fun _ K17=>?_)));clear H K16;intro a H;refine c_cond H rfl ?_ ?_
 ·intro h28
  try have p28:=dT h28
  have hk4:k < l.length:=by omega
  obtain ⟨b,o,pA,pc,rfl,hrow,hp,hrep⟩:=style_at hvg2 hk4;refine kP H (Kc K17 (SQ fun _ K18=>SB (SR fun _ K19=>Ri un41sty ty100sty rfl rfl ?_)));clear H K17;intro a H;refine s_loada ty100sty (cs:=[_,_,_,_,_,_]) H wn rfl rfl (fun j v hj=>H.hp.gcell (hrow j v hj)) rfl ?_;clear H;intro a H;refine s_alloc ty100sty H wn rfl ?_;clear H;intro b6 a w hb6 H;refine s_store ty100sty 0 (vs:=[_,_,_,_,_,_]) _ H wn rfl rfl rfl rfl rfl rfl rfl rfl ?_;clear H;intro w H;dsimp only [List.set,setRow] at H;refine K19 _ _ ?_;clear K19;refine kP H (SR fun _ K20=>Rf fd100_3chn rfl (Ro ty3run 0 rfl rfl (Rc rfl (Rm rfl ?_))));clear H;intro a H;refine s_split H 34 rfl ?_ ?_
  ·intro h34
   try have p34:=dT h34
   refine kH H (YO ty41chn 2 h34 rfl rfl (YF fd100_1sty h34 rfl (YO ty3run 0 h34 rfl rfl (YF fd100_3chn h34 rfl (YO ty3run 0 h34 rfl rfl ?_)))));clear H;intro a H;refine s_call en104chk H (wg H rfl rfl h34) rfl (is_spec _ _ H.hp.ro l l[k].kind l[k].base _ hvg2) rfl ?_;clear H;rintro v40 g2 a w rfl hm40 H;replace hgm2:=fun b o (h:g b=some o)=>hm40 b o (hgm2 b o h);replace hvg2:=hvg2.mono hm40;refine kH H (YN h34 rfl (Pt h34 rfl (Rm rfl ?_)));clear H;intro a H;refine s_split H 43 rfl ?_ ?_
   ·intro h43
    try have p43:=dT h43
    refine kH H (Ks h43 rfl (Ks h43 rfl (Ks h43 rfl (Ks h43 rfl (Ku rfl (Ku rfl (Ku rfl (Ku rfl (Ku rfl (Ku rfl (Ku rfl (Ku rfl (Ku rfl (Ku rfl ?_))))))))))))));clear H;intro a H;refine kH H (Ks h43 rfl (Pt h43 rfl (Kz K20 ?_)));clear H K20;intro a H;refine c_cond_t H rfl rfl ?_;refine c_seq (fun _ K21=>?_);have hbad:l.any (badRef l)=true:=any_stop hk4 (by unfold badRef;simp_all);refine c_region ?_;refine s_store ty22fst 1 (vs:=[_]) _ H wn rfl rfl rfl rfl rfl rfl rfl rfl ?_;clear H;intro w H;dsimp only [List.set,setRow] at H;refine wl_nil ?_;refine K21 _ _ ?_;clear K21;refine c_ret ?_;refine (leave1 H Tryz.results43 (.cons (rv_cell ty22fst H rfl (H.hp.ocell 1 rfl rfl)) .nil) ?_).1
    first
     | exact H.hp.ret (congrArg vi (by rw [checkS,if_pos (by omega)]))
     | exact H.hp.ret (congrArg vi (by rw [if_neg (by simpa using p22)] at heq;rw [checkS,if_neg (by omega),← heq,if_pos (by simpa using p22)]))
     | exact H.hp.ret (congrArg vi (by rw [checkS,if_neg (by omega),if_neg (by rw [hok];decide),if_pos hbad]))
     | exact H.hp.ret (congrArg vi (by rw [checkS,if_neg (by omega),if_neg (by rw [hok];decide),if_neg hbad,if_pos (any_stop hj2 hI)]))
     | exact H.hp.ret (congrArg vi (by rw [checkS,if_neg (by omega),if_neg (by rw [hok];decide),if_neg hbad,if_neg (any_done (by omega) hnc)]))
   intro h43
   try have p43:=dF h43
   refine kH H (YF fd100_4chk h43 rfl (YO ty3run 0 h43 rfl rfl (YC h43 rfl (YM h43 rfl ?_))));clear H;intro a H;refine s_split H 47 rfl ?_ ?_
   ·intro h47
    try have p47:=dT h47
    refine kH H (YF fd100_1sty h47 rfl (YO ty3run 0 h47 rfl rfl (YC h47 rfl (YM h47 rfl ?_))));clear H;intro a H;refine s_split H 51 rfl ?_ ?_
    ·intro h51
     try have p51:=dT h51
     refine kH H (Ks h51 rfl (Ks h51 rfl (Ks h51 rfl (Ks h51 rfl (Ks h51 rfl (PT h47 h51 rfl (PT h43 h47 rfl (Pf h43 rfl (Kz K20 ?_)))))))));clear H K20;intro a H;refine c_cond_t H rfl rfl ?_;refine c_seq (fun _ K22=>?_);have hbad:l.any (badRef l)=true:=any_stop hk4 (by unfold badRef;simp_all);refine c_region ?_;refine s_store ty22fst 1 (vs:=[_]) _ H wn rfl rfl rfl rfl rfl rfl rfl rfl ?_;clear H;intro w H;dsimp only [List.set,setRow] at H;refine wl_nil ?_;refine K22 _ _ ?_;clear K22;refine c_ret ?_;refine (leave1 H Tryz.results43 (.cons (rv_cell ty22fst H rfl (H.hp.ocell 1 rfl rfl)) .nil) ?_).1
     first
      | exact H.hp.ret (congrArg vi (by rw [checkS,if_pos (by omega)]))
      | exact H.hp.ret (congrArg vi (by rw [if_neg (by simpa using p22)] at heq;rw [checkS,if_neg (by omega),← heq,if_pos (by simpa using p22)]))
      | exact H.hp.ret (congrArg vi (by rw [checkS,if_neg (by omega),if_neg (by rw [hok];decide),if_pos hbad]))
      | exact H.hp.ret (congrArg vi (by rw [checkS,if_neg (by omega),if_neg (by rw [hok];decide),if_neg hbad,if_pos (any_stop hj2 hI)]))
      | exact H.hp.ret (congrArg vi (by rw [checkS,if_neg (by omega),if_neg (by rw [hok];decide),if_neg hbad,if_neg (any_done (by omega) hnc)]))
    intro h51
    try have p51:=dF h51
    refine kH H (YO ty41chn 2 h51 rfl rfl (YF fd100_4chk h51 rfl (YO ty3run 0 h51 rfl rfl ?_)));clear H;intro a H;refine s_call en104chk H (wg H rfl rfl h51) rfl (is_spec _ _ H.hp.ro l 1 l[k].next _ hvg2) rfl ?_;clear H;rintro v55 g2 a w rfl hm55 H;replace hgm2:=fun b o (h:g b=some o)=>hm55 b o (hgm2 b o h);replace hvg2:=hvg2.mono hm55;refine kH H (YN h51 rfl (PF h47 h51 rfl (PT h43 h47 rfl (Pf h43 rfl (Kz K20 ?_)))));clear H K20;intro a H;refine c_cond H rfl ?_ ?_
    ·intro h59
     try have p59:=dT h59
     refine c_seq (fun _ K23=>?_);have hbad:l.any (badRef l)=true:=any_stop hk4 (by unfold badRef;simp_all);refine c_region ?_;refine s_store ty22fst 1 (vs:=[_]) _ H wn rfl rfl rfl rfl rfl rfl rfl rfl ?_;clear H;intro w H;dsimp only [List.set,setRow] at H;refine wl_nil ?_;refine K23 _ _ ?_;clear K23;refine c_ret ?_;refine (leave1 H Tryz.results43 (.cons (rv_cell ty22fst H rfl (H.hp.ocell 1 rfl rfl)) .nil) ?_).1
     first
      | exact H.hp.ret (congrArg vi (by rw [checkS,if_pos (by omega)]))
      | exact H.hp.ret (congrArg vi (by rw [if_neg (by simpa using p22)] at heq;rw [checkS,if_neg (by omega),← heq,if_pos (by simpa using p22)]))
      | exact H.hp.ret (congrArg vi (by rw [checkS,if_neg (by omega),if_neg (by rw [hok];decide),if_pos hbad]))
      | exact H.hp.ret (congrArg vi (by rw [checkS,if_neg (by omega),if_neg (by rw [hok];decide),if_neg hbad,if_pos (any_stop hj2 hI)]))
      | exact H.hp.ret (congrArg vi (by rw [checkS,if_neg (by omega),if_neg (by rw [hok];decide),if_neg hbad,if_neg (any_done (by omega) hnc)]))
    intro h59
    try have p59:=dF h59
    refine kP H (Kc K18 (SC (Rd rfl (Rm rfl ?_))));clear H K18;intro a H;refine wl_nil ?_;refine loop_end ((k+1,g2)) (by exact (H.pickT (Pl:=[_,_,_]) (Pl':=[_,_]) [1,2] (by decide) rfl).sub ⟨rfl,rfl,rfl,rfl,rfl,trivial⟩) ?_ ?_
    ·(try dsimp only);exact ⟨by omega,any_next hk4 hno (by unfold badRef;simp_all),hgm2⟩
    first|omega|(dsimp only;omega)
   intro h47
   try have p47:=dF h47
   refine kH H (Ks h47 rfl (Ks h47 rfl (Ks h47 rfl (Ks h47 rfl (Ku rfl (Ku rfl (Ku rfl (Ku rfl (Ku rfl (Ks h47 rfl (PF h43 h47 rfl (Pf h43 rfl (Kz K20 ?_)))))))))))));clear H K20;intro a H;refine c_cond_f H rfl rfl ?_;refine kP H (Kc K18 (SC (Rd rfl (Rm rfl ?_))));clear H K18;intro a H;refine wl_nil ?_;refine loop_end ((k+1,g2)) (by exact (H.pickT (Pl:=[_,_,_]) (Pl':=[_,_]) [1,2] (by decide) rfl).sub ⟨rfl,rfl,rfl,rfl,rfl,trivial⟩) ?_ ?_
   ·(try dsimp only);exact ⟨by omega,any_next hk4 hno (by unfold badRef;simp_all),hgm2⟩
   first|omega|(dsimp only;omega)
  intro h34
  try have p34:=dF h34
  refine kH H (Ks h34 rfl (Ks h34 rfl (Ks h34 rfl (Ks h34 rfl (Ks h34 rfl (Ks h34 rfl (Ks h34 rfl (Pf h34 rfl (Rm rfl ?_)))))))));clear H;intro a H;refine s_field fd100_4chk H (wg H rfl rfl rfl) rfl rfl ?_;clear H;intro a H;refine s_load ty3run H (wg H rfl rfl rfl) rfl (H.hp.ocell 0 rfl rfl) rfl ?_;clear H;intro a H;refine s_cmp H (wg H rfl rfl rfl) rfl rfl rfl rfl ?_;clear H;intro a H;refine s_move H (wg H rfl rfl rfl) rfl rfl ?_;clear H;intro a H;refine s_split H 47 rfl ?_ ?_
  ·intro h47
   try have p47:=dT h47
   refine kH H (YF fd100_1sty h47 rfl (YO ty3run 0 h47 rfl rfl (YC h47 rfl (YM h47 rfl ?_))));clear H;intro a H;refine s_split H 51 rfl ?_ ?_
   ·intro h51
    try have p51:=dT h51
    refine kH H (Ks h51 rfl (Ks h51 rfl (Ks h51 rfl (Ks h51 rfl (Ks h51 rfl (PT h47 h51 rfl ?_))))));clear H;intro a H;refine s_pick_t H (wg H rfl rfl rfl) rfl h47 rfl rfl ?_;clear H;intro a H;refine kH H (Pf rfl rfl (Kz K20 ?_));clear H K20;intro a H;refine c_cond_t H rfl rfl ?_;refine c_seq (fun _ K24=>?_);have hbad:l.any (badRef l)=true:=any_stop hk4 (by unfold badRef;simp_all);refine c_region ?_;refine s_store ty22fst 1 (vs:=[_]) _ H wn rfl rfl rfl rfl rfl rfl rfl rfl ?_;clear H;intro w H;dsimp only [List.set,setRow] at H;refine wl_nil ?_;refine K24 _ _ ?_;clear K24;refine c_ret ?_;refine (leave1 H Tryz.results43 (.cons (rv_cell ty22fst H rfl (H.hp.ocell 1 rfl rfl)) .nil) ?_).1
    first
     | exact H.hp.ret (congrArg vi (by rw [checkS,if_pos (by omega)]))
     | exact H.hp.ret (congrArg vi (by rw [if_neg (by simpa using p22)] at heq;rw [checkS,if_neg (by omega),← heq,if_pos (by simpa using p22)]))
     | exact H.hp.ret (congrArg vi (by rw [checkS,if_neg (by omega),if_neg (by rw [hok];decide),if_pos hbad]))
     | exact H.hp.ret (congrArg vi (by rw [checkS,if_neg (by omega),if_neg (by rw [hok];decide),if_neg hbad,if_pos (any_stop hj2 hI)]))
     | exact H.hp.ret (congrArg vi (by rw [checkS,if_neg (by omega),if_neg (by rw [hok];decide),if_neg hbad,if_neg (any_done (by omega) hnc)]))
   intro h51
   try have p51:=dF h51
   refine kH H (YO ty41chn 2 h51 rfl rfl (YF fd100_4chk h51 rfl (YO ty3run 0 h51 rfl rfl ?_)));clear H;intro a H;refine s_call en104chk H (wg H rfl rfl h51) rfl (is_spec _ _ H.hp.ro l 1 l[k].next _ hvg2) rfl ?_;clear H;rintro v55 g2 a w rfl hm55 H;replace hgm2:=fun b o (h:g b=some o)=>hm55 b o (hgm2 b o h);replace hvg2:=hvg2.mono hm55;refine kH H (YN h51 rfl (PF h47 h51 rfl ?_));clear H;intro a H;refine s_pick_t H (wg H rfl rfl rfl) rfl h47 rfl rfl ?_;clear H;intro a H;refine kH H (Pf rfl rfl (Kz K20 ?_));clear H K20;intro a H;refine c_cond H rfl ?_ ?_
   ·intro h59
    try have p59:=dT h59
    refine c_seq (fun _ K25=>?_);have hbad:l.any (badRef l)=true:=any_stop hk4 (by unfold badRef;simp_all);refine c_region ?_;refine s_store ty22fst 1 (vs:=[_]) _ H wn rfl rfl rfl rfl rfl rfl rfl rfl ?_;clear H;intro w H;dsimp only [List.set,setRow] at H;refine wl_nil ?_;refine K25 _ _ ?_;clear K25;refine c_ret ?_;refine (leave1 H Tryz.results43 (.cons (rv_cell ty22fst H rfl (H.hp.ocell 1 rfl rfl)) .nil) ?_).1
    first
     | exact H.hp.ret (congrArg vi (by rw [checkS,if_pos (by omega)]))
     | exact H.hp.ret (congrArg vi (by rw [if_neg (by simpa using p22)] at heq;rw [checkS,if_neg (by omega),← heq,if_pos (by simpa using p22)]))
     | exact H.hp.ret (congrArg vi (by rw [checkS,if_neg (by omega),if_neg (by rw [hok];decide),if_pos hbad]))
     | exact H.hp.ret (congrArg vi (by rw [checkS,if_neg (by omega),if_neg (by rw [hok];decide),if_neg hbad,if_pos (any_stop hj2 hI)]))
     | exact H.hp.ret (congrArg vi (by rw [checkS,if_neg (by omega),if_neg (by rw [hok];decide),if_neg hbad,if_neg (any_done (by omega) hnc)]))
   intro h59
   try have p59:=dF h59
   refine kP H (Kc K18 (SC (Rd rfl (Rm rfl ?_))));clear H K18;intro a H;refine wl_nil ?_;refine loop_end ((k+1,g2)) (by exact (H.pickT (Pl:=[_,_,_]) (Pl':=[_,_]) [1,2] (by decide) rfl).sub ⟨rfl,rfl,rfl,rfl,rfl,trivial⟩) ?_ ?_
   ·(try dsimp only);exact ⟨by omega,any_next hk4 hno (by unfold badRef;simp_all),hgm2⟩
   first|omega|(dsimp only;omega)
  intro h47
  try have p47:=dF h47
  refine kH H (Ks h47 rfl (Ks h47 rfl (Ks h47 rfl (Ks h47 rfl (Ku rfl (Ku rfl (Ku rfl (Ku rfl (Ku rfl (Ks h47 rfl ?_))))))))));clear H;intro a H;refine s_pick_f H (wg H rfl rfl rfl) rfl h47 rfl rfl ?_;clear H;intro a H;refine kH H (Pf rfl rfl (Kz K20 ?_));clear H K20;intro a H;refine c_cond_f H rfl rfl ?_;refine kP H (Kc K18 (SC (Rd rfl (Rm rfl ?_))));clear H K18;intro a H;refine wl_nil ?_;refine loop_end ((k+1,g2)) (by exact (H.pickT (Pl:=[_,_,_]) (Pl':=[_,_]) [1,2] (by decide) rfl).sub ⟨rfl,rfl,rfl,rfl,rfl,trivial⟩) ?_ ?_
  ·(try dsimp only);exact ⟨by omega,any_next hk4 hno (by unfold badRef;simp_all),hgm2⟩
  first|omega|(dsimp only;omega)
 intro h28
 try have p28:=dF h28
 have hbad:=any_done (by omega) hno;refine c_exit ?_;refine K14 _ _ ?_;clear K14;refine kP H (SQ fun _ K26=>SR fun _ K27=>Ro ty41chn 1 rfl rfl (Rl un41sty rfl (Rm rfl (Kz K27 (SB ?_)))));clear H K27;intro a H;skip;refine c_loopD (ι:=Nat × GH × List Nat) (Tc:=[(1,_),(2,_),(61,_),(62,_)]) (Lc:=[(_,_),(_,_)]) (fun (gh:Nat × GH × List Nat)=>mkD gh.2.2) (fun (gh:Nat × GH × List Nat)=>[(63,vi gh.1)]) (fun (gh:Nat × GH × List Nat)=>[]++(mkL gh.2.2++[])) (fun (gh:Nat × GH × List Nat)=>gh.2.1) (fun (gh:Nat × GH × List Nat)=>gh.1≤l.length∧(l.take gh.1).any (cyc l)=false∧(∀ b o,g2 b=some o→gh.2.1 b=some o)) (fun (gh:Nat × GH × List Nat)=>l.length - gh.1) ((0,g2,[])) (by exact (H).sub ⟨rfl,rfl,rfl,rfl,rfl,trivial⟩) ?_ ?_
 ·exact ⟨Nat.zero_le _,rfl,fun _ _ h=>h⟩
 clear H;intro gh a w hI H;obtain ⟨j,g3,ds⟩:=gh;dsimp only at hI H;obtain ⟨hj,hnc,hgm3⟩:=hI;have hvg3:=hvg2.mono hgm3;dsimp only [List.cons_append,List.nil_append,List.append_nil] at H;refine kP H (SR fun _ K28=>Rc rfl (Kz K28 (SQ fun _ K29=>?_)));clear H K28;intro a H;refine c_cond H rfl ?_ ?_
 ·intro h64
  try have p64:=dT h64
  have hj2:j < l.length:=by omega
  obtain ⟨b,o,pA,pc,rfl,hrow,hp,hrep⟩:=style_at hvg3 hj2;refine kP H (Kc K29 (SQ fun _ K30=>SB (SR fun _ K31=>Ri un41sty ty100sty rfl rfl ?_)));clear H K29;intro a H;refine s_loada ty100sty (cs:=[_,_,_,_,_,_]) H wn rfl rfl (fun j v hj=>H.hp.gcell (hrow j v hj)) rfl ?_;clear H;intro a H;refine s_alloc ty100sty H wn rfl ?_;clear H;intro b8 a w hb8 H;refine s_store ty100sty 0 (vs:=[_,_,_,_,_,_]) _ H wn rfl rfl rfl rfl rfl rfl rfl rfl ?_;clear H;intro w H;dsimp only [List.set,setRow] at H;refine K31 _ _ ?_;clear K31;refine c_seqR (fun _ K32=>?_);refine s_alloc ty3run H wn rfl ?_;clear H;intro b9 a w hb9 H;refine s_store ty3run 0 (vs:=[_]) _ H wn rfl rfl rfl rfl rfl rfl rfl rfl ?_;clear H;intro w H;dsimp only [List.set,setRow] at H;refine K32 _ _ ?_;clear K32;refine kP H (SR fun _ K33=>Ro ty41chn 3 rfl rfl (Rf fd100_0sty rfl (Ro ty3run 1 rfl rfl ?_)));clear H;intro a H;refine s_callL en105chk (Li:=[_,_,_,_]++mkL ds) (L:=[]) (St.un (A:=[_,_,_,_]) H) wn rfl (chain_spec (Hp.owns (Li:=[_,_,_,_]++mkL ds) (St.un (A:=[_,_,_,_]) H).hp) l l[j].id _ hvg3) rfl ?_;clear H;rintro v70 g4 L70 a w ⟨bl,bi,rfl,rfl,hbl⟩ hm70 H;have H:=(St.nilT (A:=[_,_,_,_,_]) (B:=mkL ds) (H.perm List.perm_append_comm));dsimp only [List.cons_append,List.nil_append] at H;have hit:=chain1_iter (l:=l) (id:=l[j].id) (bi:=bi) hbl (hvg3.mono hm70) (own_nodup hok);refine K33 _ _ ?_;clear K33;refine c_block ?_;skip;refine c_rangeJI (B:=[(_,_)]) (ι:=Unit) (κ:=Int) (Lc:=[(_,_),(_,_)]) (fun (k:Nat) (gh:Unit)=>[(b9,.cells #[vi k] 3 (0,0)),(b2,.cells #[vi 0] 22 (0,0))]) (fun (k:Nat) (gh:Unit)=>(mkL ds++[])) (fun (k:Nat) (gh:Unit) (g:GH)=>k≤l.length) (fun (gx:Int)=>Code.ret) (fun (gx:Int)=>[(b9,.cells #[vi gx] 3 (0,0)),(b2,.cells #[vi 16] 22 (0,0))]) (fun (gx:Int)=>(mkL ds++[])) (fun (gx:Int) (g:GH)=>cyc l l[j]=true) (()) (by exact H.pickT (Pl:=[_,_,_,_,_]) (Pl':=[_,_,_,_,_]) [0,2,4,1,3] (by decide) rfl) rfl en181chn (hit) (fun _ _ h=>h) (fun e i g h=>absurd (of_decide_eq_false e) (by rw [List.length_map] at h;omega)) rfl (fun k args g h=>by obtain ⟨_,_,rfl,_⟩:=st_at h;rfl) (fun _ _ _ _ _ h=>h) (fun _ _ _ _ h=>h) (Nat.zero_le _) ?_ ?_ ?_
  ·clear H;intro l21 rdy bsy bk k args gh G21 w21 F21 B21 a hk21 hm21 hI hbeg21 hnext21 hstop21 H;obtain ⟨hk21,cs21,rfl,hrep21⟩:=st_at hk21;dsimp only [asg,List.cons_append,List.nil_append] at H;refine c_skip ?_;refine hbeg21 _ _ _ _ _ _ (by exact H) ?_;clear H;intro w H;refine kP H (SB (SR fun _ K34=>Ro ty3run 3 rfl rfl (Rd rfl ?_)));clear H;intro a H;refine s_store ty3run 3 (vs:=[_]) _ H wn rfl rfl rfl rfl rfl rfl rfl rfl ?_;clear H;intro w H;dsimp only [List.set,setRow] at H;refine K34 _ _ ?_;clear K34;refine kP H (SR fun _ K35=>Ro ty3run 3 rfl rfl (Ro ty41chn 2 rfl rfl (Rl un41sty rfl (Rc rfl (Kz K35 ?_)))));clear H K35;intro a H;refine c_cond H rfl ?_ ?_
   ·intro h77
    try have p77:=dT h77
    refine c_seqR (fun _ K36=>?_);refine s_store ty22fst 4 (vs:=[_]) _ H wn rfl rfl rfl rfl rfl rfl rfl rfl ?_;clear H;intro w H;dsimp only [List.set,setRow] at H;refine K36 _ _ ?_;clear K36;refine c_ret ?_;refine (hstop21 ((k:Int)+1) _ _ _ _ _ (by exact H) ?_).1 rfl;exact decide_eq_true (by omega)
   intro h77
   try have p77:=dF h77
   refine c_skip ?_;refine hnext21 (()) _ _ _ _ _ (by exact H) ?_
   omega
  ·clear H;intro Dk21 gh Gd21 a w hm21 hI H;dsimp only [List.cons_append,List.nil_append,List.append_nil] at H;refine K30 _ _ ?_;clear K30;refine kP H (SC (Rd rfl (Rm rfl ?_)));clear H;intro a H;refine wl_nil ?_;refine loopD_end ((j+1,Gd21,Dk21 :: ds)) (by exact (H.pickT (Pl:=[_,_,_,_,_]) (Pl':=[_,_,_]) [4,2,0] (by decide) rfl).sub ⟨rfl,rfl,rfl,rfl,rfl,trivial⟩) ?_ ?_
   ·(try dsimp only);exact ⟨by omega,any_next hj2 hnc (decide_eq_false (by rw [List.length_map] at hI;omega)),fun b o h=>hm21 b o (hm70 b o (hgm3 b o h))⟩
   first|omega|(dsimp only;omega)
  clear H;intro Dk21 gx Gd21 a w hm21 hI H;obtain ⟨x,hgh⟩:∃ x,x=gx:=⟨_,rfl⟩;subst hgh;dsimp only [List.cons_append,List.nil_append,List.append_nil] at H;refine c_ret ?_;refine (leaveM H 0 rfl ?_).1;clear H;intro a w H;dsimp only [List.eraseIdx_cons_succ,List.eraseIdx_cons_zero] at H;refine (leaveMs (Lh:=[_,_,_,_]) _ H ?_).1;clear H;intro a w H;dsimp only [List.cons_append,List.nil_append] at H;refine (leave1 H Tryz.results43 (.cons (rv_cell ty22fst H rfl (H.hp.ocell 3 rfl rfl)) .nil) ?_).1
  first
   | exact H.hp.ret (congrArg vi (by rw [checkS,if_pos (by omega)]))
   | exact H.hp.ret (congrArg vi (by rw [if_neg (by simpa using p22)] at heq;rw [checkS,if_neg (by omega),← heq,if_pos (by simpa using p22)]))
   | exact H.hp.ret (congrArg vi (by rw [checkS,if_neg (by omega),if_neg (by rw [hok];decide),if_pos hbad]))
   | exact H.hp.ret (congrArg vi (by rw [checkS,if_neg (by omega),if_neg (by rw [hok];decide),if_neg hbad,if_pos (any_stop hj2 hI)]))
   | exact H.hp.ret (congrArg vi (by rw [checkS,if_neg (by omega),if_neg (by rw [hok];decide),if_neg hbad,if_neg (any_done (by omega) hnc)]))
 intro h64
 try have p64:=dF h64
 refine c_exit ?_;refine K26 _ _ ?_;clear K26;refine c_seqR (fun _ K37=>?_);refine s_store ty22fst 0 (vs:=[_]) _ H wn rfl rfl rfl rfl rfl rfl rfl rfl ?_;clear H;intro w H;dsimp only [List.set,setRow] at H;refine K37 _ _ ?_;clear K37;refine c_ret ?_;refine (leaveMs (Lh:=[_,_]) _ H ?_).1;clear H;intro a w H;dsimp only [List.cons_append,List.nil_append] at H;refine (leave1 H Tryz.results43 (.cons (rv_cell ty22fst H rfl (H.hp.ocell 0 rfl rfl)) .nil) ?_).1
 first
  | exact H.hp.ret (congrArg vi (by rw [checkS,if_pos (by omega)]))
  | exact H.hp.ret (congrArg vi (by rw [if_neg (by simpa using p22)] at heq;rw [checkS,if_neg (by omega),← heq,if_pos (by simpa using p22)]))
  | exact H.hp.ret (congrArg vi (by rw [checkS,if_neg (by omega),if_neg (by rw [hok];decide),if_pos hbad]))
  | exact H.hp.ret (congrArg vi (by rw [checkS,if_neg (by omega),if_neg (by rw [hok];decide),if_neg hbad,if_pos (any_stop hj2 hI)]))
  | exact H.hp.ret (congrArg vi (by rw [checkS,if_neg (by omega),if_neg (by rw [hok];decide),if_neg hbad,if_neg (any_done (by omega) hnc)]))
end
section
open Go.RowKit
theorem ty44dsv:Ty Tryz.prog 44 1 24 [.slice none 0 0] false:=⟨by kernel_rfl,by kernel_rfl⟩
theorem un44dsv:Tryz.prog.underlying 44=some (.slice 109):=by kernel_rfl
theorem ty109dsv:Ty Tryz.prog 109 2 32 [.string ⟨#[]⟩,.string ⟨#[]⟩] true:=⟨by kernel_rfl,by kernel_rfl⟩
theorem fd109_0dsv:Fld Tryz.prog 109 0 0:=⟨by kernel_rfl⟩
theorem en60dsv:∀ args w,(callFunc 60 args).run Tryz.prog w=.ok (.enter 60 args) w:=enters Tryz.func60 rfl (by kernel_rfl)
theorem fd109_1dsv:Fld Tryz.prog 109 1 1:=⟨by kernel_rfl⟩
theorem fd46_0dsv:Fld Tryz.prog 46 0 0:=⟨by kernel_rfl⟩
theorem en43dsv:∀ args w,(callFunc 43 args).run Tryz.prog w=.ok (.enter 43 args) w:=enters Tryz.func43 rfl (by kernel_rfl)
theorem fd46_1dsv:Fld Tryz.prog 46 1 1:=⟨by kernel_rfl⟩
theorem en53dsv:∀ args w,(callFunc 53 args).run Tryz.prog w=.ok (.enter 53 args) w:=enters Tryz.func53 rfl (by kernel_rfl)
theorem fd46_2dsv:Fld Tryz.prog 46 2 2:=⟨by kernel_rfl⟩
theorem en54dsv:∀ args w,(callFunc 54 args).run Tryz.prog w=.ok (.enter 54 args) w:=enters Tryz.func54 rfl (by kernel_rfl)
theorem fd46_3dsv:Fld Tryz.prog 46 3 3:=⟨by kernel_rfl⟩
theorem en55dsv:∀ args w,(callFunc 55 args).run Tryz.prog w=.ok (.enter 55 args) w:=enters Tryz.func55 rfl (by kernel_rfl)
theorem en130dsv:∀ args w,(callFunc 130 args).run Tryz.prog w=.ok (.enter 130 args) w:=enters Tryz.func130 rfl (by kernel_rfl)
theorem va_at {G:GH} {l:List VaD} {A:Option Addr} {n c k:Nat} (hv:RepV G (.sl 2 (l.map VaD.dat)) (.slice A n c)) (hk:k < l.length):∃ b o,A=some ⟨b,o,none⟩∧(∀ j u,l[k].cells[j]?=some u→gcell G b (o+k*2+j)=some u):=by
 obtain ⟨A',c',he,_,_,hg⟩:=hv.slice
 injection he with e1 e2 e3
 subst e1;obtain ⟨b,o,cs,h1,h2,h3,h4⟩:=hg k l[k].dat (by simp [hk]);have:=va_of h4;subst this;exact ⟨b,o,h1,h3⟩
def vaE0 (k:Nat) (x:VaD) (pn:ByteArray):Int:=firstE [whenE (!cpNm x.name) 13,whenE (decide (0 < (k:Int)) && (x.name.toList == pn.toList)) 7,whenE (decide (0 < (k:Int)) && Op.bytesLess x.name.toList pn.toList) 6,txE x.value]
def vaE (l:List VaD) (k:Nat):Int:=match l[k]? with|some x=>vaE0 k x ((l[k - 1]?.map VaD.name).getD ⟨#[]⟩)|none=>0
set_option maxHeartbeats 2000000 in
theorem va_cb {G:GH} {bl:Nat} {l:List VaD} {A:Option Addr} {n c:Nat} (hb:gcell G bl 0=some (.slice A n c)) (hv:RepV G (.sl 2 (l.map VaD.dat)) (.slice A n c)) (hl:l.length≤4294967296) (ht:∀ x∈l,x.name.size < 4611686018427387904∧x.value.size < 4611686018427387904):IxCb (.func (.func 130) #[] #[.pointer (some ⟨bl,0,none⟩)]) G l.length (vaE l):=by
 intro k hk G1 w0 hm hG;refine callV_func (caps:=[.pointer (some ⟨bl,0,none⟩)]) en130dsv ?_;replace hb:=gcell_mono hm hb;replace hv:=hv.mono hm
 obtain rfl:n=l.length:=by have:=hv.len;simpa using this
 obtain ⟨b,o,rfl,hrow⟩:=va_at hv hk
 have hk1:k - 1 < l.length:=by omega
 obtain ⟨b',o',he',hrow'⟩:=va_at hv hk1
 injection he' with he'
 injection he' with e1 e2
 subst e1;subst e2;have hte:=ht _ (List.getElem_mem hk)
 have he:vaE l k=vaE0 k l[k] l[k - 1].name:=by unfold vaE;rw [List.getElem?_eq_getElem hk,List.getElem?_eq_getElem hk1];rfl
 obtain ⟨x,hx⟩:∃ x,x=l[k]:=⟨_,rfl⟩;obtain ⟨y,hy⟩:∃ y,y=l[k - 1]:=⟨_,rfl⟩;rw [← hx] at hrow hte he;rw [← hy] at hrow' he;refine eN [(0,_),(1,_)] Tryz.func130 rfl Tryz.ntmps130 rfl rfl hG ?_;intro a H;refine kP H (SR fun _ K1=>Ra rfl (Kz K1 (SQ fun _ K2=>?_)));clear H K1;intro a H;have H:=H.sub (T':=[(0,_),(1,_)]) ⟨rfl,rfl,trivial⟩
 by_cases c0:0 < (k:Int)
 ·skip;refine c_drawI (hmx) [[],[],[0,1],[0,1,2],[0,1,2,3],[0,1,2,3,4],[0,1,2,3,4,5],(List.range 7),[],[8],(List.range 10),(List.range 11),(List.range 11),(List.range 13),(List.range 14),(List.range 15),(List.range 11),(List.range 11),(List.range 11++[17]),(List.range 11++[17,18]),(List.range 11++[16,17,18,19]),(List.range 11++[16,17,18,19,20]),(List.range 11++[16,17,18,19,20,21]),(List.range 23),(List.range 24),(List.range 25),[],[26],(List.range 28),(List.range 29),(List.range 29),(List.range 31),(List.range 32),(List.range 33),(List.range 29),(List.range 29),(List.range 29++[35]),(List.range 29++[35,36]),(List.range 29++[34,35,36,37]),(List.range 29++[34,35,36,37,38]),(List.range 29++[34,35,36,37,38,39]),(List.range 41),(List.range 42),(List.range 43),[],[],[44,45],[44,45,46],[44,45,46,47],(List.range 49),(List.range 50),(List.range 51),(List.range 52)] [50,51,52] (by kernel_rfl) (by kernel_rfl) (fun (ix_:Nat) (v:Value) (G:GH)=>match ix_ with|0=>v=.slice (some ⟨b,o,none⟩) l.length c|1=>v=vi k|2=>v=.pointer (some ⟨b,o+k*2,none⟩)|3=>v=.pointer (some ⟨b,o+k*2+0,none⟩)|4=>v=.string x.name|5=>v=.bool (cpNm x.name)|6=>v=.bool (!cpNm x.name)|7=>v=vi (whenE (!cpNm x.name) 13)|8=>v=vi k|9=>v=.bool (decide (0 < (k:Int)))|10=>v=.bool (decide (0 < (k:Int)))|11=>v=.slice (some ⟨b,o,none⟩) l.length c|12=>v=vi k|13=>v=.pointer (some ⟨b,o+k*2,none⟩)|14=>v=.pointer (some ⟨b,o+k*2+0,none⟩)|15=>v=.string x.name|16=>v=.slice (some ⟨b,o,none⟩) l.length c|17=>v=vi k|18=>v=vi ((max k 1:Nat):Int)|19=>v=vi ((k - 1:Nat):Int)|20=>v=.pointer (some ⟨b,o+(k - 1)*2,none⟩)|21=>v=.pointer (some ⟨b,o+(k - 1)*2+0,none⟩)|22=>v=.string y.name|23=>v=.bool (x.name.toList == y.name.toList)|24=>v=.bool (decide (0 < (k:Int)) && (x.name.toList == y.name.toList))|25=>v=vi (whenE (decide (0 < (k:Int)) && (x.name.toList == y.name.toList)) 7)|26=>v=vi k|27=>v=.bool (decide (0 < (k:Int)))|28=>v=.bool (decide (0 < (k:Int)))|29=>v=.slice (some ⟨b,o,none⟩) l.length c|30=>v=vi k|31=>v=.pointer (some ⟨b,o+k*2,none⟩)|32=>v=.pointer (some ⟨b,o+k*2+0,none⟩)|33=>v=.string x.name|34=>v=.slice (some ⟨b,o,none⟩) l.length c|35=>v=vi k|36=>v=vi ((max k 1:Nat):Int)|37=>v=vi ((k - 1:Nat):Int)|38=>v=.pointer (some ⟨b,o+(k - 1)*2,none⟩)|39=>v=.pointer (some ⟨b,o+(k - 1)*2+0,none⟩)|40=>v=.string y.name|41=>v=.bool (Op.bytesLess x.name.toList y.name.toList)|42=>v=.bool (decide (0 < (k:Int)) && Op.bytesLess x.name.toList y.name.toList)|43=>v=vi (whenE (decide (0 < (k:Int)) && Op.bytesLess x.name.toList y.name.toList) 6)|44=>v=.slice (some ⟨b,o,none⟩) l.length c|45=>v=vi k|46=>v=.pointer (some ⟨b,o+k*2,none⟩)|47=>v=.pointer (some ⟨b,o+k*2+1,none⟩)|48=>v=.string x.value|49=>v=vi (txE x.value)|_=>True) (fun _ _ _ _ _ h=>h) H ?_ ?_
  ·clear H;refine al4 ?_ ?_ ?_ ?_ (al4 ?_ ?_ ?_ ?_ (al4 ?_ ?_ ?_ ?_ (al4 ?_ ?_ ?_ ?_ (al4 ?_ ?_ ?_ ?_ (al4 ?_ ?_ ?_ ?_ (al4 ?_ ?_ ?_ ?_ (al4 ?_ ?_ ?_ ?_ (al4 ?_ ?_ ?_ ?_ (al4 ?_ ?_ ?_ ?_ (al4 ?_ ?_ ?_ ?_ (al4 ?_ ?_ ?_ ?_ (al4 ?_ ?_ ?_ ?_ (allI_cons ?_ allI_nil)))))))))))))
   ·exact Op0 rfl fun _ _ _ _ hG _ H fin=>kH H (Rg ty44dsv rfl (gcell_mono hG hb) fun _ H=>fin H iJ rfl)
   ·exact Z0 rfl rfl fun _ _ _ _ _=>Rm rfl
   ·exact Z2 0 4 1 5 rfl rfl fun _ _ _ _ _=>Ri un44dsv ty109dsv rfl rfl
   ·exact Z1 2 6 rfl rfl fun _ _ _ _ _=>Rf fd109_0dsv rfl
   ·exact Op1 3 7 rfl rfl fun _ _ _ _ hG _ H fin=>kH H (Rg ty9run rfl (gcell_mono hG (hrow 0 _ rfl)) fun _ H=>fin H iJ rfl)
   ·refine Op1 4 8 rfl rfl fun _ a w G1 hG HT H fin=>?_;refine s_call en60dsv H wn rfl (cpNm_spec _ _ H.hp.ro x.name hte.1) rfl ?_;clear H;rintro v9 G9 a w ⟨rfl,-⟩ hGm9 H;exact fin H hGm9 (rfl)
   ·exact Z1 5 9 rfl rfl fun _ _ _ _ _=>Rn rfl
   ·refine Op1 6 10 rfl rfl fun _ a w G1 hG HT H fin=>?_;refine s_call en65nam H wn rfl (when_spec _ _ H.hp.ro _ 13) rfl ?_;clear H;rintro v11 G11 a w ⟨rfl,-⟩ hGm11 H;exact fin H hGm11 (rfl)
   ·exact Z0 rfl rfl fun _ _ _ _ _=>Rm rfl
   ·exact Z1 8 12 rfl rfl fun _ _ _ _ _=>Rc rfl
   ·exact Z1 9 13 rfl rfl fun _ _ _ _ _=>Rm rfl
   ·exact Op1 10 14 rfl rfl fun _ _ _ _ hG _ H fin=>kH H (YR ty44dsv (decide_eq_true c0) rfl (gcell_mono hG hb) fun _ H=>fin H iJ rfl)
   ·exact Op1 10 14 rfl rfl fun _ _ _ _ hG _ H fin=>kH H (YM (decide_eq_true c0) rfl fun _ H=>fin H iJ rfl)
   ·exact Op3 11 15 12 16 10 14 rfl rfl fun _ _ _ _ hG _ H fin=>kH H (YI un44dsv ty109dsv (decide_eq_true c0) rfl rfl fun _ H=>fin H iJ rfl)
   ·exact Op2 13 17 10 14 rfl rfl fun _ _ _ _ hG _ H fin=>kH H (YF fd109_0dsv (decide_eq_true c0) rfl fun _ H=>fin H iJ rfl)
   ·exact Op2 14 18 10 14 rfl rfl fun _ _ _ _ hG _ H fin=>kH H (YR ty9run (decide_eq_true c0) rfl (gcell_mono hG (hrow 0 _ rfl)) fun _ H=>fin H iJ rfl)
   ·exact Op1 10 14 rfl rfl fun _ _ _ _ hG _ H fin=>kH H (YR ty44dsv (decide_eq_true c0) rfl (gcell_mono hG hb) fun _ H=>fin H iJ rfl)
   ·exact Op1 10 14 rfl rfl fun _ _ _ _ hG _ H fin=>kH H (YM (decide_eq_true c0) rfl fun _ H=>fin H iJ rfl)
   ·refine Op2 17 21 10 14 rfl rfl fun _ a w G1 hG HT H fin=>?_;refine s_max H (wg H rfl rfl (decide_eq_true c0)) rfl rfl rfl ?_;clear H;intro a H;exact fin H iJ (by first|rfl|exact congrArg vi (by omega))
   ·refine Op2 18 22 10 14 rfl rfl fun _ a w G1 hG HT H fin=>?_;refine s_sub _ H (wg H rfl rfl (decide_eq_true c0)) rfl rfl rfl (by omega) (by omega) rfl ?_;clear H;intro a H;exact fin H iJ (by first|rfl|exact congrArg vi (by omega))
   ·exact Op3 16 20 19 23 10 14 rfl rfl fun _ _ _ _ hG _ H fin=>kH H (YI un44dsv ty109dsv (decide_eq_true c0) rfl rfl fun _ H=>fin H iJ rfl)
   ·exact Op2 20 24 10 14 rfl rfl fun _ _ _ _ hG _ H fin=>kH H (YF fd109_0dsv (decide_eq_true c0) rfl fun _ H=>fin H iJ rfl)
   ·exact Op2 21 25 10 14 rfl rfl fun _ _ _ _ hG _ H fin=>kH H (YR ty9run (decide_eq_true c0) rfl (gcell_mono hG (hrow' 0 _ rfl)) fun _ H=>fin H iJ rfl)
   ·refine Op3 15 19 22 26 10 14 rfl rfl fun _ a w G1 hG HT H fin=>?_;refine s_eqstr H (wg H rfl rfl (decide_eq_true c0)) rfl rfl rfl ?_;clear H;intro a H;exact fin H iJ rfl
   ·refine Op2 10 14 23 27 rfl rfl fun _ a w G1 hG HT H fin=>?_;refine kH H (Pt (decide_eq_true c0) rfl ?_);clear H;intro a H;exact fin H iJ (congrArg Value.bool (by first|(rw [decide_eq_true c0,Bool.true_and];done)|(rw [decide_eq_false c0,Bool.false_and];done)))
   ·refine Op1 24 28 rfl rfl fun _ a w G1 hG HT H fin=>?_;refine s_call en65nam H wn rfl (when_spec _ _ H.hp.ro _ 7) rfl ?_;clear H;rintro v29 G29 a w ⟨rfl,-⟩ hGm29 H;exact fin H hGm29 (rfl)
   ·exact Z0 rfl rfl fun _ _ _ _ _=>Rm rfl
   ·exact Z1 26 30 rfl rfl fun _ _ _ _ _=>Rc rfl
   ·exact Z1 27 31 rfl rfl fun _ _ _ _ _=>Rm rfl
   ·exact Op1 28 32 rfl rfl fun _ _ _ _ hG _ H fin=>kH H (YR ty44dsv (decide_eq_true c0) rfl (gcell_mono hG hb) fun _ H=>fin H iJ rfl)
   ·exact Op1 28 32 rfl rfl fun _ _ _ _ hG _ H fin=>kH H (YM (decide_eq_true c0) rfl fun _ H=>fin H iJ rfl)
   ·exact Op3 29 33 30 34 28 32 rfl rfl fun _ _ _ _ hG _ H fin=>kH H (YI un44dsv ty109dsv (decide_eq_true c0) rfl rfl fun _ H=>fin H iJ rfl)
   ·exact Op2 31 35 28 32 rfl rfl fun _ _ _ _ hG _ H fin=>kH H (YF fd109_0dsv (decide_eq_true c0) rfl fun _ H=>fin H iJ rfl)
   ·exact Op2 32 36 28 32 rfl rfl fun _ _ _ _ hG _ H fin=>kH H (YR ty9run (decide_eq_true c0) rfl (gcell_mono hG (hrow 0 _ rfl)) fun _ H=>fin H iJ rfl)
   ·exact Op1 28 32 rfl rfl fun _ _ _ _ hG _ H fin=>kH H (YR ty44dsv (decide_eq_true c0) rfl (gcell_mono hG hb) fun _ H=>fin H iJ rfl)
   ·exact Op1 28 32 rfl rfl fun _ _ _ _ hG _ H fin=>kH H (YM (decide_eq_true c0) rfl fun _ H=>fin H iJ rfl)
   ·refine Op2 35 39 28 32 rfl rfl fun _ a w G1 hG HT H fin=>?_;refine s_max H (wg H rfl rfl (decide_eq_true c0)) rfl rfl rfl ?_;clear H;intro a H;exact fin H iJ (by first|rfl|exact congrArg vi (by omega))
   ·refine Op2 36 40 28 32 rfl rfl fun _ a w G1 hG HT H fin=>?_;refine s_sub _ H (wg H rfl rfl (decide_eq_true c0)) rfl rfl rfl (by omega) (by omega) rfl ?_;clear H;intro a H;exact fin H iJ (by first|rfl|exact congrArg vi (by omega))
   ·exact Op3 34 38 37 41 28 32 rfl rfl fun _ _ _ _ hG _ H fin=>kH H (YI un44dsv ty109dsv (decide_eq_true c0) rfl rfl fun _ H=>fin H iJ rfl)
   ·exact Op2 38 42 28 32 rfl rfl fun _ _ _ _ hG _ H fin=>kH H (YF fd109_0dsv (decide_eq_true c0) rfl fun _ H=>fin H iJ rfl)
   ·exact Op2 39 43 28 32 rfl rfl fun _ _ _ _ hG _ H fin=>kH H (YR ty9run (decide_eq_true c0) rfl (gcell_mono hG (hrow' 0 _ rfl)) fun _ H=>fin H iJ rfl)
   ·refine Op3 33 37 40 44 28 32 rfl rfl fun _ a w G1 hG HT H fin=>?_;refine s_lssstr H (wg H rfl rfl (decide_eq_true c0)) rfl rfl rfl ?_;clear H;intro a H;exact fin H iJ rfl
   ·refine Op2 28 32 41 45 rfl rfl fun _ a w G1 hG HT H fin=>?_;refine kH H (Pt (decide_eq_true c0) rfl ?_);clear H;intro a H;exact fin H iJ (congrArg Value.bool (by first|(rw [decide_eq_true c0,Bool.true_and];done)|(rw [decide_eq_false c0,Bool.false_and];done)))
   ·refine Op1 42 46 rfl rfl fun _ a w G1 hG HT H fin=>?_;refine s_call en65nam H wn rfl (when_spec _ _ H.hp.ro _ 6) rfl ?_;clear H;rintro v47 G47 a w ⟨rfl,-⟩ hGm47 H;exact fin H hGm47 (rfl)
   ·exact Op0 rfl fun _ _ _ _ hG _ H fin=>kH H (Rg ty44dsv rfl (gcell_mono hG hb) fun _ H=>fin H iJ rfl)
   ·exact Z0 rfl rfl fun _ _ _ _ _=>Rm rfl
   ·exact Z2 44 48 45 49 rfl rfl fun _ _ _ _ _=>Ri un44dsv ty109dsv rfl rfl
   ·exact Z1 46 50 rfl rfl fun _ _ _ _ _=>Rf fd109_1dsv rfl
   ·exact Op1 47 51 rfl rfl fun _ _ _ _ hG _ H fin=>kH H (Rg ty9run rfl (gcell_mono hG (hrow 1 _ rfl)) fun _ H=>fin H iJ rfl)
   ·refine Op1 48 52 rfl rfl fun _ a w G1 hG HT H fin=>?_;refine s_call en129dsc H wn rfl (text_spec1 _ _ H.hp.ro x.value hte.2) rfl ?_;clear H;rintro v53 G53 a w rfl hGm53 H;exact fin H hGm53 (rfl)
   ·exact opB rfl
   ·exact opB rfl
   exact opB rfl
  clear H;intro a w G hGm1 H hv;obtain ⟨u11,hu11,hp11⟩:=hv 7 11 (by decide) rfl;obtain rfl:u11=vi (whenE (!cpNm x.name) 13):=hp11;have H:=H.addS hu11;obtain ⟨u29,hu29,hp29⟩:=hv 25 29 (by decide) rfl;obtain rfl:u29=vi (whenE (decide (0 < (k:Int)) && (x.name.toList == y.name.toList)) 7):=hp29;have H:=H.addS hu29;obtain ⟨u47,hu47,hp47⟩:=hv 43 47 (by decide) rfl;obtain rfl:u47=vi (whenE (decide (0 < (k:Int)) && Op.bytesLess x.name.toList y.name.toList) 6):=hp47;have H:=H.addS hu47;obtain ⟨u53,hu53,hp53⟩:=hv 49 53 (by decide) rfl;obtain rfl:u53=vi (txE x.value):=hp53;have H:=H.addS hu53;clear hv;refine s_buildSlice un221fst ty22fst [_,_,_,_] [_,_,_,_] H wn rfl rfl rfl rfl rfl (by intro i q h;match i,h with|0,h=>exact h|1,h=>exact h|2,h=>exact h|3,h=>exact h|n+4,h=>simp at h) rfl rfl ?_;clear H;intro b54 a w hb54 H;obtain ⟨G54,hm54,hb54',H⟩:=H.giveBox;refine s_call en52nam H wn rfl (first_spec1 _ _ H.hp.ro _ _ (ints_rep [whenE (!cpNm x.name) 13,whenE (decide (0 < (k:Int)) && (x.name.toList == y.name.toList)) 7,whenE (decide (0 < (k:Int)) && Op.bytesLess x.name.toList y.name.toList) 6,txE x.value] hb54' (show 4≤maxLen by decide))) rfl ?_;clear H;rintro v55 _ a w ⟨rfl,rfl⟩ - H;refine kH H (Ra rfl ?_);clear H;intro a H;refine wl_nil ⟨rfl,?_⟩;refine K2 _ _ ?_;clear K2;refine lr H Tryz.results130 rfl ?_;exact H.hp.ret (by rw [he];rfl)
 skip;refine c_drawI (hmx) [[],[],[0,1],[0,1,2],[0,1,2,3],[0,1,2,3,4],[0,1,2,3,4,5],(List.range 7),[],[8],(List.range 10),(List.range 11),(List.range 11),(List.range 13),(List.range 14),(List.range 15),(List.range 11),(List.range 11),(List.range 11++[17]),(List.range 11++[17,18]),(List.range 11++[16,17,18,19]),(List.range 11++[16,17,18,19,20]),(List.range 11++[16,17,18,19,20,21]),(List.range 23),(List.range 24),(List.range 25),[],[26],(List.range 28),(List.range 29),(List.range 29),(List.range 31),(List.range 32),(List.range 33),(List.range 29),(List.range 29),(List.range 29++[35]),(List.range 29++[35,36]),(List.range 29++[34,35,36,37]),(List.range 29++[34,35,36,37,38]),(List.range 29++[34,35,36,37,38,39]),(List.range 41),(List.range 42),(List.range 43),[],[],[44,45],[44,45,46],[44,45,46,47],(List.range 49),(List.range 50),(List.range 51),(List.range 52)] [50,51,52] (by kernel_rfl) (by kernel_rfl) (fun (ix_:Nat) (v:Value) (G:GH)=>match ix_ with|0=>v=.slice (some ⟨b,o,none⟩) l.length c|1=>v=vi k|2=>v=.pointer (some ⟨b,o+k*2,none⟩)|3=>v=.pointer (some ⟨b,o+k*2+0,none⟩)|4=>v=.string x.name|5=>v=.bool (cpNm x.name)|6=>v=.bool (!cpNm x.name)|7=>v=vi (whenE (!cpNm x.name) 13)|8=>v=vi k|9=>v=.bool (decide (0 < (k:Int)))|10=>v=.bool (decide (0 < (k:Int)))|11=>v=undef|12=>v=undef|13=>v=undef|14=>v=undef|15=>v=undef|16=>v=undef|17=>v=undef|18=>v=undef|19=>v=undef|20=>v=undef|21=>v=undef|22=>v=undef|23=>v=undef|24=>v=.bool (decide (0 < (k:Int)) && (x.name.toList == y.name.toList))|25=>v=vi (whenE (decide (0 < (k:Int)) && (x.name.toList == y.name.toList)) 7)|26=>v=vi k|27=>v=.bool (decide (0 < (k:Int)))|28=>v=.bool (decide (0 < (k:Int)))|29=>v=undef|30=>v=undef|31=>v=undef|32=>v=undef|33=>v=undef|34=>v=undef|35=>v=undef|36=>v=undef|37=>v=undef|38=>v=undef|39=>v=undef|40=>v=undef|41=>v=undef|42=>v=.bool (decide (0 < (k:Int)) && Op.bytesLess x.name.toList y.name.toList)|43=>v=vi (whenE (decide (0 < (k:Int)) && Op.bytesLess x.name.toList y.name.toList) 6)|44=>v=.slice (some ⟨b,o,none⟩) l.length c|45=>v=vi k|46=>v=.pointer (some ⟨b,o+k*2,none⟩)|47=>v=.pointer (some ⟨b,o+k*2+1,none⟩)|48=>v=.string x.value|49=>v=vi (txE x.value)|_=>True) (fun _ _ _ _ _ h=>h) H ?_ ?_
 ·clear H;refine al4 ?_ ?_ ?_ ?_ (al4 ?_ ?_ ?_ ?_ (al4 ?_ ?_ ?_ ?_ (al4 ?_ ?_ ?_ ?_ (al4 ?_ ?_ ?_ ?_ (al4 ?_ ?_ ?_ ?_ (al4 ?_ ?_ ?_ ?_ (al4 ?_ ?_ ?_ ?_ (al4 ?_ ?_ ?_ ?_ (al4 ?_ ?_ ?_ ?_ (al4 ?_ ?_ ?_ ?_ (al4 ?_ ?_ ?_ ?_ (al4 ?_ ?_ ?_ ?_ (allI_cons ?_ allI_nil)))))))))))))
  ·exact Op0 rfl fun _ _ _ _ hG _ H fin=>kH H (Rg ty44dsv rfl (gcell_mono hG hb) fun _ H=>fin H iJ rfl)
  ·exact Z0 rfl rfl fun _ _ _ _ _=>Rm rfl
  ·exact Z2 0 4 1 5 rfl rfl fun _ _ _ _ _=>Ri un44dsv ty109dsv rfl rfl
  ·exact Z1 2 6 rfl rfl fun _ _ _ _ _=>Rf fd109_0dsv rfl
  ·exact Op1 3 7 rfl rfl fun _ _ _ _ hG _ H fin=>kH H (Rg ty9run rfl (gcell_mono hG (hrow 0 _ rfl)) fun _ H=>fin H iJ rfl)
  ·refine Op1 4 8 rfl rfl fun _ a w G1 hG HT H fin=>?_;refine s_call en60dsv H wn rfl (cpNm_spec _ _ H.hp.ro x.name hte.1) rfl ?_;clear H;rintro v9 G9 a w ⟨rfl,-⟩ hGm9 H;exact fin H hGm9 (rfl)
  ·exact Z1 5 9 rfl rfl fun _ _ _ _ _=>Rn rfl
  ·refine Op1 6 10 rfl rfl fun _ a w G1 hG HT H fin=>?_;refine s_call en65nam H wn rfl (when_spec _ _ H.hp.ro _ 13) rfl ?_;clear H;rintro v11 G11 a w ⟨rfl,-⟩ hGm11 H;exact fin H hGm11 (rfl)
  ·exact Z0 rfl rfl fun _ _ _ _ _=>Rm rfl
  ·exact Z1 8 12 rfl rfl fun _ _ _ _ _=>Rc rfl
  ·exact Z1 9 13 rfl rfl fun _ _ _ _ _=>Rm rfl
  ·exact skI 10 (decide_eq_false c0) rfl rfl
  ·exact skI 10 (decide_eq_false c0) rfl rfl
  ·exact skI 10 (decide_eq_false c0) rfl rfl
  ·exact skI 10 (decide_eq_false c0) rfl rfl
  ·exact skI 10 (decide_eq_false c0) rfl rfl
  ·exact skI 10 (decide_eq_false c0) rfl rfl
  ·exact skI 10 (decide_eq_false c0) rfl rfl
  ·exact skI 10 (decide_eq_false c0) rfl rfl
  ·exact skI 10 (decide_eq_false c0) rfl rfl
  ·exact skI 10 (decide_eq_false c0) rfl rfl
  ·exact skI 10 (decide_eq_false c0) rfl rfl
  ·exact skI 10 (decide_eq_false c0) rfl rfl
  ·exact skI 10 (decide_eq_false c0) rfl rfl
  ·refine Op2 10 14 23 27 rfl rfl fun _ a w G1 hG HT H fin=>?_;refine kH H (Pf (decide_eq_false c0) rfl ?_);clear H;intro a H;exact fin H iJ (congrArg Value.bool (by first|(rw [decide_eq_true c0,Bool.true_and];done)|(rw [decide_eq_false c0,Bool.false_and];done)))
  ·refine Op1 24 28 rfl rfl fun _ a w G1 hG HT H fin=>?_;refine s_call en65nam H wn rfl (when_spec _ _ H.hp.ro _ 7) rfl ?_;clear H;rintro v29 G29 a w ⟨rfl,-⟩ hGm29 H;exact fin H hGm29 (rfl)
  ·exact Z0 rfl rfl fun _ _ _ _ _=>Rm rfl
  ·exact Z1 26 30 rfl rfl fun _ _ _ _ _=>Rc rfl
  ·exact Z1 27 31 rfl rfl fun _ _ _ _ _=>Rm rfl
  ·exact skI 28 (decide_eq_false c0) rfl rfl
  ·exact skI 28 (decide_eq_false c0) rfl rfl
  ·exact skI 28 (decide_eq_false c0) rfl rfl
  ·exact skI 28 (decide_eq_false c0) rfl rfl
  ·exact skI 28 (decide_eq_false c0) rfl rfl
  ·exact skI 28 (decide_eq_false c0) rfl rfl
  ·exact skI 28 (decide_eq_false c0) rfl rfl
  ·exact skI 28 (decide_eq_false c0) rfl rfl
  ·exact skI 28 (decide_eq_false c0) rfl rfl
  ·exact skI 28 (decide_eq_false c0) rfl rfl
  ·exact skI 28 (decide_eq_false c0) rfl rfl
  ·exact skI 28 (decide_eq_false c0) rfl rfl
  ·exact skI 28 (decide_eq_false c0) rfl rfl
  ·refine Op2 28 32 41 45 rfl rfl fun _ a w G1 hG HT H fin=>?_;refine kH H (Pf (decide_eq_false c0) rfl ?_);clear H;intro a H;exact fin H iJ (congrArg Value.bool (by first|(rw [decide_eq_true c0,Bool.true_and];done)|(rw [decide_eq_false c0,Bool.false_and];done)))
  ·refine Op1 42 46 rfl rfl fun _ a w G1 hG HT H fin=>?_;refine s_call en65nam H wn rfl (when_spec _ _ H.hp.ro _ 6) rfl ?_;clear H;rintro v47 G47 a w ⟨rfl,-⟩ hGm47 H;exact fin H hGm47 (rfl)
  ·exact Op0 rfl fun _ _ _ _ hG _ H fin=>kH H (Rg ty44dsv rfl (gcell_mono hG hb) fun _ H=>fin H iJ rfl)
  ·exact Z0 rfl rfl fun _ _ _ _ _=>Rm rfl
  ·exact Z2 44 48 45 49 rfl rfl fun _ _ _ _ _=>Ri un44dsv ty109dsv rfl rfl
  ·exact Z1 46 50 rfl rfl fun _ _ _ _ _=>Rf fd109_1dsv rfl
  ·exact Op1 47 51 rfl rfl fun _ _ _ _ hG _ H fin=>kH H (Rg ty9run rfl (gcell_mono hG (hrow 1 _ rfl)) fun _ H=>fin H iJ rfl)
  ·refine Op1 48 52 rfl rfl fun _ a w G1 hG HT H fin=>?_;refine s_call en129dsc H wn rfl (text_spec1 _ _ H.hp.ro x.value hte.2) rfl ?_;clear H;rintro v53 G53 a w rfl hGm53 H;exact fin H hGm53 (rfl)
  ·exact opB rfl
  ·exact opB rfl
  exact opB rfl
 clear H;intro a w G hGm1 H hv;obtain ⟨u11,hu11,hp11⟩:=hv 7 11 (by decide) rfl;obtain rfl:u11=vi (whenE (!cpNm x.name) 13):=hp11;have H:=H.addS hu11;obtain ⟨u29,hu29,hp29⟩:=hv 25 29 (by decide) rfl;obtain rfl:u29=vi (whenE (decide (0 < (k:Int)) && (x.name.toList == y.name.toList)) 7):=hp29;have H:=H.addS hu29;obtain ⟨u47,hu47,hp47⟩:=hv 43 47 (by decide) rfl;obtain rfl:u47=vi (whenE (decide (0 < (k:Int)) && Op.bytesLess x.name.toList y.name.toList) 6):=hp47;have H:=H.addS hu47;obtain ⟨u53,hu53,hp53⟩:=hv 49 53 (by decide) rfl;obtain rfl:u53=vi (txE x.value):=hp53;have H:=H.addS hu53;clear hv;refine s_buildSlice un221fst ty22fst [_,_,_,_] [_,_,_,_] H wn rfl rfl rfl rfl rfl (by intro i q h;match i,h with|0,h=>exact h|1,h=>exact h|2,h=>exact h|3,h=>exact h|n+4,h=>simp at h) rfl rfl ?_;clear H;intro b54 a w hb54 H;obtain ⟨G54,hm54,hb54',H⟩:=H.giveBox;refine s_call en52nam H wn rfl (first_spec1 _ _ H.hp.ro _ _ (ints_rep [whenE (!cpNm x.name) 13,whenE (decide (0 < (k:Int)) && (x.name.toList == y.name.toList)) 7,whenE (decide (0 < (k:Int)) && Op.bytesLess x.name.toList y.name.toList) 6,txE x.value] hb54' (show 4≤maxLen by decide))) rfl ?_;clear H;rintro v55 _ a w ⟨rfl,rfl⟩ - H;refine kH H (Ra rfl ?_);clear H;intro a H;refine wl_nil ⟨rfl,?_⟩;refine K2 _ _ ?_;clear K2;refine lr H Tryz.results130 rfl ?_;exact H.hp.ret (by rw [he];rfl)
def chkVas (l:List VaD):Int:=firstE [whenE (decide (128 < (l.length:Int))) 9,allE (vaE l) (min l.length 128)]
theorem checkVars_spec (G:GH) (w0:World) (hG:Hold G w0) (l:List VaD) (v:Value) (hv:RepV G (.sl 2 (l.map VaD.dat)) v) (hl:l.length≤4294967296) (ht:∀ x∈l,x.name.size < 4611686018427387904∧x.value.size < 4611686018427387904) :
  Calls Tryz.prog 55 #[v] w0 (Ret w0 G fun u G'=>u=vi (chkVas l)):=by
 obtain ⟨A,c,rfl,hc1,hc2,-⟩:=hv.slice;rw [List.length_map] at *;refine eN [(0,_)] Tryz.func55 rfl Tryz.ntmps55 rfl rfl hG ?_;intro a H;refine c_seqR (fun _ K1=>?_);refine s_box (cs:=[_]) H wn rfl rfl rfl ?_;clear H;intro b1 a w hb1 H;refine kH H (Ra rfl (Kz K1 (SQ fun _ K2=>?_)));clear H K1;intro a H;have H:=H.sub (T':=[(1,_)]) ⟨rfl,trivial⟩;obtain ⟨Ga,hma,hb1',H⟩:=H.giveBox
 have hbl:gcell Ga b1 0=some (.slice A l.length c):=by unfold gcell;rw [hb1'];rfl
 have hcb:=va_cb hbl (hv.mono hma) hl ht;refine c_drawI (hmx) [[],[0],[0,1],[0,1,2],[],[4],[4,5],[],(List.range 8),(List.range 9),(List.range 10),(List.range 11)] [9,10,11] (by kernel_rfl) (by kernel_rfl) (fun (ix_:Nat) (v:Value) (G:GH)=>match ix_ with|0=>v=.slice A l.length c|1=>v=vi l.length|2=>v=.bool (decide (128 < (l.length:Int)))|3=>v=vi (whenE (decide (128 < (l.length:Int))) 9)|4=>v=.slice A l.length c|5=>v=vi l.length|6=>v=vi ((min l.length 128:Nat):Int)|7=>v=.func (.func 130) #[] #[.pointer (some ⟨b1,0,none⟩)]|8=>v=vi (allE (vaE l) (min l.length 128))|_=>True) (fun _ _ _ _ _ h=>h) H ?_ ?_
 ·clear H;refine al4 ?_ ?_ ?_ ?_ (al4 ?_ ?_ ?_ ?_ (al4 ?_ ?_ ?_ ?_ allI_nil))
  ·exact Op0 rfl fun _ _ _ _ hG _ H fin=>kH H (Rg ty44dsv rfl (gcell_mono hG hbl) fun _ H=>fin H iJ rfl)
  ·exact Z1 0 3 rfl rfl fun _ _ _ _ _=>Rl un44dsv rfl
  ·exact Z1 1 4 rfl rfl fun _ _ _ _ _=>Rc rfl
  ·refine Op1 2 5 rfl rfl fun _ a w G1 hG HT H fin=>?_;refine s_call en65nam H wn rfl (when_spec _ _ H.hp.ro _ 9) rfl ?_;clear H;rintro v6 G6 a w ⟨rfl,-⟩ hGm6 H;exact fin H hGm6 (rfl)
  ·exact Op0 rfl fun _ _ _ _ hG _ H fin=>kH H (Rg ty44dsv rfl (gcell_mono hG hbl) fun _ H=>fin H iJ rfl)
  ·exact Z1 4 7 rfl rfl fun _ _ _ _ _=>Rl un44dsv rfl
  ·refine Op1 5 8 rfl rfl fun _ a w G1 hG HT H fin=>?_;refine s_min H wn rfl rfl rfl ?_;clear H;intro a H;exact fin H iJ (congrArg vi (by omega))
  ·refine Op0 rfl fun _ a w G1 hG HT H fin=>?_;refine s_makeFunc H wn rfl rfl ?_;clear H;intro a H;exact fin H iJ rfl
  ·refine Op2 6 9 7 10 rfl rfl fun _ a w G1 hG HT H fin=>?_;refine s_call en119dst H wn rfl (all_spec _ _ H.hp.ro (min l.length 128) (vaE l) _ (by omega) ((hcb.mono hG).le (Nat.min_le_left _ _))) rfl ?_;clear H;rintro v11 G11 a w rfl hGm11 H;exact fin H hGm11 (rfl)
  ·exact opB rfl
  ·exact opB rfl
  exact opB rfl
 clear H;intro a w G hGm1 H hv;obtain ⟨u6,hu6,hp6⟩:=hv 3 6 (by decide) rfl;obtain rfl:u6=vi (whenE (decide (128 < (l.length:Int))) 9):=hp6;have H:=H.addS hu6;obtain ⟨u11,hu11,hp11⟩:=hv 8 11 (by decide) rfl;obtain rfl:u11=vi (allE (vaE l) (min l.length 128)):=hp11;have H:=H.addS hu11;clear hv;refine s_buildSlice un221fst ty22fst [_,_] [_,_] H wn rfl rfl rfl rfl rfl (by intro i q h;match i,h with|0,h=>exact h|1,h=>exact h|n+2,h=>simp at h) rfl rfl ?_;clear H;intro b12 a w hb12 H;obtain ⟨G12,hm12,hb12',H⟩:=H.giveBox;refine s_call en52nam H wn rfl (first_spec1 _ _ H.hp.ro _ _ (two_rep hb12')) rfl ?_;clear H;rintro v13 _ a w ⟨rfl,rfl⟩ - H;refine kH H (Ra rfl ?_);clear H;intro a H;refine wl_nil ⟨rfl,?_⟩;refine K2 _ _ ?_;clear K2;refine lr H Tryz.results55 rfl ?_;exact H.hp.ret rfl
/-- Settings. -/
structure StgD where
 styles:List StyleD
 lists:List LiD
 comments:List CmD
 vars:List VaD
structure StgR (G:GH) (s:StgD) (a b c d:Value):Prop where
 st:RepV G (.sl 6 (s.styles.map StyleD.dat)) a
 li:RepV G (.sl 2 (s.lists.map LiD.dat)) b
 cm:RepV G (.sl 6 (s.comments.map CmD.dat)) c
 va:RepV G (.sl 2 (s.vars.map VaD.dat)) d
/-- Bounds that no machine passes. -/
structure StgZ (s:StgD):Prop where
 sn:∀ x∈s.styles,x.name.size≤4611686018427387904
 ln:s.lists.length≤4294967296
 lt:∀ x∈s.lists,∀ y∈x.levels,y.tmpl.size < 4611686018427387904
 cn:s.comments.length≤4294967296
 ct:∀ x∈s.comments,x.author.size < 4611686018427387904∧x.text.size < 4611686018427387904
 vn:s.vars.length≤4294967296
 vt:∀ x∈s.vars,x.name.size < 4611686018427387904∧x.value.size < 4611686018427387904
def chkStg (s:StgD):Int:=firstE [checkS s.styles,chkLis s.lists,chkCms s.comments,chkVas s.vars]
theorem checkSettings_spec (G:GH) (w0:World) (hG:Hold G w0) (s:StgD) (a b c d:Value) (hR:StgR G s a b c d) (hz:StgZ s) :
  Calls Tryz.prog 17 #[.agg #[a,b,c,d]] w0 (Ret w0 G fun u G'=>u=vi (chkStg s)):=by
 obtain ⟨sA,sn,sc,rfl⟩:=hR.st.form;obtain ⟨lA,ln,lc,rfl⟩:=hR.li.form;obtain ⟨cA,cn,cc,rfl⟩:=hR.cm.form;obtain ⟨vA,vn,vc,rfl⟩:=hR.va.form;refine eN [(0,_)] Tryz.func17 rfl Tryz.ntmps17 rfl rfl hG ?_;intro a H;refine c_seqR (fun _ K1=>?_);refine s_box (cs:=[_,_,_,_]) H wn rfl rfl rfl ?_;clear H;intro b1 a w hb1 H;refine kH H (Ra rfl (Kz K1 (SQ fun _ K2=>?_)));clear H K1;intro a H;have H:=H.sub (T':=[(1,_)]) ⟨rfl,trivial⟩;obtain ⟨Ga,hma,hb1',H⟩:=H.giveBox
 have hc0:gcell Ga b1 0=some (.slice sA sn sc):=by unfold gcell;rw [hb1'];rfl
 have hc1:gcell Ga b1 1=some (.slice lA ln lc):=by unfold gcell;rw [hb1'];rfl
 have hc2:gcell Ga b1 2=some (.slice cA cn cc):=by unfold gcell;rw [hb1'];rfl
 have hc3:gcell Ga b1 3=some (.slice vA vn vc):=by unfold gcell;rw [hb1'];rfl
 refine c_drawI (hmx) [[],[0],[0,1],[],[3],[0,1,2,3,4],[],[6],(List.range 8),[],[9],(List.range 11),(List.range 12),(List.range 13),(List.range 14)] [12,13,14] (by kernel_rfl) (by kernel_rfl) (fun (ix_:Nat) (v:Value) (G:GH)=>match ix_ with|0=>v=.pointer (some ⟨b1,0,none⟩)|1=>v=.slice sA sn sc|2=>v=vi (checkS s.styles)|3=>v=.pointer (some ⟨b1,1,none⟩)|4=>v=.slice lA ln lc|5=>v=vi (chkLis s.lists)|6=>v=.pointer (some ⟨b1,2,none⟩)|7=>v=.slice cA cn cc|8=>v=vi (chkCms s.comments)|9=>v=.pointer (some ⟨b1,3,none⟩)|10=>v=.slice vA vn vc|11=>v=vi (chkVas s.vars)|_=>True) (fun _ _ _ _ _ h=>h) H ?_ ?_
 ·clear H;refine al4 ?_ ?_ ?_ ?_ (al4 ?_ ?_ ?_ ?_ (al4 ?_ ?_ ?_ ?_ (allI_cons ?_ (allI_cons ?_ (allI_cons ?_ allI_nil)))))
  ·exact Z0 rfl rfl fun _ _ _ _ _=>Rf fd46_0dsv rfl
  ·exact Op1 0 3 rfl rfl fun _ _ _ _ hG _ H fin=>kH H (Rg ty41chn rfl (gcell_mono hG hc0) fun _ H=>fin H iJ rfl)
  ·refine Op1 1 4 rfl rfl fun _ a w G1 hG HT H fin=>?_;refine s_call en43dsv H wn rfl (check_styles _ _ H.hp.ro s.styles _ ((hR.st.mono hma).mono hG) hz.sn) rfl ?_;clear H;rintro v5 G5 a w rfl hGm5 H;exact fin H hGm5 (rfl)
  ·exact Z0 rfl rfl fun _ _ _ _ _=>Rf fd46_1dsv rfl
  ·exact Op1 3 6 rfl rfl fun _ _ _ _ hG _ H fin=>kH H (Rg ty42dst rfl (gcell_mono hG hc1) fun _ H=>fin H iJ rfl)
  ·refine Op1 4 7 rfl rfl fun _ a w G1 hG HT H fin=>?_;refine s_call en53dsv H wn rfl (checkLists_spec _ _ H.hp.ro s.lists _ ((hR.li.mono hma).mono hG) hz.ln hz.lt) rfl ?_;clear H;rintro v8 G8 a w rfl hGm8 H;exact fin H hGm8 (rfl)
  ·exact Z0 rfl rfl fun _ _ _ _ _=>Rf fd46_2dsv rfl
  ·exact Op1 6 9 rfl rfl fun _ _ _ _ hG _ H fin=>kH H (Rg ty43dsc rfl (gcell_mono hG hc2) fun _ H=>fin H iJ rfl)
  ·refine Op1 7 10 rfl rfl fun _ a w G1 hG HT H fin=>?_;refine s_call en54dsv H wn rfl (checkComments_spec _ _ H.hp.ro s.comments _ ((hR.cm.mono hma).mono hG) hz.cn hz.ct) rfl ?_;clear H;rintro v11 G11 a w rfl hGm11 H;exact fin H hGm11 (rfl)
  ·exact Z0 rfl rfl fun _ _ _ _ _=>Rf fd46_3dsv rfl
  ·exact Op1 9 12 rfl rfl fun _ _ _ _ hG _ H fin=>kH H (Rg ty44dsv rfl (gcell_mono hG hc3) fun _ H=>fin H iJ rfl)
  ·refine Op1 10 13 rfl rfl fun _ a w G1 hG HT H fin=>?_;refine s_call en55dsv H wn rfl (checkVars_spec _ _ H.hp.ro s.vars _ ((hR.va.mono hma).mono hG) hz.vn hz.vt) rfl ?_;clear H;rintro v14 G14 a w rfl hGm14 H;exact fin H hGm14 (rfl)
  ·exact opB rfl
  ·exact opB rfl
  exact opB rfl
 clear H;intro a w G hGm1 H hv;obtain ⟨u5,hu5,hp5⟩:=hv 2 5 (by decide) rfl;obtain rfl:u5=vi (checkS s.styles):=hp5;have H:=H.addS hu5;obtain ⟨u8,hu8,hp8⟩:=hv 5 8 (by decide) rfl;obtain rfl:u8=vi (chkLis s.lists):=hp8;have H:=H.addS hu8;obtain ⟨u11,hu11,hp11⟩:=hv 8 11 (by decide) rfl;obtain rfl:u11=vi (chkCms s.comments):=hp11;have H:=H.addS hu11;obtain ⟨u14,hu14,hp14⟩:=hv 11 14 (by decide) rfl;obtain rfl:u14=vi (chkVas s.vars):=hp14;have H:=H.addS hu14;clear hv;refine s_buildSlice un221fst ty22fst [_,_,_,_] [_,_,_,_] H wn rfl rfl rfl rfl rfl (by intro i q h;match i,h with|0,h=>exact h|1,h=>exact h|2,h=>exact h|3,h=>exact h|n+4,h=>simp at h) rfl rfl ?_;clear H;intro b15 a w hb15 H;obtain ⟨G15,hm15,hb15',H⟩:=H.giveBox;refine s_call en52nam H wn rfl (first_spec1 _ _ H.hp.ro _ _ (ints_rep [checkS s.styles,chkLis s.lists,chkCms s.comments,chkVas s.vars] hb15' (show 4≤maxLen by decide))) rfl ?_;clear H;rintro v16 _ a w ⟨rfl,rfl⟩ - H;refine kH H (Ra rfl ?_);clear H;intro a H;refine wl_nil ⟨rfl,?_⟩;refine K2 _ _ ?_;clear K2;refine lr H Tryz.results17 rfl ?_;exact H.hp.ret rfl
end
section
open Go.RowKit
theorem en56mst:∀ args w,(callFunc 56 args).run Tryz.prog w=.ok (.enter 56 args) w:=enters Tryz.func56 rfl (by kernel_rfl)
theorem en58mst:∀ args w,(callFunc 58 args).run Tryz.prog w=.ok (.enter 58 args) w:=enters Tryz.func58 rfl (by kernel_rfl)
theorem en59mst:∀ args w,(callFunc 59 args).run Tryz.prog w=.ok (.enter 59 args) w:=enters Tryz.func59 rfl (by kernel_rfl)
theorem stg1 {s:StgD} (h:checkS s.styles≠0):chkStg s=checkS s.styles:=by rw [chkStg,firstE,if_pos h]
theorem stg2 {s:StgD} (h0:checkS s.styles=0) (h:chkLis s.lists≠0):chkStg s=chkLis s.lists:=by rw [chkStg,firstE,if_neg (by rw [h0];decide),firstE,if_pos h]
theorem stg3 {s:StgD} (h0:checkS s.styles=0) (h1:chkLis s.lists=0) (h:chkCms s.comments≠0):chkStg s=chkCms s.comments:=by rw [chkStg,firstE,if_neg (by rw [h0];decide),firstE,if_neg (by rw [h1];decide),firstE,if_pos h]
theorem stg4 {s:StgD} (h0:checkS s.styles=0) (h1:chkLis s.lists=0) (h2:chkCms s.comments=0):chkStg s=chkVas s.vars:=by
 rw [chkStg,firstE,if_neg (by rw [h0];decide),firstE,if_neg (by rw [h1];decide),firstE,if_neg (by rw [h2];decide),firstE,firstE]
 split
 ·rfl
 rename_i h;exact (Decidable.not_not.1 h).symm
theorem lim_yes {E:Nat→Int} {n m:Nat} (h:(m:Int) < n):firstE [whenE (decide ((m:Int) < (n:Int))) 9,allE E (min n m)]=9:=by
 rw [decide_eq_true h];rfl
theorem lim_no {E:Nat→Int} {n m:Nat} (h:¬ (m:Int) < n):firstE [whenE (decide ((m:Int) < (n:Int))) 9,allE E (min n m)]=allE E n:=by
 rw [decide_eq_false h,firstE,if_neg (by decide),firstE,firstE,show min n m=n by omega]
 split
 ·rfl
 rename_i h;exact (Decidable.not_not.1 h).symm
theorem all_stop {E:Nat→Int} {n k:Nat} (hk:k < n) (he:firstE (((List.range n).map E).drop k)=allE E n) (h:E k≠0):allE E n=E k:=by
 rw [← he,allE_at hk,if_pos h]
theorem all_next {E:Nat→Int} {n k:Nat} (hk:k < n) (he:firstE (((List.range n).map E).drop k)=allE E n) (h:E k=0):firstE (((List.range n).map E).drop (k+1))=allE E n:=by
 rw [← he,allE_at hk,if_neg (by rw [h];decide)]
theorem all_done {E:Nat→Int} {n k:Nat} (hk:n≤k) (he:firstE (((List.range n).map E).drop k)=allE E n):allE E n=0:=by
 rw [← he,List.drop_of_length_le (by simpa using hk)];rfl
theorem firstE_ne {l:List Int} {e:Int} (h:e≠0):firstE (e :: l)=e:=by rw [firstE,if_pos h]
theorem firstE_z {l:List Int} {e:Int} (h:e=0):firstE (e :: l)=firstE l:=by rw [firstE,if_neg (by rw [h];decide)]
theorem some_succ {α:Type} {l:List α} {p:α→Bool} {j:Nat} (h:j < l.length):((l.take (j+1)).findIdx? p).isSome=(((l.take j).findIdx? p).isSome || p l[j]):=by
 rw [List.take_succ_eq_append_getElem h,List.findIdx?_append]
 cases (l.take j).findIdx? p <;> simp [List.findIdx?_cons] <;> split <;> simp_all
set_option maxHeartbeats 4000000 in
theorem mset_spec (G:GH) (w0:World) (hG:Hold G w0) (s:StgD) (a b c d:Value) (hR:StgR G s a b c d) (hz:StgZ s) :
  Calls Tryz.prog 18 #[.agg #[a,b,c,d]] w0 (Ret w0 G fun u G'=>u=vi (chkStg s)):=by
 obtain ⟨sA,sc,rfl,-,-,-⟩:=hR.st.slice;obtain ⟨lA,lc,rfl,-,hlc,-⟩:=hR.li.slice;obtain ⟨cA,cc,rfl,-,hcc,-⟩:=hR.cm.slice;obtain ⟨vA,vc,rfl,-,hvc,-⟩:=hR.va.slice;have hml:maxLen=9223372036854775807:=rfl;have hl1:=hz.ln;have hl2:=hz.cn;have hl3:=hz.vn;refine eN [(0,_)] Tryz.func18 rfl Tryz.ntmps18 rfl rfl hG ?_;intro a H;refine c_seqR (fun _ K1=>?_);refine s_box (cs:=[_,_,_,_]) H wn rfl rfl rfl ?_;clear H;intro b1 a w hb1 H;refine kH H (Ra rfl (Kz K1 (SQ fun _ K2=>SQ fun _ K3=>?_)));clear H K1;intro a H;obtain ⟨Ga,hma,hb1',H⟩:=H.giveBox
 simp only [List.length_map] at hb1' hR
 have hc0:gcell Ga b1 0=some (.slice sA s.styles.length sc):=by unfold gcell;rw [hb1'];rfl
 have hc1:gcell Ga b1 1=some (.slice lA s.lists.length lc):=by unfold gcell;rw [hb1'];rfl
 have hc2:gcell Ga b1 2=some (.slice cA s.comments.length cc):=by unfold gcell;rw [hb1'];rfl
 have hc3:gcell Ga b1 3=some (.slice vA s.vars.length vc):=by unfold gcell;rw [hb1'];rfl
 have hli:=hR.li.mono hma;have hcm:=hR.cm.mono hma;have hva:=hR.va.mono hma;refine kP H (SC (Rf fd46_0dsv rfl (Rg ty41chn rfl (by assumption) ?_)));clear H;intro a H;refine s_call en43dsv H wn rfl (check_styles _ _ H.hp.ro s.styles _ (hR.st.mono hma) hz.sn) rfl ?_;clear H;rintro v19 G19 a w rfl hm19 H;replace hc1:=gcell_mono hm19 hc1;replace hc2:=gcell_mono hm19 hc2;replace hc3:=gcell_mono hm19 hc3;replace hli:=hli.mono hm19;replace hcm:=hcm.mono hm19;replace hva:=hva.mono hm19;refine kH H (Ra rfl (Kn K3 (SR fun _ K4=>Rm rfl (Rc rfl (Kz K4 ?_)))));clear H K3 K4;intro a H;refine c_cond H rfl ?_ ?_
 ·intro h21
  try have p21:=dT h21
  refine c_seq (fun _ K5=>?_);have e:chkStg s=checkS s.styles:=stg1 p21;refine kP H (SC (Rm rfl (Ra rfl (Kn K5 ?_))));clear H K5;intro a H;refine lr H Tryz.results18 rfl ?_;exact H.hp.ret (congrArg vi e.symm)
 intro h21
 try have p21:=dF h21
 have e0:checkS s.styles=0:=Decidable.not_not.1 p21;refine kP H (Kc K2 (SQ fun _ K6=>SR fun _ K7=>Rf fd46_1dsv rfl (Rg ty42dst rfl (by assumption) ?_)));clear H K2;intro a H;refine kH H (Rl un42dst rfl (Rc rfl (Kz K7 ?_)));clear H K7;intro a H;refine c_cond H rfl ?_ ?_
 ·intro h26
  try have p26:=dT h26
  refine c_seq (fun _ K8=>?_)
  have e:chkStg s=9:=by
   have h:chkLis s.lists=9:=lim_yes (m:=64) (by omega);rw [stg2 e0 (by rw [h];decide),h]
  refine kP H (SC (Ra rfl (Kn K8 ?_)));clear H K8;intro a H;refine lr H Tryz.results18 rfl ?_;exact H.hp.ret (congrArg vi e.symm)
 intro h26
 try have p26:=dF h26
 have hLi:chkLis s.lists=allE (lisE s.lists) s.lists.length:=lim_no (m:=64) (by omega);refine kP H (Kc K6 (SQ fun _ K9=>SR fun _ K10=>Ra rfl (Kz K10 (SB ?_))));clear H K6 K10;intro a H;skip;refine c_loopS (ι:=Nat × GH) (Tc:=[(1,_)]) (Lc:=[]) (fun (gh:Nat × GH)=>[(4,vi gh.1)]) (fun (gh:Nat × GH)=>[]) (fun (gh:Nat × GH)=>gh.2) (fun (gh:Nat × GH)=>gh.1≤s.lists.length∧firstE (((List.range s.lists.length).map (lisE s.lists)).drop gh.1)=allE (lisE s.lists) s.lists.length∧(∀ b o,G19 b=some o→gh.2 b=some o)) (fun (gh:Nat × GH)=>s.lists.length - gh.1) ((0,G19)) (by exact (H).sub ⟨rfl,rfl,trivial⟩) ?_ ?_
 ·exact ⟨Nat.zero_le _,rfl,fun _ _ h=>h⟩
 clear H;intro gh a w hI H;obtain ⟨k,g⟩:=gh;dsimp only at hI H;obtain ⟨hk,he,hgm⟩:=hI;have hc1g:=gcell_mono hgm hc1;have hlig:=hli.mono hgm;dsimp only [List.cons_append,List.nil_append,List.append_nil] at H;refine kP H (SQ fun _ K11=>SR fun _ K12=>Rm rfl (Rf fd46_1dsv rfl (Rg ty42dst rfl (by assumption) ?_)));clear H;intro a H;refine kH H (Rl un42dst rfl (Rc rfl (Kz K12 ?_)));clear H K12;intro a H;refine c_cond H rfl ?_ ?_
 ·intro h31
  try have p31:=dT h31
  have hk2:k < s.lists.length:=by omega
  have hk1:k - 1 < s.lists.length:=by omega
  obtain ⟨lb,lo,B,d,rfl,hrow,hlv⟩:=li_at hlig hk2;obtain ⟨_,_,_,_,hea,hrow',-⟩:=li_at hlig hk1
  injection hea with hea
  injection hea with e1 e2
  subst e1;subst e2
  have hek:lisE s.lists k=firstE [incE (fun k=>(s.lists[k]?.map LiD.id).getD 0) k,clvE s.lists[k].levels]:=by unfold lisE;rw [List.getElem?_eq_getElem hk2];rfl
  have hinc:inc13 s.lists[k].id s.lists[k - 1].id (decide ((k:Int)=0))=incE (fun k=>(s.lists[k]?.map LiD.id).getD 0) k:=by
   rw [← inc13_eq];(try dsimp only);rw [List.getElem?_eq_getElem hk2,List.getElem?_eq_getElem hk1];simp
  refine kP H (Kc K11 (SQ fun _ K13=>SB (SR fun _ K14=>Rf fd46_1dsv rfl (Rg ty42dst rfl (by assumption) ?_))));clear H K11;intro a H;refine kH H (Rm rfl (Ri un42dst ty105dst rfl rfl ?_));clear H;intro a H;refine s_loada ty105dst (cs:=[vi s.lists[k].id,.slice B s.lists[k].levels.length d]) H wn rfl rfl (fun j v hj=>H.hp.gcell (hrow j v hj)) rfl ?_;clear H;intro a H;refine s_alloc ty105dst H wn rfl ?_;clear H;intro b5 a w hb5 H;refine s_store ty105dst 0 (vs:=[_,_]) _ H wn rfl rfl rfl rfl rfl rfl rfl rfl ?_;clear H;intro w H;dsimp only [List.set,setRow] at H;refine K14 _ _ ?_;clear K14;refine c_seq (fun _ K15=>?_);refine c_seq (fun _ K16=>?_);refine c_drawI (hmx) [[],[0],[],[2],[],[4],[4,5],[2,3,4,5,6],[2,3,4,5,6,7],[2,3,4,5,6,7,8],[],[10],(List.range 12),(List.range 13)] [13] (by kernel_rfl) (by kernel_rfl) (fun (ix_:Nat) (v:Value) (G:GH)=>match ix_ with|0=>v=.pointer (some ⟨b5,0,none⟩)|1=>v=vi s.lists[k].id|2=>v=.pointer (some ⟨b1,1,none⟩)|3=>v=.slice (some ⟨lb,lo,none⟩) s.lists.length lc|4=>v=vi k|5=>v=vi ((k:Int) - 1)|6=>v=vi ((k - 1:Nat):Int)|7=>v=.pointer (some ⟨lb,lo+(k - 1)*2,none⟩)|8=>v=.pointer (some ⟨lb,lo+(k - 1)*2+0,none⟩)|9=>v=vi s.lists[k - 1].id|10=>v=vi k|11=>v=.bool (decide ((k:Int)=0))|12=>v=vi (incE (fun k=>(s.lists[k]?.map LiD.id).getD 0) k)|_=>True) (fun _ _ _ _ _ h=>h) H ?_ ?_
  ·clear H;refine al4 ?_ ?_ ?_ ?_ (al4 ?_ ?_ ?_ ?_ (al4 ?_ ?_ ?_ ?_ (allI_cons ?_ (allI_cons ?_ allI_nil))))
   ·exact Z0 rfl rfl fun _ _ _ _ _=>Rf fd105_0dst rfl
   ·exact Z1 0 39 rfl rfl fun _ _ _ _ _=>Ro ty3run 0 rfl rfl
   ·exact Z0 rfl rfl fun _ _ _ _ _=>Rf fd46_1dsv rfl
   ·exact Op1 2 41 rfl rfl fun _ _ _ _ hG _ H fin=>kH H (Rg ty42dst rfl (gcell_mono hG hc1g) fun _ H=>fin H iJ rfl)
   ·exact Z0 rfl rfl fun _ _ _ _ _=>Rm rfl
   ·exact Z1 4 43 rfl rfl fun _ _ _ _ _=>Rs rfl
   ·refine Op1 5 44 rfl rfl fun _ a w G1 hG HT H fin=>?_;refine s_max H wn rfl rfl rfl ?_;clear H;intro a H;exact fin H iJ (congrArg vi (by omega))
   ·exact Z2 3 42 6 45 rfl rfl fun _ _ _ _ _=>Ri un42dst ty105dst rfl rfl
   ·exact Z1 7 46 rfl rfl fun _ _ _ _ _=>Rf fd105_0dst rfl
   ·exact Op1 8 47 rfl rfl fun _ _ _ _ hG _ H fin=>kH H (Rg ty3run rfl (gcell_mono hG (hrow' 0 _ rfl)) fun _ H=>fin H iJ rfl)
   ·exact Z0 rfl rfl fun _ _ _ _ _=>Rm rfl
   ·exact Z1 10 49 rfl rfl fun _ _ _ _ _=>Rc rfl
   ·refine Op3 1 40 9 48 11 50 rfl rfl fun _ a w G1 hG HT H fin=>?_;refine s_call en56mst H wn rfl (inc13_spec _ _ H.hp.ro s.lists[k].id s.lists[k - 1].id (decide ((k:Int)=0))) rfl ?_;clear H;rintro v51 G51 a w ⟨rfl,-⟩ hGm51 H;exact fin H hGm51 (congrArg vi hinc)
   exact opB rfl
  clear H;intro a w G hGm10 H hv;obtain ⟨u51,hu51,hp51⟩:=hv 12 51 (by decide) rfl;obtain rfl:u51=vi (incE (fun k=>(s.lists[k]?.map LiD.id).getD 0) k):=hp51;have H:=H.addS hu51;clear hv;refine kH H (Ra rfl ?_);clear H;intro a H;refine wl_nil ⟨rfl,?_⟩;refine K16 _ _ ?_;clear K16;refine kP H (SR fun _ K17=>Rm rfl (Rc rfl (Kz K17 ?_)));clear H K17;intro a H;refine c_cond H rfl ?_ ?_
  ·intro h53
   try have p53:=dT h53
   refine c_seq (fun _ K18=>?_)
   have e:chkStg s=incE (fun k=>(s.lists[k]?.map LiD.id).getD 0) k:=by
    have h1:lisE s.lists k=incE (fun k=>(s.lists[k]?.map LiD.id).getD 0) k:=by rw [hek,firstE_ne p53]
    have h2:chkLis s.lists=incE (fun k=>(s.lists[k]?.map LiD.id).getD 0) k:=by rw [hLi,all_stop hk2 he (by rw [h1];exact p53),h1]
    rw [stg2 e0 (by rw [h2];exact p53),h2]
   refine kP H (SC (Rm rfl (Ra rfl (Kn K18 ?_))));clear H K18;intro a H;refine lr H Tryz.results18 rfl ?_;exact H.hp.ret (congrArg vi e.symm)
  intro h53
  try have p53:=dF h53
  refine kP H (Kc K15 (SR fun _ K19=>Rf fd105_1dst rfl (Ro ty103dst 0 rfl rfl ?_)));clear H K15;intro a H;refine s_call en57dst H wn rfl (checkLevels_spec _ _ H.hp.ro s.lists[k].levels _ (hlv.mono hGm10) (hz.lt _ (List.getElem_mem hk2))) rfl ?_;clear H;rintro v57 G57 a w rfl hm57 H;refine kH H (Ra rfl (Kz K19 (SR fun _ K20=>Rm rfl (Rc rfl (Kz K20 ?_)))));clear H K19 K20;intro a H;refine c_cond H rfl ?_ ?_
  ·intro h59
   try have p59:=dT h59
   refine c_seq (fun _ K21=>?_)
   have e:chkStg s=clvE s.lists[k].levels:=by
    have h1:lisE s.lists k=clvE s.lists[k].levels:=by rw [hek,firstE_z (Decidable.not_not.1 p53),firstE_ne p59]
    have h2:chkLis s.lists=clvE s.lists[k].levels:=by rw [hLi,all_stop hk2 he (by rw [h1];exact p59),h1]
    rw [stg2 e0 (by rw [h2];exact p59),h2]
   refine kP H (SC (Rm rfl (Ra rfl (Kn K21 ?_))));clear H K21;intro a H;refine lr H Tryz.results18 rfl ?_;exact H.hp.ret (congrArg vi e.symm)
  intro h59
  try have p59:=dF h59
  refine kP H (Kc K13 (SC (Rm rfl (Rd rfl (Ra rfl ?_)))));clear H K13;intro a H;refine wl_nil ?_;refine loop_end ((k+1,G57)) (by exact (H.pickT (Pl:=[_]) (Pl':=[]) [] (by decide) rfl).sub ⟨rfl,rfl,trivial⟩) ?_ ?_
  ·(try dsimp only);exact ⟨by omega,all_next hk2 he (by rw [hek,firstE_z (Decidable.not_not.1 p53),firstE_z (Decidable.not_not.1 p59)];rfl),fun b o h=>hm57 b o (hGm10 b o (hgm b o h))⟩
  first|omega|(dsimp only;omega)
 intro h31
 try have p31:=dF h31
 refine c_exit ?_;refine K9 _ _ ?_;clear K9;refine c_seq (fun _ K22=>?_);refine c_seq (fun _ K23=>?_)
 have hLi0:chkLis s.lists=0:=by rw [hLi,all_done (by omega) he]
 have hc2g:=gcell_mono hgm hc2;have hc3g:=gcell_mono hgm hc3;replace hcm:=hcm.mono hgm;replace hva:=hva.mono hgm;refine kP H (SC (Rf fd46_2dsv rfl (Rg ty43dsc rfl (by assumption) ?_)));clear H;intro a H;refine kH H (Rl un43dsc rfl (Rc rfl (Kn K23 ?_)));clear H K23;intro a H;refine c_cond H rfl ?_ ?_
 ·intro h64
  try have p64:=dT h64
  refine c_seq (fun _ K24=>?_)
  have e:chkStg s=9:=by
   have h:chkCms s.comments=9:=lim_yes (m:=1024) (by omega);rw [stg3 e0 hLi0 (by rw [h];decide),h]
  refine kP H (SC (Ra rfl (Kn K24 ?_)));clear H K24;intro a H;refine lr H Tryz.results18 rfl ?_;exact H.hp.ret (congrArg vi e.symm)
 intro h64
 try have p64:=dF h64
 have hCm:chkCms s.comments=allE (cmE s.comments) s.comments.length:=lim_no (m:=1024) (by omega);refine kP H (Kc K22 (SQ fun _ K25=>SR fun _ K26=>Ra rfl (Kz K26 (SB ?_))));clear H K22 K26;intro a H;skip;refine c_loopS (ι:=Nat × GH) (Tc:=[(1,_)]) (Lc:=[]) (fun (gh:Nat × GH)=>[(8,vi gh.1)]) (fun (gh:Nat × GH)=>[]) (fun (gh:Nat × GH)=>gh.2) (fun (gh:Nat × GH)=>gh.1≤s.comments.length∧firstE (((List.range s.comments.length).map (cmE s.comments)).drop gh.1)=allE (cmE s.comments) s.comments.length∧(∀ b o,g b=some o→gh.2 b=some o)) (fun (gh:Nat × GH)=>s.comments.length - gh.1) ((0,g)) (by exact (H).sub ⟨rfl,rfl,trivial⟩) ?_ ?_
 ·exact ⟨Nat.zero_le _,rfl,fun _ _ h=>h⟩
 clear H;intro gh a w hI H;obtain ⟨i,g2⟩:=gh;dsimp only at hI H;obtain ⟨hi,hce,hgm2⟩:=hI;have hc2i:=gcell_mono hgm2 hc2g;have hcmi:=hcm.mono hgm2;dsimp only [List.cons_append,List.nil_append,List.append_nil] at H;refine kP H (SQ fun _ K27=>SR fun _ K28=>Rm rfl (Rf fd46_2dsv rfl (Rg ty43dsc rfl (by assumption) ?_)));clear H;intro a H;refine kH H (Rl un43dsc rfl (Rc rfl (Kz K28 ?_)));clear H K28;intro a H;refine c_cond H rfl ?_ ?_
 ·intro h69
  try have p69:=dT h69
  have hi2:i < s.comments.length:=by omega
  have hi1:i - 1 < s.comments.length:=by omega
  obtain ⟨cb,co,rfl,hcrow,-⟩:=cm_at hcmi hi2;obtain ⟨_,_,hea2,hcrow',-⟩:=cm_at hcmi hi1
  injection hea2 with hea2
  injection hea2 with e1 e2
  subst e1;subst e2;have hte:=hz.ct _ (List.getElem_mem hi2);obtain ⟨x,hx⟩:∃ x,x=s.comments[i]:=⟨_,rfl⟩
  have hcek:cmE s.comments i=cmE0 s.comments i x:=by unfold cmE;rw [List.getElem?_eq_getElem hi2,hx]
  have hinc2:inc13 x.id s.comments[i - 1].id (decide ((i:Int)=0))=incE (fun k=>(s.comments[k]?.map CmD.id).getD 0) i:=by
   rw [← inc13_eq];(try dsimp only);rw [List.getElem?_eq_getElem hi2,List.getElem?_eq_getElem hi1,hx];simp
  rw [← hx] at hcrow hte;refine kP H (Kc K27 (SQ fun _ K29=>SB (SR fun _ K30=>Rf fd46_2dsv rfl (Rg ty43dsc rfl (by assumption) ?_))));clear H K27;intro a H;refine kH H (Rm rfl (Ri un43dsc ty107dsc rfl rfl ?_));clear H;intro a H;refine s_loada ty107dsc (cs:=x.cells) H wn rfl rfl (fun j v hj=>H.hp.gcell (hcrow j v hj)) rfl ?_;clear H;intro a H;refine s_alloc ty107dsc H wn rfl ?_;clear H;intro b9 a w hb9 H;refine s_store ty107dsc 0 (vs:=[_,_,_,_,_,_]) _ H wn rfl rfl rfl rfl rfl rfl rfl rfl ?_;clear H;intro w H;dsimp only [List.set,setRow] at H;refine K30 _ _ ?_;clear K30;refine c_seq (fun _ K31=>?_);refine c_seq (fun _ K32=>?_);refine c_drawI (hmx) [[],[0],[],[2],[],[4],[4,5],[2,3,4,5,6],[2,3,4,5,6,7],[2,3,4,5,6,7,8],[],[10],(List.range 12),(List.range 13)] [13] (by kernel_rfl) (by kernel_rfl) (fun (ix_:Nat) (v:Value) (G:GH)=>match ix_ with|0=>v=.pointer (some ⟨b9,0,none⟩)|1=>v=vi x.id|2=>v=.pointer (some ⟨b1,2,none⟩)|3=>v=.slice (some ⟨cb,co,none⟩) s.comments.length cc|4=>v=vi i|5=>v=vi ((i:Int) - 1)|6=>v=vi ((i - 1:Nat):Int)|7=>v=.pointer (some ⟨cb,co+(i - 1)*6,none⟩)|8=>v=.pointer (some ⟨cb,co+(i - 1)*6+0,none⟩)|9=>v=vi s.comments[i - 1].id|10=>v=vi i|11=>v=.bool (decide ((i:Int)=0))|12=>v=vi (incE (fun k=>(s.comments[k]?.map CmD.id).getD 0) i)|_=>True) (fun _ _ _ _ _ h=>h) H ?_ ?_
  ·clear H;refine al4 ?_ ?_ ?_ ?_ (al4 ?_ ?_ ?_ ?_ (al4 ?_ ?_ ?_ ?_ (allI_cons ?_ (allI_cons ?_ allI_nil))))
   ·exact Z0 rfl rfl fun _ _ _ _ _=>Rf fd107_0dsc rfl
   ·exact Z1 0 77 rfl rfl fun _ _ _ _ _=>Ro ty3run 0 rfl rfl
   ·exact Z0 rfl rfl fun _ _ _ _ _=>Rf fd46_2dsv rfl
   ·exact Op1 2 79 rfl rfl fun _ _ _ _ hG _ H fin=>kH H (Rg ty43dsc rfl (gcell_mono hG hc2i) fun _ H=>fin H iJ rfl)
   ·exact Z0 rfl rfl fun _ _ _ _ _=>Rm rfl
   ·exact Z1 4 81 rfl rfl fun _ _ _ _ _=>Rs rfl
   ·refine Op1 5 82 rfl rfl fun _ a w G1 hG HT H fin=>?_;refine s_max H wn rfl rfl rfl ?_;clear H;intro a H;exact fin H iJ (congrArg vi (by omega))
   ·exact Z2 3 80 6 83 rfl rfl fun _ _ _ _ _=>Ri un43dsc ty107dsc rfl rfl
   ·exact Z1 7 84 rfl rfl fun _ _ _ _ _=>Rf fd107_0dsc rfl
   ·exact Op1 8 85 rfl rfl fun _ _ _ _ hG _ H fin=>kH H (Rg ty3run rfl (gcell_mono hG (hcrow' 0 _ rfl)) fun _ H=>fin H iJ rfl)
   ·exact Z0 rfl rfl fun _ _ _ _ _=>Rm rfl
   ·exact Z1 10 87 rfl rfl fun _ _ _ _ _=>Rc rfl
   ·refine Op3 1 78 9 86 11 88 rfl rfl fun _ a w G1 hG HT H fin=>?_;refine s_call en56mst H wn rfl (inc13_spec _ _ H.hp.ro x.id s.comments[i - 1].id (decide ((i:Int)=0))) rfl ?_;clear H;rintro v89 G89 a w ⟨rfl,-⟩ hGm89 H;exact fin H hGm89 (congrArg vi hinc2)
   exact opB rfl
  clear H;intro a w G hGm22 H hv;obtain ⟨u89,hu89,hp89⟩:=hv 12 89 (by decide) rfl;obtain rfl:u89=vi (incE (fun k=>(s.comments[k]?.map CmD.id).getD 0) i):=hp89;have H:=H.addS hu89;clear hv;refine kH H (Ra rfl ?_);clear H;intro a H;refine wl_nil ⟨rfl,?_⟩;refine K32 _ _ ?_;clear K32;refine kP H (SR fun _ K33=>Rm rfl (Rc rfl (Kz K33 ?_)));clear H K33;intro a H;refine c_cond H rfl ?_ ?_
  ·intro h91
   try have p91:=dT h91
   refine c_seq (fun _ K34=>?_)
   have e:chkStg s=incE (fun k=>(s.comments[k]?.map CmD.id).getD 0) i:=by
    have h1:cmE s.comments i=incE (fun k=>(s.comments[k]?.map CmD.id).getD 0) i:=by rw [hcek,cmE0,firstE_ne p91]
    have h2:chkCms s.comments=incE (fun k=>(s.comments[k]?.map CmD.id).getD 0) i:=by rw [hCm,all_stop hi2 hce (by rw [h1];exact p91),h1]
    rw [stg3 e0 hLi0 (by rw [h2];exact p91),h2]
   refine kP H (SC (Rm rfl (Ra rfl (Kn K34 ?_))));clear H K34;intro a H;refine lr H Tryz.results18 rfl ?_;exact H.hp.ret (congrArg vi e.symm)
  intro h91
  try have p91:=dF h91
  refine kP H (Kc K31 (SR fun _ K35=>Rf fd107_1dsc rfl (Ro ty3run 0 rfl rfl (Rc rfl (Ra rfl (Kz K35 (SQ fun _ K36=>SR fun _ K37=>Ra rfl (Kz K37 (SB ?_)))))))));clear H K31 K35 K37;intro a H;skip;refine c_loopS (ι:=Nat × Bool × GH) (Tc:=[(1,_),(8,_),(9,_)]) (Lc:=[(_,_)]) (fun (gh:Nat × Bool × GH)=>[(11,.bool gh.2.1),(12,vi gh.1)]) (fun (gh:Nat × Bool × GH)=>[]) (fun (gh:Nat × Bool × GH)=>gh.2.2) (fun (gh:Nat × Bool × GH)=>gh.1≤i∧gh.2.1=(decide (x.parent=0) || ((s.comments.take gh.1).findIdx? fun y=>decide (y.id=x.parent)).isSome)∧(∀ b o,g2 b=some o→gh.2.2 b=some o)) (fun (gh:Nat × Bool × GH)=>i - gh.1) ((0,decide (x.parent=0),_)) (by exact (H).sub ⟨rfl,rfl,rfl,rfl,rfl,trivial⟩) ?_ ?_
  ·exact ⟨Nat.zero_le _,by simp,hGm22⟩
  clear H;intro gh a w hI H;obtain ⟨j,fb,g3⟩:=gh;dsimp only at hI H;obtain ⟨hj,hfb,hgm3⟩:=hI;have hc2j:=gcell_mono hgm3 hc2i;dsimp only [List.cons_append,List.nil_append,List.append_nil] at H;refine kP H (SQ fun _ K38=>SR fun _ K39=>Rm rfl (Rm rfl (Rc rfl (Kz K39 ?_))));clear H K39;intro a H;refine c_cond H rfl ?_ ?_
  ·intro h98
   try have p98:=dT h98
   have hj2:j < i:=by omega
   have hj1:j < s.comments.length:=by omega
   obtain ⟨_,_,hea3,hcrow3,-⟩:=cm_at (hcmi.mono hgm3) hj1
   injection hea3 with hea3
   injection hea3 with e1 e2
   subst e1;subst e2;refine kP H (Kc K38 (SQ fun _ K40=>SB ?_));clear H K38;intro a H
   by_cases f0:fb=true
   ·skip;refine c_drawI (hmx) [[],[0],[0,1],[0,1,2],[0,1],[0,1,2,3,4],[0,1,2,3,4,5],(List.range 7),[0,1],[0,1,8],(List.range 10),(List.range 11),(List.range 12)] [12] (by kernel_rfl) (by kernel_rfl) (fun (ix_:Nat) (v:Value) (G:GH)=>match ix_ with|0=>v=.bool fb|1=>v=.bool (decide (fb=true))|2=>v=undef|3=>v=undef|4=>v=undef|5=>v=undef|6=>v=undef|7=>v=undef|8=>v=undef|9=>v=undef|10=>v=undef|11=>v=.bool (fb || decide (s.comments[j].id=x.parent))|_=>True) (fun _ _ _ _ _ h=>h) H ?_ ?_
    ·clear H;refine al4 ?_ ?_ ?_ ?_ (al4 ?_ ?_ ?_ ?_ (al4 ?_ ?_ ?_ ?_ (allI_cons ?_ allI_nil)))
     ·exact Z0 rfl rfl fun _ _ _ _ _=>Rm rfl
     ·refine Op1 0 101 rfl rfl fun _ a w G1 hG HT H fin=>?_;refine kH H (Rm rfl ?_);clear H;intro a H;exact fin H iJ (by simp)
     ·exact skI 1 (decide_eq_true f0) rfl rfl
     ·exact skI 1 (decide_eq_true f0) rfl rfl
     ·exact skI 1 (decide_eq_true f0) rfl rfl
     ·exact skI 1 (decide_eq_true f0) rfl rfl
     ·exact skI 1 (decide_eq_true f0) rfl rfl
     ·exact skI 1 (decide_eq_true f0) rfl rfl
     ·exact skI 1 (decide_eq_true f0) rfl rfl
     ·exact skI 1 (decide_eq_true f0) rfl rfl
     ·exact skI 1 (decide_eq_true f0) rfl rfl
     ·refine Op2 1 102 10 111 rfl rfl fun _ a w G1 hG HT H fin=>?_;refine kH H (Pt (decide_eq_true f0) rfl ?_);clear H;intro a H;exact fin H iJ (congrArg Value.bool (by first|(rw [f0];rfl)|(rw [Bool.eq_false_iff.2 f0];rfl)))
     exact opB rfl
    clear H;intro a w G hGm29 H hv;obtain ⟨u112,hu112,hp112⟩:=hv 11 112 (by decide) rfl;obtain rfl:u112=.bool (fb || decide (s.comments[j].id=x.parent)):=hp112;have H:=H.addS hu112;clear hv;refine kH H (Ra rfl ?_);clear H;intro a H;refine wl_nil ⟨rfl,?_⟩;refine K40 _ _ ?_;clear K40;refine kP H (SC (Rm rfl (Rd rfl (Ra rfl ?_))));clear H;intro a H;refine wl_nil ?_;refine loop_end ((j+1,_,_)) (by exact (H).sub ⟨rfl,rfl,rfl,rfl,rfl,trivial⟩) ?_ ?_
    ·try dsimp only
     exact ⟨by omega,by rw [some_succ hj1,← Bool.or_assoc,← hfb];cases fb <;> rfl,fun b o h=>hGm29 b o (hgm3 b o h)⟩
    first|omega|(dsimp only;omega)
   skip;refine c_drawI (hmx) [[],[0],[0,1],[0,1,2],[0,1],[0,1,2,3,4],[0,1,2,3,4,5],(List.range 7),[0,1],[0,1,8],(List.range 10),(List.range 11),(List.range 12)] [12] (by kernel_rfl) (by kernel_rfl) (fun (ix_:Nat) (v:Value) (G:GH)=>match ix_ with|0=>v=.bool fb|1=>v=.bool (decide (fb=true))|2=>v=.pointer (some ⟨b1,2,none⟩)|3=>v=.slice (some ⟨cb,co,none⟩) s.comments.length cc|4=>v=vi j|5=>v=.pointer (some ⟨cb,co+j*6,none⟩)|6=>v=.pointer (some ⟨cb,co+j*6+0,none⟩)|7=>v=vi s.comments[j].id|8=>v=.pointer (some ⟨b9,1,none⟩)|9=>v=vi x.parent|10=>v=.bool (decide (s.comments[j].id=x.parent))|11=>v=.bool (fb || decide (s.comments[j].id=x.parent))|_=>True) (fun _ _ _ _ _ h=>h) H ?_ ?_
   ·clear H;refine al4 ?_ ?_ ?_ ?_ (al4 ?_ ?_ ?_ ?_ (al4 ?_ ?_ ?_ ?_ (allI_cons ?_ allI_nil)))
    ·exact Z0 rfl rfl fun _ _ _ _ _=>Rm rfl
    ·refine Op1 0 101 rfl rfl fun _ a w G1 hG HT H fin=>?_;refine kH H (Rm rfl ?_);clear H;intro a H;exact fin H iJ (by simp)
    ·exact Op1 1 102 rfl rfl fun _ _ _ _ hG _ H fin=>kH H (YF fd46_2dsv (decide_eq_false f0) rfl fun _ H=>fin H iJ rfl)
    ·exact Op2 2 103 1 102 rfl rfl fun _ _ _ _ hG _ H fin=>kH H (YR ty43dsc (decide_eq_false f0) rfl (gcell_mono hG hc2j) fun _ H=>fin H iJ rfl)
    ·exact Op1 1 102 rfl rfl fun _ _ _ _ hG _ H fin=>kH H (YM (decide_eq_false f0) rfl fun _ H=>fin H iJ rfl)
    ·exact Op3 3 104 4 105 1 102 rfl rfl fun _ _ _ _ hG _ H fin=>kH H (YI un43dsc ty107dsc (decide_eq_false f0) rfl rfl fun _ H=>fin H iJ rfl)
    ·exact Op2 5 106 1 102 rfl rfl fun _ _ _ _ hG _ H fin=>kH H (YF fd107_0dsc (decide_eq_false f0) rfl fun _ H=>fin H iJ rfl)
    ·exact Op2 6 107 1 102 rfl rfl fun _ _ _ _ hG _ H fin=>kH H (YR ty3run (decide_eq_false f0) rfl (gcell_mono hG (hcrow3 0 _ rfl)) fun _ H=>fin H iJ rfl)
    ·exact Op1 1 102 rfl rfl fun _ _ _ _ hG _ H fin=>kH H (YF fd107_1dsc (decide_eq_false f0) rfl fun _ H=>fin H iJ rfl)
    ·exact Op2 8 109 1 102 rfl rfl fun _ _ _ _ hG _ H fin=>kH H (YO ty3run 0 (decide_eq_false f0) rfl rfl fun _ H=>fin H iJ rfl)
    ·exact Op3 7 108 9 110 1 102 rfl rfl fun _ _ _ _ hG _ H fin=>kH H (YC (decide_eq_false f0) rfl fun _ H=>fin H iJ rfl)
    ·refine Op2 1 102 10 111 rfl rfl fun _ a w G1 hG HT H fin=>?_;refine kH H (Pf (decide_eq_false f0) rfl ?_);clear H;intro a H;exact fin H iJ (congrArg Value.bool (by first|(rw [f0];rfl)|(rw [Bool.eq_false_iff.2 f0];rfl)))
    exact opB rfl
   clear H;intro a w G hGm29 H hv;obtain ⟨u112,hu112,hp112⟩:=hv 11 112 (by decide) rfl;obtain rfl:u112=.bool (fb || decide (s.comments[j].id=x.parent)):=hp112;have H:=H.addS hu112;clear hv;refine kH H (Ra rfl ?_);clear H;intro a H;refine wl_nil ⟨rfl,?_⟩;refine K40 _ _ ?_;clear K40;refine kP H (SC (Rm rfl (Rd rfl (Ra rfl ?_))));clear H;intro a H;refine wl_nil ?_;refine loop_end ((j+1,_,_)) (by exact (H).sub ⟨rfl,rfl,rfl,rfl,rfl,trivial⟩) ?_ ?_
   ·try dsimp only
    exact ⟨by omega,by rw [some_succ hj1,← Bool.or_assoc,← hfb];cases fb <;> rfl,fun b o h=>hGm29 b o (hgm3 b o h)⟩
   first|omega|(dsimp only;omega)
  intro h98
  try have p98:=dF h98
  refine c_exit ?_;refine K36 _ _ ?_;clear K36;refine kP H (SQ fun _ K41=>SB (SQ fun _ K42=>?_));clear H;intro a H
  have hbef:fb=befB s.comments i x:=by rw [hfb,show j=i by omega];rfl
  refine kP H (SC (Rm rfl (Rn rfl (Ra rfl (Kn K42 ?_)))));clear H K42;intro a H;refine c_cond H rfl ?_ ?_
  ·intro h113
   try have p113:=dT h113
   refine c_seq (fun _ K43=>?_)
   have e:chkStg s=8:=by
    have h1:cmE s.comments i=8:=by rw [hcek,cmE0,firstE_z (Decidable.not_not.1 p91),← hbef,show (!fb)=true from h113];rfl
    have h2:chkCms s.comments=8:=by rw [hCm,all_stop hi2 hce (by rw [h1];decide),h1]
    rw [stg3 e0 hLi0 (by rw [h2];decide),h2]
   refine kP H (SC (Ra rfl (Kn K43 ?_)));clear H K43;intro a H;refine lr H Tryz.results18 rfl ?_;exact H.hp.ret (congrArg vi e.symm)
  intro h113
  try have p113:=dF h113
  have w8:whenE (!befB s.comments i x) 8=0:=by rw [← hbef,show (!fb)=false from h113];rfl
  refine kP H (SR fun _ K44=>Rf fd107_2dsc rfl (Ro ty9run 0 rfl rfl ?_));clear H;intro a H;refine s_call en58mst H wn rfl (author13_spec _ _ H.hp.ro x.author hte.1) rfl ?_;clear H;rintro v119 _ a w ⟨rfl,rfl⟩ - H;refine kH H (Rn rfl (Ra rfl (Kz K44 ?_)));clear H K44;intro a H;refine c_cond H rfl ?_ ?_
  ·intro h116
   try have p116:=dT h116
   refine c_seq (fun _ K45=>?_)
   have e:chkStg s=39:=by
    have h1:cmE s.comments i=39:=by rw [hcek,cmE0,firstE_z (Decidable.not_not.1 p91),firstE_z w8,show (!autS x.author)=true from h116];rfl
    have h2:chkCms s.comments=39:=by rw [hCm,all_stop hi2 hce (by rw [h1];decide),h1]
    rw [stg3 e0 hLi0 (by rw [h2];decide),h2]
   refine kP H (SC (Ra rfl (Kn K45 ?_)));clear H K45;intro a H;refine lr H Tryz.results18 rfl ?_;exact H.hp.ret (congrArg vi e.symm)
  intro h116
  try have p116:=dF h116
  have w39:whenE (!autS x.author) 39=0:=by rw [show (!autS x.author)=false from h116];rfl
  refine kP H (SR fun _ K46=>Rf fd107_3dsc rfl (Ro ty3run 0 rfl rfl (Rc rfl (Rm rfl ?_))));clear H;intro a H;refine s_split H 125 rfl ?_ ?_
  ·intro h125
   try have p125:=dT h125
   refine kH H (Ks h125 rfl (Ks h125 rfl (Ks h125 rfl (Pt h125 rfl (Ra rfl (Kz K46 ?_))))));clear H K46;intro a H;refine c_cond_t H rfl rfl ?_;refine c_seq (fun _ K47=>?_)
   have e:chkStg s=40:=by
    have h1:cmE s.comments i=40:=by rw [hcek,cmE0,firstE_z (Decidable.not_not.1 p91),firstE_z w8,firstE_z w39,decide_eq_false (by omega)];rfl
    have h2:chkCms s.comments=40:=by rw [hCm,all_stop hi2 hce (by rw [h1];decide),h1]
    rw [stg3 e0 hLi0 (by rw [h2];decide),h2]
   refine kP H (SC (Ra rfl (Kn K47 ?_)));clear H K47;intro a H;refine lr H Tryz.results18 rfl ?_;exact H.hp.ret (congrArg vi e.symm)
  intro h125
  try have p125:=dF h125
  refine kH H (YF fd107_3dsc h125 rfl (YO ty3run 0 h125 rfl rfl (YC h125 rfl (Pf h125 rfl (Ra rfl (Kz K46 ?_))))));clear H K46;intro a H;refine c_cond H rfl ?_ ?_
  ·intro h121
   try have p121:=dT h121
   refine c_seq (fun _ K48=>?_)
   have e:chkStg s=40:=by
    have h1:cmE s.comments i=40:=by rw [hcek,cmE0,firstE_z (Decidable.not_not.1 p91),firstE_z w8,firstE_z w39,decide_eq_false (by omega)];rfl
    have h2:chkCms s.comments=40:=by rw [hCm,all_stop hi2 hce (by rw [h1];decide),h1]
    rw [stg3 e0 hLi0 (by rw [h2];decide),h2]
   refine kP H (SC (Ra rfl (Kn K48 ?_)));clear H K48;intro a H;refine lr H Tryz.results18 rfl ?_;exact H.hp.ret (congrArg vi e.symm)
  intro h121
  try have p121:=dF h121
  refine c_skip ?_;refine K41 _ _ ?_;clear K41;refine c_seq (fun _ K49=>?_)
  have w40:whenE (!decide (0≤x.time∧x.time≤1099511627776)) 40=0:=by rw [decide_eq_true (by omega)];rfl
  refine kP H (SC (Rf fd107_4dsc rfl (Ro ty9run 0 rfl rfl ?_)));clear H;intro a H;refine s_call en59mst H wn rfl (text13_spec _ _ H.hp.ro x.text hte.2) rfl ?_;clear H;rintro v132 _ a w ⟨rfl,rfl⟩ - H;refine kH H (Ra rfl (Kn K49 (SR fun _ K50=>Rm rfl (Rc rfl (Kz K50 ?_)))));clear H K49 K50;intro a H;refine c_cond H rfl ?_ ?_
  ·intro h134
   try have p134:=dT h134
   refine c_seq (fun _ K51=>?_)
   have e:chkStg s=txE x.text:=by
    have h1:cmE s.comments i=txE x.text:=by rw [hcek,cmE0,firstE_z (Decidable.not_not.1 p91),firstE_z w8,firstE_z w39,firstE_z w40,firstE_ne p134]
    have h2:chkCms s.comments=txE x.text:=by rw [hCm,all_stop hi2 hce (by rw [h1];exact p134),h1]
    rw [stg3 e0 hLi0 (by rw [h2];exact p134),h2]
   refine kP H (SC (Rm rfl (Ra rfl (Kn K51 ?_))));clear H K51;intro a H;refine lr H Tryz.results18 rfl ?_;exact H.hp.ret (congrArg vi e.symm)
  intro h134
  try have p134:=dF h134
  refine kP H (Kc K29 (SC (Rm rfl (Rd rfl (Ra rfl ?_)))));clear H K29;intro a H;refine wl_nil ?_;refine loop_end ((i+1,g3)) (by exact (H.pickT (Pl:=[_]) (Pl':=[]) [] (by decide) rfl).sub ⟨rfl,rfl,trivial⟩) ?_ ?_
  ·(try dsimp only);exact ⟨by omega,all_next hi2 hce (by rw [hcek,cmE0,firstE_z (Decidable.not_not.1 p91),firstE_z w8,firstE_z w39,firstE_z w40,firstE_z (Decidable.not_not.1 p134)];rfl),fun b o h=>hgm3 b o (hgm2 b o h)⟩
  first|omega|(dsimp only;omega)
 intro h69
 try have p69:=dF h69
 refine c_exit ?_;refine K25 _ _ ?_;clear K25;refine c_seq (fun _ K52=>?_);refine c_seq (fun _ K53=>?_)
 have hCm0:chkCms s.comments=0:=by rw [hCm,all_done (by omega) hce]
 have hc3v:=gcell_mono hgm2 hc3g;replace hva:=hva.mono hgm2;refine kP H (SC (Rf fd46_3dsv rfl (Rg ty44dsv rfl (by assumption) ?_)));clear H;intro a H;refine kH H (Rl un44dsv rfl (Rc rfl (Kn K53 ?_)));clear H K53;intro a H;refine c_cond H rfl ?_ ?_
 ·intro h139
  try have p139:=dT h139
  refine c_seq (fun _ K54=>?_)
  have e:chkStg s=9:=by
   have h:chkVas s.vars=9:=lim_yes (m:=128) (by omega);rw [stg4 e0 hLi0 hCm0,h]
  refine kP H (SC (Ra rfl (Kn K54 ?_)));clear H K54;intro a H;refine lr H Tryz.results18 rfl ?_;exact H.hp.ret (congrArg vi e.symm)
 intro h139
 try have p139:=dF h139
 have hVa:chkVas s.vars=allE (vaE s.vars) s.vars.length:=lim_no (m:=128) (by omega);refine kP H (Kc K52 (SQ fun _ K55=>SR fun _ K56=>Ra rfl (Kz K56 (SB ?_))));clear H K52 K56;intro a H;skip;refine c_loopS (ι:=Nat × GH) (Tc:=[(1,_)]) (Lc:=[]) (fun (gh:Nat × GH)=>[(14,vi gh.1)]) (fun (gh:Nat × GH)=>[]) (fun (gh:Nat × GH)=>gh.2) (fun (gh:Nat × GH)=>gh.1≤s.vars.length∧firstE (((List.range s.vars.length).map (vaE s.vars)).drop gh.1)=allE (vaE s.vars) s.vars.length∧(∀ b o,g2 b=some o→gh.2 b=some o)) (fun (gh:Nat × GH)=>s.vars.length - gh.1) ((0,g2)) (by exact (H).sub ⟨rfl,rfl,trivial⟩) ?_ ?_
 ·exact ⟨Nat.zero_le _,rfl,fun _ _ h=>h⟩
 clear H;intro gh a w hI H;obtain ⟨n,g4⟩:=gh;dsimp only at hI H;obtain ⟨hn,hne,hgm4⟩:=hI;have hc3n:=gcell_mono hgm4 hc3v;have hvan:=hva.mono hgm4;dsimp only [List.cons_append,List.nil_append,List.append_nil] at H;refine kP H (SQ fun _ K57=>SR fun _ K58=>Rm rfl (Rf fd46_3dsv rfl (Rg ty44dsv rfl (by assumption) ?_)));clear H;intro a H;refine kH H (Rl un44dsv rfl (Rc rfl (Kz K58 ?_)));clear H K58;intro a H;refine c_cond H rfl ?_ ?_
 ·intro h144
  try have p144:=dT h144
  have hn2:n < s.vars.length:=by omega
  have hn1:n - 1 < s.vars.length:=by omega
  obtain ⟨vb,vo,rfl,hvrow⟩:=va_at hvan hn2;obtain ⟨_,_,hea4,hvrow'⟩:=va_at hvan hn1
  injection hea4 with hea4
  injection hea4 with e1 e2
  subst e1;subst e2;have hte:=hz.vt _ (List.getElem_mem hn2);obtain ⟨x,hx⟩:∃ x,x=s.vars[n]:=⟨_,rfl⟩;obtain ⟨y,hy⟩:∃ y,y=s.vars[n - 1]:=⟨_,rfl⟩
  have hvek:vaE s.vars n=vaE0 n x y.name:=by unfold vaE;rw [List.getElem?_eq_getElem hn2,List.getElem?_eq_getElem hn1,hx,hy];rfl
  rw [← hx] at hvrow hte;rw [← hy] at hvrow';refine kP H (Kc K57 (SQ fun _ K59=>SB (SR fun _ K60=>Rf fd46_3dsv rfl (Rg ty44dsv rfl (by assumption) ?_))));clear H K57;intro a H;refine kH H (Rm rfl (Ri un44dsv ty109dsv rfl rfl ?_));clear H;intro a H;refine s_loada ty109dsv (cs:=x.cells) H wn rfl rfl (fun j v hj=>H.hp.gcell (hvrow j v hj)) rfl ?_;clear H;intro a H;refine s_alloc ty109dsv H wn rfl ?_;clear H;intro b15 a w hb15 H;refine s_store ty109dsv 0 (vs:=[_,_]) _ H wn rfl rfl rfl rfl rfl rfl rfl rfl ?_;clear H;intro w H;dsimp only [List.set,setRow] at H;refine K60 _ _ ?_;clear K60;refine c_seqJ (ι:=GH) (Tc:=[(1,_),(14,_),(15,_)]) (Lc:=[]) (fun (gh:GH)=>[]) (fun (gh:GH)=>[(b15,.cells x.cells.toArray 109 (0,0))]) (fun (gh:GH)=>gh) (fun (gh:GH)=>whenE (!cpNm x.name) 13=0∧whenE (decide (0 < (n:Int)) && (x.name.toList == y.name.toList)) 7=0∧whenE (decide (0 < (n:Int)) && Op.bytesLess x.name.toList y.name.toList) 6=0∧(∀ b o,g4 b=some o→gh b=some o)) (by exact (H).sub ⟨rfl,rfl,rfl,trivial⟩) ?_ ?_
  ·skip;refine kP H (SB (SR fun _ K61=>Rf fd109_0dsv rfl (Ro ty9run 0 rfl rfl ?_)));clear H;intro a H;refine s_call en60dsv H wn rfl (cpNm_spec _ _ H.hp.ro x.name hte.1) rfl ?_;clear H;rintro v155 _ a w ⟨rfl,rfl⟩ - H;refine kH H (Rn rfl (Ra rfl (Kz K61 ?_)));clear H K61;intro a H;refine c_cond H rfl ?_ ?_
   ·intro h152
    try have p152:=dT h152
    refine c_seq (fun _ K62=>?_)
    have e:chkStg s=13:=by
     have h1:vaE s.vars n=13:=by rw [hvek,vaE0,show (!cpNm x.name)=true from h152];rfl
     have h2:chkVas s.vars=13:=by rw [hVa,all_stop hn2 hne (by rw [h1];decide),h1]
     rw [stg4 e0 hLi0 hCm0,h2]
    refine kP H (SC (Ra rfl (Kn K62 ?_)));clear H K62;intro a H;refine lr H Tryz.results18 rfl ?_;exact H.hp.ret (congrArg vi e.symm)
   intro h152
   try have p152:=dF h152
   have z13:whenE (!cpNm x.name) 13=0:=by rw [show (!cpNm x.name)=false from h152];rfl
   refine c_seq (fun _ K63=>?_)
   by_cases c0:0 < (n:Int)
   ·skip;refine c_drawI (hmx) [[],[0],[0,1],[0,1,2],[0,1,2,3],[0,1,2],[0,1,2,5],[0,1,2],[0,1,2,7],[0,1,2,5,6,7,8],[0,1,2,5,6,7,8,9],[0,1,2,5,6,7,8,9,10],(List.range 12),(List.range 13),(List.range 14)] [] (by kernel_rfl) (by kernel_rfl) (fun (ix_:Nat) (v:Value) (G:GH)=>match ix_ with|0=>v=vi n|1=>v=.bool (decide (0 < (n:Int)))|2=>v=.bool (decide (0 < (n:Int)))|3=>v=.pointer (some ⟨b15,0,none⟩)|4=>v=.string x.name|5=>v=.pointer (some ⟨b1,3,none⟩)|6=>v=.slice (some ⟨vb,vo,none⟩) s.vars.length vc|7=>v=vi n|8=>v=vi ((n - 1:Nat):Int)|9=>v=.pointer (some ⟨vb,vo+(n - 1)*2,none⟩)|10=>v=.pointer (some ⟨vb,vo+(n - 1)*2+0,none⟩)|11=>v=.string y.name|12=>v=.bool ((x.name.toList == y.name.toList))|13=>v=.bool ((x.name.toList == y.name.toList))|14=>v=.bool ((x.name.toList == y.name.toList))|_=>True) (fun _ _ _ _ _ h=>h) H ?_ ?_
    ·clear H;refine al4 ?_ ?_ ?_ ?_ (al4 ?_ ?_ ?_ ?_ (al4 ?_ ?_ ?_ ?_ (allI_cons ?_ (allI_cons ?_ (allI_cons ?_ allI_nil)))))
     ·exact Z0 rfl rfl fun _ _ _ _ _=>Rm rfl
     ·exact Z1 0 158 rfl rfl fun _ _ _ _ _=>Rc rfl
     ·exact Z1 1 159 rfl rfl fun _ _ _ _ _=>Rm rfl
     ·exact Op1 2 160 rfl rfl fun _ _ _ _ hG _ H fin=>kH H (YF fd109_0dsv (decide_eq_true c0) rfl fun _ H=>fin H iJ rfl)
     ·exact Op2 3 161 2 160 rfl rfl fun _ _ _ _ hG _ H fin=>kH H (YO ty9run 0 (decide_eq_true c0) rfl rfl fun _ H=>fin H iJ rfl)
     ·exact Op1 2 160 rfl rfl fun _ _ _ _ hG _ H fin=>kH H (YF fd46_3dsv (decide_eq_true c0) rfl fun _ H=>fin H iJ rfl)
     ·exact Op2 5 163 2 160 rfl rfl fun _ _ _ _ hG _ H fin=>kH H (YR ty44dsv (decide_eq_true c0) rfl (gcell_mono hG hc3n) fun _ H=>fin H iJ rfl)
     ·exact Op1 2 160 rfl rfl fun _ _ _ _ hG _ H fin=>kH H (YM (decide_eq_true c0) rfl fun _ H=>fin H iJ rfl)
     ·refine Op2 7 165 2 160 rfl rfl fun _ a w G1 hG HT H fin=>?_;refine s_sub _ H (wg H rfl rfl (decide_eq_true c0)) rfl rfl rfl (by omega) (by omega) rfl ?_;clear H;intro a H;exact fin H iJ (by first|rfl|exact congrArg vi (by omega))
     ·exact Op3 6 164 8 166 2 160 rfl rfl fun _ _ _ _ hG _ H fin=>kH H (YI un44dsv ty109dsv (decide_eq_true c0) rfl rfl fun _ H=>fin H iJ rfl)
     ·exact Op2 9 167 2 160 rfl rfl fun _ _ _ _ hG _ H fin=>kH H (YF fd109_0dsv (decide_eq_true c0) rfl fun _ H=>fin H iJ rfl)
     ·exact Op2 10 168 2 160 rfl rfl fun _ _ _ _ hG _ H fin=>kH H (YR ty9run (decide_eq_true c0) rfl (gcell_mono hG (hvrow' 0 _ rfl)) fun _ H=>fin H iJ rfl)
     ·refine Op3 4 162 11 169 2 160 rfl rfl fun _ a w G1 hG HT H fin=>?_;refine s_eqstr H (wg H rfl rfl (decide_eq_true c0)) rfl rfl rfl ?_;clear H;intro a H;exact fin H iJ rfl
     ·exact Op2 2 160 12 170 rfl rfl fun _ _ _ _ hG _ H fin=>kH H (Pt (decide_eq_true c0) rfl fun _ H=>fin H iJ rfl)
     exact Op1 13 171 rfl rfl fun _ _ _ _ hG _ H fin=>kH H (Ra rfl fun _ H=>fin H iJ rfl)
    clear H;intro a w G hGm47 H hv;obtain ⟨u157,hu157,hp157⟩:=hv 14 157 (by decide) rfl;obtain rfl:u157=.bool ((x.name.toList == y.name.toList)):=hp157;have H:=H.addS hu157;clear hv;refine wl_nil ⟨rfl,?_⟩;refine K63 _ _ ?_;clear K63;refine c_cond H rfl ?_ ?_
    ·intro h157
     try have p157:=dT h157
     refine c_seq (fun _ K64=>?_)
     have e:chkStg s=7:=by
      have h1:vaE s.vars n=7:=by rw [hvek,vaE0,firstE_z z13,decide_eq_true c0,Bool.true_and,h157];rfl
      have h2:chkVas s.vars=7:=by rw [hVa,all_stop hn2 hne (by rw [h1];decide),h1]
      rw [stg4 e0 hLi0 hCm0,h2]
     refine kP H (SC (Ra rfl (Kn K64 ?_)));clear H K64;intro a H;refine lr H Tryz.results18 rfl ?_;exact H.hp.ret (congrArg vi e.symm)
    intro h157
    try have p157:=dF h157
    refine c_seq (fun _ K65=>?_)
    have z7:whenE (decide (0 < (n:Int)) && (x.name.toList == y.name.toList)) 7=0:=by first|(rw [decide_eq_true c0,Bool.true_and,h157];rfl)|(rw [decide_eq_false c0,Bool.false_and];rfl)
    have c1:0 < (n:Int):=c0;refine c_drawI (hmx) [[],[0],[0,1],[0,1,2],[0,1,2,3],[0,1,2],[0,1,2,5],[0,1,2],[0,1,2,7],[0,1,2,5,6,7,8],[0,1,2,5,6,7,8,9],[0,1,2,5,6,7,8,9,10],(List.range 12),(List.range 13),(List.range 14)] [] (by kernel_rfl) (by kernel_rfl) (fun (ix_:Nat) (v:Value) (G:GH)=>match ix_ with|0=>v=vi n|1=>v=.bool (decide (0 < (n:Int)))|2=>v=.bool (decide (0 < (n:Int)))|3=>v=.pointer (some ⟨b15,0,none⟩)|4=>v=.string x.name|5=>v=.pointer (some ⟨b1,3,none⟩)|6=>v=.slice (some ⟨vb,vo,none⟩) s.vars.length vc|7=>v=vi n|8=>v=vi ((n - 1:Nat):Int)|9=>v=.pointer (some ⟨vb,vo+(n - 1)*2,none⟩)|10=>v=.pointer (some ⟨vb,vo+(n - 1)*2+0,none⟩)|11=>v=.string y.name|12=>v=.bool (Op.bytesLess x.name.toList y.name.toList)|13=>v=.bool (Op.bytesLess x.name.toList y.name.toList)|14=>v=.bool (Op.bytesLess x.name.toList y.name.toList)|_=>True) (fun _ _ _ _ _ h=>h) H ?_ ?_
    ·clear H;refine al4 ?_ ?_ ?_ ?_ (al4 ?_ ?_ ?_ ?_ (al4 ?_ ?_ ?_ ?_ (allI_cons ?_ (allI_cons ?_ (allI_cons ?_ allI_nil)))))
     ·exact Z0 rfl rfl fun _ _ _ _ _=>Rm rfl
     ·exact Z1 0 173 rfl rfl fun _ _ _ _ _=>Rc rfl
     ·exact Z1 1 174 rfl rfl fun _ _ _ _ _=>Rm rfl
     ·exact Op1 2 175 rfl rfl fun _ _ _ _ hG _ H fin=>kH H (YF fd109_0dsv (decide_eq_true c1) rfl fun _ H=>fin H iJ rfl)
     ·exact Op2 3 176 2 175 rfl rfl fun _ _ _ _ hG _ H fin=>kH H (YO ty9run 0 (decide_eq_true c1) rfl rfl fun _ H=>fin H iJ rfl)
     ·exact Op1 2 175 rfl rfl fun _ _ _ _ hG _ H fin=>kH H (YF fd46_3dsv (decide_eq_true c1) rfl fun _ H=>fin H iJ rfl)
     ·exact Op2 5 178 2 175 rfl rfl fun _ _ _ _ hG _ H fin=>kH H (YR ty44dsv (decide_eq_true c1) rfl (gcell_mono hG (gcell_mono hGm47 hc3n)) fun _ H=>fin H iJ rfl)
     ·exact Op1 2 175 rfl rfl fun _ _ _ _ hG _ H fin=>kH H (YM (decide_eq_true c1) rfl fun _ H=>fin H iJ rfl)
     ·refine Op2 7 180 2 175 rfl rfl fun _ a w G1 hG HT H fin=>?_;refine s_sub _ H (wg H rfl rfl (decide_eq_true c1)) rfl rfl rfl (by omega) (by omega) rfl ?_;clear H;intro a H;exact fin H iJ (by first|rfl|exact congrArg vi (by omega))
     ·exact Op3 6 179 8 181 2 175 rfl rfl fun _ _ _ _ hG _ H fin=>kH H (YI un44dsv ty109dsv (decide_eq_true c1) rfl rfl fun _ H=>fin H iJ rfl)
     ·exact Op2 9 182 2 175 rfl rfl fun _ _ _ _ hG _ H fin=>kH H (YF fd109_0dsv (decide_eq_true c1) rfl fun _ H=>fin H iJ rfl)
     ·exact Op2 10 183 2 175 rfl rfl fun _ _ _ _ hG _ H fin=>kH H (YR ty9run (decide_eq_true c1) rfl (gcell_mono hG (gcell_mono hGm47 (hvrow' 0 _ rfl))) fun _ H=>fin H iJ rfl)
     ·refine Op3 4 177 11 184 2 175 rfl rfl fun _ a w G1 hG HT H fin=>?_;refine s_lssstr H (wg H rfl rfl (decide_eq_true c1)) rfl rfl rfl ?_;clear H;intro a H;exact fin H iJ rfl
     ·exact Op2 2 175 12 185 rfl rfl fun _ _ _ _ hG _ H fin=>kH H (Pt (decide_eq_true c1) rfl fun _ H=>fin H iJ rfl)
     exact Op1 13 186 rfl rfl fun _ _ _ _ hG _ H fin=>kH H (Ra rfl fun _ H=>fin H iJ rfl)
    clear H;intro a w G hGm49 H hv;obtain ⟨u172,hu172,hp172⟩:=hv 14 172 (by decide) rfl;obtain rfl:u172=.bool (Op.bytesLess x.name.toList y.name.toList):=hp172;have H:=H.addS hu172;clear hv;refine wl_nil ⟨rfl,?_⟩;refine K65 _ _ ?_;clear K65;refine c_cond H rfl ?_ ?_
    ·intro h172
     try have p172:=dT h172
     refine c_seq (fun _ K66=>?_)
     have e:chkStg s=6:=by
      have h1:vaE s.vars n=6:=by rw [hvek,vaE0,firstE_z z13,firstE_z z7,decide_eq_true c0,Bool.true_and,h172];rfl
      have h2:chkVas s.vars=6:=by rw [hVa,all_stop hn2 hne (by rw [h1];decide),h1]
      rw [stg4 e0 hLi0 hCm0,h2]
     refine kP H (SC (Ra rfl (Kn K66 ?_)));clear H K66;intro a H;refine lr H Tryz.results18 rfl ?_;exact H.hp.ret (congrArg vi e.symm)
    intro h172
    try have p172:=dF h172
    refine c_skip ?_;refine ⟨_,by exact (H).sub ⟨rfl,rfl,rfl,trivial⟩,?_⟩;exact ⟨z13,z7,by first|(rw [decide_eq_true c0,Bool.true_and,h172];rfl)|(rw [decide_eq_false c0,Bool.false_and];rfl),fun b o h=>hGm49 b o (hGm47 b o h)⟩
   skip;refine c_drawI (hmx) [[],[0],[0,1],[0,1,2],[0,1,2,3],[0,1,2],[0,1,2,5],[0,1,2],[0,1,2,7],[0,1,2,5,6,7,8],[0,1,2,5,6,7,8,9],[0,1,2,5,6,7,8,9,10],(List.range 12),(List.range 13),(List.range 14)] [] (by kernel_rfl) (by kernel_rfl) (fun (ix_:Nat) (v:Value) (G:GH)=>match ix_ with|0=>v=vi n|1=>v=.bool (decide (0 < (n:Int)))|2=>v=.bool (decide (0 < (n:Int)))|3=>v=undef|4=>v=undef|5=>v=undef|6=>v=undef|7=>v=undef|8=>v=undef|9=>v=undef|10=>v=undef|11=>v=undef|12=>v=undef|13=>v=.bool false|14=>v=.bool false|_=>True) (fun _ _ _ _ _ h=>h) H ?_ ?_
   ·clear H;refine al4 ?_ ?_ ?_ ?_ (al4 ?_ ?_ ?_ ?_ (al4 ?_ ?_ ?_ ?_ (allI_cons ?_ (allI_cons ?_ (allI_cons ?_ allI_nil)))))
    ·exact Z0 rfl rfl fun _ _ _ _ _=>Rm rfl
    ·exact Z1 0 158 rfl rfl fun _ _ _ _ _=>Rc rfl
    ·exact Z1 1 159 rfl rfl fun _ _ _ _ _=>Rm rfl
    ·exact skI 2 (decide_eq_false c0) rfl rfl
    ·exact skI 2 (decide_eq_false c0) rfl rfl
    ·exact skI 2 (decide_eq_false c0) rfl rfl
    ·exact skI 2 (decide_eq_false c0) rfl rfl
    ·exact skI 2 (decide_eq_false c0) rfl rfl
    ·exact skI 2 (decide_eq_false c0) rfl rfl
    ·exact skI 2 (decide_eq_false c0) rfl rfl
    ·exact skI 2 (decide_eq_false c0) rfl rfl
    ·exact skI 2 (decide_eq_false c0) rfl rfl
    ·exact skI 2 (decide_eq_false c0) rfl rfl
    ·exact Op2 2 160 12 170 rfl rfl fun _ _ _ _ hG _ H fin=>kH H (Pf (decide_eq_false c0) rfl fun _ H=>fin H iJ rfl)
    exact Op1 13 171 rfl rfl fun _ _ _ _ hG _ H fin=>kH H (Ra rfl fun _ H=>fin H iJ rfl)
   clear H;intro a w G hGm47 H hv;obtain ⟨u157,hu157,hp157⟩:=hv 14 157 (by decide) rfl;obtain rfl:u157=.bool false:=hp157;have H:=H.addS hu157;clear hv;refine wl_nil ⟨rfl,?_⟩;refine K63 _ _ ?_;clear K63;refine c_cond_f H rfl rfl ?_;refine c_seq (fun _ K67=>?_)
   have z7:whenE (decide (0 < (n:Int)) && (x.name.toList == y.name.toList)) 7=0:=by first|(rw [decide_eq_true c0,Bool.true_and,h157];rfl)|(rw [decide_eq_false c0,Bool.false_and];rfl)
   have c1:¬ (0 < (n:Int)):=c0;refine c_drawI (hmx) [[],[0],[0,1],[0,1,2],[0,1,2,3],[0,1,2],[0,1,2,5],[0,1,2],[0,1,2,7],[0,1,2,5,6,7,8],[0,1,2,5,6,7,8,9],[0,1,2,5,6,7,8,9,10],(List.range 12),(List.range 13),(List.range 14)] [] (by kernel_rfl) (by kernel_rfl) (fun (ix_:Nat) (v:Value) (G:GH)=>match ix_ with|0=>v=vi n|1=>v=.bool (decide (0 < (n:Int)))|2=>v=.bool (decide (0 < (n:Int)))|3=>v=undef|4=>v=undef|5=>v=undef|6=>v=undef|7=>v=undef|8=>v=undef|9=>v=undef|10=>v=undef|11=>v=undef|12=>v=undef|13=>v=.bool false|14=>v=.bool false|_=>True) (fun _ _ _ _ _ h=>h) H ?_ ?_
   ·clear H;refine al4 ?_ ?_ ?_ ?_ (al4 ?_ ?_ ?_ ?_ (al4 ?_ ?_ ?_ ?_ (allI_cons ?_ (allI_cons ?_ (allI_cons ?_ allI_nil)))))
    ·exact Z0 rfl rfl fun _ _ _ _ _=>Rm rfl
    ·exact Z1 0 173 rfl rfl fun _ _ _ _ _=>Rc rfl
    ·exact Z1 1 174 rfl rfl fun _ _ _ _ _=>Rm rfl
    ·exact skI 2 (decide_eq_false c1) rfl rfl
    ·exact skI 2 (decide_eq_false c1) rfl rfl
    ·exact skI 2 (decide_eq_false c1) rfl rfl
    ·exact skI 2 (decide_eq_false c1) rfl rfl
    ·exact skI 2 (decide_eq_false c1) rfl rfl
    ·exact skI 2 (decide_eq_false c1) rfl rfl
    ·exact skI 2 (decide_eq_false c1) rfl rfl
    ·exact skI 2 (decide_eq_false c1) rfl rfl
    ·exact skI 2 (decide_eq_false c1) rfl rfl
    ·exact skI 2 (decide_eq_false c1) rfl rfl
    ·exact Op2 2 175 12 185 rfl rfl fun _ _ _ _ hG _ H fin=>kH H (Pf (decide_eq_false c1) rfl fun _ H=>fin H iJ rfl)
    exact Op1 13 186 rfl rfl fun _ _ _ _ hG _ H fin=>kH H (Ra rfl fun _ H=>fin H iJ rfl)
   clear H;intro a w G hGm49 H hv;obtain ⟨u172,hu172,hp172⟩:=hv 14 172 (by decide) rfl;obtain rfl:u172=.bool false:=hp172;have H:=H.addS hu172;clear hv;refine wl_nil ⟨rfl,?_⟩;refine K67 _ _ ?_;clear K67;refine c_cond_f H rfl rfl ?_;refine c_skip ?_;refine ⟨_,by exact (H).sub ⟨rfl,rfl,rfl,trivial⟩,?_⟩;exact ⟨z13,z7,by first|(rw [decide_eq_true c0,Bool.true_and,h172];rfl)|(rw [decide_eq_false c0,Bool.false_and];rfl),fun b o h=>hGm49 b o (hGm47 b o h)⟩
  clear H;intro gh a w hI H;obtain ⟨g5,hgh⟩:∃ x,x=gh:=⟨_,rfl⟩;subst hgh;obtain ⟨z13,z7,z6,hgm5⟩:=hI;dsimp only [List.cons_append,List.nil_append,List.append_nil] at H;refine kP H (SR fun _ K68=>Rf fd109_1dsv rfl (Ro ty9run 0 rfl rfl ?_));clear H;intro a H;refine s_call en59mst H wn rfl (text13_spec _ _ H.hp.ro x.value hte.2) rfl ?_;clear H;rintro v189 _ a w ⟨rfl,rfl⟩ - H;refine kH H (Ra rfl (Kz K68 (SR fun _ K69=>Rm rfl (Rc rfl (Kz K69 ?_)))));clear H K68 K69;intro a H;refine c_cond H rfl ?_ ?_
  ·intro h191
   try have p191:=dT h191
   refine c_seq (fun _ K70=>?_)
   have e:chkStg s=txE x.value:=by
    have h1:vaE s.vars n=txE x.value:=by rw [hvek,vaE0,firstE_z z13,firstE_z z7,firstE_z z6,firstE_ne p191]
    have h2:chkVas s.vars=txE x.value:=by rw [hVa,all_stop hn2 hne (by rw [h1];exact p191),h1]
    rw [stg4 e0 hLi0 hCm0,h2]
   refine kP H (SC (Rm rfl (Ra rfl (Kn K70 ?_))));clear H K70;intro a H;refine lr H Tryz.results18 rfl ?_;exact H.hp.ret (congrArg vi e.symm)
  intro h191
  try have p191:=dF h191
  refine kP H (Kc K59 (SC (Rm rfl (Rd rfl (Ra rfl ?_)))));clear H K59;intro a H;refine wl_nil ?_;refine loop_end ((n+1,g5)) (by exact (H.pickT (Pl:=[_]) (Pl':=[]) [] (by decide) rfl).sub ⟨rfl,rfl,trivial⟩) ?_ ?_
  ·(try dsimp only);exact ⟨by omega,all_next hn2 hne (by rw [hvek,vaE0,firstE_z z13,firstE_z z7,firstE_z z6,firstE_z (Decidable.not_not.1 p191)];rfl),fun b o h=>hgm5 b o (hgm4 b o h)⟩
  first|omega|(dsimp only;omega)
 intro h144
 try have p144:=dF h144
 refine c_exit ?_;refine K55 _ _ ?_;clear K55;refine c_seq (fun _ K71=>?_)
 have e:chkStg s=0:=by rw [stg4 e0 hLi0 hCm0,hVa,all_done (by omega) hne]
 refine kP H (SC (Ra rfl (Kn K71 ?_)));clear H K71;intro a H;refine lr H Tryz.results18 rfl ?_;exact H.hp.ret (congrArg vi e.symm)
end
section
open Go.RowKit
/-- The entries of a map that was filled in an order. -/
def mapK:Nat→List (Int × Value)→List MapEntry
 | _,[]=>[]
 | i,(k,v) :: r=>⟨.int .i64 k,v,i⟩ :: mapK (i+1) r
theorem mapK_snoc (x:Int × Value):∀ (i:Nat) (l:List (Int × Value)),mapK i (l++[x])=mapK i l++[⟨.int .i64 x.1,x.2,i+l.length⟩]
 | _,[]=>rfl
 | i,k :: r=>by
  rw [List.cons_append,mapK,mapK_snoc x (i+1) r,mapK,List.cons_append,List.length_cons,show i+1+r.length=i+(r.length+1) by omega]
def lkK (x:Int):List (Int × Value)→Option Value
 | []=>none
 | (k,v) :: r=>if k=x then some v else lkK x r
theorem lkK_none {x:Int}:∀ {l:List (Int × Value)},x∉l.map (·.1)→lkK x l=none
 | [],_=>rfl
 | (k,v) :: r,h=>by
  rw [lkK,if_neg (fun e=>h (by simp [e])),lkK_none (fun hm=>h (List.mem_cons_of_mem _ hm))]
theorem findNow_mapK (x:Int):∀ (i j:Nat) (l:List (Int × Value)),∃ an,Instr.findNow (.int .i64) (.int .i64 x) (mapK i l) j=some an∧an.map (·.2)=lkK x l
 | _,_,[]=>⟨none,rfl,rfl⟩
 | i,j,(k,v) :: r=>by
  obtain ⟨an,h1,h2⟩:=findNow_mapK x (i+1) (j+1) r
  by_cases e:k=x
  ·subst e
   exact ⟨some (j,v),by simp only [mapK,Instr.findNow,Instr.sameNow,if_pos,beq_self_eq_true],by rw [lkK,if_pos rfl];rfl⟩
  ·have hb:(x == k)=false:=by simp;exact fun h=>e h.symm
   exact ⟨an,by simpa only [mapK,Instr.findNow,Instr.sameNow,if_pos,hb] using h1,by rw [lkK,if_neg e];exact h2⟩
abbrev mpK (l:List (Int × Value)):Obj:=.map (mapK 0 l).toArray l.length
section
variable {N:Nat} {D:List Deferred} {w0:World} {F:Nat→Prop} {G0 G:GH} {L:OL} {T:List (Nat × Value)}
variable {r:Option Nat} {P:Program} {ops:Array Oper} {Q:Exit→Act→World→Prop} {rest:List Oper} {a:Act} {w:World}
variable {d:Nat} {ty:TypeId} {pos:String} {aft:Array Edge} {g:Option (Nat × Bool)}
theorem s_lookupK {t kt et:TypeId} {x y:Operand} {b:Nat} {l:List (Int × Value)} {ky:Int} {zv:Value} (hm:P.underlying t=some (.map kt et)) (hk:P.underlying kt=some (.int .i64)) (hz:(P.info? et).map (fun i=>i.zero)=some (some zv)) (H:St N D w0 F G0 G L T a w)
  (hw:Region.wanted ⟨some d,.lookup t x y false,ty,pos,aft,g⟩ (yielded ops a.tmps)=true) (hx:ev T x=some (.map (some b))) (hy:ev T y=some (.int .i64 ky)) (hb:w.heap[b]?=some (mpK l)) (hd:Nat.blt d N=true)
  (k:∀ a',St N D w0 F G0 G L ((d,(lkK ky l).getD zv) :: T) a' w→WL r P ops Q rest a' w):WL r P ops Q (⟨some d,.lookup t x y false,ty,pos,aft,g⟩ :: rest) a w:=by
 obtain ⟨an,hf,han⟩:=findNow_mapK ky 0 0 l
 obtain ⟨inf,hi1,hi2⟩:=Option.map_eq_some_iff.1 hz
 refine wl_value (v:=(lkK ky l).getD zv) (w':=w) hw rfl ?_ (k _ (H.put hd _ H.hp))
 have hkey:MapKept.IsKey (.int .i64) (.int .i64 ky):=by trivial
 have hf2:Instr.findNow (.int .i64) (.int .i64 ky) (mapK 0 l).toArray.toList 0=some an:=by simpa using hf
 replace hb:w.heap[b]?=some (.map (mapK 0 l).toArray l.length):=hb
 generalize (mapK 0 l).toArray=es at hb hf2
 have h1:=MapKept.run_checkKey (P:=P) (w:=w) hk hkey es.isEmpty 9999
 have h2:=MapKept.run_findKey (P:=P) (w:=w) hk hf2
 rw [← han]
 cases an with
 | none=>simp [execOp,Instr.lookup,H.ev hx,H.ev hy,Sem.run_bind,run_und hm,MapKept.run_getObj_map hb,h1,h2,Result.andThen,zeroValue,run_info hi1,hi2]
 | some q=>simp [execOp,Instr.lookup,H.ev hx,H.ev hy,Sem.run_bind,run_und hm,MapKept.run_getObj_map hb,h1,h2,Result.andThen]
/-- A key that is not there yet. -/
theorem s_putK {t kt et:TypeId} {x y z:Operand} {b i:Nat} {l:List (Int × Value)} {ky:Int} {v:Value} (hm:P.underlying t=some (.map kt et)) (hk:P.underlying kt=some (.int .i64)) (H:St N D w0 F G0 G L T a w)
  (hw:Region.wanted ⟨none,.mapUpdate t x y z,ty,pos,aft,g⟩ (yielded ops a.tmps)=true) (hx:ev T x=some (.map (some b))) (hy:ev T y=some (.int .i64 ky)) (hzv:ev T z=some v) (hi:L[i]?=some (b,mpK l)) (hn:lkK ky l=none)
  (k:∀ w',St N D w0 F G0 G (L.set i (b,mpK (l++[(ky,v)]))) T a w'→WL r P ops Q rest a w'):WL r P ops Q (⟨none,.mapUpdate t x y z,ty,pos,aft,g⟩ :: rest) a w:=by
 obtain ⟨an,hf,han⟩:=findNow_mapK ky 0 0 l
 have hnone:an=none:=by
  rw [hn] at han
  cases an with
  | none=>rfl
  | some q=>cases han
 subst hnone
 refine s_mapNew (i:=i) hm hk H hw hx hy hzv hi (by trivial) (by simpa using hf) ?_
 intro w' H'
 have e:(mapK 0 l).toArray.push ⟨.int .i64 ky,v,l.length⟩=(mapK 0 (l++[(ky,v)])).toArray:=by
  rw [mapK_snoc,List.push_toArray,Nat.zero_add]
 refine k w' ?_
 rw [e] at H'
 rw [mpK,List.length_append]
 exact H'
end
end
section
open Go.RowKit
theorem un138nck:Tryz.prog.underlying 138=some (.map 3 4):=by kernel_rfl
theorem ty65nck:Ty Tryz.prog 65 3 32 [.int .i64 0,.string ⟨#[]⟩,.int .i64 0] true:=⟨by kernel_rfl,by kernel_rfl⟩
theorem sr140nck:Srt Tryz.prog 140 [(0,1),(1,1),(2,1),(3,1),(4,1),(5,1)] [.map none,.map none,.map none,.map none,.map none,.int .i64 0]:=⟨by kernel_rfl,by kernel_rfl⟩
theorem fd50_3nck:Fld Tryz.prog 50 3 7:=⟨by kernel_rfl⟩
theorem fd140_0nck:Fld Tryz.prog 140 0 0:=⟨by kernel_rfl⟩
theorem ty137nck:Ty Tryz.prog 137 1 8 [.map none] false:=⟨by kernel_rfl,by kernel_rfl⟩
theorem fd140_1nck:Fld Tryz.prog 140 1 1:=⟨by kernel_rfl⟩
theorem ty138nck:Ty Tryz.prog 138 1 8 [.map none] false:=⟨by kernel_rfl,by kernel_rfl⟩
theorem fd50_2nck:Fld Tryz.prog 50 2 6:=⟨by kernel_rfl⟩
theorem ty48nck:Ty Tryz.prog 48 1 24 [.slice none 0 0] false:=⟨by kernel_rfl,by kernel_rfl⟩
theorem un48nck:Tryz.prog.underlying 48=some (.slice 65):=by kernel_rfl
theorem fd140_2nck:Fld Tryz.prog 140 2 2:=⟨by kernel_rfl⟩
theorem fd65_0nck:Fld Tryz.prog 65 0 0:=⟨by kernel_rfl⟩
structure RvD where
 id:Int
 author:ByteArray
 time:Int
def RvD.dat (x:RvD):List Dat:=[li x.id,.lf (.string x.author),li x.time]
abbrev RvD.cells (x:RvD):List Value:=[vi x.id,.string x.author,vi x.time]
theorem rv_of {G:GH} {x:RvD} {cs:List Value} (h:RepRow G x.dat cs):cs=x.cells:=by
 simp only [RvD.dat,RepRow,RepV] at h
 obtain ⟨_,_,rfl,⟨rfl,_⟩,_,_,rfl,⟨rfl,_⟩,_,_,rfl,⟨rfl,_⟩,rfl⟩:=h
 rfl
theorem rv_at {G:GH} {l:List RvD} {A:Option Addr} {n c k:Nat} (hv:RepV G (.sl 3 (l.map RvD.dat)) (.slice A n c)) (hk:k < l.length):∃ b o,A=some ⟨b,o,none⟩∧(∀ j u,l[k].cells[j]?=some u→gcell G b (o+k*3+j)=some u):=by
 obtain ⟨A',c',he,_,_,hg⟩:=hv.slice
 injection he with e1 e2 e3
 subst e1;obtain ⟨b,o,cs,h1,h2,h3,h4⟩:=hg k l[k].dat (by simp [hk]);have:=rv_of h4;subst this;exact ⟨b,o,h1,h3⟩
/-- A checker's block. -/
abbrev ckB (b ms ml mr mb mu:Nat) (n:Int):Nat × Obj:=(b,.cells #[.map (some ms),.map (some ml),.map (some mr),.map (some mb),.map (some mu),vi n] 140 (0,0))
def mSty (l:List StyleD):List (Int × Value):=l.map fun s=>(s.id,vi s.kind)
def mSet (l:List Int):List (Int × Value):=l.map fun k=>(k,.bool true)
/-- What a checker holds of a document's tables. -/
structure CkG (G:GH) (st:List StyleD) (li:List LiD) (rv:List RvD) (ms ml mr mu:Nat):Prop where
 sty:G ms=some (mpK (mSty st))
 lis:G ml=some (mpK (mSet (li.map LiD.id)))
 rev:G mr=some (mpK (mSet (rv.map RvD.id)))
 use:G mu=some (mpK [])
theorem CkG.mono {G G':GH} {st:List StyleD} {li:List LiD} {rv:List RvD} {ms ml mr mu:Nat} (h:CkG G st li rv ms ml mr mu) (hm:∀ b o,G b=some o→G' b=some o):CkG G' st li rv ms ml mr mu:=⟨hm _ _ h.sty,hm _ _ h.lis,hm _ _ h.rev,hm _ _ h.use⟩
def Fresh (l:List Int):Prop:=∀ (k:Nat) (h:k < l.length),l[k]∉l.take k
theorem mSty_snoc {l:List StyleD} {k:Nat} (h:k < l.length):mSty (l.take (k+1))=mSty (l.take k)++[(l[k].id,vi l[k].kind)]:=by rw [mSty,List.take_succ_eq_append_getElem h,List.map_append];rfl
theorem mSet_snoc {l:List Int} {k:Nat} (h:k < l.length):mSet (l.take (k+1))=mSet (l.take k)++[(l[k],.bool true)]:=by rw [mSet,List.take_succ_eq_append_getElem h,List.map_append];rfl
theorem mSty_new {l:List StyleD} {k:Nat} (f:Fresh (l.map StyleD.id)) (h:k < l.length):lkK l[k].id (mSty (l.take k))=none:=by
 refine lkK_none ?_;have:=f k (by simpa using h)
 simpa [mSty,List.map_take,List.map_map,Function.comp_def] using this
theorem mSet_new {l:List Int} {k:Nat} (f:Fresh l) (h:k < l.length):lkK l[k] (mSet (l.take k))=none:=by
 refine lkK_none ?_;have:=f k h
 simpa [mSet,List.map_map,Function.comp_def] using this
theorem newChecker_spec (G:GH) (w0:World) (hO:Owns G [] w0) (D:DocV) (st:List StyleD) (li:List LiD) (rv:List RvD) (hst:RepV G (.sl 6 (st.map StyleD.dat)) (sl3 D.s1)) (hli:RepV G (.sl 2 (li.map LiD.dat)) (sl3 D.s2)) (hrv:RepV G (.sl 3 (rv.map RvD.dat)) (sl3 D.r))
  (f1:Fresh (st.map StyleD.id)) (f2:Fresh (li.map LiD.id)) (f3:Fresh (rv.map RvD.id)) (z1:st.length≤4294967296) (z2:li.length≤4294967296) (z3:rv.length≤4294967296) :
  Calls Tryz.prog 63 #[D.val] w0 (RetL w0 G [] fun u G' L'=>∃ b ms ml mr mb mu,u=.pointer (some ⟨b,0,none⟩)∧L'=[ckB b ms ml mr mb mu 0,(mb,mpK [])]∧CkG G' st li rv ms ml mr mu):=by
 obtain ⟨df,dp,dd,dy,⟨rA,rn,rc⟩,⟨sA,sn,sc⟩,⟨lA,ln,lc⟩,d3,d4,ins,mv⟩:=D;dsimp only at hst hli hrv
 obtain rfl:sn=st.length:=by have:=hst.len;simpa using this
 obtain rfl:ln=li.length:=by have:=hli.len;simpa using this
 obtain rfl:rn=rv.length:=by have:=hrv.len;simpa using this
 have hml:maxLen=9223372036854775807:=rfl;refine enterL (N:=64) (T:=[(0,_)]) Tryz.func63 rfl Tryz.ntmps63 rfl rfl hO ?_;intro a H;refine c_seqR (fun _ K1=>?_);refine s_box (cs:=[_,_,_,_,_,_,_,_,_,_,_]) H wn rfl rfl rfl ?_;clear H;intro b1 a w hb1 H;refine kH H (Ra rfl (Kz K1 (SQ fun _ K2=>?_)));clear H K1;intro a H;obtain ⟨Ga,hma,hb1',H⟩:=H.giveBox
 have hc7:gcell Ga b1 7=some (.slice sA st.length sc):=by unfold gcell;rw [hb1'];rfl
 have hc8:gcell Ga b1 8=some (.slice lA li.length lc):=by unfold gcell;rw [hb1'];rfl
 have hc6:gcell Ga b1 6=some (.slice rA rv.length rc):=by unfold gcell;rw [hb1'];rfl
 replace hst:=hst.mono hma;replace hli:=hli.mono hma;replace hrv:=hrv.mono hma;refine c_region ?_;refine s_makeMap H wn rfl ?_;clear H;intro b10 a w hb10 H;refine s_makeMap H wn rfl ?_;clear H;intro b11 a w hb11 H;refine s_makeMap H wn rfl ?_;clear H;intro b12 a w hb12 H;refine s_makeMap H wn rfl ?_;clear H;intro b13 a w hb13 H;refine s_makeMap H wn rfl ?_;clear H;intro b14 a w hb14 H;refine s_build sr140nck [_,_,_,_,_,_] H wn rfl rfl rfl rfl ?_;clear H;intro a H;refine s_box (cs:=[_,_,_,_,_,_]) H wn rfl rfl rfl ?_;clear H;intro b16 a w hb16 H;refine kH H (Ra rfl (Kn K2 (SQ fun _ K3=>SR fun _ K4=>Rf fd50_3nck rfl (Rf fd46_0dsv rfl (Rg ty41chn rfl (by assumption) ?_)))));clear H K2;intro a H;refine kH H (Rl un41sty rfl (Rm rfl (Kz K4 (SB ?_))));clear H K4;intro a H;skip;refine c_loopS (ι:=Nat × GH) (Tc:=[(1,_),(3,_),(19,_),(20,_)]) (Lc:=[(_,_),(_,_),(_,_),(_,_),(_,_)]) (fun (gh:Nat × GH)=>[(21,vi gh.1)]) (fun (gh:Nat × GH)=>[(b10,mpK (mSty (st.take gh.1)))]) (fun (gh:Nat × GH)=>gh.2) (fun (gh:Nat × GH)=>gh.1≤st.length∧(∀ b o,Ga b=some o→gh.2 b=some o)) (fun (gh:Nat × GH)=>st.length - gh.1) ((0,Ga)) (by exact (H).sub ⟨rfl,rfl,rfl,rfl,rfl,trivial⟩) ?_ ?_
 ·exact ⟨Nat.zero_le _,fun _ _ h=>h⟩
 clear H;intro gh a w hI H;obtain ⟨k,g1⟩:=gh;dsimp only at hI H;obtain ⟨hk,hmg1⟩:=hI;dsimp only [List.cons_append,List.nil_append,List.append_nil] at H;refine kP H (SR fun _ K5=>Rc rfl (Kz K5 (SQ fun _ K6=>?_)));clear H K5;intro a H;refine c_cond H rfl ?_ ?_
 ·intro h22
  try have p22:=dT h22
  have hk2:k < st.length:=by omega
  obtain ⟨xb,xo,pA,pc,rfl,hrow,-,-⟩:=style_at (hst.mono hmg1) hk2;have hnew:=mSty_new f1 hk2;refine kP H (Kc K6 (SQ fun _ K7=>SB (SR fun _ K8=>Ri un41sty ty100sty rfl rfl ?_)));clear H K6;intro a H;refine s_loada ty100sty (cs:=_) H wn rfl rfl (fun j v hj=>H.hp.gcell (hrow j v hj)) rfl ?_;clear H;intro a H;refine s_alloc ty100sty H wn rfl ?_;clear H;intro b5 a w hb5 H;refine s_store ty100sty 0 (vs:=[_,_,_,_,_,_]) _ H wn rfl rfl rfl rfl rfl rfl rfl rfl ?_;clear H;intro w H;dsimp only [List.set,setRow] at H;refine K8 _ _ ?_;clear K8;refine c_drawI (hmx) [[],[0],[0,1],[0,1,2],[],[4],[],[6],(List.range 8)] [8] (by kernel_rfl) (by kernel_rfl) (fun (ix_:Nat) (v:Value) (G:GH)=>match ix_ with|0=>v=.pointer (some ⟨b16,0,none⟩)|1=>v=.pointer (some ⟨b16,0,none⟩)|2=>v=.pointer (some ⟨b16,0,none⟩)|3=>v=.map (some b10)|4=>v=.pointer (some ⟨b5,0,none⟩)|5=>v=vi st[k].id|6=>v=.pointer (some ⟨b5,1,none⟩)|7=>v=vi st[k].kind|_=>True) (fun _ _ _ _ _ h=>h) H ?_ ?_
  ·clear H;refine al4 ?_ ?_ ?_ ?_ (al4 ?_ ?_ ?_ ?_ (allI_cons ?_ allI_nil))
   ·exact Z0 rfl rfl fun _ _ _ _ _=>Rm rfl
   ·exact Z1 0 25 rfl rfl fun _ _ _ _ _=>Rk rfl
   ·exact Z1 1 26 rfl rfl fun _ _ _ _ _=>Rf fd140_0nck rfl
   ·exact Z1 2 27 rfl rfl fun _ _ _ _ _=>Ro ty137nck 1 rfl rfl
   ·exact Z0 rfl rfl fun _ _ _ _ _=>Rf fd100_0sty rfl
   ·exact Z1 4 29 rfl rfl fun _ _ _ _ _=>Ro ty3run 0 rfl rfl
   ·exact Z0 rfl rfl fun _ _ _ _ _=>Rf fd100_1sty rfl
   ·exact Z1 6 31 rfl rfl fun _ _ _ _ _=>Ro ty3run 0 rfl rfl
   exact opB rfl
  clear H;intro a w G hGm5 H hv;obtain ⟨u28,hu28,hp28⟩:=hv 3 28 (by decide) rfl;obtain rfl:u28=.map (some b10):=hp28;have H:=H.addS hu28;obtain ⟨u30,hu30,hp30⟩:=hv 5 30 (by decide) rfl;obtain rfl:u30=vi st[k].id:=hp30;have H:=H.addS hu30;obtain ⟨u32,hu32,hp32⟩:=hv 7 32 (by decide) rfl;obtain rfl:u32=vi st[k].kind:=hp32;have H:=H.addS hu32;clear hv;refine s_putK (i:=6) un137chn un3cp H wn rfl rfl rfl rfl hnew ?_;clear H;intro w H;dsimp only [List.set,List.append,List.cons_append,List.nil_append] at H;rw [← mSty_snoc hk2] at H;refine wl_nil ⟨rfl,?_⟩;refine K7 _ _ ?_;clear K7;refine kP H (SC (Rd rfl (Rm rfl ?_)));clear H;intro a H;refine wl_nil ?_;refine loop_end ((k+1,G)) (by exact (H.pickT (Pl:=[_,_,_,_,_,_,_]) (Pl':=[_,_,_,_,_,_]) [1,2,3,4,5,6] (by decide) rfl).sub ⟨rfl,rfl,rfl,rfl,rfl,trivial⟩) ?_ ?_
  ·(try dsimp only);exact ⟨by omega,fun b o h=>hGm5 b o (hmg1 b o h)⟩
  first|omega|(dsimp only;omega)
 intro h22
 try have p22:=dF h22
 obtain rfl:k=st.length:=by omega
 rw [List.take_length] at H;have hc8g:=gcell_mono hmg1 hc8;refine c_exit ?_;refine K3 _ _ ?_;clear K3;refine kP H (SQ fun _ K9=>SR fun _ K10=>Rf fd50_3nck rfl (Rf fd46_1dsv rfl (Rg ty42dst rfl (by assumption) ?_)));clear H;intro a H;refine kH H (Rl un42dst rfl (Rm rfl (Kz K10 (SB ?_))));clear H K10;intro a H;skip;refine c_loopS (ι:=Nat × GH) (Tc:=[(1,_),(3,_),(36,_),(37,_)]) (Lc:=[(_,_),(_,_),(_,_),(_,_),(_,_)]) (fun (gh:Nat × GH)=>[(38,vi gh.1)]) (fun (gh:Nat × GH)=>[(b11,mpK (mSet ((li.map LiD.id).take gh.1)))]) (fun (gh:Nat × GH)=>gh.2) (fun (gh:Nat × GH)=>gh.1≤li.length∧(∀ b o,g1 b=some o→gh.2 b=some o)) (fun (gh:Nat × GH)=>li.length - gh.1) ((0,g1)) (by exact (H.pickT (Pl:=[_,_,_,_,_,_]) (Pl':=[_,_,_,_,_,_]) [0,1,2,3,5,4] (by decide) rfl).sub ⟨rfl,rfl,rfl,rfl,rfl,trivial⟩) ?_ ?_
 ·exact ⟨Nat.zero_le _,fun _ _ h=>h⟩
 clear H;intro gh a w hI H;obtain ⟨k,g2⟩:=gh;dsimp only at hI H;obtain ⟨hk,hmg2⟩:=hI;dsimp only [List.cons_append,List.nil_append,List.append_nil] at H;refine kP H (SR fun _ K11=>Rc rfl (Kz K11 (SQ fun _ K12=>?_)));clear H K11;intro a H;refine c_cond H rfl ?_ ?_
 ·intro h39
  try have p39:=dT h39
  have hk2:k < li.length:=by omega
  obtain ⟨xb,xo,B,d,rfl,hrow,-⟩:=li_at ((hli.mono hmg1).mono hmg2) hk2
  have hk3:k < (li.map LiD.id).length:=by simpa using hk2
  have hnew:=mSet_new f2 hk3
  have hgk:(li.map LiD.id)[k]=li[k].id:=by simp
  rw [hgk] at hnew;refine kP H (Kc K12 (SQ fun _ K13=>SB (SR fun _ K14=>Ri un42dst ty105dst rfl rfl ?_)));clear H K12;intro a H;refine s_loada ty105dst (cs:=_) H wn rfl rfl (fun j v hj=>H.hp.gcell (hrow j v hj)) rfl ?_;clear H;intro a H;refine s_alloc ty105dst H wn rfl ?_;clear H;intro b7 a w hb7 H;refine s_store ty105dst 0 (vs:=[_,_]) _ H wn rfl rfl rfl rfl rfl rfl rfl rfl ?_;clear H;intro w H;dsimp only [List.set,setRow] at H;refine K14 _ _ ?_;clear K14;refine c_drawI (hmx) [[],[0],[0,1],[0,1,2],[],[4],[0,1,2,3,4,5]] [6] (by kernel_rfl) (by kernel_rfl) (fun (ix_:Nat) (v:Value) (G:GH)=>match ix_ with|0=>v=.pointer (some ⟨b16,0,none⟩)|1=>v=.pointer (some ⟨b16,0,none⟩)|2=>v=.pointer (some ⟨b16,1,none⟩)|3=>v=.map (some b11)|4=>v=.pointer (some ⟨b7,0,none⟩)|5=>v=vi li[k].id|_=>True) (fun _ _ _ _ _ h=>h) H ?_ ?_
  ·clear H;refine al4 ?_ ?_ ?_ ?_ (allI_cons ?_ (allI_cons ?_ (allI_cons ?_ allI_nil)))
   ·exact Z0 rfl rfl fun _ _ _ _ _=>Rm rfl
   ·exact Z1 0 42 rfl rfl fun _ _ _ _ _=>Rk rfl
   ·exact Z1 1 43 rfl rfl fun _ _ _ _ _=>Rf fd140_1nck rfl
   ·exact Z1 2 44 rfl rfl fun _ _ _ _ _=>Ro ty138nck 1 rfl rfl
   ·exact Z0 rfl rfl fun _ _ _ _ _=>Rf fd105_0dst rfl
   ·exact Z1 4 46 rfl rfl fun _ _ _ _ _=>Ro ty3run 0 rfl rfl
   exact opB rfl
  clear H;intro a w G hGm10 H hv;obtain ⟨u45,hu45,hp45⟩:=hv 3 45 (by decide) rfl;obtain rfl:u45=.map (some b11):=hp45;have H:=H.addS hu45;obtain ⟨u47,hu47,hp47⟩:=hv 5 47 (by decide) rfl;obtain rfl:u47=vi li[k].id:=hp47;have H:=H.addS hu47;clear hv;refine s_putK (i:=6) un138nck un3cp H wn rfl rfl rfl rfl hnew ?_;clear H;intro w H;dsimp only [List.set,List.append,List.cons_append,List.nil_append] at H;rw [← hgk,← mSet_snoc hk3] at H;refine wl_nil ⟨rfl,?_⟩;refine K13 _ _ ?_;clear K13;refine kP H (SC (Rd rfl (Rm rfl ?_)));clear H;intro a H;refine wl_nil ?_;refine loop_end ((k+1,G)) (by exact (H.pickT (Pl:=[_,_,_,_,_,_,_]) (Pl':=[_,_,_,_,_,_]) [1,2,3,4,5,6] (by decide) rfl).sub ⟨rfl,rfl,rfl,rfl,rfl,trivial⟩) ?_ ?_
  ·(try dsimp only);exact ⟨by omega,fun b o h=>hGm10 b o (hmg2 b o h)⟩
  first|omega|(dsimp only;omega)
 intro h39
 try have p39:=dF h39
 obtain rfl:k=li.length:=by omega
 rw [List.take_of_length_le (by simp)] at H;have hc6g:=gcell_mono hmg2 (gcell_mono hmg1 hc6);refine c_exit ?_;refine K9 _ _ ?_;clear K9;refine kP H (SQ fun _ K15=>SR fun _ K16=>Rf fd50_2nck rfl (Rg ty48nck rfl (by assumption) ?_));clear H;intro a H;refine kH H (Rl un48nck rfl (Rm rfl (Kz K16 (SB ?_))));clear H K16;intro a H;skip;refine c_loopS (ι:=Nat × GH) (Tc:=[(3,_),(50,_),(51,_)]) (Lc:=[(_,_),(_,_),(_,_),(_,_),(_,_)]) (fun (gh:Nat × GH)=>[(52,vi gh.1)]) (fun (gh:Nat × GH)=>[(b12,mpK (mSet ((rv.map RvD.id).take gh.1)))]) (fun (gh:Nat × GH)=>gh.2) (fun (gh:Nat × GH)=>gh.1≤rv.length∧(∀ b o,g2 b=some o→gh.2 b=some o)) (fun (gh:Nat × GH)=>rv.length - gh.1) ((0,g2)) (by exact (H.pickT (Pl:=[_,_,_,_,_,_]) (Pl':=[_,_,_,_,_,_]) [0,1,2,4,5,3] (by decide) rfl).sub ⟨rfl,rfl,rfl,rfl,trivial⟩) ?_ ?_
 ·exact ⟨Nat.zero_le _,fun _ _ h=>h⟩
 clear H;intro gh a w hI H;obtain ⟨k,g3⟩:=gh;dsimp only at hI H;obtain ⟨hk,hmg3⟩:=hI;dsimp only [List.cons_append,List.nil_append,List.append_nil] at H;refine kP H (SR fun _ K17=>Rc rfl (Kz K17 (SQ fun _ K18=>?_)));clear H K17;intro a H;refine c_cond H rfl ?_ ?_
 ·intro h53
  try have p53:=dT h53
  have hk2:k < rv.length:=by omega
  obtain ⟨xb,xo,rfl,hrow⟩:=rv_at (((hrv.mono hmg1).mono hmg2).mono hmg3) hk2
  have hk3:k < (rv.map RvD.id).length:=by simpa using hk2
  have hnew:=mSet_new f3 hk3
  have hgk:(rv.map RvD.id)[k]=rv[k].id:=by simp
  rw [hgk] at hnew;refine kP H (Kc K18 (SQ fun _ K19=>SB (SR fun _ K20=>Ri un48nck ty65nck rfl rfl ?_)));clear H K18;intro a H;refine s_loada ty65nck (cs:=_) H wn rfl rfl (fun j v hj=>H.hp.gcell (hrow j v hj)) rfl ?_;clear H;intro a H;refine s_alloc ty65nck H wn rfl ?_;clear H;intro b9 a w hb9 H;refine s_store ty65nck 0 (vs:=[_,_,_]) _ H wn rfl rfl rfl rfl rfl rfl rfl rfl ?_;clear H;intro w H;dsimp only [List.set,setRow] at H;refine K20 _ _ ?_;clear K20;refine c_drawI (hmx) [[],[0],[0,1],[0,1,2],[],[4],[0,1,2,3,4,5]] [6] (by kernel_rfl) (by kernel_rfl) (fun (ix_:Nat) (v:Value) (G:GH)=>match ix_ with|0=>v=.pointer (some ⟨b16,0,none⟩)|1=>v=.pointer (some ⟨b16,0,none⟩)|2=>v=.pointer (some ⟨b16,2,none⟩)|3=>v=.map (some b12)|4=>v=.pointer (some ⟨b9,0,none⟩)|5=>v=vi rv[k].id|_=>True) (fun _ _ _ _ _ h=>h) H ?_ ?_
  ·clear H;refine al4 ?_ ?_ ?_ ?_ (allI_cons ?_ (allI_cons ?_ (allI_cons ?_ allI_nil)))
   ·exact Z0 rfl rfl fun _ _ _ _ _=>Rm rfl
   ·exact Z1 0 56 rfl rfl fun _ _ _ _ _=>Rk rfl
   ·exact Z1 1 57 rfl rfl fun _ _ _ _ _=>Rf fd140_2nck rfl
   ·exact Z1 2 58 rfl rfl fun _ _ _ _ _=>Ro ty138nck 1 rfl rfl
   ·exact Z0 rfl rfl fun _ _ _ _ _=>Rf fd65_0nck rfl
   ·exact Z1 4 60 rfl rfl fun _ _ _ _ _=>Ro ty3run 0 rfl rfl
   exact opB rfl
  clear H;intro a w G hGm15 H hv;obtain ⟨u59,hu59,hp59⟩:=hv 3 59 (by decide) rfl;obtain rfl:u59=.map (some b12):=hp59;have H:=H.addS hu59;obtain ⟨u61,hu61,hp61⟩:=hv 5 61 (by decide) rfl;obtain rfl:u61=vi rv[k].id:=hp61;have H:=H.addS hu61;clear hv;refine s_putK (i:=6) un138nck un3cp H wn rfl rfl rfl rfl hnew ?_;clear H;intro w H;dsimp only [List.set,List.append,List.cons_append,List.nil_append] at H;rw [← hgk,← mSet_snoc hk3] at H;refine wl_nil ⟨rfl,?_⟩;refine K19 _ _ ?_;clear K19;refine kP H (SC (Rd rfl (Rm rfl ?_)));clear H;intro a H;refine wl_nil ?_;refine loop_end ((k+1,G)) (by exact (H.pickT (Pl:=[_,_,_,_,_,_,_]) (Pl':=[_,_,_,_,_,_]) [1,2,3,4,5,6] (by decide) rfl).sub ⟨rfl,rfl,rfl,rfl,trivial⟩) ?_ ?_
  ·(try dsimp only);exact ⟨by omega,fun b o h=>hGm15 b o (hmg3 b o h)⟩
  first|omega|(dsimp only;omega)
 intro h53
 try have p53:=dF h53
 obtain rfl:k=rv.length:=by omega
 rw [List.take_of_length_le (by simp)] at H;refine c_exit ?_;refine K15 _ _ ?_;clear K15;refine kP H (SR fun _ K21=>Rm rfl (Ra rfl (Kz K21 ?_)));clear H K21;intro a H;refine c_ret ?_;have H:=H.pickT (Pl:=[_,_,_,_,_,_]) (Pl':=[_,_,_,_,_,_]) [3,4,5,1,0,2] (by decide) rfl;obtain ⟨Gs,hms,hs,H⟩:=H.giveBox;obtain ⟨Gl,hml2,hl,H⟩:=H.giveBox;obtain ⟨Gr,hmr,hr,H⟩:=H.giveBox;obtain ⟨Gu,hmu,hu,H⟩:=H.giveBox;refine lv H Tryz.results63 rfl ?_;exact H.hp.retL ⟨b16,b10,b11,b12,b13,b14,rfl,rfl,⟨hmu _ _ (hmr _ _ (hml2 _ _ hs)),hmu _ _ (hmr _ _ hl),hmu _ _ hr,hu⟩⟩
end
section
open Go.RowKit
theorem fd140_4cid:Fld Tryz.prog 140 4 4:=⟨by kernel_rfl⟩
theorem fd140_3cid:Fld Tryz.prog 140 3 3:=⟨by kernel_rfl⟩
theorem lk_set (x:Int):∀ l:List Int,(lkK x (mSet l)).getD (.bool false)=.bool (decide (x∈l))
 | []=>rfl
 | k :: r=>by
  have ih:=lk_set x r;rw [mSet,List.map_cons,lkK]
  by_cases e:k=x
  ·subst e;simp
  rw [if_neg e,show (r.map fun k=>(k,Value.bool true))=mSet r from rfl,ih]
  simp [show x≠k from fun h=>e h.symm]
def stK (st:List StyleD) (v:Int):Int:=((st.find? fun s=>decide (s.id=v)).map StyleD.kind).getD 0
theorem lk_sty (x:Int):∀ l:List StyleD,(lkK x (mSty l)).getD (vi 0)=vi (stK l x)
 | []=>rfl
 | s :: r=>by
  have ih:=lk_sty x r;rw [mSty,List.map_cons,lkK]
  by_cases e:s.id=x
  ·subst e;simp [stK]
  rw [if_neg e,show (r.map fun s=>(s.id,vi s.kind))=mSty r from rfl,ih]
  simp [stK,e]
/-- The error of an id behind others, and the ids with it. -/
def idE (bef:List Int) (x:Int):Int:=if ¬ (1≤x∧x≤1073741824) then 18 else if x∈bef then 7 else 0
def idB (bef:List Int) (x:Int):List Int:=if idE bef x=0 then bef++[x] else bef
theorem mSet_app (l:List Int) (x:Int):mSet (l++[x])=mSet l++[(x,.bool true)]:=by simp [mSet]
theorem ckId_spec (G:GH) (L:OL) (w0:World) (st:List StyleD) (li:List LiD) (rv:List RvD) (b ms ml mr mb mu:Nat) (n:Int) (bef:List Int) (x:Int) (hck:CkG G st li rv ms ml mr mu) (hO:Owns G (ckB b ms ml mr mb mu n :: (mb,mpK (mSet bef)) :: L) w0) :
  Calls Tryz.prog 198 #[.pointer (some ⟨b,0,none⟩),vi x] w0 (RetL w0 G (ckB b ms ml mr mb mu n :: (mb,mpK (mSet bef)) :: L) fun u G' L'=>u=vi (idE bef x)∧L'=ckB b ms ml mr mb mu n :: (mb,mpK (mSet (idB bef x))) :: L∧G=G'):=by
 refine enterL (N:=29) (T:=[(0,_),(1,_)]) Tryz.func198 rfl Tryz.ntmps198 rfl rfl hO ?_;intro a H;refine kP H (SR fun _ K1=>Ra rfl (Kz K1 (SQ fun _ K2=>SB (SR fun _ K3=>Rm rfl ?_))));clear H K1;intro a H;refine s_call en128fst H wn rfl (in_spec _ _ H.hp.ro x 1 1073741824) rfl ?_;clear H;rintro v7 _ a w ⟨rfl,rfl⟩ - H;refine kH H (Rn rfl (Rm rfl ?_));clear H;intro a H;refine s_split H 9 rfl ?_ ?_
 ·intro h9
  try have p9:=dT h9
  refine kH H (Ks h9 rfl (Ks h9 rfl (Ks h9 rfl (Ks h9 rfl (Ks h9 rfl (Ks h9 rfl (Pt h9 rfl (Ra rfl (Kz K3 ?_)))))))));clear H K3;intro a H;refine c_cond_t H rfl rfl ?_;refine c_seq (fun _ K4=>?_)
  have e:idE bef x=18:=by rw [idE,if_pos (by first|(simp_all;done)|(simp_all;omega))]
  refine kP H (SC (Ra rfl (Kn K4 ?_)));clear H K4;intro a H;refine lr H Tryz.results198 rfl ?_
  first
   | exact H.hp.retL ⟨by rw [e],by rw [idB,if_pos e],rfl⟩
   | exact H.hp.retL ⟨by rw [e],by rw [idB,if_neg (by rw [e];decide)],rfl⟩
 intro h9
 try have p9:=dF h9
 refine kH H (YM h9 rfl ?_);clear H;intro a H;refine s_nilCheck H (wg H rfl rfl h9) rfl rfl ?_;clear H;intro a H;refine kH H (YF fd140_4cid h9 rfl (YO ty138nck 0 h9 rfl rfl (YM h9 rfl ?_)));clear H;intro a H;refine s_lookupK (zv:=.bool false) un138nck un3cp (by kernel_rfl) H (wg H rfl rfl h9) rfl rfl (H.hp.ro _ _ hck.use) rfl ?_;clear H;intro a H;rw [show (lkK x []).getD (Value.bool false)=.bool false from rfl] at H;refine kH H (Pf h9 rfl (Ra rfl (Kz K3 ?_)));clear H K3;intro a H;refine c_cond H rfl ?_ ?_
 ·intro h5
  try have p5:=dT h5
  refine c_seq (fun _ K5=>?_)
  have e:idE bef x=18:=by rw [idE,if_pos (by first|(simp_all;done)|(simp_all;omega))]
  refine kP H (SC (Ra rfl (Kn K5 ?_)));clear H K5;intro a H;refine lr H Tryz.results198 rfl ?_
  first
   | exact H.hp.retL ⟨by rw [e],by rw [idB,if_pos e],rfl⟩
   | exact H.hp.retL ⟨by rw [e],by rw [idB,if_neg (by rw [e];decide)],rfl⟩
 intro h5
 try have p5:=dF h5
 have hin:decide (1≤x∧x≤1073741824)=true:=by simp_all
 refine kP H (SR fun _ K6=>Rm rfl (Rk rfl (Rf fd140_3cid rfl (Ro ty138nck 0 rfl rfl (Rm rfl ?_)))));clear H;intro a H;refine s_lookupK (zv:=.bool false) un138nck un3cp (by kernel_rfl) H wn rfl rfl (H.hp.own _ (List.mem_cons_of_mem _ List.mem_cons_self)) rfl ?_;clear H;intro a H;rw [lk_set] at H;refine kH H (Ra rfl (Kz K6 ?_));clear H K6;intro a H;refine c_cond H rfl ?_ ?_
 ·intro h17
  try have p17:=dT h17
  refine c_seq (fun _ K7=>?_)
  have e:idE bef x=7:=by rw [idE,if_neg (by simpa using hin),if_pos (of_decide_eq_true h17)]
  refine kP H (SC (Ra rfl (Kn K7 ?_)));clear H K7;intro a H;refine lr H Tryz.results198 rfl ?_
  first
   | exact H.hp.retL ⟨by rw [e],by rw [idB,if_pos e],rfl⟩
   | exact H.hp.retL ⟨by rw [e],by rw [idB,if_neg (by rw [e];decide)],rfl⟩
 intro h17
 try have p17:=dF h17
 have hx:x∉bef:=of_decide_eq_false h17;have hnew:lkK x (mSet bef)=none:=lkK_none (by simpa [mSet,List.map_map,Function.comp_def] using hx)
 have e:idE bef x=0:=by rw [idE,if_neg (by simpa using hin),if_neg hx]
 refine kP H (Kc K2 (SR fun _ K8=>Rm rfl (Rk rfl (Rf fd140_3cid rfl (Ro ty138nck 0 rfl rfl (Rm rfl ?_))))));clear H K2;intro a H;refine s_putK (i:=1) un138nck un3cp H wn rfl rfl rfl rfl hnew ?_;clear H;intro w H;dsimp only [List.set] at H;rw [← mSet_app] at H;refine K8 _ _ ?_;clear K8;refine kP H (SR fun _ K9=>Ra rfl (Kz K9 ?_));clear H K9;intro a H;refine lr H Tryz.results198 rfl ?_
 first
  | exact H.hp.retL ⟨by rw [e],by rw [idB,if_pos e],rfl⟩
  | exact H.hp.retL ⟨by rw [e],by rw [idB,if_neg (by rw [e];decide)],rfl⟩
/-- The error of a value that is an id. -/
def refE (st:List StyleD) (lis:List Int) (key v:Int):Int :=
 if key=20∨key=1 then whenE (decide (v≠0∧stK st v≠(if key=1 then 2 else 1))) 25 else if key=33 then whenE (decide (v≠0∧v∉lis)) 26 else 0
theorem ckRef_spec (G:GH) (w0:World) (hG:Hold G w0) (st:List StyleD) (li:List LiD) (rv:List RvD) (b ms ml mr mb mu:Nat) (n:Int) (key v:Int) (hck:CkG G st li rv ms ml mr mu) (hb:G b=some (ckB b ms ml mr mb mu n).2) :
  Calls Tryz.prog 136 #[.pointer (some ⟨b,0,none⟩),vi key,vi v] w0 (Ret w0 G fun u G'=>u=vi (refE st (li.map LiD.id) key v)∧G=G'):=by
 have hc0:gcell G b 0=some (.map (some ms)):=by unfold gcell;rw [hb];rfl
 have hc1:gcell G b 1=some (.map (some ml)):=by unfold gcell;rw [hb];rfl
 refine eN [(0,_),(1,_),(2,_)] Tryz.func136 rfl Tryz.ntmps136 rfl rfl hG ?_;intro a H;refine kP H (SR fun _ K1=>Ra rfl (Kz K1 (SQ fun _ K2=>SR fun _ K3=>Rm rfl (Kz K3 (SB (SQ fun _ K4=>SR fun _ K5=>Rc rfl (Ra rfl (Kz K5 ?_))))))));clear H K1 K3 K5;intro a H;refine c_cond H rfl ?_ ?_
 ·intro h9
  try have p9:=dT h9
  refine c_skip ?_;refine K4 _ _ ?_;clear K4;refine c_cond_t H rfl h9 ?_;refine kP H (SR fun _ K6=>Ra rfl (Kz K6 (SQ fun _ K7=>SR fun _ K8=>Rm rfl (Rc rfl (Kz K8 ?_)))));clear H K6 K8;intro a H;refine c_cond H rfl ?_ ?_
  ·intro h13
   try have p13:=dT h13
   refine kP H (SC (Ra rfl (Kn K7 (SR fun _ K9=>Rm rfl (Rc rfl (Rm rfl ?_))))));clear H K7;intro a H;refine s_split H 16 rfl ?_ ?_
   ·intro h16
    try have p16:=dT h16
    refine kH H (YM h16 rfl ?_);clear H;intro a H;refine s_nilCheck H (wg H rfl rfl h16) rfl rfl ?_;clear H;intro a H;refine kH H (YF fd140_0nck h16 rfl (YR ty137nck h16 rfl (by assumption) ?_));clear H;intro a H;refine kH H (YM h16 rfl ?_);clear H;intro a H;refine s_lookupK (zv:=vi 0) un137chn un3cp (by kernel_rfl) H (wg H rfl rfl h16) rfl rfl (H.hp.ro _ _ hck.sty) rfl ?_;clear H;intro a H;rw [lk_sty] at H;refine kH H (YM h16 rfl (YC h16 rfl (Pt h16 rfl ?_)));clear H;intro a H;refine s_call en65nam H wn rfl (when_spec _ _ H.hp.ro _ 25) rfl ?_;clear H;rintro v26 _ a w ⟨rfl,rfl⟩ - H;refine kH H (Ra rfl (Kz K9 ?_));clear H K9;intro a H;refine lr H Tryz.results136 rfl ?_
    exact H.hp.ret ⟨congrArg vi (by unfold refE;(repeat' split) <;> first|rfl|(simp_all;done)|(exfalso;simp_all;done)|(congr 1;rw [Bool.eq_iff_iff];simp only [Bool.not_eq_true',decide_eq_false_iff_not,decide_eq_true_eq];exact ⟨fun h=>⟨p31,h⟩,fun h=>h.2⟩)),rfl⟩
   intro h16
   try have p16:=dF h16
   refine kH H (Ks h16 rfl (Ks h16 rfl (Ks h16 rfl (Ks h16 rfl (Ks h16 rfl (Ks h16 rfl (Ks h16 rfl (Ks h16 rfl (Pf h16 rfl ?_)))))))));clear H;intro a H;refine s_call en65nam H wn rfl (when_spec _ _ H.hp.ro _ 25) rfl ?_;clear H;rintro v26 _ a w ⟨rfl,rfl⟩ - H;refine kH H (Ra rfl (Kz K9 ?_));clear H K9;intro a H;refine lr H Tryz.results136 rfl ?_
   exact H.hp.ret ⟨congrArg vi (by unfold refE;(repeat' split) <;> first|rfl|(simp_all;done)|(exfalso;simp_all;done)|(congr 1;rw [Bool.eq_iff_iff];simp only [Bool.not_eq_true',decide_eq_false_iff_not,decide_eq_true_eq];exact ⟨fun h=>⟨p31,h⟩,fun h=>h.2⟩)),rfl⟩
  intro h13
  try have p13:=dF h13
  refine kP H (Kc K7 (SR fun _ K10=>Rm rfl (Rc rfl (Rm rfl ?_))));clear H K7;intro a H;refine s_split H 16 rfl ?_ ?_
  ·intro h16
   try have p16:=dT h16
   refine kH H (YM h16 rfl ?_);clear H;intro a H;refine s_nilCheck H (wg H rfl rfl h16) rfl rfl ?_;clear H;intro a H;refine kH H (YF fd140_0nck h16 rfl (YR ty137nck h16 rfl (by assumption) ?_));clear H;intro a H;refine kH H (YM h16 rfl ?_);clear H;intro a H;refine s_lookupK (zv:=vi 0) un137chn un3cp (by kernel_rfl) H (wg H rfl rfl h16) rfl rfl (H.hp.ro _ _ hck.sty) rfl ?_;clear H;intro a H;rw [lk_sty] at H;refine kH H (YM h16 rfl (YC h16 rfl (Pt h16 rfl ?_)));clear H;intro a H;refine s_call en65nam H wn rfl (when_spec _ _ H.hp.ro _ 25) rfl ?_;clear H;rintro v26 _ a w ⟨rfl,rfl⟩ - H;refine kH H (Ra rfl (Kz K10 ?_));clear H K10;intro a H;refine lr H Tryz.results136 rfl ?_
   exact H.hp.ret ⟨congrArg vi (by unfold refE;(repeat' split) <;> first|rfl|(simp_all;done)|(exfalso;simp_all;done)|(congr 1;rw [Bool.eq_iff_iff];simp only [Bool.not_eq_true',decide_eq_false_iff_not,decide_eq_true_eq];exact ⟨fun h=>⟨p31,h⟩,fun h=>h.2⟩)),rfl⟩
  intro h16
  try have p16:=dF h16
  refine kH H (Ks h16 rfl (Ks h16 rfl (Ks h16 rfl (Ks h16 rfl (Ks h16 rfl (Ks h16 rfl (Ks h16 rfl (Ks h16 rfl (Pf h16 rfl ?_)))))))));clear H;intro a H;refine s_call en65nam H wn rfl (when_spec _ _ H.hp.ro _ 25) rfl ?_;clear H;rintro v26 _ a w ⟨rfl,rfl⟩ - H;refine kH H (Ra rfl (Kz K10 ?_));clear H K10;intro a H;refine lr H Tryz.results136 rfl ?_
  exact H.hp.ret ⟨congrArg vi (by unfold refE;(repeat' split) <;> first|rfl|(simp_all;done)|(exfalso;simp_all;done)|(congr 1;rw [Bool.eq_iff_iff];simp only [Bool.not_eq_true',decide_eq_false_iff_not,decide_eq_true_eq];exact ⟨fun h=>⟨p31,h⟩,fun h=>h.2⟩)),rfl⟩
 intro h9
 try have p9:=dF h9
 refine kP H (SC (Rc rfl (Ra rfl (Kn K4 ?_))));clear H K4;intro a H;refine c_cond H rfl ?_ ?_
 ·intro h9
  try have p9:=dT h9
  refine kP H (SR fun _ K11=>Ra rfl (Kz K11 (SQ fun _ K12=>SR fun _ K13=>Rm rfl (Rc rfl (Kz K13 ?_)))));clear H K11 K13;intro a H;refine c_cond H rfl ?_ ?_
  ·intro h13
   try have p13:=dT h13
   refine kP H (SC (Ra rfl (Kn K12 (SR fun _ K14=>Rm rfl (Rc rfl (Rm rfl ?_))))));clear H K12;intro a H;refine s_split H 16 rfl ?_ ?_
   ·intro h16
    try have p16:=dT h16
    refine kH H (YM h16 rfl ?_);clear H;intro a H;refine s_nilCheck H (wg H rfl rfl h16) rfl rfl ?_;clear H;intro a H;refine kH H (YF fd140_0nck h16 rfl (YR ty137nck h16 rfl (by assumption) ?_));clear H;intro a H;refine kH H (YM h16 rfl ?_);clear H;intro a H;refine s_lookupK (zv:=vi 0) un137chn un3cp (by kernel_rfl) H (wg H rfl rfl h16) rfl rfl (H.hp.ro _ _ hck.sty) rfl ?_;clear H;intro a H;rw [lk_sty] at H;refine kH H (YM h16 rfl (YC h16 rfl (Pt h16 rfl ?_)));clear H;intro a H;refine s_call en65nam H wn rfl (when_spec _ _ H.hp.ro _ 25) rfl ?_;clear H;rintro v26 _ a w ⟨rfl,rfl⟩ - H;refine kH H (Ra rfl (Kz K14 ?_));clear H K14;intro a H;refine lr H Tryz.results136 rfl ?_
    exact H.hp.ret ⟨congrArg vi (by unfold refE;(repeat' split) <;> first|rfl|(simp_all;done)|(exfalso;simp_all;done)|(congr 1;rw [Bool.eq_iff_iff];simp only [Bool.not_eq_true',decide_eq_false_iff_not,decide_eq_true_eq];exact ⟨fun h=>⟨p31,h⟩,fun h=>h.2⟩)),rfl⟩
   intro h16
   try have p16:=dF h16
   refine kH H (Ks h16 rfl (Ks h16 rfl (Ks h16 rfl (Ks h16 rfl (Ks h16 rfl (Ks h16 rfl (Ks h16 rfl (Ks h16 rfl (Pf h16 rfl ?_)))))))));clear H;intro a H;refine s_call en65nam H wn rfl (when_spec _ _ H.hp.ro _ 25) rfl ?_;clear H;rintro v26 _ a w ⟨rfl,rfl⟩ - H;refine kH H (Ra rfl (Kz K14 ?_));clear H K14;intro a H;refine lr H Tryz.results136 rfl ?_
   exact H.hp.ret ⟨congrArg vi (by unfold refE;(repeat' split) <;> first|rfl|(simp_all;done)|(exfalso;simp_all;done)|(congr 1;rw [Bool.eq_iff_iff];simp only [Bool.not_eq_true',decide_eq_false_iff_not,decide_eq_true_eq];exact ⟨fun h=>⟨p31,h⟩,fun h=>h.2⟩)),rfl⟩
  intro h13
  try have p13:=dF h13
  refine kP H (Kc K12 (SR fun _ K15=>Rm rfl (Rc rfl (Rm rfl ?_))));clear H K12;intro a H;refine s_split H 16 rfl ?_ ?_
  ·intro h16
   try have p16:=dT h16
   refine kH H (YM h16 rfl ?_);clear H;intro a H;refine s_nilCheck H (wg H rfl rfl h16) rfl rfl ?_;clear H;intro a H;refine kH H (YF fd140_0nck h16 rfl (YR ty137nck h16 rfl (by assumption) ?_));clear H;intro a H;refine kH H (YM h16 rfl ?_);clear H;intro a H;refine s_lookupK (zv:=vi 0) un137chn un3cp (by kernel_rfl) H (wg H rfl rfl h16) rfl rfl (H.hp.ro _ _ hck.sty) rfl ?_;clear H;intro a H;rw [lk_sty] at H;refine kH H (YM h16 rfl (YC h16 rfl (Pt h16 rfl ?_)));clear H;intro a H;refine s_call en65nam H wn rfl (when_spec _ _ H.hp.ro _ 25) rfl ?_;clear H;rintro v26 _ a w ⟨rfl,rfl⟩ - H;refine kH H (Ra rfl (Kz K15 ?_));clear H K15;intro a H;refine lr H Tryz.results136 rfl ?_
   exact H.hp.ret ⟨congrArg vi (by unfold refE;(repeat' split) <;> first|rfl|(simp_all;done)|(exfalso;simp_all;done)|(congr 1;rw [Bool.eq_iff_iff];simp only [Bool.not_eq_true',decide_eq_false_iff_not,decide_eq_true_eq];exact ⟨fun h=>⟨p31,h⟩,fun h=>h.2⟩)),rfl⟩
  intro h16
  try have p16:=dF h16
  refine kH H (Ks h16 rfl (Ks h16 rfl (Ks h16 rfl (Ks h16 rfl (Ks h16 rfl (Ks h16 rfl (Ks h16 rfl (Ks h16 rfl (Pf h16 rfl ?_)))))))));clear H;intro a H;refine s_call en65nam H wn rfl (when_spec _ _ H.hp.ro _ 25) rfl ?_;clear H;rintro v26 _ a w ⟨rfl,rfl⟩ - H;refine kH H (Ra rfl (Kz K15 ?_));clear H K15;intro a H;refine lr H Tryz.results136 rfl ?_
  exact H.hp.ret ⟨congrArg vi (by unfold refE;(repeat' split) <;> first|rfl|(simp_all;done)|(exfalso;simp_all;done)|(congr 1;rw [Bool.eq_iff_iff];simp only [Bool.not_eq_true',decide_eq_false_iff_not,decide_eq_true_eq];exact ⟨fun h=>⟨p31,h⟩,fun h=>h.2⟩)),rfl⟩
 intro h9
 try have p9:=dF h9
 refine kP H (SR fun _ K16=>Rc rfl (Ra rfl (Kz K16 ?_)));clear H K16;intro a H;refine c_cond H rfl ?_ ?_
 ·intro h27
  try have p27:=dT h27
  refine kP H (SR fun _ K17=>Rm rfl (Rc rfl (Rm rfl ?_)));clear H;intro a H;refine s_split H 31 rfl ?_ ?_
  ·intro h31
   try have p31:=dT h31
   refine kH H (YM h31 rfl ?_);clear H;intro a H;refine s_nilCheck H (wg H rfl rfl h31) rfl rfl ?_;clear H;intro a H;refine kH H (YF fd140_1nck h31 rfl (YR ty138nck h31 rfl (by assumption) ?_));clear H;intro a H;refine kH H (YM h31 rfl ?_);clear H;intro a H;refine s_lookupK (zv:=.bool false) un138nck un3cp (by kernel_rfl) H (wg H rfl rfl h31) rfl rfl (H.hp.ro _ _ hck.lis) rfl ?_;clear H;intro a H;rw [lk_set] at H;refine kH H (YN h31 rfl (Pt h31 rfl ?_));clear H;intro a H;refine s_call en65nam H wn rfl (when_spec _ _ H.hp.ro _ 26) rfl ?_;clear H;rintro v40 _ a w ⟨rfl,rfl⟩ - H;refine kH H (Ra rfl (Kz K17 ?_));clear H K17;intro a H;refine lr H Tryz.results136 rfl ?_
   exact H.hp.ret ⟨congrArg vi (by unfold refE;(repeat' split) <;> first|rfl|(simp_all;done)|(exfalso;simp_all;done)|(congr 1;rw [Bool.eq_iff_iff];simp only [Bool.not_eq_true',decide_eq_false_iff_not,decide_eq_true_eq];exact ⟨fun h=>⟨p31,h⟩,fun h=>h.2⟩)),rfl⟩
  intro h31
  try have p31:=dF h31
  refine kH H (Ks h31 rfl (Ks h31 rfl (Ks h31 rfl (Ks h31 rfl (Ks h31 rfl (Ks h31 rfl (Ks h31 rfl (Pf h31 rfl ?_))))))));clear H;intro a H;refine s_call en65nam H wn rfl (when_spec _ _ H.hp.ro _ 26) rfl ?_;clear H;rintro v40 _ a w ⟨rfl,rfl⟩ - H;refine kH H (Ra rfl (Kz K17 ?_));clear H K17;intro a H;refine lr H Tryz.results136 rfl ?_
  exact H.hp.ret ⟨congrArg vi (by unfold refE;(repeat' split) <;> first|rfl|(simp_all;done)|(exfalso;simp_all;done)|(congr 1;rw [Bool.eq_iff_iff];simp only [Bool.not_eq_true',decide_eq_false_iff_not,decide_eq_true_eq];exact ⟨fun h=>⟨p31,h⟩,fun h=>h.2⟩)),rfl⟩
 intro h27
 try have p27:=dF h27
 refine kP H (Kc K2 (SR fun _ K18=>Ra rfl (Kz K18 ?_)));clear H K2 K18;intro a H;refine lr H Tryz.results136 rfl ?_
 exact H.hp.ret ⟨congrArg vi (by unfold refE;(repeat' split) <;> first|rfl|(simp_all;done)|(exfalso;simp_all;done)|(congr 1;rw [Bool.eq_iff_iff];simp only [Bool.not_eq_true',decide_eq_false_iff_not,decide_eq_true_eq];exact ⟨fun h=>⟨p31,h⟩,fun h=>h.2⟩)),rfl⟩
end
section
open Go.RowKit
section
variable {N:Nat} {D:List Deferred} {w0:World} {F:Nat→Prop} {G0 G G':GH} {L L':OL} {T:List (Nat × Value)}
variable {r:Option Nat} {P:Program} {ops:Array Oper} {Q:Exit→Act→World→Prop} {rest:List Oper} {a:Act} {w w':World}
theorem wl_meet {ι:Type} {Tc:List (Nat × Value)} {l:List Oper} (k:Nat) (Tv:ι→List (Nat × Value)) (Pr:ι→Prop) (_:St N D w0 F G0 G L Tc a w)
  (h1:(∀ i a w,Pr i→St N D w0 F G0 G L (Tv i++Tc) a w→WL r P ops Q (l.drop k) a w)→WL r P ops Q l a w)
  (h2:∀ i a w,Pr i→St N D w0 F G0 G L (Tv i++Tc) a w→WL r P ops Q (l.drop k) a w):WL r P ops Q l a w:=h1 h2
theorem Change.back (h:Change w w' G G' L L'):Change w w' G G L L' :=
 ⟨h.os,h.tape,h.output,h.size,h.fr,fun _ _ h=>h,fun _ _ h=>.inl h,⟨fun k o hk=>h.owns.ro k o (h.gm k o hk),h.owns.own,fun p hp=>(by
  have hs:=h.owns.sep p hp
  cases hg:G p.1 with
  | none=>rfl
  | some o=>have:=h.gm _ _ hg;rw [hs] at this;cases this),h.owns.nd⟩,h.lx⟩
theorem RetL.back {R:Value→GH→OL→Prop} {R':Value→OL→Prop} (hR:∀ v G' L',R v G' L'→R' v L') {e:Ending} (h:RetL w G L R e w'):RetL w G L (fun v G' L'=>G=G'∧R' v L') e w':=by
 obtain ⟨v,G',L',rfl,hc,hr⟩:=h
 exact ⟨v,G,L',rfl,hc.back,rfl,hR _ _ _ hr⟩
theorem Calls.backL {f:FuncId} {args:Array Value} {R:Value→GH→OL→Prop} {R':Value→OL→Prop} (h:Calls P f args w (RetL w G L R)) (hR:∀ v G' L',R v G' L'→R' v L'):Calls P f args w (RetL w G L fun v G' L'=>G=G'∧R' v L') :=
 h.mono fun _ _=>RetL.back hR
theorem Ret.back {R:Value→GH→Prop} {e:Ending} (h:Ret w G R e w'):Ret w G (fun v G'=>(∃ g,R v g)∧G=G') e w':=by
 obtain ⟨v,G',rfl,hb,hX,hr⟩:=h
 exact ⟨v,G,rfl,hb,⟨fun _ _ h=>h,fun _ _ h=>.inl h,fun k o hk=>hX.2.2 k o (hX.1 k o hk)⟩,⟨G',hr⟩,rfl⟩
theorem backR {f:FuncId} {args:Array Value} {R:Value→GH→Prop} (h:Calls P f args w (Ret w G R)):Calls P f args w (Ret w G fun v G'=>(∃ g,R v g)∧G=G'):=h.mono fun _ _=>Ret.back
/-- A block that a call only reads may be lent to it as if it were read alone. -/
theorem Owns.add {b:Nat} {o:Obj} (h:Owns G ((b,o) :: L) w):Hold (G.add b o) w:=fun k o' hk=>by
 unfold GH.add at hk
 split at hk
 ·next e=>cases hk;subst e;exact h.own _ List.mem_cons_self
 ·exact h.ro k o' hk
theorem ret_lend {b:Nat} {o:Obj} {R:Value→GH→Prop} {R':Value→Prop} (hO:Owns G ((b,o) :: L) w) (hR:∀ v G',R v G'→R' v) {e:Ending} (h:Ret w (G.add b o) R e w'):RetL w G ((b,o) :: L) (fun v G' L'=>G=G'∧L'=(b,o) :: L∧R' v) e w':=by
 obtain ⟨v,G',rfl,hb,hX,hr⟩:=h
 exact ⟨v,G,_,rfl,(hO.hp.below hb).toChange,rfl,rfl,hR _ _ hr⟩
end
end
section
open Go.RowKit
theorem fd217_0hdr:Fld Tryz.prog 217 0 0:=⟨by kernel_rfl⟩
theorem fd217_1hdr:Fld Tryz.prog 217 1 1:=⟨by kernel_rfl⟩
theorem fd217_3hdr:Fld Tryz.prog 217 3 3:=⟨by kernel_rfl⟩
theorem fd217_2hdr:Fld Tryz.prog 217 2 2:=⟨by kernel_rfl⟩
theorem en136hdr:∀ args w,(callFunc 136 args).run Tryz.prog w=.ok (.enter 136 args) w:=enters Tryz.func136 rfl (by kernel_rfl)
/-- What a checker knows: styles, the lists' ids, the revisions' ids. -/
structure CkP where
 st:List StyleD
 lis:List Int
 rvs:List Int
abbrev ckP (st:List StyleD) (li:List LiD) (rv:List RvD):CkP:=⟨st,li.map LiD.id,rv.map RvD.id⟩
theorem layer_at {G:GH} {l:List LayerD} {A:Option Addr} {n c k:Nat} (hv:RepV G (.sl 4 (l.map LayerD.dat)) (.slice A n c)) (hk:k < l.length):∃ b o,A=some ⟨b,o,none⟩∧(∀ j u,l[k].cells[j]?=some u→gcell G b (o+k*4+j)=some u):=by
 obtain ⟨A',c',he,_,_,hg⟩:=hv.slice
 injection he with e1 e2 e3
 subst e1;obtain ⟨b,o,cs,h1,h2,h3,h4⟩:=hg k l[k].dat (by simp [hk]);have:=layer_of h4;subst this;exact ⟨b,o,h1,h3⟩
theorem del_at {G:GH} {l:List DelD} {A:Option Addr} {n c k:Nat} (hv:RepV G (.sl 2 (l.map DelD.dat)) (.slice A n c)) (hk:k < l.length):∃ b o,A=some ⟨b,o,none⟩∧(∀ j u,l[k].cells[j]?=some u→gcell G b (o+k*2+j)=some u):=by
 obtain ⟨A',c',he,_,_,hg⟩:=hv.slice
 injection he with e1 e2 e3
 subst e1;obtain ⟨b,o,cs,h1,h2,h3,h4⟩:=hg k l[k].dat (by simp [hk]);have:=del_of h4;subst this;exact ⟨b,o,h1,h3⟩
def layE0 (C:CkP) (e:Int) (k:Nat) (x:LayerD) (pk:Int):Int :=
 if x.rev∉C.rvs then 22 else if fitsS e x.key=false then 4 else if 0 < k∧x.key < pk then 6 else if x.had=false then whenE (decide (x.before≠0)) 21 else firstE [chkVS x.key x.before,refE C.st C.lis x.key x.before]
def layE (C:CkP) (e:Int) (l:List LayerD) (k:Nat):Int:=match l[k]? with|some x=>layE0 C e k x ((l[k - 1]?.map LayerD.key).getD 0)|none=>0
theorem layer_spec (G:GH) (w0:World) (hG:Hold G w0) (st:List StyleD) (li:List LiD) (rv:List RvD) (b ms ml mr mb mu:Nat) (n:Int) (hck:CkG G st li rv ms ml mr mu) (hb:G b=some (ckB b ms ml mr mb mu n).2)
  (e:Int) (l:List LayerD) (v:Value) (hv:RepV G (.sl 4 (l.map LayerD.dat)) v) (k:Nat) (hk:k < l.length) :
  Calls Tryz.prog 138 #[.pointer (some ⟨b,0,none⟩),vi e,v,vi k] w0 (Ret w0 G fun u G'=>u=vi (layE (ckP st li rv) e l k)):=by
 have hc2:gcell G b 2=some (.map (some mr)):=by unfold gcell;rw [hb];rfl
 obtain ⟨A,c,rfl,hl1,hl2,-⟩:=hv.slice;have hml:maxLen=9223372036854775807:=rfl;rw [List.length_map] at *;obtain ⟨xb,xo,rfl,hrow⟩:=layer_at hv hk
 have hk1:k - 1 < l.length:=by omega
 obtain ⟨b',o',he',hrow'⟩:=layer_at hv hk1
 injection he' with he'
 injection he' with e1 e2
 subst e1;subst e2
 have he:layE (ckP st li rv) e l k=layE0 (ckP st li rv) e k l[k] l[k - 1].key:=by unfold layE;rw [List.getElem?_eq_getElem hk,List.getElem?_eq_getElem hk1];rfl
 obtain ⟨x,hx⟩:∃ x,x=l[k]:=⟨_,rfl⟩;obtain ⟨y,hy⟩:∃ y,y=l[k - 1]:=⟨_,rfl⟩;rw [← hx] at hrow he;rw [← hy] at hrow' he;have hq:=hrow' 1 _ rfl;refine eN [(0,_),(1,_),(2,_),(3,_)] Tryz.func138 rfl Tryz.ntmps138 rfl rfl hG ?_;intro a H;refine kP H (SR fun _ K1=>Ra rfl (Kz K1 (SR fun _ K2=>Rm rfl (Rm rfl (Ri un27run ty217run rfl rfl ?_)))));clear H K1;intro a H;refine s_loada ty217run (cs:=x.cells) H wn rfl rfl (fun j v hj=>H.hp.gcell (hrow j v hj)) rfl ?_;clear H;intro a H;refine s_alloc ty217run H wn rfl ?_;clear H;intro b9 a w hb9 H;refine s_store ty217run 0 (vs:=[_,_,_,_]) _ H wn rfl rfl rfl rfl rfl rfl rfl rfl ?_;clear H;intro w H;dsimp only [List.set,setRow] at H;refine K2 _ _ ?_;clear K2;refine kP H (SQ fun _ K3=>SB (SQ fun _ K4=>?_));clear H;intro a H;refine c_drawI (hmx) [[],[0],[0,1],[0,1,2],[],[4],[0,1,2,3,4,5],(List.range 7),(List.range 8)] [8] (by kernel_rfl) (by kernel_rfl) (fun (ix_:Nat) (v:Value) (G:GH)=>match ix_ with|0=>v=.pointer (some ⟨b,0,none⟩)|1=>v=.pointer (some ⟨b,0,none⟩)|2=>v=.pointer (some ⟨b,2,none⟩)|3=>v=.map (some mr)|4=>v=.pointer (some ⟨b9,0,none⟩)|5=>v=vi x.rev|6=>v=.bool (decide (x.rev∈rv.map RvD.id))|7=>v=.bool (!decide (x.rev∈rv.map RvD.id))|_=>True) (fun _ _ _ _ _ h=>h) H ?_ ?_
 ·clear H;refine al4 ?_ ?_ ?_ ?_ (al4 ?_ ?_ ?_ ?_ (allI_cons ?_ allI_nil))
  ·exact Z0 rfl rfl fun _ _ _ _ _=>Rm rfl
  ·exact Z1 0 15 rfl rfl fun _ _ _ _ _=>Rk rfl
  ·exact Z1 1 16 rfl rfl fun _ _ _ _ _=>Rf fd140_2nck rfl
  ·exact Op1 2 17 rfl rfl fun _ _ _ _ hG _ H fin=>kH H (Rg ty138nck rfl (gcell_mono hG hc2) fun _ H=>fin H iJ rfl)
  ·exact Z0 rfl rfl fun _ _ _ _ _=>Rf fd217_0hdr rfl
  ·exact Z1 4 19 rfl rfl fun _ _ _ _ _=>Ro ty3run 0 rfl rfl
  ·refine Op2 3 18 5 20 rfl rfl fun _ a w G1 hG HT H fin=>?_;refine s_lookupK (zv:=.bool false) un138nck un3cp (by kernel_rfl) H wn rfl rfl (H.hp.ro _ _ (hG _ _ hck.rev)) rfl ?_;clear H;intro a H;rw [lk_set] at H;exact fin H iJ rfl
  ·exact Z1 6 21 rfl rfl fun _ _ _ _ _=>Rn rfl
  exact opB rfl
 clear H;intro a w G hGm2 H hv;obtain ⟨u22,hu22,hp22⟩:=hv 7 22 (by decide) rfl;obtain rfl:u22=.bool (!decide (x.rev∈rv.map RvD.id)):=hp22;have H:=H.addS hu22;clear hv;refine kH H (Ra rfl ?_);clear H;intro a H;refine wl_nil ⟨rfl,?_⟩;refine K4 _ _ ?_;clear K4;refine c_cond H rfl ?_ ?_
 ·intro h14
  try have p14:=dT h14
  refine kP H (SR fun _ K5=>Ra rfl (Kz K5 ?_));clear H K5;intro a H;refine lr H Tryz.results138 rfl ?_
  exact H.hp.ret (by rw [he];refine congrArg vi ?_;clear he hrow hrow' hq hx hy;unfold layE0;(repeat' split) <;> first|rfl|(simp_all;done)|(exfalso;simp_all;done))
 intro h14
 try have p14:=dF h14
 refine kP H (SR fun _ K6=>Rm rfl (Rf fd217_1hdr rfl (Ro ty3run 0 rfl rfl ?_)));clear H;intro a H;refine s_call en106prc H wn rfl (backR (fits_spec _ _ H.hp.ro e x.key)) rfl ?_;clear H;rintro v27 _ a w ⟨⟨_,rfl⟩,rfl⟩ - H;refine kH H (Rn rfl (Ra rfl (Kz K6 ?_)));clear H K6;intro a H;refine c_cond H rfl ?_ ?_
 ·intro h23
  try have p23:=dT h23
  refine kP H (SR fun _ K7=>Ra rfl (Kz K7 ?_));clear H K7;intro a H;refine lr H Tryz.results138 rfl ?_
  exact H.hp.ret (by rw [he];refine congrArg vi ?_;clear he hrow hrow' hq hx hy;unfold layE0;(repeat' split) <;> first|rfl|(simp_all;done)|(exfalso;simp_all;done))
 intro h23
 try have p23:=dF h23
 refine c_seq (fun _ K8=>?_);replace hq:=gcell_mono hGm2 hq
 by_cases c0:0 < (k:Int)
 ·skip
  by_cases c1:x.key < y.key
  ·skip;refine c_drawI (hmx) [[],[0],[0,1],[0,1,2],[0,1,2,3],[0,1,2],[0,1,2],[0,1,2,6],[0,1,2,5,6,7],[0,1,2,5,6,7,8],[0,1,2,5,6,7,8,9],(List.range 11),(List.range 12),(List.range 13)] [13] (by kernel_rfl) (by kernel_rfl) (fun (ix_:Nat) (v:Value) (G:GH)=>match ix_ with|0=>v=vi k|1=>v=.bool (decide (0 < (k:Int)))|2=>v=.bool (decide (0 < (k:Int)))|3=>v=.pointer (some ⟨b9,1,none⟩)|4=>v=vi x.key|5=>v=.slice (some ⟨xb,xo,none⟩) l.length c|6=>v=vi k|7=>v=vi ((k - 1:Nat):Int)|8=>v=.pointer (some ⟨xb,xo+(k - 1)*4,none⟩)|9=>v=.pointer (some ⟨xb,xo+(k - 1)*4+1,none⟩)|10=>v=vi y.key|11=>v=.bool (decide (x.key < y.key))|12=>v=.bool (decide (x.key < y.key))|_=>True) (fun _ _ _ _ _ h=>h) H ?_ ?_
   ·clear H;refine al4 ?_ ?_ ?_ ?_ (al4 ?_ ?_ ?_ ?_ (al4 ?_ ?_ ?_ ?_ (allI_cons ?_ (allI_cons ?_ allI_nil))))
    ·exact Z0 rfl rfl fun _ _ _ _ _=>Rm rfl
    ·exact Z1 0 30 rfl rfl fun _ _ _ _ _=>Rc rfl
    ·exact Z1 1 31 rfl rfl fun _ _ _ _ _=>Rm rfl
    ·exact Op1 2 32 rfl rfl fun _ _ _ _ hG _ H fin=>kH H (YF fd217_1hdr (decide_eq_true c0) rfl fun _ H=>fin H iJ rfl)
    ·exact Op2 3 33 2 32 rfl rfl fun _ _ _ _ hG _ H fin=>kH H (YO ty3run 0 (decide_eq_true c0) rfl rfl fun _ H=>fin H iJ rfl)
    ·exact Op1 2 32 rfl rfl fun _ _ _ _ hG _ H fin=>kH H (YM (decide_eq_true c0) rfl fun _ H=>fin H iJ rfl)
    ·exact Op1 2 32 rfl rfl fun _ _ _ _ hG _ H fin=>kH H (YM (decide_eq_true c0) rfl fun _ H=>fin H iJ rfl)
    ·refine Op2 6 36 2 32 rfl rfl fun _ a w G1 hG HT H fin=>?_;refine s_sub _ H (wg H rfl rfl (decide_eq_true c0)) rfl rfl rfl (by omega) (by omega) rfl ?_;clear H;intro a H;exact fin H iJ (by first|rfl|exact congrArg vi (by omega))
    ·exact Op3 5 35 7 37 2 32 rfl rfl fun _ _ _ _ hG _ H fin=>kH H (YI un27run ty217run (decide_eq_true c0) rfl rfl fun _ H=>fin H iJ rfl)
    ·exact Op2 8 38 2 32 rfl rfl fun _ _ _ _ hG _ H fin=>kH H (YF fd217_1hdr (decide_eq_true c0) rfl fun _ H=>fin H iJ rfl)
    ·exact Op2 9 39 2 32 rfl rfl fun _ _ _ _ hG _ H fin=>kH H (YR ty3run (decide_eq_true c0) rfl (gcell_mono hG hq) fun _ H=>fin H iJ rfl)
    ·exact Op3 4 34 10 40 2 32 rfl rfl fun _ _ _ _ hG _ H fin=>kH H (YC (decide_eq_true c0) rfl fun _ H=>fin H iJ rfl)
    ·exact Op2 2 32 11 41 rfl rfl fun _ _ _ _ hG _ H fin=>kH H (Pt (decide_eq_true c0) rfl fun _ H=>fin H iJ rfl)
    exact opB rfl
   clear H;intro a w G hGm6 H hv;obtain ⟨u42,hu42,hp42⟩:=hv 12 42 (by decide) rfl;obtain rfl:u42=.bool (decide (x.key < y.key)):=hp42;have H:=H.addS hu42;clear hv;refine kH H (Ra rfl ?_);clear H;intro a H;refine wl_nil ⟨rfl,?_⟩;refine K8 _ _ ?_;clear K8;refine c_cond_t H rfl (decide_eq_true c1) ?_;refine c_seq (fun _ K9=>?_);have hz:0 < k∧x.key < y.key:=⟨by omega,c1⟩;refine kP H (SC (Ra rfl (Kn K9 ?_)));clear H K9;intro a H;refine lr H Tryz.results138 rfl ?_
   exact H.hp.ret (by rw [he];refine congrArg vi ?_;clear he hrow hrow' hq hx hy;unfold layE0;(repeat' split) <;> first|rfl|(simp_all;done)|(exfalso;simp_all;done))
  skip;refine c_drawI (hmx) [[],[0],[0,1],[0,1,2],[0,1,2,3],[0,1,2],[0,1,2],[0,1,2,6],[0,1,2,5,6,7],[0,1,2,5,6,7,8],[0,1,2,5,6,7,8,9],(List.range 11),(List.range 12),(List.range 13)] [13] (by kernel_rfl) (by kernel_rfl) (fun (ix_:Nat) (v:Value) (G:GH)=>match ix_ with|0=>v=vi k|1=>v=.bool (decide (0 < (k:Int)))|2=>v=.bool (decide (0 < (k:Int)))|3=>v=.pointer (some ⟨b9,1,none⟩)|4=>v=vi x.key|5=>v=.slice (some ⟨xb,xo,none⟩) l.length c|6=>v=vi k|7=>v=vi ((k - 1:Nat):Int)|8=>v=.pointer (some ⟨xb,xo+(k - 1)*4,none⟩)|9=>v=.pointer (some ⟨xb,xo+(k - 1)*4+1,none⟩)|10=>v=vi y.key|11=>v=.bool (decide (x.key < y.key))|12=>v=.bool (decide (x.key < y.key))|_=>True) (fun _ _ _ _ _ h=>h) H ?_ ?_
  ·clear H;refine al4 ?_ ?_ ?_ ?_ (al4 ?_ ?_ ?_ ?_ (al4 ?_ ?_ ?_ ?_ (allI_cons ?_ (allI_cons ?_ allI_nil))))
   ·exact Z0 rfl rfl fun _ _ _ _ _=>Rm rfl
   ·exact Z1 0 30 rfl rfl fun _ _ _ _ _=>Rc rfl
   ·exact Z1 1 31 rfl rfl fun _ _ _ _ _=>Rm rfl
   ·exact Op1 2 32 rfl rfl fun _ _ _ _ hG _ H fin=>kH H (YF fd217_1hdr (decide_eq_true c0) rfl fun _ H=>fin H iJ rfl)
   ·exact Op2 3 33 2 32 rfl rfl fun _ _ _ _ hG _ H fin=>kH H (YO ty3run 0 (decide_eq_true c0) rfl rfl fun _ H=>fin H iJ rfl)
   ·exact Op1 2 32 rfl rfl fun _ _ _ _ hG _ H fin=>kH H (YM (decide_eq_true c0) rfl fun _ H=>fin H iJ rfl)
   ·exact Op1 2 32 rfl rfl fun _ _ _ _ hG _ H fin=>kH H (YM (decide_eq_true c0) rfl fun _ H=>fin H iJ rfl)
   ·refine Op2 6 36 2 32 rfl rfl fun _ a w G1 hG HT H fin=>?_;refine s_sub _ H (wg H rfl rfl (decide_eq_true c0)) rfl rfl rfl (by omega) (by omega) rfl ?_;clear H;intro a H;exact fin H iJ (by first|rfl|exact congrArg vi (by omega))
   ·exact Op3 5 35 7 37 2 32 rfl rfl fun _ _ _ _ hG _ H fin=>kH H (YI un27run ty217run (decide_eq_true c0) rfl rfl fun _ H=>fin H iJ rfl)
   ·exact Op2 8 38 2 32 rfl rfl fun _ _ _ _ hG _ H fin=>kH H (YF fd217_1hdr (decide_eq_true c0) rfl fun _ H=>fin H iJ rfl)
   ·exact Op2 9 39 2 32 rfl rfl fun _ _ _ _ hG _ H fin=>kH H (YR ty3run (decide_eq_true c0) rfl (gcell_mono hG hq) fun _ H=>fin H iJ rfl)
   ·exact Op3 4 34 10 40 2 32 rfl rfl fun _ _ _ _ hG _ H fin=>kH H (YC (decide_eq_true c0) rfl fun _ H=>fin H iJ rfl)
   ·exact Op2 2 32 11 41 rfl rfl fun _ _ _ _ hG _ H fin=>kH H (Pt (decide_eq_true c0) rfl fun _ H=>fin H iJ rfl)
   exact opB rfl
  clear H;intro a w G hGm6 H hv;obtain ⟨u42,hu42,hp42⟩:=hv 12 42 (by decide) rfl;obtain rfl:u42=.bool (decide (x.key < y.key)):=hp42;have H:=H.addS hu42;clear hv;refine kH H (Ra rfl ?_);clear H;intro a H;refine wl_nil ⟨rfl,?_⟩;refine K8 _ _ ?_;clear K8;refine c_cond_f H rfl (decide_eq_false c1) ?_;refine c_seq (fun _ K10=>?_)
  have hz:¬ (0 < k∧x.key < y.key):=by first|exact fun h=>c1 h.2|exact fun h=>c0 (by omega)
  refine kP H (SC (Rf fd217_3hdr rfl (Ro ty4doc 0 rfl rfl (Rn rfl (Ra rfl (Kn K10 ?_))))));clear H K10;intro a H;refine c_cond H rfl ?_ ?_
  ·intro h43
   try have p43:=dT h43
   refine kP H (SR fun _ K11=>Rf fd217_2hdr rfl (Ro ty3run 0 rfl rfl (Rc rfl ?_)));clear H;intro a H;refine s_call en65nam H wn rfl (when_spec _ _ H.hp.ro _ 21) rfl ?_;clear H;rintro v50 _ a w ⟨rfl,rfl⟩ - H;refine kH H (Ra rfl (Kz K11 ?_));clear H K11;intro a H;refine lr H Tryz.results138 rfl ?_
   exact H.hp.ret (by rw [he];refine congrArg vi ?_;clear he hrow hrow' hq hx hy;unfold layE0;(repeat' split) <;> first|rfl|(simp_all;done)|(exfalso;simp_all;done))
  intro h43
  try have p43:=dF h43
  refine c_skip ?_;refine K3 _ _ ?_;clear K3;refine c_seq (fun _ K12=>?_);replace hck:=(hck.mono hGm2).mono hGm6;replace hb:=hGm6 _ _ (hGm2 _ _ hb);refine c_drawI (hmx) [[],[0],[],[2],[0,1,2,3],[],[],[6],[],[8],(List.range 10),(List.range 11),(List.range 12),(List.range 13)] [11,12,13] (by kernel_rfl) (by kernel_rfl) (fun (ix_:Nat) (v:Value) (G:GH)=>match ix_ with|0=>v=.pointer (some ⟨b9,1,none⟩)|1=>v=vi x.key|2=>v=.pointer (some ⟨b9,2,none⟩)|3=>v=vi x.before|4=>v=vi (chkVS x.key x.before)|5=>v=.pointer (some ⟨b,0,none⟩)|6=>v=.pointer (some ⟨b9,1,none⟩)|7=>v=vi x.key|8=>v=.pointer (some ⟨b9,2,none⟩)|9=>v=vi x.before|10=>v=vi (refE st (li.map LiD.id) x.key x.before)|_=>True) (fun _ _ _ _ _ h=>h) H ?_ ?_
  ·clear H;refine al4 ?_ ?_ ?_ ?_ (al4 ?_ ?_ ?_ ?_ (al4 ?_ ?_ ?_ ?_ (allI_cons ?_ (allI_cons ?_ allI_nil))))
   ·exact Z0 rfl rfl fun _ _ _ _ _=>Rf fd217_1hdr rfl
   ·exact Z1 0 51 rfl rfl fun _ _ _ _ _=>Ro ty3run 0 rfl rfl
   ·exact Z0 rfl rfl fun _ _ _ _ _=>Rf fd217_2hdr rfl
   ·exact Z1 2 53 rfl rfl fun _ _ _ _ _=>Ro ty3run 0 rfl rfl
   ·refine Op2 1 52 3 54 rfl rfl fun _ a w G1 hG HT H fin=>?_;refine s_call en107prc H wn rfl (checkValue_spec _ _ H.hp.ro x.key x.before) rfl ?_;clear H;rintro v55 G55 a w rfl hGm55 H;exact fin H hGm55 (rfl)
   ·exact Z0 rfl rfl fun _ _ _ _ _=>Rm rfl
   ·exact Z0 rfl rfl fun _ _ _ _ _=>Rf fd217_1hdr rfl
   ·exact Z1 6 57 rfl rfl fun _ _ _ _ _=>Ro ty3run 0 rfl rfl
   ·exact Z0 rfl rfl fun _ _ _ _ _=>Rf fd217_2hdr rfl
   ·exact Z1 8 59 rfl rfl fun _ _ _ _ _=>Ro ty3run 0 rfl rfl
   ·refine Op3 5 56 7 58 9 60 rfl rfl fun _ a w G1 hG HT H fin=>?_;refine s_call en136hdr H wn rfl (ckRef_spec _ _ H.hp.ro st li rv b ms ml mr mb mu n x.key x.before (hck.mono hG) (hG _ _ hb)) rfl ?_;clear H;rintro v61 G61 a w ⟨rfl,-⟩ hGm61 H;exact fin H hGm61 (rfl)
   ·exact opB rfl
   ·exact opB rfl
   exact opB rfl
  clear H;intro a w G hGm10 H hv;obtain ⟨u55,hu55,hp55⟩:=hv 4 55 (by decide) rfl;obtain rfl:u55=vi (chkVS x.key x.before):=hp55;have H:=H.addS hu55;obtain ⟨u61,hu61,hp61⟩:=hv 10 61 (by decide) rfl;obtain rfl:u61=vi (refE st (li.map LiD.id) x.key x.before):=hp61;have H:=H.addS hu61;clear hv;refine s_buildSlice un221fst ty22fst [_,_] [_,_] H wn rfl rfl rfl rfl rfl (by intro i q h;match i,h with|0,h=>exact h|1,h=>exact h|n+2,h=>simp at h) rfl rfl ?_;clear H;intro b62 a w hb62 H;obtain ⟨G62,hm62,hb62',H⟩:=H.giveBox;refine s_call en52nam H wn rfl (first_spec1 _ _ H.hp.ro _ _ (two_rep hb62')) rfl ?_;clear H;rintro v63 _ a w ⟨rfl,rfl⟩ - H;refine kH H (Ra rfl ?_);clear H;intro a H;refine wl_nil ⟨rfl,?_⟩;refine K12 _ _ ?_;clear K12;refine lr H Tryz.results138 rfl ?_
  exact H.hp.ret (by rw [he];refine congrArg vi ?_;clear he hrow hrow' hq hx hy;unfold layE0;(repeat' split) <;> first|rfl|(simp_all;done)|(exfalso;simp_all;done))
 skip;refine c_drawI (hmx) [[],[0],[0,1],[0,1,2],[0,1,2,3],[0,1,2],[0,1,2],[0,1,2,6],[0,1,2,5,6,7],[0,1,2,5,6,7,8],[0,1,2,5,6,7,8,9],(List.range 11),(List.range 12),(List.range 13)] [13] (by kernel_rfl) (by kernel_rfl) (fun (ix_:Nat) (v:Value) (G:GH)=>match ix_ with|0=>v=vi k|1=>v=.bool (decide (0 < (k:Int)))|2=>v=.bool (decide (0 < (k:Int)))|3=>v=undef|4=>v=undef|5=>v=undef|6=>v=undef|7=>v=undef|8=>v=undef|9=>v=undef|10=>v=undef|11=>v=undef|12=>v=.bool false|_=>True) (fun _ _ _ _ _ h=>h) H ?_ ?_
 ·clear H;refine al4 ?_ ?_ ?_ ?_ (al4 ?_ ?_ ?_ ?_ (al4 ?_ ?_ ?_ ?_ (allI_cons ?_ (allI_cons ?_ allI_nil))))
  ·exact Z0 rfl rfl fun _ _ _ _ _=>Rm rfl
  ·exact Z1 0 30 rfl rfl fun _ _ _ _ _=>Rc rfl
  ·exact Z1 1 31 rfl rfl fun _ _ _ _ _=>Rm rfl
  ·exact skI 2 (decide_eq_false c0) rfl rfl
  ·exact skI 2 (decide_eq_false c0) rfl rfl
  ·exact skI 2 (decide_eq_false c0) rfl rfl
  ·exact skI 2 (decide_eq_false c0) rfl rfl
  ·exact skI 2 (decide_eq_false c0) rfl rfl
  ·exact skI 2 (decide_eq_false c0) rfl rfl
  ·exact skI 2 (decide_eq_false c0) rfl rfl
  ·exact skI 2 (decide_eq_false c0) rfl rfl
  ·exact skI 2 (decide_eq_false c0) rfl rfl
  ·exact Op2 2 32 11 41 rfl rfl fun _ _ _ _ hG _ H fin=>kH H (Pf (decide_eq_false c0) rfl fun _ H=>fin H iJ rfl)
  exact opB rfl
 clear H;intro a w G hGm6 H hv;obtain ⟨u42,hu42,hp42⟩:=hv 12 42 (by decide) rfl;obtain rfl:u42=.bool false:=hp42;have H:=H.addS hu42;clear hv;refine kH H (Ra rfl ?_);clear H;intro a H;refine wl_nil ⟨rfl,?_⟩;refine K8 _ _ ?_;clear K8;refine c_cond_f H rfl rfl ?_;refine c_seq (fun _ K13=>?_)
 have hz:¬ (0 < k∧x.key < y.key):=by first|exact fun h=>c1 h.2|exact fun h=>c0 (by omega)
 refine kP H (SC (Rf fd217_3hdr rfl (Ro ty4doc 0 rfl rfl (Rn rfl (Ra rfl (Kn K13 ?_))))));clear H K13;intro a H;refine c_cond H rfl ?_ ?_
 ·intro h43
  try have p43:=dT h43
  refine kP H (SR fun _ K14=>Rf fd217_2hdr rfl (Ro ty3run 0 rfl rfl (Rc rfl ?_)));clear H;intro a H;refine s_call en65nam H wn rfl (when_spec _ _ H.hp.ro _ 21) rfl ?_;clear H;rintro v50 _ a w ⟨rfl,rfl⟩ - H;refine kH H (Ra rfl (Kz K14 ?_));clear H K14;intro a H;refine lr H Tryz.results138 rfl ?_
  exact H.hp.ret (by rw [he];refine congrArg vi ?_;clear he hrow hrow' hq hx hy;unfold layE0;(repeat' split) <;> first|rfl|(simp_all;done)|(exfalso;simp_all;done))
 intro h43
 try have p43:=dF h43
 refine c_skip ?_;refine K3 _ _ ?_;clear K3;refine c_seq (fun _ K15=>?_);replace hck:=(hck.mono hGm2).mono hGm6;replace hb:=hGm6 _ _ (hGm2 _ _ hb);refine c_drawI (hmx) [[],[0],[],[2],[0,1,2,3],[],[],[6],[],[8],(List.range 10),(List.range 11),(List.range 12),(List.range 13)] [11,12,13] (by kernel_rfl) (by kernel_rfl) (fun (ix_:Nat) (v:Value) (G:GH)=>match ix_ with|0=>v=.pointer (some ⟨b9,1,none⟩)|1=>v=vi x.key|2=>v=.pointer (some ⟨b9,2,none⟩)|3=>v=vi x.before|4=>v=vi (chkVS x.key x.before)|5=>v=.pointer (some ⟨b,0,none⟩)|6=>v=.pointer (some ⟨b9,1,none⟩)|7=>v=vi x.key|8=>v=.pointer (some ⟨b9,2,none⟩)|9=>v=vi x.before|10=>v=vi (refE st (li.map LiD.id) x.key x.before)|_=>True) (fun _ _ _ _ _ h=>h) H ?_ ?_
 ·clear H;refine al4 ?_ ?_ ?_ ?_ (al4 ?_ ?_ ?_ ?_ (al4 ?_ ?_ ?_ ?_ (allI_cons ?_ (allI_cons ?_ allI_nil))))
  ·exact Z0 rfl rfl fun _ _ _ _ _=>Rf fd217_1hdr rfl
  ·exact Z1 0 51 rfl rfl fun _ _ _ _ _=>Ro ty3run 0 rfl rfl
  ·exact Z0 rfl rfl fun _ _ _ _ _=>Rf fd217_2hdr rfl
  ·exact Z1 2 53 rfl rfl fun _ _ _ _ _=>Ro ty3run 0 rfl rfl
  ·refine Op2 1 52 3 54 rfl rfl fun _ a w G1 hG HT H fin=>?_;refine s_call en107prc H wn rfl (checkValue_spec _ _ H.hp.ro x.key x.before) rfl ?_;clear H;rintro v55 G55 a w rfl hGm55 H;exact fin H hGm55 (rfl)
  ·exact Z0 rfl rfl fun _ _ _ _ _=>Rm rfl
  ·exact Z0 rfl rfl fun _ _ _ _ _=>Rf fd217_1hdr rfl
  ·exact Z1 6 57 rfl rfl fun _ _ _ _ _=>Ro ty3run 0 rfl rfl
  ·exact Z0 rfl rfl fun _ _ _ _ _=>Rf fd217_2hdr rfl
  ·exact Z1 8 59 rfl rfl fun _ _ _ _ _=>Ro ty3run 0 rfl rfl
  ·refine Op3 5 56 7 58 9 60 rfl rfl fun _ a w G1 hG HT H fin=>?_;refine s_call en136hdr H wn rfl (ckRef_spec _ _ H.hp.ro st li rv b ms ml mr mb mu n x.key x.before (hck.mono hG) (hG _ _ hb)) rfl ?_;clear H;rintro v61 G61 a w ⟨rfl,-⟩ hGm61 H;exact fin H hGm61 (rfl)
  ·exact opB rfl
  ·exact opB rfl
  exact opB rfl
 clear H;intro a w G hGm10 H hv;obtain ⟨u55,hu55,hp55⟩:=hv 4 55 (by decide) rfl;obtain rfl:u55=vi (chkVS x.key x.before):=hp55;have H:=H.addS hu55;obtain ⟨u61,hu61,hp61⟩:=hv 10 61 (by decide) rfl;obtain rfl:u61=vi (refE st (li.map LiD.id) x.key x.before):=hp61;have H:=H.addS hu61;clear hv;refine s_buildSlice un221fst ty22fst [_,_] [_,_] H wn rfl rfl rfl rfl rfl (by intro i q h;match i,h with|0,h=>exact h|1,h=>exact h|n+2,h=>simp at h) rfl rfl ?_;clear H;intro b62 a w hb62 H;obtain ⟨G62,hm62,hb62',H⟩:=H.giveBox;refine s_call en52nam H wn rfl (first_spec1 _ _ H.hp.ro _ _ (two_rep hb62')) rfl ?_;clear H;rintro v63 _ a w ⟨rfl,rfl⟩ - H;refine kH H (Ra rfl ?_);clear H;intro a H;refine wl_nil ⟨rfl,?_⟩;refine K15 _ _ ?_;clear K15;refine lr H Tryz.results138 rfl ?_
 exact H.hp.ret (by rw [he];refine congrArg vi ?_;clear he hrow hrow' hq hx hy;unfold layE0;(repeat' split) <;> first|rfl|(simp_all;done)|(exfalso;simp_all;done))
end
section
open Go.RowKit
theorem ty130hea:Ty Tryz.prog 130 1 8 [.pointer none] false:=⟨by kernel_rfl,by kernel_rfl⟩
theorem en138hea:∀ args w,(callFunc 138 args).run Tryz.prog w=.ok (.enter 138 args) w:=enters Tryz.func138 rfl (by kernel_rfl)
theorem ty29hea:Ty Tryz.prog 29 4 64 [.int .i64 0,.int .i64 0,.slice none 0 0,.slice none 0 0] true:=⟨by kernel_rfl,by kernel_rfl⟩
theorem fd214_0hea:Fld Tryz.prog 214 0 0:=⟨by kernel_rfl⟩
theorem fd214_1hea:Fld Tryz.prog 214 1 1:=⟨by kernel_rfl⟩
theorem en137hea:∀ args w,(callFunc 137 args).run Tryz.prog w=.ok (.enter 137 args) w:=enters Tryz.func137 rfl (by kernel_rfl)
theorem lay_cb {G:GH} {st:List StyleD} {li:List LiD} {rv:List RvD} {b ms ml mr mb mu:Nat} {n:Int} (hck:CkG G st li rv ms ml mr mu) (hb:G b=some (ckB b ms ml mr mb mu n).2)
  {x3 x4 x11:Nat} {e:Int} {l:List LayerD} {v:Value} (h3:gcell G x3 0=some (.pointer (some ⟨b,0,none⟩))) (h4:gcell G x4 0=some (vi e)) (h11:gcell G x11 3=some v) (hv:RepV G (.sl 4 (l.map LayerD.dat)) v) :
  IxCb (.func (.func 137) #[] #[.pointer (some ⟨x3,0,none⟩),.pointer (some ⟨x4,0,none⟩),.pointer (some ⟨x11,0,none⟩)]) G l.length (layE (ckP st li rv) e l):=by
 intro k hk G1 w0 hm hG;refine callV_func (caps:=[.pointer (some ⟨x3,0,none⟩),.pointer (some ⟨x4,0,none⟩),.pointer (some ⟨x11,0,none⟩)]) en137hea ?_;replace h3:=gcell_mono hm h3;replace h4:=gcell_mono hm h4;replace h11:=gcell_mono hm h11;replace hv:=hv.mono hm;obtain ⟨vA,vn,vc,rfl⟩:=hv.form;refine eN [(0,_),(1,_),(2,_),(3,_)] Tryz.func137 rfl Tryz.ntmps137 rfl rfl hG ?_;intro a H;refine kP H (SR fun _ K1=>Ra rfl (Kz K1 (SR fun _ K2=>Rg ty130hea rfl (by assumption) ?_)));clear H K1;intro a H;refine kH H (Rg ty3run rfl (by assumption) ?_);clear H;intro a H;refine kH H (Rf fd29_3run rfl (Rg ty27run rfl (by assumption) ?_));clear H;intro a H;refine kH H (Rm rfl ?_);clear H;intro a H;refine s_call en138hea H wn rfl (layer_spec _ _ H.hp.ro st li rv b ms ml mr mb mu n (hck.mono hm) (hm _ _ hb) e l _ hv k hk) rfl ?_;clear H;rintro v11 G11 a w rfl hm11 H;refine kH H (Ra rfl (Kz K2 ?_));clear H K2;intro a H;refine lr H Tryz.results137 rfl ?_;exact H.hp.ret rfl
/-- The errors of the properties, of the marks, of the deletions. -/
def refsE (C:CkP) (l:List PropD):Int:=firstE (l.map fun p=>refE C.st C.lis p.key p.value)
def mrkE (C:CkP) (m:MarksD):Int:=if m.ins≠0∧m.ins∉C.rvs then 22 else if ¬ (0≤m.move∧m.move≤1073741824)∨(m.move≠0∧m.ins=0) then 21 else if 16 < (m.dels.length:Int) then 9 else 0
def delE0 (C:CkP) (k:Nat) (x:DelD) (pr:Int):Int:=if x.rev∉C.rvs then 22 else if 0 < k∧x.rev≤pr then 6 else if ¬ (0≤x.move∧x.move≤1073741824) then 21 else 0
def delE (C:CkP) (l:List DelD) (k:Nat):Int:=match l[k]? with|some x=>delE0 C k x ((l[k - 1]?.map DelD.rev).getD 0)|none=>0
/-- The error of a head. -/
def headE (C:CkP) (e:Int) (h:HeadD):Int:=firstE [chkPS e h.props,refsE C h.props,mrkE C h.marks,allE (delE C h.marks.dels) h.marks.dels.length,whenE (decide (64 < (h.marks.layers.length:Int))) 9,allE (layE C e h.marks.layers) h.marks.layers.length]
theorem headE_1 {C:CkP} {e:Int} {h:HeadD} (h1:chkPS e h.props≠0):headE C e h=chkPS e h.props:=by simp [headE,firstE,h1]
theorem headE_2 {C:CkP} {e:Int} {h:HeadD} (h1:chkPS e h.props=0) (h2:refsE C h.props≠0):headE C e h=refsE C h.props:=by simp [headE,firstE,h1,h2]
theorem headE_3 {C:CkP} {e:Int} {h:HeadD} (h1:chkPS e h.props=0) (h2:refsE C h.props=0) (h3:mrkE C h.marks≠0):headE C e h=mrkE C h.marks:=by simp [headE,firstE,h1,h2,h3]
theorem headE_4 {C:CkP} {e:Int} {h:HeadD} (h1:chkPS e h.props=0) (h2:refsE C h.props=0) (h3:mrkE C h.marks=0) (h4:allE (delE C h.marks.dels) h.marks.dels.length≠0):headE C e h=allE (delE C h.marks.dels) h.marks.dels.length:=by simp [headE,firstE,h1,h2,h3,h4]
theorem headE_5 {C:CkP} {e:Int} {h:HeadD} (h1:chkPS e h.props=0) (h2:refsE C h.props=0) (h3:mrkE C h.marks=0) (h4:allE (delE C h.marks.dels) h.marks.dels.length=0) (h5:64 < (h.marks.layers.length:Int)):headE C e h=9:=by simp [headE,firstE,h1,h2,h3,h4,whenE,h5]
theorem headE_6 {C:CkP} {e:Int} {h:HeadD} (h1:chkPS e h.props=0) (h2:refsE C h.props=0) (h3:mrkE C h.marks=0) (h4:allE (delE C h.marks.dels) h.marks.dels.length=0) (h5:¬ 64 < (h.marks.layers.length:Int)):headE C e h=allE (layE C e h.marks.layers) h.marks.layers.length:=by simp [headE,firstE,h1,h2,h3,h4,whenE,h5];exact Eq.symm
theorem refsE_at {C:CkP} {l:List PropD} {k:Nat} (h:k < l.length):firstE ((l.map fun p=>refE C.st C.lis p.key p.value).drop k)=if refE C.st C.lis l[k].key l[k].value≠0 then refE C.st C.lis l[k].key l[k].value else firstE ((l.map fun p=>refE C.st C.lis p.key p.value).drop (k+1)):=by
 rw [firstE_at (by simpa using h)];simp
theorem head_spec (G:GH) (w0:World) (hG:Hold G w0) (st:List StyleD) (li:List LiD) (rv:List RvD) (b ms ml mr mb mu:Nat) (n:Int) (hck:CkG G st li rv ms ml mr mu) (hb:G b=some (ckB b ms ml mr mb mu n).2)
  (e:Int) (h:HeadD) (p d l:Value) (hh:HeadR G h p d l) (hz:zHead h≤4294967296) :
  Calls Tryz.prog 64 #[.pointer (some ⟨b,0,none⟩),vi e,hdV h p d l] w0 (Ret w0 G fun u G'=>u=vi (headE (ckP st li rv) e h)):=by
 obtain ⟨pA,pc,rfl,-,-,-⟩:=hh.props.slice;obtain ⟨dA,dc,rfl,-,-,-⟩:=hh.dels.slice;obtain ⟨lA,lc,rfl,-,-,-⟩:=hh.layers.slice;have hml:maxLen=9223372036854775807:=rfl;have hzz:=zHead_eq h;have hz1:=szRs_length (h.props.map PropD.dat);have hz2:=szRs_length (h.marks.dels.map DelD.dat);have hz3:=szRs_length (h.marks.layers.map LayerD.dat)
 simp only [List.length_map] at hh hz1 hz2 hz3 ⊢
 generalize zHead h=zz at hz hzz
 refine eN [(0,_),(1,_),(2,_)] Tryz.func64 rfl Tryz.ntmps64 rfl rfl hG ?_;intro a H;refine c_seqR (fun _ K1=>?_);refine s_box (cs:=[_]) H wn rfl rfl rfl ?_;clear H;intro b3 a w hb3 H;refine s_box (cs:=[_]) H wn rfl rfl rfl ?_;clear H;intro b4 a w hb4 H;refine s_box (cs:=[_,_,_,_,_]) H wn rfl rfl rfl ?_;clear H;intro b5 a w hb5 H;refine kH H (Ra rfl (Kz K1 (SQ fun _ K2=>SQ fun _ K3=>?_)));clear H K1;intro a H;obtain ⟨Ga5,hma5,hb5',H⟩:=H.giveBox;obtain ⟨Ga4,hma4,hb4',H⟩:=H.giveBox;obtain ⟨Ga,hma3,hb3',H⟩:=H.giveBox;replace hb5':=hma3 _ _ (hma4 _ _ hb5');replace hb4':=hma3 _ _ hb4';have hma:∀ b o,G b=some o→Ga b=some o:=fun b o h=>hma3 _ _ (hma4 _ _ (hma5 _ _ h));clear hma3 hma4 hma5;replace hck:=hck.mono hma;replace hb:=hma _ _ hb;replace hh:=hh.mono hma
 have g3:gcell Ga b3 0=some (.pointer (some ⟨b,0,none⟩)):=by unfold gcell;rw [hb3'];rfl
 have g4:gcell Ga b4 0=some (vi e):=by unfold gcell;rw [hb4'];rfl
 have g50:gcell Ga b5 0=some (.slice pA h.props.length pc):=by unfold gcell;rw [hb5'];rfl
 have g51:∀ (j:Nat) (u:Value),[vi h.marks.ins,vi h.marks.move,.slice dA h.marks.dels.length dc,.slice lA h.marks.layers.length lc][j]?=some u→gcell Ga b5 (1+j)=some u:=by
  intro j u hj
  unfold gcell;rw [hb5']
  match j,hj with
  | 0,hj=>exact hj
  | 1,hj=>exact hj
  | 2,hj=>exact hj
  | 3,hj=>exact hj
  | n+4,hj=>simp at hj
 have hc2:gcell Ga b 2=some (.map (some mr)):=by unfold gcell;rw [hb];rfl
 refine kP H (SC (Rg ty3run rfl (by assumption) ?_));clear H;intro a H;refine kH H (Rf fd31_0run rfl (Rg ty25run rfl (by assumption) ?_));clear H;intro a H;refine s_call en44stz H wn rfl (backR (propCheck_spec _ _ H.hp.ro e h.props _ hh.props)) rfl ?_;clear H;rintro v17 _ a w ⟨⟨_,rfl⟩,rfl⟩ - H;refine kH H (Ra rfl (Kn K3 (SR fun _ K4=>Rm rfl (Rc rfl (Kz K4 ?_)))));clear H K3 K4;intro a H;refine c_cond H rfl ?_ ?_
 ·intro h19
  try have p19:=dT h19
  refine c_seq (fun _ K5=>?_);have hE:=headE_1 (C:=ckP st li rv) (e:=e) (h:=h) p19;refine kP H (SC (Rm rfl (Ra rfl (Kn K5 ?_))));clear H K5;intro a H;refine lr H Tryz.results64 rfl ?_;exact H.hp.ret (by rw [hE])
 intro h19
 try have p19:=dF h19
 have e1:chkPS e h.props=0:=by simpa using p19
 refine kP H (Kc K2 (SQ fun _ K6=>SR fun _ K7=>Rf fd31_0run rfl (Rg ty25run rfl (by assumption) ?_)));clear H K2;intro a H;refine kH H (Rl un25run rfl (Rm rfl (Kz K7 (SB ?_))));clear H K7;intro a H;skip;refine c_loopS (ι:=Nat) (Tc:=[(3,_),(4,_),(5,_),(22,_),(23,_)]) (Lc:=[]) (fun (gh:Nat)=>[(24,vi gh)]) (fun (gh:Nat)=>[]) (fun (gh:Nat)=>Ga) (fun (gh:Nat)=>gh≤h.props.length∧firstE ((h.props.map fun p=>refE st (li.map LiD.id) p.key p.value).drop gh)=refsE (ckP st li rv) h.props) (fun (gh:Nat)=>h.props.length - gh) (0) (by exact (H).sub ⟨rfl,rfl,rfl,rfl,rfl,rfl,trivial⟩) ?_ ?_
 ·exact ⟨Nat.zero_le _,rfl⟩
 clear H;intro gh a w hI H;obtain ⟨k,hgh⟩:∃ x,x=gh:=⟨_,rfl⟩;subst hgh;obtain ⟨hk,heq⟩:=hI;dsimp only [List.cons_append,List.nil_append,List.append_nil] at H;refine kP H (SR fun _ K8=>Rc rfl (Kz K8 (SQ fun _ K9=>?_)));clear H K8;intro a H;refine c_cond H rfl ?_ ?_
 ·intro h25
  try have p25:=dT h25
  have hk2:k < h.props.length:=by omega
  obtain ⟨xb,xo,rfl,hrow⟩:=prop_at hh.props hk2;refine kP H (Kc K9 (SQ fun _ K10=>SB (SR fun _ K11=>Ri un25run ty40run rfl rfl ?_)));clear H K9;intro a H;refine s_loada ty40run (cs:=[_,_]) H wn rfl rfl (fun j v hj=>H.hp.gcell (hrow j v hj)) rfl ?_;clear H;intro a H;refine s_alloc ty40run H wn rfl ?_;clear H;intro b9 a w hb9 H;refine s_store ty40run 0 (vs:=[_,_]) _ H wn rfl rfl rfl rfl rfl rfl rfl rfl ?_;clear H;intro w H;dsimp only [List.set,setRow] at H;refine K11 _ _ ?_;clear K11;refine kP H (SR fun _ K12=>Rg ty130hea rfl (by assumption) ?_);clear H;intro a H;refine kH H (Rf fd40_0prp rfl (Ro ty3run 0 rfl rfl (Rf fd40_1prc rfl (Ro ty3run 0 rfl rfl ?_))));clear H;intro a H;refine s_call en136hdr H wn rfl (ckRef_spec _ _ H.hp.ro st li rv b ms ml mr mb mu n h.props[k].key h.props[k].value hck hb) rfl ?_;clear H;rintro v33 _ a w ⟨rfl,rfl⟩ - H;refine kH H (Ra rfl (Kz K12 (SR fun _ K13=>Rm rfl (Rc rfl (Kz K13 ?_)))));clear H K12 K13;intro a H;refine c_cond H rfl ?_ ?_
  ·intro h35
   try have p35:=dT h35
   refine c_seq (fun _ K14=>?_)
   have hr:refsE (ckP st li rv) h.props=refE st (li.map LiD.id) h.props[k].key h.props[k].value:=by rw [← heq];exact (refsE_at (C:=ckP st li rv) hk2).trans (if_pos p35)
   have hE:=(headE_2 (C:=ckP st li rv) (e:=e) (h:=h) e1 (by rw [hr];exact p35)).trans hr;refine kP H (SC (Rm rfl (Ra rfl (Kn K14 ?_))));clear H K14;intro a H;refine lr H Tryz.results64 rfl ?_;exact H.hp.ret (by rw [hE])
  intro h35
  try have p35:=dF h35
  refine kP H (Kc K10 (SC (Rd rfl (Rm rfl ?_))));clear H K10;intro a H;refine wl_nil ?_;refine loop_end ((k+1)) (by exact (H.pickT (Pl:=[_]) (Pl':=[]) [] (by decide) rfl).sub ⟨rfl,rfl,rfl,rfl,rfl,rfl,trivial⟩) ?_ ?_
  ·exact ⟨by omega,by rw [refsE_at (C:=ckP st li rv) hk2,if_neg (by simpa using p35)] at heq;exact heq⟩
  first|omega|(dsimp only;omega)
 intro h25
 try have p25:=dF h25
 refine c_exit ?_;refine K6 _ _ ?_;clear K6;refine c_seq (fun _ K15=>?_)
 have e2:refsE (ckP st li rv) h.props=0:=by rw [← heq,List.drop_of_length_le (by rw [List.length_map];omega)];rfl
 refine kP H (SC (Rf fd31_1run rfl ?_));clear H;intro a H;refine s_loada ty29hea (cs:=[vi h.marks.ins,vi h.marks.move,.slice dA h.marks.dels.length dc,.slice lA h.marks.layers.length lc]) H wn rfl rfl (fun j v hj=>H.hp.gcell (g51 j v hj)) rfl ?_;clear H;intro a H;refine s_alloc ty29hea H wn rfl ?_;clear H;intro b11 a w hb11 H;refine s_store ty29hea 0 (vs:=[_,_,_,_]) _ H wn rfl rfl rfl rfl rfl rfl rfl rfl ?_;clear H;intro w H;dsimp only [List.set,setRow] at H;obtain ⟨Gb,hmb,hb11',H⟩:=H.giveBox;replace hck:=hck.mono hmb;replace hb:=hmb _ _ hb;replace hh:=hh.mono hmb;replace g3:=gcell_mono hmb g3;replace g4:=gcell_mono hmb g4;replace hc2:=gcell_mono hmb hc2
 have q0:gcell Gb b11 0=some (vi h.marks.ins):=by unfold gcell;rw [hb11'];rfl
 have q1:gcell Gb b11 1=some (vi h.marks.move):=by unfold gcell;rw [hb11'];rfl
 have q2:gcell Gb b11 2=some (.slice dA h.marks.dels.length dc):=by unfold gcell;rw [hb11'];rfl
 have q3:gcell Gb b11 3=some (.slice lA h.marks.layers.length lc):=by unfold gcell;rw [hb11'];rfl
 have hcb:=lay_cb hck hb g3 g4 q3 hh.layers;refine wl_nil ?_;refine K15 _ _ ?_;clear K15;refine c_seqJ (ι:=GH) (Tc:=[(3,_),(4,_),(11,_)]) (Lc:=[]) (fun (gh:GH)=>[]) (fun (gh:GH)=>[]) (fun (gh:GH)=>gh) (fun (gh:GH)=>mrkE (ckP st li rv) h.marks=0∧(∀ b o,Gb b=some o→gh b=some o)) (by exact (H).sub ⟨rfl,rfl,rfl,trivial⟩) ?_ ?_
 ·skip;refine c_block ?_;refine c_seq (fun _ K16=>?_)
  by_cases c0:h.marks.ins≠0
  ·skip
   by_cases c1:h.marks.ins∉rv.map RvD.id
   ·skip;refine c_drawI (hmx) [[],[0],[0,1],[0,1,2],[0,1,2,3],[0,1,2,3,4],[0,1,2,3,4,5],(List.range 7),[0,1,2,3],[0,1,2,3,8],(List.range 10),(List.range 11),(List.range 12),(List.range 13)] [13] (by kernel_rfl) (by kernel_rfl) (fun (ix_:Nat) (v:Value) (G:GH)=>match ix_ with|0=>v=.pointer (some ⟨b11,0,none⟩)|1=>v=vi h.marks.ins|2=>v=.bool (decide (h.marks.ins≠0))|3=>v=.bool (decide (h.marks.ins≠0))|4=>v=.pointer (some ⟨b,0,none⟩)|5=>v=.pointer (some ⟨b,0,none⟩)|6=>v=.pointer (some ⟨b,2,none⟩)|7=>v=.map (some mr)|8=>v=.pointer (some ⟨b11,0,none⟩)|9=>v=vi h.marks.ins|10=>v=.bool (decide (h.marks.ins∈rv.map RvD.id))|11=>v=.bool (decide (h.marks.ins∉rv.map RvD.id))|12=>v=.bool (decide (h.marks.ins∉rv.map RvD.id))|_=>True) (fun _ _ _ _ _ h=>h) H ?_ ?_
    ·clear H;refine al4 ?_ ?_ ?_ ?_ (al4 ?_ ?_ ?_ ?_ (al4 ?_ ?_ ?_ ?_ (allI_cons ?_ (allI_cons ?_ allI_nil))))
     ·exact Z0 rfl rfl fun _ _ _ _ _=>Rf fd29_0ehd rfl
     ·exact Op1 0 41 rfl rfl fun _ _ _ _ hG _ H fin=>kH H (Rg ty3run rfl (gcell_mono hG q0) fun _ H=>fin H iJ rfl)
     ·exact Z1 1 42 rfl rfl fun _ _ _ _ _=>Rc rfl
     ·exact Z1 2 43 rfl rfl fun _ _ _ _ _=>Rm rfl
     ·exact Op1 3 44 rfl rfl fun _ _ _ _ hG _ H fin=>kH H (YR ty130hea (decide_eq_true c0) rfl (gcell_mono hG g3) fun _ H=>fin H iJ rfl)
     ·refine Op2 4 45 3 44 rfl rfl fun _ a w G1 hG HT H fin=>?_;refine s_nilCheck H (wg H rfl rfl (decide_eq_true c0)) rfl rfl ?_;clear H;intro a H;exact fin H iJ rfl
     ·exact Op2 5 46 3 44 rfl rfl fun _ _ _ _ hG _ H fin=>kH H (YF fd140_2nck (decide_eq_true c0) rfl fun _ H=>fin H iJ rfl)
     ·exact Op2 6 47 3 44 rfl rfl fun _ _ _ _ hG _ H fin=>kH H (YR ty138nck (decide_eq_true c0) rfl (gcell_mono hG hc2) fun _ H=>fin H iJ rfl)
     ·exact Op1 3 44 rfl rfl fun _ _ _ _ hG _ H fin=>kH H (YF fd29_0ehd (decide_eq_true c0) rfl fun _ H=>fin H iJ rfl)
     ·exact Op2 8 49 3 44 rfl rfl fun _ _ _ _ hG _ H fin=>kH H (YR ty3run (decide_eq_true c0) rfl (gcell_mono hG q0) fun _ H=>fin H iJ rfl)
     ·refine Op3 7 48 9 50 3 44 rfl rfl fun _ a w G1 hG HT H fin=>?_;refine s_lookupK (zv:=.bool false) un138nck un3cp (by kernel_rfl) H (wg H rfl rfl (decide_eq_true c0)) rfl rfl (H.hp.ro _ _ (hG _ _ hck.rev)) rfl ?_;clear H;intro a H;rw [lk_set] at H;exact fin H iJ rfl
     ·refine Op2 10 51 3 44 rfl rfl fun _ a w G1 hG HT H fin=>?_;refine kH H (YN (decide_eq_true c0) rfl ?_);clear H;intro a H;exact fin H iJ (by first|rfl|exact congrArg Value.bool decide_not.symm)
     ·exact Op2 3 44 11 52 rfl rfl fun _ _ _ _ hG _ H fin=>kH H (Pt (decide_eq_true c0) rfl fun _ H=>fin H iJ rfl)
     exact opB rfl
    clear H;intro a w G hGm12 H hv;obtain ⟨u53,hu53,hp53⟩:=hv 12 53 (by decide) rfl;obtain rfl:u53=.bool (decide (h.marks.ins∉rv.map RvD.id)):=hp53;have H:=H.addS hu53;clear hv;refine kH H (Ra rfl ?_);clear H;intro a H;refine wl_nil ⟨rfl,?_⟩;refine K16 _ _ ?_;clear K16;refine c_cond_t H rfl (decide_eq_true c1) ?_;refine c_seq (fun _ K17=>?_);have e3:mrkE (ckP st li rv) h.marks=22:=if_pos ⟨c0,c1⟩;have hE:=(headE_3 (C:=ckP st li rv) (e:=e) (h:=h) e1 e2 (by rw [e3];decide)).trans e3;refine kP H (SC (Ra rfl (Kn K17 ?_)));clear H K17;intro a H;refine lr H Tryz.results64 rfl ?_;exact H.hp.ret (by rw [hE])
   skip;refine c_drawI (hmx) [[],[0],[0,1],[0,1,2],[0,1,2,3],[0,1,2,3,4],[0,1,2,3,4,5],(List.range 7),[0,1,2,3],[0,1,2,3,8],(List.range 10),(List.range 11),(List.range 12),(List.range 13)] [13] (by kernel_rfl) (by kernel_rfl) (fun (ix_:Nat) (v:Value) (G:GH)=>match ix_ with|0=>v=.pointer (some ⟨b11,0,none⟩)|1=>v=vi h.marks.ins|2=>v=.bool (decide (h.marks.ins≠0))|3=>v=.bool (decide (h.marks.ins≠0))|4=>v=.pointer (some ⟨b,0,none⟩)|5=>v=.pointer (some ⟨b,0,none⟩)|6=>v=.pointer (some ⟨b,2,none⟩)|7=>v=.map (some mr)|8=>v=.pointer (some ⟨b11,0,none⟩)|9=>v=vi h.marks.ins|10=>v=.bool (decide (h.marks.ins∈rv.map RvD.id))|11=>v=.bool (decide (h.marks.ins∉rv.map RvD.id))|12=>v=.bool (decide (h.marks.ins∉rv.map RvD.id))|_=>True) (fun _ _ _ _ _ h=>h) H ?_ ?_
   ·clear H;refine al4 ?_ ?_ ?_ ?_ (al4 ?_ ?_ ?_ ?_ (al4 ?_ ?_ ?_ ?_ (allI_cons ?_ (allI_cons ?_ allI_nil))))
    ·exact Z0 rfl rfl fun _ _ _ _ _=>Rf fd29_0ehd rfl
    ·exact Op1 0 41 rfl rfl fun _ _ _ _ hG _ H fin=>kH H (Rg ty3run rfl (gcell_mono hG q0) fun _ H=>fin H iJ rfl)
    ·exact Z1 1 42 rfl rfl fun _ _ _ _ _=>Rc rfl
    ·exact Z1 2 43 rfl rfl fun _ _ _ _ _=>Rm rfl
    ·exact Op1 3 44 rfl rfl fun _ _ _ _ hG _ H fin=>kH H (YR ty130hea (decide_eq_true c0) rfl (gcell_mono hG g3) fun _ H=>fin H iJ rfl)
    ·refine Op2 4 45 3 44 rfl rfl fun _ a w G1 hG HT H fin=>?_;refine s_nilCheck H (wg H rfl rfl (decide_eq_true c0)) rfl rfl ?_;clear H;intro a H;exact fin H iJ rfl
    ·exact Op2 5 46 3 44 rfl rfl fun _ _ _ _ hG _ H fin=>kH H (YF fd140_2nck (decide_eq_true c0) rfl fun _ H=>fin H iJ rfl)
    ·exact Op2 6 47 3 44 rfl rfl fun _ _ _ _ hG _ H fin=>kH H (YR ty138nck (decide_eq_true c0) rfl (gcell_mono hG hc2) fun _ H=>fin H iJ rfl)
    ·exact Op1 3 44 rfl rfl fun _ _ _ _ hG _ H fin=>kH H (YF fd29_0ehd (decide_eq_true c0) rfl fun _ H=>fin H iJ rfl)
    ·exact Op2 8 49 3 44 rfl rfl fun _ _ _ _ hG _ H fin=>kH H (YR ty3run (decide_eq_true c0) rfl (gcell_mono hG q0) fun _ H=>fin H iJ rfl)
    ·refine Op3 7 48 9 50 3 44 rfl rfl fun _ a w G1 hG HT H fin=>?_;refine s_lookupK (zv:=.bool false) un138nck un3cp (by kernel_rfl) H (wg H rfl rfl (decide_eq_true c0)) rfl rfl (H.hp.ro _ _ (hG _ _ hck.rev)) rfl ?_;clear H;intro a H;rw [lk_set] at H;exact fin H iJ rfl
    ·refine Op2 10 51 3 44 rfl rfl fun _ a w G1 hG HT H fin=>?_;refine kH H (YN (decide_eq_true c0) rfl ?_);clear H;intro a H;exact fin H iJ (by first|rfl|exact congrArg Value.bool decide_not.symm)
    ·exact Op2 3 44 11 52 rfl rfl fun _ _ _ _ hG _ H fin=>kH H (Pt (decide_eq_true c0) rfl fun _ H=>fin H iJ rfl)
    exact opB rfl
   clear H;intro a w G hGm12 H hv;obtain ⟨u53,hu53,hp53⟩:=hv 12 53 (by decide) rfl;obtain rfl:u53=.bool (decide (h.marks.ins∉rv.map RvD.id)):=hp53;have H:=H.addS hu53;clear hv;refine kH H (Ra rfl ?_);clear H;intro a H;refine wl_nil ⟨rfl,?_⟩;refine K16 _ _ ?_;clear K16;refine c_cond_f H rfl (decide_eq_false c1) ?_;refine c_seq (fun _ K18=>?_)
   have hno:¬ (h.marks.ins≠0∧h.marks.ins∉(ckP st li rv).rvs):=by first|exact fun h=>c1 h.2|exact fun h=>c0 h.1
   replace q0:=gcell_mono hGm12 q0;replace q1:=gcell_mono hGm12 q1;replace q2:=gcell_mono hGm12 q2;refine kP H (SC (Rf fd29_1ehd rfl (Rg ty3run rfl (by assumption) ?_)));clear H;intro a H;refine s_call en128fst H wn rfl (in_spec _ _ H.hp.ro h.marks.move 0 1073741824) rfl ?_;clear H;rintro v57 _ a w ⟨rfl,rfl⟩ - H;refine kH H (Rn rfl (Rm rfl ?_));clear H;intro a H;refine s_split H 59 rfl ?_ ?_
   ·intro h59
    try have p59:=dT h59
    refine kH H (Ks h59 rfl (Ks h59 rfl (Ks h59 rfl (Ks h59 rfl (Ku rfl (Ku rfl (Ku rfl (Ks h59 rfl (Pt h59 rfl (Ra rfl (Kn K18 ?_)))))))))));clear H K18;intro a H;refine c_cond_t H rfl rfl ?_;refine c_seq (fun _ K19=>?_)
    have e3:mrkE (ckP st li rv) h.marks=21:=by unfold mrkE;rw [if_neg hno,if_pos (by first|(simp_all;done)|(simp_all;omega))]
    have hE:=(headE_3 (C:=ckP st li rv) (e:=e) (h:=h) e1 e2 (by rw [e3];decide)).trans e3;refine kP H (SC (Ra rfl (Kn K19 ?_)));clear H K19;intro a H;refine lr H Tryz.results64 rfl ?_;exact H.hp.ret (by rw [hE])
   intro h59
   try have p59:=dF h59
   refine kH H (YF fd29_1ehd h59 rfl (YR ty3run h59 rfl (by assumption) ?_));clear H;intro a H;refine kH H (YC h59 rfl (YM h59 rfl ?_));clear H;intro a H;refine s_split H 63 rfl ?_ ?_
   ·intro h63
    try have p63:=dT h63
    refine kH H (YF fd29_0ehd h63 rfl (YR ty3run h63 rfl (by assumption) ?_));clear H;intro a H;refine kH H (YC h63 rfl (PT h59 h63 rfl (Pf h59 rfl (Ra rfl (Kn K18 ?_)))));clear H K18;intro a H;refine c_cond H rfl ?_ ?_
    ·intro h54
     try have p54:=dT h54
     refine c_seq (fun _ K20=>?_)
     have e3:mrkE (ckP st li rv) h.marks=21:=by unfold mrkE;rw [if_neg hno,if_pos (by first|(simp_all;done)|(simp_all;omega))]
     have hE:=(headE_3 (C:=ckP st li rv) (e:=e) (h:=h) e1 e2 (by rw [e3];decide)).trans e3;refine kP H (SC (Ra rfl (Kn K20 ?_)));clear H K20;intro a H;refine lr H Tryz.results64 rfl ?_;exact H.hp.ret (by rw [hE])
    intro h54
    try have p54:=dF h54
    refine c_seq (fun _ K21=>?_)
    have hn2:¬ (¬ (0≤h.marks.move∧h.marks.move≤1073741824)∨(h.marks.move≠0∧h.marks.ins=0)):=by first|(simp_all;done)|(simp_all;omega)
    refine kP H (SC (Rf fd29_2run rfl (Rg ty26run rfl (by assumption) ?_)));clear H;intro a H;refine kH H (Rl un26run rfl (Rc rfl (Ra rfl (Kn K21 ?_))));clear H K21;intro a H;refine c_cond H rfl ?_ ?_
    ·intro h69
     try have p69:=dT h69
     refine c_seq (fun _ K22=>?_)
     have e3:mrkE (ckP st li rv) h.marks=9:=by unfold mrkE;rw [if_neg hno,if_neg hn2,if_pos (by simpa using h69)]
     have hE:=(headE_3 (C:=ckP st li rv) (e:=e) (h:=h) e1 e2 (by rw [e3];decide)).trans e3;refine kP H (SC (Ra rfl (Kn K22 ?_)));clear H K22;intro a H;refine lr H Tryz.results64 rfl ?_;exact H.hp.ret (by rw [hE])
    intro h69
    try have p69:=dF h69
    have e3:mrkE (ckP st li rv) h.marks=0:=by unfold mrkE;rw [if_neg hno,if_neg hn2,if_neg (by simpa using h69)]
    refine c_skip ?_;refine ⟨_,by exact (H).sub ⟨rfl,rfl,rfl,trivial⟩,?_⟩;exact ⟨e3,hGm12⟩
   intro h63
   try have p63:=dF h63
   refine kH H (Ks h63 rfl (Ks h63 rfl (Ks h63 rfl (PF h59 h63 rfl (Pf h59 rfl (Ra rfl (Kn K18 ?_)))))));clear H K18;intro a H;refine c_cond_f H rfl rfl ?_;refine c_seq (fun _ K23=>?_)
   have hn2:¬ (¬ (0≤h.marks.move∧h.marks.move≤1073741824)∨(h.marks.move≠0∧h.marks.ins=0)):=by first|(simp_all;done)|(simp_all;omega)
   refine kP H (SC (Rf fd29_2run rfl (Rg ty26run rfl (by assumption) ?_)));clear H;intro a H;refine kH H (Rl un26run rfl (Rc rfl (Ra rfl (Kn K23 ?_))));clear H K23;intro a H;refine c_cond H rfl ?_ ?_
   ·intro h69
    try have p69:=dT h69
    refine c_seq (fun _ K24=>?_)
    have e3:mrkE (ckP st li rv) h.marks=9:=by unfold mrkE;rw [if_neg hno,if_neg hn2,if_pos (by simpa using h69)]
    have hE:=(headE_3 (C:=ckP st li rv) (e:=e) (h:=h) e1 e2 (by rw [e3];decide)).trans e3;refine kP H (SC (Ra rfl (Kn K24 ?_)));clear H K24;intro a H;refine lr H Tryz.results64 rfl ?_;exact H.hp.ret (by rw [hE])
   intro h69
   try have p69:=dF h69
   have e3:mrkE (ckP st li rv) h.marks=0:=by unfold mrkE;rw [if_neg hno,if_neg hn2,if_neg (by simpa using h69)]
   refine c_skip ?_;refine ⟨_,by exact (H).sub ⟨rfl,rfl,rfl,trivial⟩,?_⟩;exact ⟨e3,hGm12⟩
  skip;refine c_drawI (hmx) [[],[0],[0,1],[0,1,2],[0,1,2,3],[0,1,2,3,4],[0,1,2,3,4,5],(List.range 7),[0,1,2,3],[0,1,2,3,8],(List.range 10),(List.range 11),(List.range 12),(List.range 13)] [13] (by kernel_rfl) (by kernel_rfl) (fun (ix_:Nat) (v:Value) (G:GH)=>match ix_ with|0=>v=.pointer (some ⟨b11,0,none⟩)|1=>v=vi h.marks.ins|2=>v=.bool (decide (h.marks.ins≠0))|3=>v=.bool (decide (h.marks.ins≠0))|4=>v=undef|5=>v=undef|6=>v=undef|7=>v=undef|8=>v=undef|9=>v=undef|10=>v=undef|11=>v=undef|12=>v=.bool false|_=>True) (fun _ _ _ _ _ h=>h) H ?_ ?_
  ·clear H;refine al4 ?_ ?_ ?_ ?_ (al4 ?_ ?_ ?_ ?_ (al4 ?_ ?_ ?_ ?_ (allI_cons ?_ (allI_cons ?_ allI_nil))))
   ·exact Z0 rfl rfl fun _ _ _ _ _=>Rf fd29_0ehd rfl
   ·exact Op1 0 41 rfl rfl fun _ _ _ _ hG _ H fin=>kH H (Rg ty3run rfl (gcell_mono hG q0) fun _ H=>fin H iJ rfl)
   ·exact Z1 1 42 rfl rfl fun _ _ _ _ _=>Rc rfl
   ·exact Z1 2 43 rfl rfl fun _ _ _ _ _=>Rm rfl
   ·exact skI 3 (decide_eq_false c0) rfl rfl
   ·exact skI 3 (decide_eq_false c0) rfl rfl
   ·exact skI 3 (decide_eq_false c0) rfl rfl
   ·exact skI 3 (decide_eq_false c0) rfl rfl
   ·exact skI 3 (decide_eq_false c0) rfl rfl
   ·exact skI 3 (decide_eq_false c0) rfl rfl
   ·exact skI 3 (decide_eq_false c0) rfl rfl
   ·exact skI 3 (decide_eq_false c0) rfl rfl
   ·exact Op2 3 44 11 52 rfl rfl fun _ _ _ _ hG _ H fin=>kH H (Pf (decide_eq_false c0) rfl fun _ H=>fin H iJ rfl)
   exact opB rfl
  clear H;intro a w G hGm12 H hv;obtain ⟨u53,hu53,hp53⟩:=hv 12 53 (by decide) rfl;obtain rfl:u53=.bool false:=hp53;have H:=H.addS hu53;clear hv;refine kH H (Ra rfl ?_);clear H;intro a H;refine wl_nil ⟨rfl,?_⟩;refine K16 _ _ ?_;clear K16;refine c_cond_f H rfl rfl ?_;refine c_seq (fun _ K25=>?_)
  have hno:¬ (h.marks.ins≠0∧h.marks.ins∉(ckP st li rv).rvs):=by first|exact fun h=>c1 h.2|exact fun h=>c0 h.1
  replace q0:=gcell_mono hGm12 q0;replace q1:=gcell_mono hGm12 q1;replace q2:=gcell_mono hGm12 q2;refine kP H (SC (Rf fd29_1ehd rfl (Rg ty3run rfl (by assumption) ?_)));clear H;intro a H;refine s_call en128fst H wn rfl (in_spec _ _ H.hp.ro h.marks.move 0 1073741824) rfl ?_;clear H;rintro v57 _ a w ⟨rfl,rfl⟩ - H;refine kH H (Rn rfl (Rm rfl ?_));clear H;intro a H;refine s_split H 59 rfl ?_ ?_
  ·intro h59
   try have p59:=dT h59
   refine kH H (Ks h59 rfl (Ks h59 rfl (Ks h59 rfl (Ks h59 rfl (Ku rfl (Ku rfl (Ku rfl (Ks h59 rfl (Pt h59 rfl (Ra rfl (Kn K25 ?_)))))))))));clear H K25;intro a H;refine c_cond_t H rfl rfl ?_;refine c_seq (fun _ K26=>?_)
   have e3:mrkE (ckP st li rv) h.marks=21:=by unfold mrkE;rw [if_neg hno,if_pos (by first|(simp_all;done)|(simp_all;omega))]
   have hE:=(headE_3 (C:=ckP st li rv) (e:=e) (h:=h) e1 e2 (by rw [e3];decide)).trans e3;refine kP H (SC (Ra rfl (Kn K26 ?_)));clear H K26;intro a H;refine lr H Tryz.results64 rfl ?_;exact H.hp.ret (by rw [hE])
  intro h59
  try have p59:=dF h59
  refine kH H (YF fd29_1ehd h59 rfl (YR ty3run h59 rfl (by assumption) ?_));clear H;intro a H;refine kH H (YC h59 rfl (YM h59 rfl ?_));clear H;intro a H;refine s_split H 63 rfl ?_ ?_
  ·intro h63
   try have p63:=dT h63
   refine kH H (YF fd29_0ehd h63 rfl (YR ty3run h63 rfl (by assumption) ?_));clear H;intro a H;refine kH H (YC h63 rfl (PT h59 h63 rfl (Pf h59 rfl (Ra rfl (Kn K25 ?_)))));clear H K25;intro a H;refine c_cond H rfl ?_ ?_
   ·intro h54
    try have p54:=dT h54
    refine c_seq (fun _ K27=>?_)
    have e3:mrkE (ckP st li rv) h.marks=21:=by unfold mrkE;rw [if_neg hno,if_pos (by first|(simp_all;done)|(simp_all;omega))]
    have hE:=(headE_3 (C:=ckP st li rv) (e:=e) (h:=h) e1 e2 (by rw [e3];decide)).trans e3;refine kP H (SC (Ra rfl (Kn K27 ?_)));clear H K27;intro a H;refine lr H Tryz.results64 rfl ?_;exact H.hp.ret (by rw [hE])
   intro h54
   try have p54:=dF h54
   refine c_seq (fun _ K28=>?_)
   have hn2:¬ (¬ (0≤h.marks.move∧h.marks.move≤1073741824)∨(h.marks.move≠0∧h.marks.ins=0)):=by first|(simp_all;done)|(simp_all;omega)
   refine kP H (SC (Rf fd29_2run rfl (Rg ty26run rfl (by assumption) ?_)));clear H;intro a H;refine kH H (Rl un26run rfl (Rc rfl (Ra rfl (Kn K28 ?_))));clear H K28;intro a H;refine c_cond H rfl ?_ ?_
   ·intro h69
    try have p69:=dT h69
    refine c_seq (fun _ K29=>?_)
    have e3:mrkE (ckP st li rv) h.marks=9:=by unfold mrkE;rw [if_neg hno,if_neg hn2,if_pos (by simpa using h69)]
    have hE:=(headE_3 (C:=ckP st li rv) (e:=e) (h:=h) e1 e2 (by rw [e3];decide)).trans e3;refine kP H (SC (Ra rfl (Kn K29 ?_)));clear H K29;intro a H;refine lr H Tryz.results64 rfl ?_;exact H.hp.ret (by rw [hE])
   intro h69
   try have p69:=dF h69
   have e3:mrkE (ckP st li rv) h.marks=0:=by unfold mrkE;rw [if_neg hno,if_neg hn2,if_neg (by simpa using h69)]
   refine c_skip ?_;refine ⟨_,by exact (H).sub ⟨rfl,rfl,rfl,trivial⟩,?_⟩;exact ⟨e3,hGm12⟩
  intro h63
  try have p63:=dF h63
  refine kH H (Ks h63 rfl (Ks h63 rfl (Ks h63 rfl (PF h59 h63 rfl (Pf h59 rfl (Ra rfl (Kn K25 ?_)))))));clear H K25;intro a H;refine c_cond_f H rfl rfl ?_;refine c_seq (fun _ K30=>?_)
  have hn2:¬ (¬ (0≤h.marks.move∧h.marks.move≤1073741824)∨(h.marks.move≠0∧h.marks.ins=0)):=by first|(simp_all;done)|(simp_all;omega)
  refine kP H (SC (Rf fd29_2run rfl (Rg ty26run rfl (by assumption) ?_)));clear H;intro a H;refine kH H (Rl un26run rfl (Rc rfl (Ra rfl (Kn K30 ?_))));clear H K30;intro a H;refine c_cond H rfl ?_ ?_
  ·intro h69
   try have p69:=dT h69
   refine c_seq (fun _ K31=>?_)
   have e3:mrkE (ckP st li rv) h.marks=9:=by unfold mrkE;rw [if_neg hno,if_neg hn2,if_pos (by simpa using h69)]
   have hE:=(headE_3 (C:=ckP st li rv) (e:=e) (h:=h) e1 e2 (by rw [e3];decide)).trans e3;refine kP H (SC (Ra rfl (Kn K31 ?_)));clear H K31;intro a H;refine lr H Tryz.results64 rfl ?_;exact H.hp.ret (by rw [hE])
  intro h69
  try have p69:=dF h69
  have e3:mrkE (ckP st li rv) h.marks=0:=by unfold mrkE;rw [if_neg hno,if_neg hn2,if_neg (by simpa using h69)]
  refine c_skip ?_;refine ⟨_,by exact (H).sub ⟨rfl,rfl,rfl,trivial⟩,?_⟩;exact ⟨e3,hGm12⟩
 clear H;intro gh a w hI H;obtain ⟨g,hgh⟩:∃ x,x=gh:=⟨_,rfl⟩;subst hgh;obtain ⟨e3,hmg⟩:=hI;replace hck:=hck.mono hmg;replace hb:=hmg _ _ hb;replace hh:=hh.mono hmg;replace g3:=gcell_mono hmg g3;replace q2:=gcell_mono hmg q2;replace q3:=gcell_mono hmg q3;replace hc2:=gcell_mono hmg hc2;replace hcb:=hcb.mono hmg;dsimp only [List.cons_append,List.nil_append,List.append_nil] at H;refine kP H (SQ fun _ K32=>SR fun _ K33=>Rf fd29_2run rfl (Rg ty26run rfl (by assumption) ?_));clear H;intro a H;refine kH H (Rl un26run rfl (Rm rfl (Kz K33 (SB ?_))));clear H K33;intro a H;skip;refine c_loopS (ι:=Nat × GH) (Tc:=[(3,_),(4,_),(11,_),(75,_),(76,_)]) (Lc:=[]) (fun (gh:Nat × GH)=>[(77,vi gh.1)]) (fun (gh:Nat × GH)=>[]) (fun (gh:Nat × GH)=>gh.2) (fun (gh:Nat × GH)=>gh.1≤h.marks.dels.length∧firstE (((List.range h.marks.dels.length).map (delE (ckP st li rv) h.marks.dels)).drop gh.1)=allE (delE (ckP st li rv) h.marks.dels) h.marks.dels.length∧(∀ b o,g b=some o→gh.2 b=some o)) (fun (gh:Nat × GH)=>h.marks.dels.length - gh.1) ((0,g)) (by exact (H).sub ⟨rfl,rfl,rfl,rfl,rfl,rfl,trivial⟩) ?_ ?_
 ·exact ⟨Nat.zero_le _,rfl,fun _ _ h=>h⟩
 clear H;intro gh a w hI H;obtain ⟨k,g2⟩:=gh;dsimp only at hI H;obtain ⟨hk,heq,hgm⟩:=hI;dsimp only [List.cons_append,List.nil_append,List.append_nil] at H;refine kP H (SR fun _ K34=>Rc rfl (Kz K34 (SQ fun _ K35=>?_)));clear H K34;intro a H;refine c_cond H rfl ?_ ?_
 ·intro h78
  try have p78:=dT h78
  have hk2:k < h.marks.dels.length:=by omega
  have hd2:=hh.dels.mono hgm;obtain ⟨xb,xo,rfl,hrow⟩:=del_at hd2 hk2
  have hk1:k - 1 < h.marks.dels.length:=by omega
  obtain ⟨b',o',he',hrow'⟩:=del_at hd2 hk1
  injection he' with he'
  injection he' with e1 e2
  subst e1;subst e2
  have hde:delE (ckP st li rv) h.marks.dels k=delE0 (ckP st li rv) k h.marks.dels[k] h.marks.dels[k - 1].rev:=by unfold delE;rw [List.getElem?_eq_getElem hk2,List.getElem?_eq_getElem hk1];rfl
  have hX:∀ v,delE0 (ckP st li rv) k h.marks.dels[k] h.marks.dels[k - 1].rev=v→v≠0→headE (ckP st li rv) e h=v:=fun v h1 h2=>by
   have h4:allE (delE (ckP st li rv) h.marks.dels) h.marks.dels.length=v:=by rw [← heq,allE_at hk2,hde,h1,if_pos h2]
   exact (headE_4 e1 e2 e3 (by rw [h4];exact h2)).trans h4
  have hp:=hrow' 0 _ rfl;have g3':=gcell_mono hgm g3;have hc2':=gcell_mono hgm hc2;have q2':=gcell_mono hgm q2;refine kP H (Kc K35 (SQ fun _ K36=>SB (SR fun _ K37=>Rm rfl (Ri un26run ty214run rfl rfl ?_))));clear H K35;intro a H;refine s_loada ty214run (cs:=h.marks.dels[k].cells) H wn rfl rfl (fun j v hj=>H.hp.gcell (hrow j v hj)) rfl ?_;clear H;intro a H;refine s_alloc ty214run H wn rfl ?_;clear H;intro b13 a w hb13 H;refine kH H (Ra rfl ?_);clear H;intro a H;refine s_store ty214run 0 (vs:=[_,_]) _ H wn rfl rfl rfl rfl rfl rfl rfl rfl ?_;clear H;intro w H;dsimp only [List.set,setRow] at H;refine K37 _ _ ?_;clear K37;refine c_block ?_;refine c_seq (fun _ K38=>?_);refine c_drawI (hmx) [[],[0],[0,1],[0,1,2],[],[4],[0,1,2,3,4,5],(List.range 7),(List.range 8)] [8] (by kernel_rfl) (by kernel_rfl) (fun (ix_:Nat) (v:Value) (G:GH)=>match ix_ with|0=>v=.pointer (some ⟨b,0,none⟩)|1=>v=.pointer (some ⟨b,0,none⟩)|2=>v=.pointer (some ⟨b,2,none⟩)|3=>v=.map (some mr)|4=>v=.pointer (some ⟨b13,0,none⟩)|5=>v=vi h.marks.dels[k].rev|6=>v=.bool (decide (h.marks.dels[k].rev∈rv.map RvD.id))|7=>v=.bool (!decide (h.marks.dels[k].rev∈rv.map RvD.id))|_=>True) (fun _ _ _ _ _ h=>h) H ?_ ?_
  ·clear H;refine al4 ?_ ?_ ?_ ?_ (al4 ?_ ?_ ?_ ?_ (allI_cons ?_ allI_nil))
   ·exact Op0 rfl fun _ _ _ _ hG _ H fin=>kH H (Rg ty130hea rfl (gcell_mono hG g3') fun _ H=>fin H iJ rfl)
   ·exact Z1 0 83 rfl rfl fun _ _ _ _ _=>Rk rfl
   ·exact Z1 1 84 rfl rfl fun _ _ _ _ _=>Rf fd140_2nck rfl
   ·exact Op1 2 85 rfl rfl fun _ _ _ _ hG _ H fin=>kH H (Rg ty138nck rfl (gcell_mono hG hc2') fun _ H=>fin H iJ rfl)
   ·exact Z0 rfl rfl fun _ _ _ _ _=>Rf fd214_0hea rfl
   ·exact Z1 4 87 rfl rfl fun _ _ _ _ _=>Ro ty3run 0 rfl rfl
   ·refine Op2 3 86 5 88 rfl rfl fun _ a w G1 hG HT H fin=>?_;refine s_lookupK (zv:=.bool false) un138nck un3cp (by kernel_rfl) H wn rfl rfl (H.hp.ro _ _ (hG _ _ (hgm _ _ hck.rev))) rfl ?_;clear H;intro a H;rw [lk_set] at H;exact fin H iJ rfl
   ·exact Z1 6 89 rfl rfl fun _ _ _ _ _=>Rn rfl
   exact opB rfl
  clear H;intro a w G hGm21 H hv;obtain ⟨u90,hu90,hp90⟩:=hv 7 90 (by decide) rfl;obtain rfl:u90=.bool (!decide (h.marks.dels[k].rev∈rv.map RvD.id)):=hp90;have H:=H.addS hu90;clear hv;refine kH H (Ra rfl ?_);clear H;intro a H;refine wl_nil ⟨rfl,?_⟩;refine K38 _ _ ?_;clear K38;refine c_cond H rfl ?_ ?_
  ·intro h82
   try have p82:=dT h82
   refine c_seq (fun _ K39=>?_);have hE:=hX 22 (by unfold delE0;rw [if_pos (by simpa using h82)]) (by decide);refine kP H (SC (Ra rfl (Kn K39 ?_)));clear H K39;intro a H;refine lr H Tryz.results64 rfl ?_;exact H.hp.ret (by rw [hE])
  intro h82
  try have p82:=dF h82
  have hm82:¬ (h.marks.dels[k].rev∉(ckP st li rv).rvs):=by simpa using h82
  refine c_seq (fun _ K40=>?_);replace hp:=gcell_mono hGm21 hp;replace q2':=gcell_mono hGm21 q2'
  by_cases c3:0 < (k:Int)
  ·skip
   by_cases c4:h.marks.dels[k].rev≤h.marks.dels[k - 1].rev
   ·skip;refine c_drawI (hmx) [[],[0],[0,1],[0,1,2],[0,1,2,3],[0,1,2],[0,1,2,5],[0,1,2],[0,1,2,7],[0,1,2,5,6,7,8],[0,1,2,5,6,7,8,9],[0,1,2,5,6,7,8,9,10],(List.range 12),(List.range 13),(List.range 14)] [14] (by kernel_rfl) (by kernel_rfl) (fun (ix_:Nat) (v:Value) (G:GH)=>match ix_ with|0=>v=vi k|1=>v=.bool (decide (0 < (k:Int)))|2=>v=.bool (decide (0 < (k:Int)))|3=>v=.pointer (some ⟨b13,0,none⟩)|4=>v=vi h.marks.dels[k].rev|5=>v=.pointer (some ⟨b11,2,none⟩)|6=>v=.slice (some ⟨xb,xo,none⟩) h.marks.dels.length dc|7=>v=vi k|8=>v=vi ((k - 1:Nat):Int)|9=>v=.pointer (some ⟨xb,xo+(k - 1)*2,none⟩)|10=>v=.pointer (some ⟨xb,xo+(k - 1)*2+0,none⟩)|11=>v=vi h.marks.dels[k - 1].rev|12=>v=.bool (decide (h.marks.dels[k].rev≤h.marks.dels[k - 1].rev))|13=>v=.bool (decide (h.marks.dels[k].rev≤h.marks.dels[k - 1].rev))|_=>True) (fun _ _ _ _ _ h=>h) H ?_ ?_
    ·clear H;refine al4 ?_ ?_ ?_ ?_ (al4 ?_ ?_ ?_ ?_ (al4 ?_ ?_ ?_ ?_ (allI_cons ?_ (allI_cons ?_ (allI_cons ?_ allI_nil)))))
     ·exact Z0 rfl rfl fun _ _ _ _ _=>Rm rfl
     ·exact Z1 0 92 rfl rfl fun _ _ _ _ _=>Rc rfl
     ·exact Z1 1 93 rfl rfl fun _ _ _ _ _=>Rm rfl
     ·exact Op1 2 94 rfl rfl fun _ _ _ _ hG _ H fin=>kH H (YF fd214_0hea (decide_eq_true c3) rfl fun _ H=>fin H iJ rfl)
     ·exact Op2 3 95 2 94 rfl rfl fun _ _ _ _ hG _ H fin=>kH H (YO ty3run 0 (decide_eq_true c3) rfl rfl fun _ H=>fin H iJ rfl)
     ·exact Op1 2 94 rfl rfl fun _ _ _ _ hG _ H fin=>kH H (YF fd29_2run (decide_eq_true c3) rfl fun _ H=>fin H iJ rfl)
     ·exact Op2 5 97 2 94 rfl rfl fun _ _ _ _ hG _ H fin=>kH H (YR ty26run (decide_eq_true c3) rfl (gcell_mono hG q2') fun _ H=>fin H iJ rfl)
     ·exact Op1 2 94 rfl rfl fun _ _ _ _ hG _ H fin=>kH H (YM (decide_eq_true c3) rfl fun _ H=>fin H iJ rfl)
     ·refine Op2 7 99 2 94 rfl rfl fun _ a w G1 hG HT H fin=>?_;refine s_sub _ H (wg H rfl rfl (decide_eq_true c3)) rfl rfl rfl (by omega) (by omega) rfl ?_;clear H;intro a H;exact fin H iJ (by first|rfl|exact congrArg vi (by omega))
     ·exact Op3 6 98 8 100 2 94 rfl rfl fun _ _ _ _ hG _ H fin=>kH H (YI un26run ty214run (decide_eq_true c3) rfl rfl fun _ H=>fin H iJ rfl)
     ·exact Op2 9 101 2 94 rfl rfl fun _ _ _ _ hG _ H fin=>kH H (YF fd214_0hea (decide_eq_true c3) rfl fun _ H=>fin H iJ rfl)
     ·exact Op2 10 102 2 94 rfl rfl fun _ _ _ _ hG _ H fin=>kH H (YR ty3run (decide_eq_true c3) rfl (gcell_mono hG hp) fun _ H=>fin H iJ rfl)
     ·exact Op3 4 96 11 103 2 94 rfl rfl fun _ _ _ _ hG _ H fin=>kH H (YC (decide_eq_true c3) rfl fun _ H=>fin H iJ rfl)
     ·exact Op2 2 94 12 104 rfl rfl fun _ _ _ _ hG _ H fin=>kH H (Pt (decide_eq_true c3) rfl fun _ H=>fin H iJ rfl)
     exact opB rfl
    clear H;intro a w G hGm23 H hv;obtain ⟨u105,hu105,hp105⟩:=hv 13 105 (by decide) rfl;obtain rfl:u105=.bool (decide (h.marks.dels[k].rev≤h.marks.dels[k - 1].rev)):=hp105;have H:=H.addS hu105;clear hv;refine kH H (Ra rfl ?_);clear H;intro a H;refine wl_nil ⟨rfl,?_⟩;refine K40 _ _ ?_;clear K40;refine c_cond_t H rfl (decide_eq_true c4) ?_;refine c_seq (fun _ K41=>?_);have hz:0 < k∧h.marks.dels[k].rev≤h.marks.dels[k - 1].rev:=⟨by omega,c4⟩;have hE:=hX 6 (by unfold delE0;rw [if_neg hm82,if_pos hz]) (by decide);refine kP H (SC (Ra rfl (Kn K41 ?_)));clear H K41;intro a H;refine lr H Tryz.results64 rfl ?_;exact H.hp.ret (by rw [hE])
   skip;refine c_drawI (hmx) [[],[0],[0,1],[0,1,2],[0,1,2,3],[0,1,2],[0,1,2,5],[0,1,2],[0,1,2,7],[0,1,2,5,6,7,8],[0,1,2,5,6,7,8,9],[0,1,2,5,6,7,8,9,10],(List.range 12),(List.range 13),(List.range 14)] [14] (by kernel_rfl) (by kernel_rfl) (fun (ix_:Nat) (v:Value) (G:GH)=>match ix_ with|0=>v=vi k|1=>v=.bool (decide (0 < (k:Int)))|2=>v=.bool (decide (0 < (k:Int)))|3=>v=.pointer (some ⟨b13,0,none⟩)|4=>v=vi h.marks.dels[k].rev|5=>v=.pointer (some ⟨b11,2,none⟩)|6=>v=.slice (some ⟨xb,xo,none⟩) h.marks.dels.length dc|7=>v=vi k|8=>v=vi ((k - 1:Nat):Int)|9=>v=.pointer (some ⟨xb,xo+(k - 1)*2,none⟩)|10=>v=.pointer (some ⟨xb,xo+(k - 1)*2+0,none⟩)|11=>v=vi h.marks.dels[k - 1].rev|12=>v=.bool (decide (h.marks.dels[k].rev≤h.marks.dels[k - 1].rev))|13=>v=.bool (decide (h.marks.dels[k].rev≤h.marks.dels[k - 1].rev))|_=>True) (fun _ _ _ _ _ h=>h) H ?_ ?_
   ·clear H;refine al4 ?_ ?_ ?_ ?_ (al4 ?_ ?_ ?_ ?_ (al4 ?_ ?_ ?_ ?_ (allI_cons ?_ (allI_cons ?_ (allI_cons ?_ allI_nil)))))
    ·exact Z0 rfl rfl fun _ _ _ _ _=>Rm rfl
    ·exact Z1 0 92 rfl rfl fun _ _ _ _ _=>Rc rfl
    ·exact Z1 1 93 rfl rfl fun _ _ _ _ _=>Rm rfl
    ·exact Op1 2 94 rfl rfl fun _ _ _ _ hG _ H fin=>kH H (YF fd214_0hea (decide_eq_true c3) rfl fun _ H=>fin H iJ rfl)
    ·exact Op2 3 95 2 94 rfl rfl fun _ _ _ _ hG _ H fin=>kH H (YO ty3run 0 (decide_eq_true c3) rfl rfl fun _ H=>fin H iJ rfl)
    ·exact Op1 2 94 rfl rfl fun _ _ _ _ hG _ H fin=>kH H (YF fd29_2run (decide_eq_true c3) rfl fun _ H=>fin H iJ rfl)
    ·exact Op2 5 97 2 94 rfl rfl fun _ _ _ _ hG _ H fin=>kH H (YR ty26run (decide_eq_true c3) rfl (gcell_mono hG q2') fun _ H=>fin H iJ rfl)
    ·exact Op1 2 94 rfl rfl fun _ _ _ _ hG _ H fin=>kH H (YM (decide_eq_true c3) rfl fun _ H=>fin H iJ rfl)
    ·refine Op2 7 99 2 94 rfl rfl fun _ a w G1 hG HT H fin=>?_;refine s_sub _ H (wg H rfl rfl (decide_eq_true c3)) rfl rfl rfl (by omega) (by omega) rfl ?_;clear H;intro a H;exact fin H iJ (by first|rfl|exact congrArg vi (by omega))
    ·exact Op3 6 98 8 100 2 94 rfl rfl fun _ _ _ _ hG _ H fin=>kH H (YI un26run ty214run (decide_eq_true c3) rfl rfl fun _ H=>fin H iJ rfl)
    ·exact Op2 9 101 2 94 rfl rfl fun _ _ _ _ hG _ H fin=>kH H (YF fd214_0hea (decide_eq_true c3) rfl fun _ H=>fin H iJ rfl)
    ·exact Op2 10 102 2 94 rfl rfl fun _ _ _ _ hG _ H fin=>kH H (YR ty3run (decide_eq_true c3) rfl (gcell_mono hG hp) fun _ H=>fin H iJ rfl)
    ·exact Op3 4 96 11 103 2 94 rfl rfl fun _ _ _ _ hG _ H fin=>kH H (YC (decide_eq_true c3) rfl fun _ H=>fin H iJ rfl)
    ·exact Op2 2 94 12 104 rfl rfl fun _ _ _ _ hG _ H fin=>kH H (Pt (decide_eq_true c3) rfl fun _ H=>fin H iJ rfl)
    exact opB rfl
   clear H;intro a w G hGm23 H hv;obtain ⟨u105,hu105,hp105⟩:=hv 13 105 (by decide) rfl;obtain rfl:u105=.bool (decide (h.marks.dels[k].rev≤h.marks.dels[k - 1].rev)):=hp105;have H:=H.addS hu105;clear hv;refine kH H (Ra rfl ?_);clear H;intro a H;refine wl_nil ⟨rfl,?_⟩;refine K40 _ _ ?_;clear K40;refine c_cond_f H rfl (decide_eq_false c4) ?_;refine c_seq (fun _ K42=>?_)
   have hz:¬ (0 < k∧h.marks.dels[k].rev≤h.marks.dels[k - 1].rev):=by first|exact fun h=>c4 h.2|exact fun h=>c3 (by omega)
   refine kP H (SC (Rf fd214_1hea rfl (Ro ty3run 0 rfl rfl ?_)));clear H;intro a H;refine s_call en128fst H wn rfl (in_spec _ _ H.hp.ro h.marks.dels[k].move 0 1073741824) rfl ?_;clear H;rintro v109 _ a w ⟨rfl,rfl⟩ - H;refine kH H (Rn rfl (Ra rfl (Kn K42 ?_)));clear H K42;intro a H;refine c_cond H rfl ?_ ?_
   ·intro h106
    try have p106:=dT h106
    refine c_seq (fun _ K43=>?_);have hE:=hX 21 (by unfold delE0;rw [if_neg hm82,if_neg hz,if_pos (by have h0:=h106;simp at h0;omega)]) (by decide);refine kP H (SC (Ra rfl (Kn K43 ?_)));clear H K43;intro a H;refine lr H Tryz.results64 rfl ?_;exact H.hp.ret (by rw [hE])
   intro h106
   try have p106:=dF h106
   have hde0:delE0 (ckP st li rv) k h.marks.dels[k] h.marks.dels[k - 1].rev=0:=by unfold delE0;rw [if_neg hm82,if_neg hz,if_neg (by have h0:=h106;simp at h0;omega)]
   have hGk:=fun b o h=>hGm23 b o (hGm21 b o (hgm b o h));refine kP H (Kc K36 (SC (Rd rfl (Rm rfl ?_))));clear H K36;intro a H;refine wl_nil ?_;refine loop_end ((k+1,G)) (by exact (H.pickT (Pl:=[_]) (Pl':=[]) [] (by decide) rfl).sub ⟨rfl,rfl,rfl,rfl,rfl,rfl,trivial⟩) ?_ ?_
   ·(try dsimp only);exact ⟨by omega,by rw [allE_at hk2,if_neg (by rw [hde];simpa using hde0)] at heq;exact heq,hGk⟩
   first|omega|(dsimp only;omega)
  skip;refine c_drawI (hmx) [[],[0],[0,1],[0,1,2],[0,1,2,3],[0,1,2],[0,1,2,5],[0,1,2],[0,1,2,7],[0,1,2,5,6,7,8],[0,1,2,5,6,7,8,9],[0,1,2,5,6,7,8,9,10],(List.range 12),(List.range 13),(List.range 14)] [14] (by kernel_rfl) (by kernel_rfl) (fun (ix_:Nat) (v:Value) (G:GH)=>match ix_ with|0=>v=vi k|1=>v=.bool (decide (0 < (k:Int)))|2=>v=.bool (decide (0 < (k:Int)))|3=>v=undef|4=>v=undef|5=>v=undef|6=>v=undef|7=>v=undef|8=>v=undef|9=>v=undef|10=>v=undef|11=>v=undef|12=>v=undef|13=>v=.bool false|_=>True) (fun _ _ _ _ _ h=>h) H ?_ ?_
  ·clear H;refine al4 ?_ ?_ ?_ ?_ (al4 ?_ ?_ ?_ ?_ (al4 ?_ ?_ ?_ ?_ (allI_cons ?_ (allI_cons ?_ (allI_cons ?_ allI_nil)))))
   ·exact Z0 rfl rfl fun _ _ _ _ _=>Rm rfl
   ·exact Z1 0 92 rfl rfl fun _ _ _ _ _=>Rc rfl
   ·exact Z1 1 93 rfl rfl fun _ _ _ _ _=>Rm rfl
   ·exact skI 2 (decide_eq_false c3) rfl rfl
   ·exact skI 2 (decide_eq_false c3) rfl rfl
   ·exact skI 2 (decide_eq_false c3) rfl rfl
   ·exact skI 2 (decide_eq_false c3) rfl rfl
   ·exact skI 2 (decide_eq_false c3) rfl rfl
   ·exact skI 2 (decide_eq_false c3) rfl rfl
   ·exact skI 2 (decide_eq_false c3) rfl rfl
   ·exact skI 2 (decide_eq_false c3) rfl rfl
   ·exact skI 2 (decide_eq_false c3) rfl rfl
   ·exact skI 2 (decide_eq_false c3) rfl rfl
   ·exact Op2 2 94 12 104 rfl rfl fun _ _ _ _ hG _ H fin=>kH H (Pf (decide_eq_false c3) rfl fun _ H=>fin H iJ rfl)
   exact opB rfl
  clear H;intro a w G hGm23 H hv;obtain ⟨u105,hu105,hp105⟩:=hv 13 105 (by decide) rfl;obtain rfl:u105=.bool false:=hp105;have H:=H.addS hu105;clear hv;refine kH H (Ra rfl ?_);clear H;intro a H;refine wl_nil ⟨rfl,?_⟩;refine K40 _ _ ?_;clear K40;refine c_cond_f H rfl rfl ?_;refine c_seq (fun _ K44=>?_)
  have hz:¬ (0 < k∧h.marks.dels[k].rev≤h.marks.dels[k - 1].rev):=by first|exact fun h=>c4 h.2|exact fun h=>c3 (by omega)
  refine kP H (SC (Rf fd214_1hea rfl (Ro ty3run 0 rfl rfl ?_)));clear H;intro a H;refine s_call en128fst H wn rfl (in_spec _ _ H.hp.ro h.marks.dels[k].move 0 1073741824) rfl ?_;clear H;rintro v109 _ a w ⟨rfl,rfl⟩ - H;refine kH H (Rn rfl (Ra rfl (Kn K44 ?_)));clear H K44;intro a H;refine c_cond H rfl ?_ ?_
  ·intro h106
   try have p106:=dT h106
   refine c_seq (fun _ K45=>?_);have hE:=hX 21 (by unfold delE0;rw [if_neg hm82,if_neg hz,if_pos (by have h0:=h106;simp at h0;omega)]) (by decide);refine kP H (SC (Ra rfl (Kn K45 ?_)));clear H K45;intro a H;refine lr H Tryz.results64 rfl ?_;exact H.hp.ret (by rw [hE])
  intro h106
  try have p106:=dF h106
  have hde0:delE0 (ckP st li rv) k h.marks.dels[k] h.marks.dels[k - 1].rev=0:=by unfold delE0;rw [if_neg hm82,if_neg hz,if_neg (by have h0:=h106;simp at h0;omega)]
  have hGk:=fun b o h=>hGm23 b o (hGm21 b o (hgm b o h));refine kP H (Kc K36 (SC (Rd rfl (Rm rfl ?_))));clear H K36;intro a H;refine wl_nil ?_;refine loop_end ((k+1,G)) (by exact (H.pickT (Pl:=[_]) (Pl':=[]) [] (by decide) rfl).sub ⟨rfl,rfl,rfl,rfl,rfl,rfl,trivial⟩) ?_ ?_
  ·(try dsimp only);exact ⟨by omega,by rw [allE_at hk2,if_neg (by rw [hde];simpa using hde0)] at heq;exact heq,hGk⟩
  first|omega|(dsimp only;omega)
 intro h78
 try have p78:=dF h78
 refine c_exit ?_;refine K32 _ _ ?_;clear K32;refine c_seq (fun _ K46=>?_);refine c_seq (fun _ K47=>?_)
 have e4:allE (delE (ckP st li rv) h.marks.dels) h.marks.dels.length=0:=by rw [← heq,List.drop_of_length_le (by simp;omega)];rfl
 replace q3:=gcell_mono hgm q3;refine kP H (SC (Rf fd29_3run rfl (Rg ty27run rfl (by assumption) ?_)));clear H;intro a H;refine kH H (Rl un27run rfl (Rc rfl (Kn K47 ?_)));clear H K47;intro a H;refine c_cond H rfl ?_ ?_
 ·intro h115
  try have p115:=dT h115
  refine c_seq (fun _ K48=>?_);have hE:=headE_5 (C:=ckP st li rv) (e:=e) (h:=h) e1 e2 e3 e4 p115;refine kP H (SC (Ra rfl (Kn K48 ?_)));clear H K48;intro a H;refine lr H Tryz.results64 rfl ?_;exact H.hp.ret (by rw [hE])
 intro h115
 try have p115:=dF h115
 refine c_skip ?_;refine K46 _ _ ?_;clear K46;refine c_seq (fun _ K49=>?_);have hE:=headE_6 (C:=ckP st li rv) (e:=e) (h:=h) e1 e2 e3 e4 p115;refine kP H (SC (Rf fd29_3run rfl (Rg ty27run rfl (by assumption) ?_)));clear H;intro a H;refine kH H (Rl un27run rfl ?_);clear H;intro a H;refine s_makeFunc H wn rfl rfl ?_;clear H;intro a H;refine s_call en119dst H wn rfl (all_spec _ _ H.hp.ro h.marks.layers.length (layE (ckP st li rv) e h.marks.layers) _ (by omega) (hcb.mono hgm)) rfl ?_;clear H;rintro v120 G120 a w rfl hGm120 H;refine kH H (Ra rfl (Kn K49 ?_));clear H K49;intro a H;refine lr H Tryz.results64 rfl ?_;exact H.hp.ret (by rw [hE])
end
section
open Go.RowKit
theorem fd35_1frm:Fld Tryz.prog 35 1 1:=⟨by kernel_rfl⟩
def codeOk (x:ItemD):Bool:=if x.kind=4 then decide (1≤x.code∧x.code≤3) else if x.kind=6 then decide (1≤x.code∧x.code≤2) else if x.kind=8 then decide (1≤x.code∧x.code≤4) else true
def startB (x:ItemD):Bool:=decide (x.kind=8∧x.code=1)
def wordB (x:ItemD):Bool:=decide (x.kind=1∨x.kind=5) || startB x
def namedB (x:ItemD):Bool:=decide (x.kind=6∨x.kind=7∨x.kind=8)
def codedB (x:ItemD):Bool:=decide (x.kind=4∨x.kind=6∨x.kind=8)
def emptyB (s:ByteArray):Bool:=s.toList == (⟨#[]⟩:ByteArray).toList
def fmtB (x:ItemD):Bool:=!codedB x && decide (x.code≠0) || !namedB x && decide (x.id≠0) || !wordB x && !emptyB x.text || decide (x.kind≠6) && decide (0 < (x.flow.length:Int)) || decide (x.kind≠7) && decide (0 < (x.rows.length:Int))
/-- The first error of an item's kind and fields. -/
def formE (x:ItemD):Int :=
 if (!decide (1≤x.kind∧x.kind≤8) || !codeOk x)=true then 3 else if fmtB x=true then 15 else if validS x.text=false then 12 else if (decide (x.kind=1∨x.kind=5) && emptyB x.text)=true then 11
 else if (decide (x.kind=5) && decide (1024 < (x.text.size:Int)))=true then 10 else if (startB x && !cpNm x.text)=true then 13 else 0
theorem form_spec (G:GH) (w0:World) (hG:Hold G w0) (x:ItemD) (p d l:Value) (fA rA:Option Addr) (fc rc:Nat) (hs:x.text.size < 4611686018427387904) :
  Calls Tryz.prog 197 #[.agg #[vi x.kind,vi x.code,vi x.id,.string x.text,p,vi x.head.marks.ins,vi x.head.marks.move,d,l,.slice fA x.flow.length fc,.slice rA x.rows.length rc]] w0 (Ret w0 G fun u G'=>u=vi (formE x)∧G=G'):=by
 refine eN [(0,_)] Tryz.func197 rfl Tryz.ntmps197 rfl rfl hG ?_;intro a H;refine c_seqR (fun _ K1=>?_);refine s_box (cs:=[_,_,_,_,_,_,_,_,_,_,_]) H wn rfl rfl rfl ?_;clear H;intro b1 a w hb1 H;refine kH H (Ra rfl (Kz K1 ?_));clear H K1;intro a H;refine c_seqJ (ι:=Bool) (Tc:=[(1,_)]) (Lc:=[(_,_)]) (fun (gh:Bool)=>[(3,.bool gh)]) (fun (gh:Bool)=>[]) (fun (gh:Bool)=>G) (fun (gh:Bool)=>gh=startB x) (by exact (H).sub ⟨rfl,trivial⟩) ?_ ?_
 ·skip;refine kP H (SC (Rf fd35_0run rfl (Ro ty3run 0 rfl rfl (Rc rfl (Rm rfl ?_)))));clear H;intro a H;refine s_split H 11 rfl ?_ ?_
  ·intro h11
   try have p11:=dT h11
   refine kH H (YF fd35_1frm h11 rfl (YO ty3run 0 h11 rfl rfl (YC h11 rfl (Pt h11 rfl (Ra rfl ?_)))));clear H;intro a H;refine wl_nil ?_;refine ⟨_,by exact (H).sub ⟨rfl,rfl,trivial⟩,?_⟩
   unfold startB;first|(simp_all;done)
  intro h11
  try have p11:=dF h11
  refine kH H (Ks h11 rfl (Ks h11 rfl (Ks h11 rfl (Pf h11 rfl (Ra rfl ?_)))));clear H;intro a H;refine wl_nil ?_;refine ⟨_,by exact (H).sub ⟨rfl,rfl,trivial⟩,?_⟩
  unfold startB;first|(simp_all;done)
 clear H;intro gh a w hI H;obtain ⟨st,hgh⟩:∃ x,x=gh:=⟨_,rfl⟩;subst hgh;have hst:=hI;dsimp only [List.cons_append,List.nil_append,List.append_nil] at H;refine c_seqJ (ι:=Bool) (Tc:=[(1,_),(3,_)]) (Lc:=[(_,_)]) (fun (gh:Bool)=>[(4,.bool gh)]) (fun (gh:Bool)=>[]) (fun (gh:Bool)=>G) (fun (gh:Bool)=>gh=wordB x) (by exact (H).sub ⟨rfl,rfl,trivial⟩) ?_ ?_
 ·skip;refine kP H (SC (Rf fd35_0run rfl (Ro ty3run 0 rfl rfl (Rc rfl (Rm rfl ?_)))));clear H;intro a H;refine s_split H 19 rfl ?_ ?_
  ·intro h19
   try have p19:=dT h19
   refine kH H (Ks h19 rfl (Ks h19 rfl (Ks h19 rfl (Pt h19 rfl (Rm rfl (Ks rfl rfl (Pt rfl rfl (Ra rfl ?_))))))));clear H;intro a H;refine wl_nil ?_;refine ⟨_,by exact (H).sub ⟨rfl,rfl,rfl,trivial⟩,?_⟩
   unfold wordB;first|(simp_all;done)
  intro h19
  try have p19:=dF h19
  refine kH H (YF fd35_0run h19 rfl (YO ty3run 0 h19 rfl rfl (YC h19 rfl (Pf h19 rfl (Rm rfl ?_)))));clear H;intro a H;refine s_split H 24 rfl ?_ ?_
  ·intro h24
   try have p24:=dT h24
   refine kH H (Ks h24 rfl (Pt h24 rfl (Ra rfl ?_)));clear H;intro a H;refine wl_nil ?_;refine ⟨_,by exact (H).sub ⟨rfl,rfl,rfl,trivial⟩,?_⟩
   unfold wordB;first|(simp_all;done)
  intro h24
  try have p24:=dF h24
  refine kH H (YM h24 rfl (Pf h24 rfl (Ra rfl ?_)));clear H;intro a H;refine wl_nil ?_;refine ⟨_,by exact (H).sub ⟨rfl,rfl,rfl,trivial⟩,?_⟩
  unfold wordB;first|(simp_all;done)
 clear H;intro gh a w hI H;obtain ⟨wd,hgh⟩:∃ x,x=gh:=⟨_,rfl⟩;subst hgh;have hwd:=hI;dsimp only [List.cons_append,List.nil_append,List.append_nil] at H;refine c_seqJ (ι:=Bool) (Tc:=[(1,_),(3,_),(4,_)]) (Lc:=[(_,_)]) (fun (gh:Bool)=>[(5,.bool gh)]) (fun (gh:Bool)=>[]) (fun (gh:Bool)=>G) (fun (gh:Bool)=>gh=namedB x) (by exact (H).sub ⟨rfl,rfl,rfl,trivial⟩) ?_ ?_
 ·skip;refine kP H (SC (Rf fd35_0run rfl (Ro ty3run 0 rfl rfl (Rc rfl (Rm rfl ?_)))));clear H;intro a H;refine s_split H 30 rfl ?_ ?_
  ·intro h30
   try have p30:=dT h30
   refine kH H (Ks h30 rfl (Ks h30 rfl (Ks h30 rfl (Pt h30 rfl (Rm rfl (Ks rfl rfl (Ks rfl rfl (Ks rfl rfl (Pt rfl rfl (Ra rfl ?_))))))))));clear H;intro a H;refine wl_nil ?_;refine ⟨_,by exact (H).sub ⟨rfl,rfl,rfl,rfl,trivial⟩,?_⟩
   unfold namedB;first|(simp_all;done)
  intro h30
  try have p30:=dF h30
  refine kH H (YF fd35_0run h30 rfl (YO ty3run 0 h30 rfl rfl (YC h30 rfl (Pf h30 rfl (Rm rfl ?_)))));clear H;intro a H;refine s_split H 35 rfl ?_ ?_
  ·intro h35
   try have p35:=dT h35
   refine kH H (Ks h35 rfl (Ks h35 rfl (Ks h35 rfl (Pt h35 rfl (Ra rfl ?_)))));clear H;intro a H;refine wl_nil ?_;refine ⟨_,by exact (H).sub ⟨rfl,rfl,rfl,rfl,trivial⟩,?_⟩
   unfold namedB;first|(simp_all;done)
  intro h35
  try have p35:=dF h35
  refine kH H (YF fd35_0run h35 rfl (YO ty3run 0 h35 rfl rfl (YC h35 rfl (Pf h35 rfl (Ra rfl ?_)))));clear H;intro a H;refine wl_nil ?_;refine ⟨_,by exact (H).sub ⟨rfl,rfl,rfl,rfl,trivial⟩,?_⟩
  unfold namedB;first|(simp_all;done)
 clear H;intro gh a w hI H;obtain ⟨nm,hgh⟩:∃ x,x=gh:=⟨_,rfl⟩;subst hgh;have hnm:=hI;dsimp only [List.cons_append,List.nil_append,List.append_nil] at H;refine kP H (SR fun _ K2=>Ra rfl (Kz K2 ?_));clear H K2;intro a H;refine c_seqJ (ι:=Bool) (Tc:=[(1,_),(3,_),(4,_),(5,_)]) (Lc:=[(_,_)]) (fun (gh:Bool)=>[(6,.bool gh)]) (fun (gh:Bool)=>[]) (fun (gh:Bool)=>G) (fun (gh:Bool)=>gh=codeOk x) (by exact (H).sub ⟨rfl,rfl,rfl,rfl,trivial⟩) ?_ ?_
 ·skip;refine kP H (SR fun _ K3=>Rf fd35_0run rfl (Ro ty3run 0 rfl rfl (Kz K3 (SB (SR fun _ K4=>Rc rfl (Ra rfl (Kz K4 ?_)))))));clear H K3 K4;intro a H;refine c_cond H rfl ?_ ?_
  ·intro h42
   try have p42:=dT h42
   refine kP H (SC (Rf fd35_1frm rfl (Ro ty3run 0 rfl rfl ?_)));clear H;intro a H;refine s_call en128fst H wn rfl (in_spec _ _ H.hp.ro x.code 1 3) rfl ?_;clear H;rintro v46 _ a w ⟨rfl,rfl⟩ - H;refine kH H (Ra rfl ?_);clear H;intro a H;refine wl_nil ?_;refine ⟨_,by exact (H).sub ⟨rfl,rfl,rfl,rfl,rfl,trivial⟩,?_⟩
   unfold codeOk;first|(simp_all;done)
  intro h42
  try have p42:=dF h42
  refine kP H (SR fun _ K5=>Rc rfl (Ra rfl (Kz K5 ?_)));clear H K5;intro a H;refine c_cond H rfl ?_ ?_
  ·intro h47
   try have p47:=dT h47
   refine kP H (SC (Rf fd35_1frm rfl (Ro ty3run 0 rfl rfl ?_)));clear H;intro a H;refine s_call en128fst H wn rfl (in_spec _ _ H.hp.ro x.code 1 2) rfl ?_;clear H;rintro v51 _ a w ⟨rfl,rfl⟩ - H;refine kH H (Ra rfl ?_);clear H;intro a H;refine wl_nil ?_;refine ⟨_,by exact (H).sub ⟨rfl,rfl,rfl,rfl,rfl,trivial⟩,?_⟩
   unfold codeOk;first|(simp_all;done)
  intro h47
  try have p47:=dF h47
  refine kP H (SR fun _ K6=>Rc rfl (Ra rfl (Kz K6 ?_)));clear H K6;intro a H;refine c_cond H rfl ?_ ?_
  ·intro h52
   try have p52:=dT h52
   refine kP H (SC (Rf fd35_1frm rfl (Ro ty3run 0 rfl rfl ?_)));clear H;intro a H;refine s_call en128fst H wn rfl (in_spec _ _ H.hp.ro x.code 1 4) rfl ?_;clear H;rintro v56 _ a w ⟨rfl,rfl⟩ - H;refine kH H (Ra rfl ?_);clear H;intro a H;refine wl_nil ?_;refine ⟨_,by exact (H).sub ⟨rfl,rfl,rfl,rfl,rfl,trivial⟩,?_⟩
   unfold codeOk;first|(simp_all;done)
  intro h52
  try have p52:=dF h52
  refine c_skip ?_;refine ⟨_,by exact (H).sub ⟨rfl,rfl,rfl,rfl,rfl,trivial⟩,?_⟩
  unfold codeOk;first|(simp_all;done)
 clear H;intro gh a w hI H;obtain ⟨ck,hgh⟩:∃ x,x=gh:=⟨_,rfl⟩;subst hgh;have hck:=hI;dsimp only [List.cons_append,List.nil_append,List.append_nil] at H;refine c_seqJ (ι:=Bool) (Tc:=[(1,_),(3,_),(4,_),(5,_),(6,_)]) (Lc:=[(_,_)]) (fun (gh:Bool)=>[(7,.bool gh)]) (fun (gh:Bool)=>[]) (fun (gh:Bool)=>G) (fun (gh:Bool)=>gh=codedB x) (by exact (H).sub ⟨rfl,rfl,rfl,rfl,rfl,trivial⟩) ?_ ?_
 ·skip;refine kP H (SC (Rf fd35_0run rfl (Ro ty3run 0 rfl rfl (Rc rfl (Rm rfl ?_)))));clear H;intro a H;refine s_split H 60 rfl ?_ ?_
  ·intro h60
   try have p60:=dT h60
   refine kH H (Ks h60 rfl (Ks h60 rfl (Ks h60 rfl (Pt h60 rfl (Rm rfl (Ks rfl rfl (Ks rfl rfl (Ks rfl rfl (Pt rfl rfl (Ra rfl ?_))))))))));clear H;intro a H;refine wl_nil ?_;refine ⟨_,by exact (H).sub ⟨rfl,rfl,rfl,rfl,rfl,rfl,trivial⟩,?_⟩
   unfold codedB;first|(simp_all;done)
  intro h60
  try have p60:=dF h60
  refine kH H (YF fd35_0run h60 rfl (YO ty3run 0 h60 rfl rfl (YC h60 rfl (Pf h60 rfl (Rm rfl ?_)))));clear H;intro a H;refine s_split H 65 rfl ?_ ?_
  ·intro h65
   try have p65:=dT h65
   refine kH H (Ks h65 rfl (Ks h65 rfl (Ks h65 rfl (Pt h65 rfl (Ra rfl ?_)))));clear H;intro a H;refine wl_nil ?_;refine ⟨_,by exact (H).sub ⟨rfl,rfl,rfl,rfl,rfl,rfl,trivial⟩,?_⟩
   unfold codedB;first|(simp_all;done)
  intro h65
  try have p65:=dF h65
  refine kH H (YF fd35_0run h65 rfl (YO ty3run 0 h65 rfl rfl (YC h65 rfl (Pf h65 rfl (Ra rfl ?_)))));clear H;intro a H;refine wl_nil ?_;refine ⟨_,by exact (H).sub ⟨rfl,rfl,rfl,rfl,rfl,rfl,trivial⟩,?_⟩
  unfold codedB;first|(simp_all;done)
 clear H;intro gh a w hI H;obtain ⟨cd,hgh⟩:∃ x,x=gh:=⟨_,rfl⟩;subst hgh;have hcd:=hI;dsimp only [List.cons_append,List.nil_append,List.append_nil] at H;refine kP H (SQ fun _ K7=>SB (SR fun _ K8=>?_));clear H;intro a H;refine wl_meet (ι:=Bool) (Tc:=[(1,_),(3,_),(4,_),(5,_),(7,_)]) 8 (fun (q0:Bool)=>[(78,.bool q0)]) (fun (q0:Bool)=>q0=(!decide (1≤x.kind∧x.kind≤8) || !codeOk x)) (by exact H.sub ⟨rfl,rfl,rfl,rfl,rfl,trivial⟩) ?_ ?_
 ·intro hM13_0;refine kH H (Rf fd35_0run rfl (Ro ty3run 0 rfl rfl ?_));clear H;intro a H;refine s_call en128fst H wn rfl (in_spec _ _ H.hp.ro x.kind 1 8) rfl ?_;clear H;rintro v73 _ a w ⟨rfl,rfl⟩ - H;refine kH H (Rn rfl (Rm rfl ?_));clear H;intro a H;refine s_split H 75 rfl ?_ ?_
  ·intro h75
   try have p75:=dT h75
   refine kH H (Ks h75 rfl (Ks h75 rfl (Pt h75 rfl ?_)));clear H;intro a H;refine hM13_0 (_) _ _ ?_ (by exact H.sub ⟨rfl,rfl,rfl,rfl,rfl,rfl,trivial⟩);rw [← hck];clear hst hwd hnm hck hcd;(try clear hq1);(try clear hq2);(try clear hq3);(try clear hq0);(try clear hq4);(try clear hq5);(try clear hq6);(try clear hq7);simp_all
  intro h75
  try have p75:=dF h75
  refine kH H (YM h75 rfl (YN h75 rfl (Pf h75 rfl ?_)));clear H;intro a H;refine hM13_0 (_) _ _ ?_ (by exact H.sub ⟨rfl,rfl,rfl,rfl,rfl,rfl,trivial⟩);rw [← hck];clear hst hwd hnm hck hcd;(try clear hq1);(try clear hq2);(try clear hq3);(try clear hq0);(try clear hq4);(try clear hq5);(try clear hq6);(try clear hq7);simp_all
 clear H;intro q0 a w hI H;dsimp only [List.cons_append,List.nil_append] at H;simp only [List.drop_succ_cons,List.drop_zero];have hq0:=hI;refine kH H (Ra rfl (Kz K8 ?_));clear H K8;intro a H;refine c_cond H rfl ?_ ?_
 ·intro h70
  try have p70:=dT h70
  refine c_seq (fun _ K9=>?_)
  have e:formE x=3:=by unfold formE;rw [if_pos (by rw [← hq0];exact h70)]
  refine kP H (SC (Ra rfl (Kn K9 ?_)));clear H K9;intro a H;refine lr H Tryz.results197 rfl ?_;exact H.hp.ret ⟨by rw [e],rfl⟩
 intro h70
 try have p70:=dF h70
 have f0:¬ (!decide (1≤x.kind∧x.kind≤8) || !codeOk x)=true:=by rw [← hq0,h70];decide
 refine c_seqR (fun _ K10=>?_);refine wl_meet (ι:=Bool) (Tc:=[(1,_),(3,_),(4,_),(5,_)]) 7 (fun (q1:Bool)=>[(86,.bool q1)]) (fun (q1:Bool)=>q1=(!codedB x && decide (x.code≠0))) (by exact H.sub ⟨rfl,rfl,rfl,rfl,trivial⟩) ?_ ?_
 ·intro hM15_0;refine kH H (Rm rfl (Rn rfl (Rm rfl ?_)));clear H;intro a H;refine s_split H 82 rfl ?_ ?_
  ·intro h82
   try have p82:=dT h82
   refine kH H (YF fd35_1frm h82 rfl (YO ty3run 0 h82 rfl rfl (YC h82 rfl (Pt h82 rfl ?_))));clear H;intro a H;refine hM15_0 (_) _ _ ?_ (by exact H.sub ⟨rfl,rfl,rfl,rfl,rfl,trivial⟩);rw [← hcd];clear hst hwd hnm hck hcd;(try clear hq1);(try clear hq2);(try clear hq3);(try clear hq0);(try clear hq4);(try clear hq5);(try clear hq6);(try clear hq7);simp_all
  intro h82
  try have p82:=dF h82
  refine kH H (Ks h82 rfl (Ks h82 rfl (Ks h82 rfl (Pf h82 rfl ?_))));clear H;intro a H;refine hM15_0 (_) _ _ ?_ (by exact H.sub ⟨rfl,rfl,rfl,rfl,rfl,trivial⟩);rw [← hcd];clear hst hwd hnm hck hcd;(try clear hq1);(try clear hq2);(try clear hq3);(try clear hq0);(try clear hq4);(try clear hq5);(try clear hq6);(try clear hq7);simp_all
 clear H;intro q1 a w hI H;dsimp only [List.cons_append,List.nil_append] at H;simp only [List.drop_succ_cons,List.drop_zero];have hq1:=hI;refine wl_meet (ι:=Bool) (Tc:=[(1,_),(3,_),(4,_)]) 9 (fun (q2:Bool)=>[(95,.bool q2)]) (fun (q2:Bool)=>q2=(q1 || !namedB x && decide (x.id≠0))) (by exact H.sub ⟨rfl,rfl,rfl,trivial⟩) ?_ ?_
 ·intro hM15_7;refine kH H (Rm rfl ?_);clear H;intro a H;refine s_split H 87 rfl ?_ ?_
  ·intro h87
   try have p87:=dT h87
   refine kH H (Ks h87 rfl (Ks h87 rfl (Ks h87 rfl (Ku rfl (Ku rfl (Ku rfl (Ks h87 rfl (Pt h87 rfl ?_))))))));clear H;intro a H;refine hM15_7 (_) _ _ ?_ (by exact H.sub ⟨rfl,rfl,rfl,rfl,trivial⟩);rw [← hnm];clear hst hwd hnm hck hcd;(try clear hq1);(try clear hq2);(try clear hq3);(try clear hq0);(try clear hq4);(try clear hq5);(try clear hq6);(try clear hq7);simp_all
  intro h87
  try have p87:=dF h87
  refine kH H (YM h87 rfl (YN h87 rfl (YM h87 rfl ?_)));clear H;intro a H;refine s_split H 90 rfl ?_ ?_
  ·intro h90
   try have p90:=dT h90
   refine kH H (YF fd35_2doc h90 rfl (YO ty3run 0 h90 rfl rfl (YC h90 rfl (PT h87 h90 rfl (Pf h87 rfl ?_)))));clear H;intro a H;refine hM15_7 (_) _ _ ?_ (by exact H.sub ⟨rfl,rfl,rfl,rfl,trivial⟩);rw [← hnm];clear hst hwd hnm hck hcd;(try clear hq1);(try clear hq2);(try clear hq3);(try clear hq0);(try clear hq4);(try clear hq5);(try clear hq6);(try clear hq7);simp_all
  intro h90
  try have p90:=dF h90
  refine kH H (Ks h90 rfl (Ks h90 rfl (Ks h90 rfl (PF h87 h90 rfl (Pf h87 rfl ?_)))));clear H;intro a H;refine hM15_7 (_) _ _ ?_ (by exact H.sub ⟨rfl,rfl,rfl,rfl,trivial⟩);rw [← hnm];clear hst hwd hnm hck hcd;(try clear hq1);(try clear hq2);(try clear hq3);(try clear hq0);(try clear hq4);(try clear hq5);(try clear hq6);(try clear hq7);simp_all
 clear H;intro q2 a w hI H;dsimp only [List.cons_append,List.nil_append] at H;simp only [List.drop_succ_cons,List.drop_zero];have hq2:=hI;refine wl_meet (ι:=Bool) (Tc:=[(1,_),(3,_)]) 9 (fun (q3:Bool)=>[(104,.bool q3)]) (fun (q3:Bool)=>q3=(q2 || !wordB x && !emptyB x.text)) (by exact H.sub ⟨rfl,rfl,trivial⟩) ?_ ?_
 ·intro hM15_16;refine kH H (Rm rfl ?_);clear H;intro a H;refine s_split H 96 rfl ?_ ?_
  ·intro h96
   try have p96:=dT h96
   refine kH H (Ks h96 rfl (Ks h96 rfl (Ks h96 rfl (Ku rfl (Ku rfl (Ku rfl (Ks h96 rfl (Pt h96 rfl ?_))))))));clear H;intro a H;refine hM15_16 (_) _ _ ?_ (by exact H.sub ⟨rfl,rfl,rfl,trivial⟩);rw [← hwd];clear hst hwd hnm hck hcd;(try clear hq1);(try clear hq2);(try clear hq3);(try clear hq0);(try clear hq4);(try clear hq5);(try clear hq6);(try clear hq7);simp_all [emptyB]
  intro h96
  try have p96:=dF h96
  refine kH H (YM h96 rfl (YN h96 rfl (YM h96 rfl ?_)));clear H;intro a H;refine s_split H 99 rfl ?_ ?_
  ·intro h99
   try have p99:=dT h99
   refine kH H (YF fd35_3run h99 rfl (YO ty9run 0 h99 rfl rfl ?_));clear H;intro a H;refine s_neqstr H (wg H rfl rfl h99) rfl rfl rfl ?_;clear H;intro a H;refine kH H (PT h96 h99 rfl (Pf h96 rfl ?_));clear H;intro a H;refine hM15_16 (_) _ _ ?_ (by exact H.sub ⟨rfl,rfl,rfl,trivial⟩);rw [← hwd];clear hst hwd hnm hck hcd;(try clear hq1);(try clear hq2);(try clear hq3);(try clear hq0);(try clear hq4);(try clear hq5);(try clear hq6);(try clear hq7);simp_all [emptyB]
  intro h99
  try have p99:=dF h99
  refine kH H (Ks h99 rfl (Ks h99 rfl (Ks h99 rfl (PF h96 h99 rfl (Pf h96 rfl ?_)))));clear H;intro a H;refine hM15_16 (_) _ _ ?_ (by exact H.sub ⟨rfl,rfl,rfl,trivial⟩);rw [← hwd];clear hst hwd hnm hck hcd;(try clear hq1);(try clear hq2);(try clear hq3);(try clear hq0);(try clear hq4);(try clear hq5);(try clear hq6);(try clear hq7);simp_all [emptyB]
 clear H;intro q3 a w hI H;dsimp only [List.cons_append,List.nil_append] at H;simp only [List.drop_succ_cons,List.drop_zero];have hq3:=hI;refine wl_meet (ι:=Bool) (Tc:=[(1,_),(3,_)]) 11 (fun (q4:Bool)=>[(115,.bool q4)]) (fun (q4:Bool)=>q4=(q3 || decide (x.kind≠6) && decide (0 < (x.flow.length:Int)))) (by exact H.sub ⟨rfl,rfl,trivial⟩) ?_ ?_
 ·intro hM15_25;refine kH H (Rm rfl ?_);clear H;intro a H;refine s_split H 105 rfl ?_ ?_
  ·intro h105
   try have p105:=dT h105
   refine kH H (Ks h105 rfl (Ks h105 rfl (Ks h105 rfl (Ks h105 rfl (Ku rfl (Ku rfl (Ku rfl (Ku rfl (Ks h105 rfl (Pt h105 rfl ?_))))))))));clear H;intro a H;refine hM15_25 (_) _ _ ?_ (by exact H.sub ⟨rfl,rfl,rfl,trivial⟩);clear hst hwd hnm hck hcd;(try clear hq1);(try clear hq2);(try clear hq3);(try clear hq0);(try clear hq4);(try clear hq5);(try clear hq6);(try clear hq7);simp_all
  intro h105
  try have p105:=dF h105
  refine kH H (YF fd35_0run h105 rfl (YO ty3run 0 h105 rfl rfl (YC h105 rfl (YM h105 rfl ?_))));clear H;intro a H;refine s_split H 109 rfl ?_ ?_
  ·intro h109
   try have p109:=dT h109
   refine kH H (YF fd35_5run h109 rfl (YO ty32run 0 h109 rfl rfl (YL un32run h109 rfl (YC h109 rfl (PT h105 h109 rfl (Pf h105 rfl ?_))))));clear H;intro a H;refine hM15_25 (_) _ _ ?_ (by exact H.sub ⟨rfl,rfl,rfl,trivial⟩);clear hst hwd hnm hck hcd;(try clear hq1);(try clear hq2);(try clear hq3);(try clear hq0);(try clear hq4);(try clear hq5);(try clear hq6);(try clear hq7);simp_all
  intro h109
  try have p109:=dF h109
  refine kH H (Ks h109 rfl (Ks h109 rfl (Ks h109 rfl (Ks h109 rfl (PF h105 h109 rfl (Pf h105 rfl ?_))))));clear H;intro a H;refine hM15_25 (_) _ _ ?_ (by exact H.sub ⟨rfl,rfl,rfl,trivial⟩);clear hst hwd hnm hck hcd;(try clear hq1);(try clear hq2);(try clear hq3);(try clear hq0);(try clear hq4);(try clear hq5);(try clear hq6);(try clear hq7);simp_all
 clear H;intro q4 a w hI H;dsimp only [List.cons_append,List.nil_append] at H;simp only [List.drop_succ_cons,List.drop_zero];have hq4:=hI;refine wl_meet (ι:=Bool) (Tc:=[(1,_),(3,_)]) 11 (fun (q5:Bool)=>[(126,.bool q5)]) (fun (q5:Bool)=>q5=fmtB x) (by exact H.sub ⟨rfl,rfl,trivial⟩) ?_ ?_
 ·intro hM15_36;refine kH H (Rm rfl ?_);clear H;intro a H;refine s_split H 116 rfl ?_ ?_
  ·intro h116
   try have p116:=dT h116
   refine kH H (Ks h116 rfl (Ks h116 rfl (Ks h116 rfl (Ks h116 rfl (Ku rfl (Ku rfl (Ku rfl (Ku rfl (Ks h116 rfl (Pt h116 rfl ?_))))))))));clear H;intro a H;refine hM15_36 (_) _ _ ?_ (by exact H.sub ⟨rfl,rfl,rfl,trivial⟩);rw [show fmtB x=(q4 || decide (x.kind≠7) && decide (0 < (x.rows.length:Int))) by rw [hq4,hq3,hq2,hq1];rfl];clear hq4;clear hst hwd hnm hck hcd;(try clear hq1);(try clear hq2);(try clear hq3);(try clear hq0);(try clear hq4);(try clear hq5);(try clear hq6);(try clear hq7);simp_all
  intro h116
  try have p116:=dF h116
  refine kH H (YF fd35_0run h116 rfl (YO ty3run 0 h116 rfl rfl (YC h116 rfl (YM h116 rfl ?_))));clear H;intro a H;refine s_split H 120 rfl ?_ ?_
  ·intro h120
   try have p120:=dT h120
   refine kH H (YF fd35_6run h120 rfl (YO ty33run 0 h120 rfl rfl (YL un33run h120 rfl (YC h120 rfl (PT h116 h120 rfl (Pf h116 rfl ?_))))));clear H;intro a H;refine hM15_36 (_) _ _ ?_ (by exact H.sub ⟨rfl,rfl,rfl,trivial⟩);rw [show fmtB x=(q4 || decide (x.kind≠7) && decide (0 < (x.rows.length:Int))) by rw [hq4,hq3,hq2,hq1];rfl];clear hq4;clear hst hwd hnm hck hcd;(try clear hq1);(try clear hq2);(try clear hq3);(try clear hq0);(try clear hq4);(try clear hq5);(try clear hq6);(try clear hq7);simp_all
  intro h120
  try have p120:=dF h120
  refine kH H (Ks h120 rfl (Ks h120 rfl (Ks h120 rfl (Ks h120 rfl (PF h116 h120 rfl (Pf h116 rfl ?_))))));clear H;intro a H;refine hM15_36 (_) _ _ ?_ (by exact H.sub ⟨rfl,rfl,rfl,trivial⟩);rw [show fmtB x=(q4 || decide (x.kind≠7) && decide (0 < (x.rows.length:Int))) by rw [hq4,hq3,hq2,hq1];rfl];clear hq4;clear hst hwd hnm hck hcd;(try clear hq1);(try clear hq2);(try clear hq3);(try clear hq0);(try clear hq4);(try clear hq5);(try clear hq6);(try clear hq7);simp_all
 clear H;intro q5 a w hI H;dsimp only [List.cons_append,List.nil_append] at H;simp only [List.drop_succ_cons,List.drop_zero];have hq5:=hI;refine kH H (Ra rfl (Kz K10 ?_));clear H K10;intro a H;refine c_cond H rfl ?_ ?_
 ·intro h79
  try have p79:=dT h79
  refine c_seq (fun _ K11=>?_)
  have e:formE x=15:=by unfold formE;rw [if_neg f0,if_pos (by rw [← hq5];exact h79)]
  refine kP H (SC (Ra rfl (Kn K11 ?_)));clear H K11;intro a H;refine lr H Tryz.results197 rfl ?_;exact H.hp.ret ⟨by rw [e],rfl⟩
 intro h79
 try have p79:=dF h79
 have f1:¬ fmtB x=true:=by rw [← hq5,h79];decide
 refine kP H (SR fun _ K12=>Rf fd35_3run rfl (Ro ty9run 0 rfl rfl ?_));clear H;intro a H;refine s_call en132cp H wn rfl (valid_spec _ _ H.hp.ro x.text hs) rfl ?_;clear H;rintro v130 _ a w ⟨rfl,rfl⟩ - H;refine kH H (Rn rfl (Ra rfl (Kz K12 ?_)));clear H K12;intro a H;refine c_cond H rfl ?_ ?_
 ·intro h127
  try have p127:=dT h127
  refine c_seq (fun _ K13=>?_)
  have e:formE x=12:=by unfold formE;rw [if_neg f0,if_neg f1,if_pos (by simpa using h127)]
  refine kP H (SC (Ra rfl (Kn K13 ?_)));clear H K13;intro a H;refine lr H Tryz.results197 rfl ?_;exact H.hp.ret ⟨by rw [e],rfl⟩
 intro h127
 try have p127:=dF h127
 have f2:¬ validS x.text=false:=by simpa using h127
 refine c_seqR (fun _ K14=>?_);refine wl_meet (ι:=Bool) (Tc:=[(1,_),(3,_)]) 13 (fun (q6:Bool)=>[(145,.bool q6)]) (fun (q6:Bool)=>q6=(decide (x.kind=1∨x.kind=5) && emptyB x.text)) (by exact H.sub ⟨rfl,rfl,trivial⟩) ?_ ?_
 ·intro hM19_0;refine kH H (Rf fd35_0run rfl (Ro ty3run 0 rfl rfl (Rc rfl (Rm rfl ?_))));clear H;intro a H;refine s_split H 136 rfl ?_ ?_
  ·intro h136
   try have p136:=dT h136
   refine kH H (Ks h136 rfl (Ks h136 rfl (Ks h136 rfl (Pt h136 rfl (Rm rfl ?_)))));clear H;intro a H;refine s_field fd35_3run H (wg H rfl rfl rfl) rfl rfl ?_;clear H;intro a H;refine s_load ty9run H (wg H rfl rfl rfl) rfl (H.hp.ocell 0 rfl rfl) rfl ?_;clear H;intro a H;refine s_eqstr H (wg H rfl rfl rfl) rfl rfl rfl ?_;clear H;intro a H;refine kH H (Pt rfl rfl ?_);clear H;intro a H;refine hM19_0 (_) _ _ ?_ (by exact H.sub ⟨rfl,rfl,rfl,trivial⟩);clear hst hwd hnm hck hcd;(try clear hq1);(try clear hq2);(try clear hq3);(try clear hq0);(try clear hq4);(try clear hq5);(try clear hq6);(try clear hq7);simp_all [emptyB]
  intro h136
  try have p136:=dF h136
  refine kH H (YF fd35_0run h136 rfl (YO ty3run 0 h136 rfl rfl (YC h136 rfl (Pf h136 rfl (Rm rfl ?_)))));clear H;intro a H;refine s_split H 141 rfl ?_ ?_
  ·intro h141
   try have p141:=dT h141
   refine kH H (YF fd35_3run h141 rfl (YO ty9run 0 h141 rfl rfl ?_));clear H;intro a H;refine s_eqstr H (wg H rfl rfl h141) rfl rfl rfl ?_;clear H;intro a H;refine kH H (Pt h141 rfl ?_);clear H;intro a H;refine hM19_0 (_) _ _ ?_ (by exact H.sub ⟨rfl,rfl,rfl,trivial⟩);clear hst hwd hnm hck hcd;(try clear hq1);(try clear hq2);(try clear hq3);(try clear hq0);(try clear hq4);(try clear hq5);(try clear hq6);(try clear hq7);simp_all [emptyB]
  intro h141
  try have p141:=dF h141
  refine kH H (Ks h141 rfl (Ks h141 rfl (Ks h141 rfl (Pf h141 rfl ?_))));clear H;intro a H;refine hM19_0 (_) _ _ ?_ (by exact H.sub ⟨rfl,rfl,rfl,trivial⟩);clear hst hwd hnm hck hcd;(try clear hq1);(try clear hq2);(try clear hq3);(try clear hq0);(try clear hq4);(try clear hq5);(try clear hq6);(try clear hq7);simp_all [emptyB]
 clear H;intro q6 a w hI H;dsimp only [List.cons_append,List.nil_append] at H;simp only [List.drop_succ_cons,List.drop_zero];have hq6:=hI;refine kH H (Ra rfl (Kz K14 ?_));clear H K14;intro a H;refine c_cond H rfl ?_ ?_
 ·intro h132
  try have p132:=dT h132
  refine c_seq (fun _ K15=>?_)
  have e:formE x=11:=by unfold formE;rw [if_neg f0,if_neg f1,if_neg f2,if_pos (by rw [← hq6];exact h132)]
  refine kP H (SC (Ra rfl (Kn K15 ?_)));clear H K15;intro a H;refine lr H Tryz.results197 rfl ?_;exact H.hp.ret ⟨by rw [e],rfl⟩
 intro h132
 try have p132:=dF h132
 have f3:¬ (decide (x.kind=1∨x.kind=5) && emptyB x.text)=true:=by rw [← hq6,h132];decide
 refine c_seqR (fun _ K16=>?_);refine wl_meet (ι:=Bool) (Tc:=[(1,_),(3,_)]) 9 (fun (q7:Bool)=>[(155,.bool q7)]) (fun (q7:Bool)=>q7=(decide (x.kind=5) && decide (1024 < (x.text.size:Int)))) (by exact H.sub ⟨rfl,rfl,trivial⟩) ?_ ?_
 ·intro hM21_0;refine kH H (Rf fd35_0run rfl (Ro ty3run 0 rfl rfl (Rc rfl (Rm rfl ?_))));clear H;intro a H;refine s_split H 150 rfl ?_ ?_
  ·intro h150
   try have p150:=dT h150
   refine kH H (YF fd35_3run h150 rfl (YO ty9run 0 h150 rfl rfl ?_));clear H;intro a H;refine s_lens un9cp H (wg H rfl rfl h150) rfl rfl ?_;clear H;intro a H;refine kH H (YC h150 rfl (Pt h150 rfl ?_));clear H;intro a H;refine hM21_0 (_) _ _ ?_ (by exact H.sub ⟨rfl,rfl,rfl,trivial⟩);clear hst hwd hnm hck hcd;(try clear hq1);(try clear hq2);(try clear hq3);(try clear hq0);(try clear hq4);(try clear hq5);(try clear hq6);(try clear hq7);simp_all
  intro h150
  try have p150:=dF h150
  refine kH H (Ks h150 rfl (Ks h150 rfl (Ks h150 rfl (Ks h150 rfl (Pf h150 rfl ?_)))));clear H;intro a H;refine hM21_0 (_) _ _ ?_ (by exact H.sub ⟨rfl,rfl,rfl,trivial⟩);clear hst hwd hnm hck hcd;(try clear hq1);(try clear hq2);(try clear hq3);(try clear hq0);(try clear hq4);(try clear hq5);(try clear hq6);(try clear hq7);simp_all
 clear H;intro q7 a w hI H;dsimp only [List.cons_append,List.nil_append] at H;simp only [List.drop_succ_cons,List.drop_zero];have hq7:=hI;refine kH H (Ra rfl (Kz K16 ?_));clear H K16;intro a H;refine c_cond H rfl ?_ ?_
 ·intro h146
  try have p146:=dT h146
  refine c_seq (fun _ K17=>?_)
  have e:formE x=10:=by unfold formE;rw [if_neg f0,if_neg f1,if_neg f2,if_neg f3,if_pos (by rw [← hq7];exact h146)]
  refine kP H (SC (Ra rfl (Kn K17 ?_)));clear H K17;intro a H;refine lr H Tryz.results197 rfl ?_;exact H.hp.ret ⟨by rw [e],rfl⟩
 intro h146
 try have p146:=dF h146
 have f4:¬ (decide (x.kind=5) && decide (1024 < (x.text.size:Int)))=true:=by rw [← hq7,h146];decide
 refine c_seqR (fun _ K18=>?_);refine wl_meet (ι:=Bool) (Tc:=[]) 7 (fun (q8:Bool)=>[(163,.bool q8)]) (fun (q8:Bool)=>q8=(startB x && !cpNm x.text)) (by exact H.sub trivial) ?_ ?_
 ·intro hM23_0;refine kH H (Rm rfl (Rm rfl ?_));clear H;intro a H;refine s_split H 158 rfl ?_ ?_
  ·intro h158
   try have p158:=dT h158
   refine kH H (YF fd35_3run h158 rfl (YO ty9run 0 h158 rfl rfl ?_));clear H;intro a H;refine s_call en60dsv H (wg H rfl rfl h158) rfl (cpNm_spec _ _ H.hp.ro x.text hs) rfl ?_;clear H;rintro v161 _ a w ⟨rfl,rfl⟩ - H;refine kH H (YN h158 rfl (Pt h158 rfl ?_));clear H;intro a H;refine hM23_0 (_) _ _ ?_ (by exact H.sub ⟨rfl,trivial⟩);rw [← hst];clear hst hwd hnm hck hcd;(try clear hq1);(try clear hq2);(try clear hq3);(try clear hq0);(try clear hq4);(try clear hq5);(try clear hq6);(try clear hq7);simp_all
  intro h158
  try have p158:=dF h158
  refine kH H (Ks h158 rfl (Ks h158 rfl (Ks h158 rfl (Ks h158 rfl (Pf h158 rfl ?_)))));clear H;intro a H;refine hM23_0 (_) _ _ ?_ (by exact H.sub ⟨rfl,trivial⟩);rw [← hst];clear hst hwd hnm hck hcd;(try clear hq1);(try clear hq2);(try clear hq3);(try clear hq0);(try clear hq4);(try clear hq5);(try clear hq6);(try clear hq7);simp_all
 clear H;intro q8 a w hI H;dsimp only [List.cons_append,List.nil_append] at H;simp only [List.drop_succ_cons,List.drop_zero];have hq8:=hI;refine kH H (Ra rfl (Kz K18 ?_));clear H K18;intro a H;refine c_cond H rfl ?_ ?_
 ·intro h156
  try have p156:=dT h156
  refine c_seq (fun _ K19=>?_)
  have e:formE x=13:=by unfold formE;rw [if_neg f0,if_neg f1,if_neg f2,if_neg f3,if_neg f4,if_pos (by rw [← hq8];exact h156)]
  refine kP H (SC (Ra rfl (Kn K19 ?_)));clear H K19;intro a H;refine lr H Tryz.results197 rfl ?_;exact H.hp.ret ⟨by rw [e],rfl⟩
 intro h156
 try have p156:=dF h156
 refine c_skip ?_;refine K7 _ _ ?_;clear K7;refine c_seq (fun _ K20=>?_)
 have e:formE x=0:=by unfold formE;rw [if_neg f0,if_neg f1,if_neg f2,if_neg f3,if_neg f4,if_neg (by rw [← hq8,h156];decide)]
 refine kP H (SC (Ra rfl (Kn K20 ?_)));clear H K20;intro a H;refine lr H Tryz.results197 rfl ?_;exact H.hp.ret ⟨by rw [e],rfl⟩
end
section
open Go.RowKit
/-- Where a checker stands: how many units, which ids came before. -/
structure CS where
 n:Int
 bef:List Int
abbrev CR:=Int × CS
def andT (r:CR) (f:CS→CR):CR:=if r.1≠0 then r else f r.2
theorem andT_ok {r:CR} {f:CS→CR} (h:r.1=0):andT r f=f r.2:=by rw [andT,if_neg (fun h'=>h' h)]
theorem andT_err {r:CR} {f:CS→CR} (h:r.1≠0):andT r f=r:=by rw [andT,if_pos h]
def idC (s:CS) (x:Int):CR:=(idE s.bef x,⟨s.n,idB s.bef x⟩)
/-- Behind an item's form: what its kind asks for where it stands. -/
def preC (body note:Bool) (t k i:Int) (s:CS):CR :=
 if k=3 then (whenE (!body) 19,s) else if k=6 then andT (whenE note 19,s) fun s=>idC s i else if k=7 then andT (whenE (decide (4≤t)) 17,s) fun s=>idC s i else if k=8 then (whenE (!decide (1≤i∧i≤1073741824)) 18,s) else (0,s)
def rowE (C:CkP) (h:HeadD) (n:Nat):Int:=firstE [headE C 9 h,whenE (decide ((n:Int)=0)) 11,whenE (decide (32 < (n:Int))) 9]
def rowsC0 (n:Nat) (f:CS→CR) (s:CS):CR:=if n=0 then (11,s) else if 256 < n then (9,s) else f s
mutual
def itemC (C:CkP) (body note:Bool) (t:Int):ItemD→CS→CR
 | .mk k c i tx h f r,s =>
  andT (formE (.mk k c i tx h f r),s) fun s=>andT (preC body note t k i ⟨s.n+(if k=1 then cntS tx else 1:Nat),s.bef⟩) fun s=>andT (headE C k h,s) fun s =>
   if k=6 then itemsC C false true t f s else if k=7 then rowsC0 r.length (fun s=>rowsC C note (t+1) r s) s else (0,s)
def rowC (C:CkP) (note:Bool) (t:Int):RowD→CS→CR
 | .mk h cs,s=>andT (rowE C h cs.length,s) fun s=>cellsC C note t cs s
def cellC (C:CkP) (note:Bool) (t:Int):CellD→CS→CR
 | .mk i h f,s=>andT (idC s i) fun s=>andT (headE C 10 h,s) fun s=>itemsC C false note t f s
def itemsC (C:CkP) (body note:Bool) (t:Int):List ItemD→CS→CR
 | [],s=>(0,s)
 | x :: r,s=>andT (itemC C body note t x s) fun s=>itemsC C body note t r s
def rowsC (C:CkP) (note:Bool) (t:Int):List RowD→CS→CR
 | [],s=>(0,s)
 | x :: r,s=>andT (rowC C note t x s) fun s=>rowsC C note t r s
def cellsC (C:CkP) (note:Bool) (t:Int):List CellD→CS→CR
 | [],s=>(0,s)
 | x :: r,s=>andT (cellC C note t x s) fun s=>cellsC C note t r s
end
theorem itemC_eq (C:CkP) (body note:Bool) (t:Int) (x:ItemD) (s:CS):itemC C body note t x s=andT (formE x,s) fun s=>andT (preC body note t x.kind x.id ⟨s.n+(unitsS x:Nat),s.bef⟩) fun s=>andT (headE C x.kind x.head,s) fun s =>
  if x.kind=6 then itemsC C false true t x.flow s else if x.kind=7 then rowsC0 x.rows.length (fun s=>rowsC C note (t+1) x.rows s) s else (0,s):=by cases x;rw [itemC];rfl
theorem rowC_eq (C:CkP) (note:Bool) (t:Int) (x:RowD) (s:CS):rowC C note t x s=andT (rowE C x.head x.cells.length,s) fun s=>cellsC C note t x.cells s:=by cases x;rw [rowC];rfl
theorem cellC_eq (C:CkP) (note:Bool) (t:Int) (x:CellD) (s:CS):cellC C note t x s=andT (idC s x.id) fun s=>andT (headE C 10 x.head,s) fun s=>itemsC C false note t x.flow s:=by cases x;rw [cellC];rfl
/-! ## How many units -/
/-- From s to r no more than z units come to it. -/
def Up (s:CS) (z:Nat) (r:CR):Prop:=s.n≤r.2.n∧r.2.n≤s.n+z
theorem Up.and {s:CS} {z y q:Nat} {r:CR} {f:CS→CR} (h:Up s z r) (hq:z+y≤q) (hf:∀ s,Up s y (f s)):Up s q (andT r f):=by
 obtain ⟨h1,h2⟩:=h
 unfold andT
 split
 ·exact ⟨h1,by omega⟩
 obtain ⟨h3,h4⟩:=hf r.2;exact ⟨by omega,by omega⟩
theorem Up.zero (s:CS) (e:Int) (q:Nat):Up s q (e,s):=⟨Int.le_refl _,by dsimp only;omega⟩
theorem Up.le {s:CS} {z y:Nat} {r:CR} (h:Up s z r) (hq:z≤y):Up s y r:=⟨h.1,by have:=h.2;omega⟩
theorem up_id (s:CS) (x:Int) (q:Nat):Up s q (idC s x):=⟨Int.le_refl _,by dsimp only [idC];omega⟩
theorem up_pre (body note:Bool) (t k i:Int) (s:CS) (q:Nat):Up s q (preC body note t k i s):=by
 unfold preC
 (repeat' split) <;> first|exact Up.zero _ _ _|exact (Up.zero _ _ 0).and (y:=0) (by omega) fun s=>up_id _ _ _
mutual
theorem up_item (C:CkP) (body note:Bool) (t:Int):∀ (x:ItemD) (s:CS),Up s (szR x.dat) (itemC C body note t x s)
 | .mk k c i tx h f r,s=>by
  have hz:=zItem_eq (.mk k c i tx h f r);have hf:=up_items C false true t f;have hr:=up_rows C note (t+1) r;rw [itemC];obtain ⟨u,hu'⟩:∃ u,u=(if k=1 then cntS tx else 1:Nat):=⟨_,rfl⟩
  have hu:u≤tx.size+1:=by
   have:=cntS_le tx
   rw [hu'];split <;> omega
  rw [← hu'];dsimp only [ItemD.text,ItemD.flow,ItemD.rows,ItemD.head] at hz;refine (Up.zero s _ 0).and (Nat.le_of_eq (Nat.zero_add _)) fun s=>?_
  have h2:Up s (u) (preC body note t k i ⟨s.n+(u:Nat),s.bef⟩):=by
   obtain ⟨h3,h4⟩:=up_pre body note t k i ⟨s.n+(u:Nat),s.bef⟩ 0;dsimp only at h3 h4;exact ⟨by omega,by omega⟩
  refine h2.and (y:=zItems f+zRows r) (by omega) fun s=>(Up.zero s _ 0).and (Nat.le_of_eq (Nat.zero_add _)) fun s=>?_
  by_cases h6:k=6
  ·rw [if_pos h6];exact (hf s).le (by omega)
  rw [if_neg h6]
  by_cases h7:k=7
  ·rw [if_pos h7]
   unfold rowsC0
   by_cases c1:r.length=0
   ·rw [if_pos c1];exact Up.zero _ _ _
   rw [if_neg c1]
   by_cases c2:256 < r.length
   ·rw [if_pos c2];exact Up.zero _ _ _
   rw [if_neg c2];exact (hr s).le (by omega)
  rw [if_neg h7];exact Up.zero _ _ _
theorem up_row (C:CkP) (note:Bool) (t:Int):∀ (x:RowD) (s:CS),Up s (szR x.dat) (rowC C note t x s)
 | .mk h cs,s=>by
  have hz:=zRow_eq (.mk h cs);have hc:=up_cells C note t cs;rw [rowC_eq];dsimp only [RowD.cells,RowD.head] at hz ⊢;exact (Up.zero s _ 0).and (y:=zCells cs) (by omega) fun s=>hc s
theorem up_cell (C:CkP) (note:Bool) (t:Int):∀ (x:CellD) (s:CS),Up s (szR x.dat) (cellC C note t x s)
 | .mk i h f,s=>by
  have hz:=zCell_eq (.mk i h f);have hf:=up_items C false note t f;rw [cellC_eq];dsimp only [CellD.flow,CellD.head,CellD.id] at hz ⊢;exact (up_id s _ 0).and (y:=zItems f) (by omega) fun s=>(Up.zero s _ 0).and (Nat.le_of_eq (Nat.zero_add _)) fun s=>hf s
theorem up_items (C:CkP) (body note:Bool) (t:Int):∀ (l:List ItemD) (s:CS),Up s (zItems l) (itemsC C body note t l s)
 | [],s=>by rw [itemsC];exact Up.zero _ _ _
 | x :: r,s=>by
  rw [itemsC];exact (up_item C body note t x s).and (y:=zItems r) (by simp only [zItems,List.map_cons,szRs];omega) fun s=>up_items C body note t r s
theorem up_rows (C:CkP) (note:Bool) (t:Int):∀ (l:List RowD) (s:CS),Up s (zRows l) (rowsC C note t l s)
 | [],s=>by rw [rowsC];exact Up.zero _ _ _
 | x :: r,s=>by
  rw [rowsC];exact (up_row C note t x s).and (y:=zRows r) (by simp only [zRows,List.map_cons,szRs];omega) fun s=>up_rows C note t r s
theorem up_cells (C:CkP) (note:Bool) (t:Int):∀ (l:List CellD) (s:CS),Up s (zCells l) (cellsC C note t l s)
 | [],s=>by rw [cellsC];exact Up.zero _ _ _
 | x :: r,s=>by
  rw [cellsC];exact (up_cell C note t x s).and (y:=zCells r) (by simp only [zCells,List.map_cons,szRs];omega) fun s=>up_cells C note t r s
end
/-! ## Item by item -/
/-- The state ahead of the item with an index. -/
def stC {α:Type} (f:α→CS→CR) (l:List α) (s:CS):Nat→CS
 | 0=>s
 | i+1=>match l[i]? with|some x=>(f x (stC f l s i)).2|none=>stC f l s i
def erC {α:Type} (f:α→CS→CR) (l:List α) (s:CS) (i:Nat):Int:=match l[i]? with|some x=>(f x (stC f l s i)).1|none=>0
theorem stC_cons {α:Type} (f:α→CS→CR) (x:α) (l:List α) (s:CS):∀ i,stC f (x :: l) s (i+1)=stC f l (f x s).2 i
 | 0=>rfl
 | i+1=>by
  have ih:=stC_cons f x l s i
  simp only [stC,List.getElem?_cons_succ] at ih ⊢
  rw [ih]
theorem erC_cons {α:Type} (f:α→CS→CR) (x:α) (l:List α) (s:CS) (i:Nat):erC f (x :: l) s (i+1)=erC f l (f x s).2 i:=by
 unfold erC
 simp only [List.getElem?_cons_succ,stC_cons]
theorem allE_succ (E:Nat→Int) (n:Nat):allE E (n+1)=if E 0≠0 then E 0 else allE (fun i=>E (i+1)) n:=by
 unfold allE
 rw [List.range_succ_eq_map,List.map_cons,firstE,List.map_map]
 rfl
theorem items_all (C:CkP) (body note:Bool) (t:Int):∀ (l:List ItemD) (s:CS),(itemsC C body note t l s).1=allE (erC (itemC C body note t) l s) l.length∧((itemsC C body note t l s).1=0→(itemsC C body note t l s).2=stC (itemC C body note t) l s l.length)
 | [],s=>by rw [itemsC];exact ⟨rfl,fun _=>rfl⟩
 | x :: r,s=>by
  obtain ⟨h1,h2⟩:=items_all C body note t r (itemC C body note t x s).2;have e0:erC (itemC C body note t) (x :: r) s 0=(itemC C body note t x s).1:=rfl;rw [itemsC,List.length_cons,allE_succ,e0,stC_cons]
  simp only [erC_cons]
  unfold andT
  split
  ·next h=>exact ⟨rfl,fun h0=>absurd h0 h⟩
  exact ⟨h1,h2⟩
theorem up_st (C:CkP) (body note:Bool) (t:Int) (l:List ItemD) (s:CS):∀ i,i≤l.length→s.n≤(stC (itemC C body note t) l s i).n∧(stC (itemC C body note t) l s i).n+(zItems (l.drop i):Nat)≤s.n+(zItems l:Nat)
 | 0,_=>⟨Int.le_refl _,Int.le_refl _⟩
 | i+1,hi=>by
  have hi':i < l.length:=hi;obtain ⟨h1,h2⟩:=up_st C body note t l s i (by omega)
  have hs:stC (itemC C body note t) l s (i+1)=(itemC C body note t l[i] (stC (itemC C body note t) l s i)).2:=by rw [stC,List.getElem?_eq_getElem hi']
  have hd:zItems (l.drop i)=1+szR l[i].dat+zItems (l.drop (i+1)):=by
   simp only [zItems];rw [List.drop_eq_getElem_cons hi',List.map_cons,szRs]
  obtain ⟨h3,h4⟩:=up_item C body note t l[i] (stC (itemC C body note t) l s i);rw [hs];exact ⟨by omega,by omega⟩
end
end Go.Proofs.YtlnhhlighgaapaaGreat
