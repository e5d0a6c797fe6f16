/-
  What the claim stands on, part 6: Package document: checkRevs. Package document: Check. Package document: visit, ids. Package document: ids, Fresh, Units, Flows. The example of layer 15, and what it gives. The example of layer 13, and what it gives. The examples of layer 13 hold. The law of settings: what it gives. From what the form reads to documents in memory. From what the form reads to settings and documents in memory.
-/
import Derived.Test.YtlnhhlighgaapaaGreatSe
import Derived.ProofKit
import Derived.Deep.Slices
import Derived.Laws.StructEq
namespace Go.Proofs.YtlnhhlighgaapaaGreat
section
open Go.RowKit
theorem fd65_1rvs:Fld Tryz.prog 65 1 1:=⟨by kernel_rfl⟩
theorem fd65_2rvs:Fld Tryz.prog 65 2 2:=⟨by kernel_rfl⟩
theorem en135rvs:∀ args w,(callFunc 135 args).run Tryz.prog w=.ok (.enter 135 args) w:=enters Tryz.func135 rfl (by kernel_rfl)
theorem en134rvs:∀ args w,(callFunc 134 args).run Tryz.prog w=.ok (.enter 134 args) w:=enters Tryz.func134 rfl (by kernel_rfl)
theorem rvid_cb {G:GH} {bl:Nat} {l:List RvD} {A:Option Addr} {n c:Nat} (hb:gcell G bl 0=some (.slice A n c)) (hv:RepV G (.sl 3 (l.map RvD.dat)) (.slice A n c)):IxCb (.func (.func 135) #[] #[.pointer (some ⟨bl,0,none⟩)]) G l.length fun k=>(l[k]?.map RvD.id).getD 0:=by
 intro k hk G1 w0 hm hG;refine callV_func (caps:=[.pointer (some ⟨bl,0,none⟩)]) en135rvs ?_;replace hb:=gcell_mono hm hb
 obtain rfl:n=l.length:=by have:=hv.len;simpa using this
 obtain ⟨b,o,rfl,hrow⟩:=rv_at (hv.mono hm) hk;have hq:=hrow 0 _ rfl;refine eN [(0,_),(1,_)] Tryz.func135 rfl Tryz.ntmps135 rfl rfl hG ?_;intro a H;refine c_seqR (fun _ K1=>?_);refine kH H (Ra rfl ?_);clear H;intro a H;refine K1 _ _ ?_;clear K1;refine c_seqR (fun _ K2=>?_);refine s_load ty48nck H wn rfl (H.hp.gcell (by assumption)) rfl ?_;clear H;intro a H;refine kH H (Rm rfl ?_);clear H;intro a H;refine s_index un48nck ty65nck _ H wn rfl rfl rfl (by first|assumption|omega) rfl ?_;clear H;intro a H;refine kH H (Rf fd65_0nck rfl ?_);clear H;intro a H;refine s_load ty3run H wn rfl (H.hp.gcell (by assumption)) rfl ?_;clear H;intro a H;refine kH H (Ra rfl ?_);clear H;intro a H;refine K2 _ _ ?_;clear K2;refine c_ret ?_;refine lv H Tryz.results135 rfl ?_;exact H.hp.ret (by dsimp only;rw [List.getElem?_eq_getElem hk];rfl)
def revE0 (l:List RvD) (i:Nat) (x:RvD):Int:=firstE [incE (fun k=>(l[k]?.map RvD.id).getD 0) i,whenE (!autS x.author) 39,whenE (!decide (0≤x.time∧x.time≤1099511627776)) 40]
def revE (l:List RvD) (i:Nat):Int:=match l[i]? with|some x=>revE0 l i x|none=>0
theorem rev_cb {G:GH} {bl:Nat} {l:List RvD} {A:Option Addr} {n c:Nat} (hb:gcell G bl 0=some (.slice A n c)) (hv:RepV G (.sl 3 (l.map RvD.dat)) (.slice A n c)) (hl:l.length≤4294967296) (ht:∀ x∈l,x.author.size < 4611686018427387904):IxCb (.func (.func 134) #[] #[.pointer (some ⟨bl,0,none⟩)]) G l.length (revE l):=by
 intro k hk G1 w0 hm hG;refine callV_func (caps:=[.pointer (some ⟨bl,0,none⟩)]) en134rvs ?_;replace hb:=gcell_mono hm hb;replace hv:=hv.mono hm;have hcb:=rvid_cb hb hv
 obtain rfl:n=l.length:=by have:=hv.len;simpa using this
 obtain ⟨b,o,rfl,hrow⟩:=rv_at hv hk;have hte:=ht _ (List.getElem_mem hk)
 have he:revE l k=revE0 l k l[k]:=by unfold revE;rw [List.getElem?_eq_getElem hk]
 obtain ⟨x,hx⟩:∃ x,x=l[k]:=⟨_,rfl⟩;rw [← hx] at hrow hte he;refine eN [(0,_),(1,_)] Tryz.func134 rfl Tryz.ntmps134 rfl rfl hG ?_;intro a H;refine c_seqR (fun _ K1=>?_);refine kH H (Ra rfl ?_);clear H;intro a H;refine K1 _ _ ?_;clear K1;refine c_seq (fun _ K2=>?_);have H:=H.sub (T':=[(0,_),(1,_)]) ⟨rfl,rfl,trivial⟩;refine c_drawI (hmx) [[],[],[0,1],[],[],[3,4],[3,4,5],[3,4,5,6],(List.range 8),(List.range 9),(List.range 10),[],[],[11,12],[11,12,13],[11,12,13,14],(List.range 16),(List.range 17),(List.range 18),(List.range 19),(List.range 20),(List.range 21)] [19,20,21] (by kernel_rfl) (by kernel_rfl) (fun (ix_:Nat) (v:Value) (G:GH)=>match ix_ with|0=>v=vi k|1=>v=.func (.func 135) #[] #[.pointer (some ⟨bl,0,none⟩)]|2=>v=vi (incE (fun k=>(l[k]?.map RvD.id).getD 0) k)|3=>v=.slice (some ⟨b,o,none⟩) l.length c|4=>v=vi k|5=>v=.pointer (some ⟨b,o+k*3,none⟩)|6=>v=.pointer (some ⟨b,o+k*3+1,none⟩)|7=>v=.string x.author|8=>v=.bool (autS x.author)|9=>v=.bool (!autS x.author)|10=>v=vi (whenE (!autS x.author) 39)|11=>v=.slice (some ⟨b,o,none⟩) l.length c|12=>v=vi k|13=>v=.pointer (some ⟨b,o+k*3,none⟩)|14=>v=.pointer (some ⟨b,o+k*3+2,none⟩)|15=>v=vi x.time|16=>v=.bool (decide (0≤x.time∧x.time≤1099511627776))|17=>v=.bool (!decide (0≤x.time∧x.time≤1099511627776))|18=>v=vi (whenE (!decide (0≤x.time∧x.time≤1099511627776)) 40)|_=>True) (fun _ _ _ _ _ h=>h) H ?_ ?_
 ·clear H;refine al4 ?_ ?_ ?_ ?_ (al4 ?_ ?_ ?_ ?_ (al4 ?_ ?_ ?_ ?_ (al4 ?_ ?_ ?_ ?_ (al4 ?_ ?_ ?_ ?_ (allI_cons ?_ (allI_cons ?_ allI_nil))))))
  ·exact Op0 rfl fun _ _ _ _ _ _ H fin=>kH H (Rm rfl fun _ H=>fin H iJ rfl)
  ·refine Op0 rfl fun _ a w G1 hG HT H fin=>?_;refine s_makeFunc H wn rfl rfl ?_;clear H;intro a H;exact fin H iJ rfl
  ·refine Op2 0 4 1 5 rfl rfl fun _ a w G1 hG HT H fin=>?_;refine s_call en121dst H wn rfl (increasing_spec _ _ H.hp.ro k _ _ (by omega) (fun i hi=>(hcb.mono hG) i (by omega))) rfl ?_;clear H;rintro v6 G6 a w rfl hGm6 H;exact fin H hGm6 (rfl)
  ·refine Op0 rfl fun _ a w G1 hG HT H fin=>?_;refine s_load ty48nck H wn rfl (H.hp.gcell (gcell_mono hG hb)) rfl ?_;clear H;intro a H;exact fin H iJ rfl
  ·exact Op0 rfl fun _ _ _ _ _ _ H fin=>kH H (Rm rfl fun _ H=>fin H iJ rfl)
  ·refine Op2 3 7 4 8 rfl rfl fun _ a w G1 hG HT H fin=>?_;refine s_index un48nck ty65nck _ H wn rfl rfl rfl (by first|assumption|omega) rfl ?_;clear H;intro a H;exact fin H iJ rfl
  ·exact Op1 5 9 rfl rfl fun _ _ _ _ _ _ H fin=>kH H (Rf fd65_1rvs rfl fun _ H=>fin H iJ rfl)
  ·refine Op1 6 10 rfl rfl fun _ a w G1 hG HT H fin=>?_;refine s_load ty9run H wn rfl (H.hp.gcell (gcell_mono hG (hrow 1 _ rfl))) rfl ?_;clear H;intro a H;exact fin H iJ rfl
  ·refine Op1 7 11 rfl rfl fun _ a w G1 hG HT H fin=>?_;refine s_call en127dsc H wn rfl (author_spec _ _ H.hp.ro x.author hte) rfl ?_;clear H;rintro v12 G12 a w ⟨rfl,-⟩ hGm12 H;exact fin H hGm12 (rfl)
  ·exact Op1 8 12 rfl rfl fun _ _ _ _ _ _ H fin=>kH H (Rn rfl fun _ H=>fin H iJ rfl)
  ·refine Op1 9 13 rfl rfl fun _ a w G1 hG HT H fin=>?_;refine s_call en65nam H wn rfl (when_spec _ _ H.hp.ro _ 39) rfl ?_;clear H;rintro v14 G14 a w ⟨rfl,-⟩ hGm14 H;exact fin H hGm14 (rfl)
  ·refine Op0 rfl fun _ a w G1 hG HT H fin=>?_;refine s_load ty48nck H wn rfl (H.hp.gcell (gcell_mono hG hb)) rfl ?_;clear H;intro a H;exact fin H iJ rfl
  ·exact Op0 rfl fun _ _ _ _ _ _ H fin=>kH H (Rm rfl fun _ H=>fin H iJ rfl)
  ·refine Op2 11 15 12 16 rfl rfl fun _ a w G1 hG HT H fin=>?_;refine s_index un48nck ty65nck _ H wn rfl rfl rfl (by first|assumption|omega) rfl ?_;clear H;intro a H;exact fin H iJ rfl
  ·exact Op1 13 17 rfl rfl fun _ _ _ _ _ _ H fin=>kH H (Rf fd65_2rvs rfl fun _ H=>fin H iJ rfl)
  ·refine Op1 14 18 rfl rfl fun _ a w G1 hG HT H fin=>?_;refine s_load ty3run H wn rfl (H.hp.gcell (gcell_mono hG (hrow 2 _ rfl))) rfl ?_;clear H;intro a H;exact fin H iJ rfl
  ·refine Op1 15 19 rfl rfl fun _ a w G1 hG HT H fin=>?_;refine s_call en128fst H wn rfl (in_spec _ _ H.hp.ro x.time 0 1099511627776) rfl ?_;clear H;rintro v20 G20 a w ⟨rfl,-⟩ hGm20 H;exact fin H hGm20 (rfl)
  ·exact Op1 16 20 rfl rfl fun _ _ _ _ _ _ H fin=>kH H (Rn rfl fun _ H=>fin H iJ rfl)
  ·refine Op1 17 21 rfl rfl fun _ a w G1 hG HT H fin=>?_;refine s_call en65nam H wn rfl (when_spec _ _ H.hp.ro _ 40) rfl ?_;clear H;rintro v22 G22 a w ⟨rfl,-⟩ hGm22 H;exact fin H hGm22 (rfl)
  ·exact opB rfl
  ·exact opB rfl
  exact opB rfl
 clear H;intro a w G hGm1 H hv;obtain ⟨u6,hu6,hp6⟩:=hv 2 6 (by decide) rfl;obtain rfl:u6=vi (incE (fun k=>(l[k]?.map RvD.id).getD 0) k):=hp6;have H:=H.addS hu6;obtain ⟨u14,hu14,hp14⟩:=hv 10 14 (by decide) rfl;obtain rfl:u14=vi (whenE (!autS x.author) 39):=hp14;have H:=H.addS hu14;obtain ⟨u22,hu22,hp22⟩:=hv 18 22 (by decide) rfl;obtain rfl:u22=vi (whenE (!decide (0≤x.time∧x.time≤1099511627776)) 40):=hp22;have H:=H.addS hu22;clear hv;refine s_buildSlice un221fst ty22fst [_,_,_] [_,_,_] H wn rfl rfl rfl rfl rfl (by intro i q h;match i,h with|0,h=>exact h|1,h=>exact h|2,h=>exact h|n+3,h=>simp at h) rfl rfl ?_;clear H;intro b23 a w hb23 H;obtain ⟨G23,hm23,hb23',H⟩:=H.giveBox;refine s_call en52nam H wn rfl (first_spec1 _ _ H.hp.ro _ _ (ints_rep [incE (fun k=>(l[k]?.map RvD.id).getD 0) k,whenE (!autS x.author) 39,whenE (!decide (0≤x.time∧x.time≤1099511627776)) 40] hb23' (show 3≤maxLen by decide))) rfl ?_;clear H;rintro v24 _ a w ⟨rfl,rfl⟩ - H;refine kH H (Ra rfl ?_);clear H;intro a H;refine wl_nil ⟨rfl,?_⟩;refine K2 _ _ ?_;clear K2;refine c_ret ?_;refine lv H Tryz.results134 rfl ?_;exact H.hp.ret (by rw [he,revE0])
def chkRvs (l:List RvD):Int:=firstE [whenE (decide (256 < (l.length:Int))) 9,allE (revE l) (min l.length 256)]
theorem checkRevs_spec (G:GH) (w0:World) (hG:Hold G w0) (l:List RvD) (v:Value) (hv:RepV G (.sl 3 (l.map RvD.dat)) v) (hl:l.length≤4294967296) (ht:∀ x∈l,x.author.size < 4611686018427387904) :
  Calls Tryz.prog 62 #[v] w0 (Ret w0 G fun u G'=>u=vi (chkRvs l)):=by
 obtain ⟨A,c,rfl,hc1,hc2,-⟩:=hv.slice;rw [List.length_map] at *;refine eN [(0,_)] Tryz.func62 rfl Tryz.ntmps62 rfl rfl hG ?_;intro a H;refine c_seqR (fun _ K1=>?_);refine s_box (cs:=[_]) H wn rfl rfl rfl ?_;clear H;intro b1 a w hb1 H;refine kH H (Ra rfl ?_);clear H;intro a H;refine K1 _ _ ?_;clear K1;refine c_seq (fun _ K2=>?_);have H:=H.sub (T':=[(1,_)]) ⟨rfl,trivial⟩;obtain ⟨Ga,hma,hb1',H⟩:=H.giveBox
 have hbl:gcell Ga b1 0=some (.slice A l.length c):=by unfold gcell;rw [hb1'];rfl
 have hcb:=rev_cb hbl (hv.mono hma) hl ht;refine c_drawI (hmx) [[],[0],[0,1],[0,1,2],[],[4],[4,5],[],(List.range 8),(List.range 9),(List.range 10),(List.range 11)] [9,10,11] (by kernel_rfl) (by kernel_rfl) (fun (ix_:Nat) (v:Value) (G:GH)=>match ix_ with|0=>v=.slice A l.length c|1=>v=vi l.length|2=>v=.bool (decide (256 < (l.length:Int)))|3=>v=vi (whenE (decide (256 < (l.length:Int))) 9)|4=>v=.slice A l.length c|5=>v=vi l.length|6=>v=vi ((min l.length 256:Nat):Int)|7=>v=.func (.func 134) #[] #[.pointer (some ⟨b1,0,none⟩)]|8=>v=vi (allE (revE l) (min l.length 256))|_=>True) (fun _ _ _ _ _ h=>h) H ?_ ?_
 ·clear H;refine al4 ?_ ?_ ?_ ?_ (al4 ?_ ?_ ?_ ?_ (al4 ?_ ?_ ?_ ?_ allI_nil))
  ·refine Op0 rfl fun _ a w G1 hG HT H fin=>?_;refine s_load ty48nck H wn rfl (H.hp.gcell (gcell_mono hG hbl)) rfl ?_;clear H;intro a H;exact fin H iJ rfl
  ·exact Op1 0 3 rfl rfl fun _ _ _ _ _ _ H fin=>kH H (Rl un48nck rfl fun _ H=>fin H iJ rfl)
  ·exact Op1 1 4 rfl rfl fun _ _ _ _ _ _ H fin=>kH H (Rc rfl fun _ H=>fin H iJ rfl)
  ·refine Op1 2 5 rfl rfl fun _ a w G1 hG HT H fin=>?_;refine s_call en65nam H wn rfl (when_spec _ _ H.hp.ro _ 9) rfl ?_;clear H;rintro v6 G6 a w ⟨rfl,-⟩ hGm6 H;exact fin H hGm6 (rfl)
  ·refine Op0 rfl fun _ a w G1 hG HT H fin=>?_;refine s_load ty48nck H wn rfl (H.hp.gcell (gcell_mono hG hbl)) rfl ?_;clear H;intro a H;exact fin H iJ rfl
  ·exact Op1 4 7 rfl rfl fun _ _ _ _ _ _ H fin=>kH H (Rl un48nck rfl fun _ H=>fin H iJ rfl)
  ·refine Op1 5 8 rfl rfl fun _ a w G1 hG HT H fin=>?_;refine s_min H wn rfl rfl rfl ?_;clear H;intro a H;exact fin H iJ (congrArg vi (by omega))
  ·refine Op0 rfl fun _ a w G1 hG HT H fin=>?_;refine s_makeFunc H wn rfl rfl ?_;clear H;intro a H;exact fin H iJ rfl
  ·refine Op2 6 9 7 10 rfl rfl fun _ a w G1 hG HT H fin=>?_;refine s_call en119dst H wn rfl (all_spec _ _ H.hp.ro (min l.length 256) (revE l) _ (by omega) ((hcb.mono hG).le (Nat.min_le_left _ _))) rfl ?_;clear H;rintro v11 G11 a w rfl hGm11 H;exact fin H hGm11 (rfl)
  ·exact opB rfl
  ·exact opB rfl
  exact opB rfl
 clear H;intro a w G hGm1 H hv;obtain ⟨u6,hu6,hp6⟩:=hv 3 6 (by decide) rfl;obtain rfl:u6=vi (whenE (decide (256 < (l.length:Int))) 9):=hp6;have H:=H.addS hu6;obtain ⟨u11,hu11,hp11⟩:=hv 8 11 (by decide) rfl;obtain rfl:u11=vi (allE (revE l) (min l.length 256)):=hp11;have H:=H.addS hu11;clear hv;refine s_buildSlice un221fst ty22fst [_,_] [_,_] H wn rfl rfl rfl rfl rfl (by intro i q h;match i,h with|0,h=>exact h|1,h=>exact h|n+2,h=>simp at h) rfl rfl ?_;clear H;intro b12 a w hb12 H;obtain ⟨G12,hm12,hb12',H⟩:=H.giveBox;refine s_call en52nam H wn rfl (first_spec1 _ _ H.hp.ro _ _ (two_rep hb12')) rfl ?_;clear H;rintro v13 _ a w ⟨rfl,rfl⟩ - H;refine kH H (Ra rfl ?_);clear H;intro a H;refine wl_nil ⟨rfl,?_⟩;refine K2 _ _ ?_;clear K2;refine c_ret ?_;refine lv H Tryz.results62 rfl ?_;exact H.hp.ret rfl
/-! ## No id twice -/
theorem firstE_zero:∀ {l:List Int},firstE l=0→∀ x∈l,x=0
 | [],_,_,h=>by cases h
 | e :: r,h,x,hx=>by
  unfold firstE at h
  by_cases he:e=0
  ·rw [if_neg (fun h'=>h' he)] at h
   rcases List.mem_cons.1 hx with rfl|hx
   ·exact he
   exact firstE_zero h x hx
  rw [if_pos he] at h;exact absurd h he
theorem allE_zero {E:Nat→Int} {n:Nat} (h:allE E n=0) (i:Nat) (hi:i < n):E i=0:=firstE_zero h _ (by simp;exact ⟨i,hi,rfl⟩)
theorem incE_zero {id:Nat→Int} {i:Nat} (h:incE id i=0):1≤id i∧id i≤1073741824∧(0 < i→id (i - 1) < id i):=by
 unfold incE at h
 by_cases h1:1≤id i∧id i≤1073741824
 ·rw [if_neg (fun h'=>h' h1)] at h
  by_cases h2:0 < i∧id i=id (i - 1)
  ·rw [if_pos h2] at h;cases h
  rw [if_neg h2] at h
  by_cases h3:0 < i∧id i < id (i - 1)
  ·rw [if_pos h3] at h;cases h
  exact ⟨h1.1,h1.2,fun h0=>by omega⟩
 rw [if_pos h1] at h;cases h
theorem inc_fresh {l:List Int} (h:∀ i (h:i+1 < l.length),l[i] < l[i+1]):Fresh l:=by
 have hlt:∀ (j i:Nat) (hj:j < l.length) (hi:i < j),l[i] < l[j]:=by
  intro j
  induction j with
  | zero=>intro i _ hi;omega
  | succ j ih =>
   intro i hj hi;have h1:=h j hj
   by_cases e:i=j
   ·subst e;exact h1
   have:=ih i (by omega) (by omega);omega
 intro k hk hm;obtain ⟨i,hi,he⟩:=List.getElem_of_mem hm;rw [List.length_take] at hi;have:=hlt k i hk (by omega);rw [List.getElem_take] at he
 omega
theorem rev_fresh {l:List RvD} (h:chkRvs l=0):Fresh (l.map RvD.id):=by
 have h1:=firstE_zero h _ (List.mem_cons_self);have h2:=firstE_zero h _ (List.mem_cons_of_mem _ List.mem_cons_self)
 have hl:l.length≤256:=by
  unfold whenE at h1
  by_cases hd:256 < (l.length:Int)
  ·rw [if_pos (decide_eq_true hd)] at h1;cases h1
  omega
 refine inc_fresh fun i hi=>?_;rw [List.length_map] at hi;have h3:=allE_zero h2 (i+1) (by omega)
 unfold revE at h3
 rw [List.getElem?_eq_getElem hi] at h3;have h4:=(incE_zero (firstE_zero h3 _ List.mem_cons_self)).2.2 (by omega);rw [Nat.add_sub_cancel,List.getElem?_eq_getElem hi,List.getElem?_eq_getElem (show i < l.length by omega)] at h4
 simpa using h4
theorem lis_fresh {l:List LiD} (h:chkLis l=0):Fresh (l.map LiD.id):=by
 have h1:=firstE_zero h _ (List.mem_cons_self);have h2:=firstE_zero h _ (List.mem_cons_of_mem _ List.mem_cons_self)
 have hl:l.length≤64:=by
  unfold whenE at h1
  by_cases hd:64 < (l.length:Int)
  ·rw [if_pos (decide_eq_true hd)] at h1;cases h1
  omega
 refine inc_fresh fun i hi=>?_;rw [List.length_map] at hi;have h3:=allE_zero h2 (i+1) (by omega)
 unfold lisE at h3
 have h4:=(incE_zero (firstE_zero h3 _ List.mem_cons_self)).2.2 (by omega);rw [Nat.add_sub_cancel,List.getElem?_eq_getElem hi,List.getElem?_eq_getElem (show i < l.length by omega)] at h4
 simpa using h4
theorem sty_fresh {l:List StyleD} (h:checkS l=0):Fresh (l.map StyleD.id):=by
 unfold checkS at h
 by_cases h1:128 < l.length
 ·rw [if_pos h1] at h;cases h
 rw [if_neg h1] at h
 by_cases h2:errF (ownAt l) 0 l.length≠0
 ·rw [if_pos h2] at h;exact absurd h h2
 intro k hk;rw [List.length_map] at hk;have:=own_nodup (Decidable.not_not.1 h2) k hk;rw [← List.map_take,List.getElem_map];exact this
end
section
open Go.RowKit
theorem en63chd:∀ args w,(callFunc 63 args).run Tryz.prog w=.ok (.enter 63 args) w:=enters Tryz.func63 rfl (by kernel_rfl)
theorem ty46chd:Ty Tryz.prog 46 4 96 [.slice none 0 0,.slice none 0 0,.slice none 0 0,.slice none 0 0] true:=⟨by kernel_rfl,by kernel_rfl⟩
theorem en17chd:∀ args w,(callFunc 17 args).run Tryz.prog w=.ok (.enter 17 args) w:=enters Tryz.func17 rfl (by kernel_rfl)
theorem en62chd:∀ args w,(callFunc 62 args).run Tryz.prog w=.ok (.enter 62 args) w:=enters Tryz.func62 rfl (by kernel_rfl)
theorem fd50_1chd:Fld Tryz.prog 50 1 1:=⟨by kernel_rfl⟩
theorem firstE_one (e:Int):firstE [e]=e:=by
 by_cases h:e=0 <;> simp [firstE,h]
/-- A document. -/
structure DocD where
 flow:List ItemD
 fin:HeadD
 revs:List RvD
 stg:StgD
structure DocR (G:GH) (D:DocV) (d:DocD):Prop where
 fl:RepV G (.sl 11 (d.flow.map ItemD.dat)) (sl3 D.f)
 hd:HeadR G d.fin (sl3 D.p) (sl3 D.d) (sl3 D.y)
 ins:D.ins=d.fin.marks.ins
 mv:D.move=d.fin.marks.move
 rv:RepV G (.sl 3 (d.revs.map RvD.dat)) (sl3 D.r)
 st:StgR G d.stg (sl3 D.s1) (sl3 D.s2) (sl3 D.s3) (sl3 D.s4)
theorem StgR.mono {G G':GH} (hm:∀ b o,G b=some o→G' b=some o) {s:StgD} {a b c d:Value} (h:StgR G s a b c d):StgR G' s a b c d:=⟨h.st.mono hm,h.li.mono hm,h.cm.mono hm,h.va.mono hm⟩
theorem DocR.mono {G G':GH} (hm:∀ b o,G b=some o→G' b=some o) {D:DocV} {d:DocD} (h:DocR G D d):DocR G' D d:=⟨h.fl.mono hm,h.hd.mono hm,h.ins,h.mv,h.rv.mono hm,h.st.mono hm⟩
/-- Bounds that no machine passes. -/
structure DocZ (d:DocD):Prop where
 fl:zItems d.flow≤4294967296
 hd:zHead d.fin≤4294967296
 rn:d.revs.length≤4294967296
 rt:∀ x∈d.revs,x.author.size < 4611686018427387904
 sn:d.stg.styles.length≤4294967296
 st:StgZ d.stg
abbrev DocD.ckp (d:DocD):CkP:=ckP d.stg.styles d.stg.lists d.revs
def mrkB (m:MarksD):Bool:=decide ((m.ins≠0∨m.move≠0)∨0 < (m.dels.length:Int))
/-- The first error of a document. -/
def chkDoc (d:DocD):Int:=firstE [firstE [chkStg d.stg,chkRvs d.revs],firstE [headE d.ckp 3 d.fin,whenE (mrkB d.fin.marks) 21],(itemsC d.ckp true false 0 d.flow ⟨0,[]⟩).1,whenE (decide (16384 < (itemsC d.ckp true false 0 d.flow ⟨0,[]⟩).2.n)) 9]
theorem check_doc (G:GH) (w0:World) (hG:Hold G w0) (D:DocV) (d:DocD) (hR:DocR G D d) (hz:DocZ d) :
  Calls Tryz.prog 20 #[D.val] w0 (Ret w0 G fun u G'=>u=vi (chkDoc d)):=by
 obtain ⟨df,dp,dd,dy,dr,d1,d2,d3,d4,ins,mv⟩:=D;obtain ⟨hfl,hhd,hin,hmv,hrv,hst⟩:=hR;dsimp only at hfl hhd hin hmv hrv hst;subst hin;subst hmv;obtain ⟨zf,zh,zr,zt,zs,zg⟩:=hz;have hdl:=hhd.dels.len;rw [List.length_map] at hdl
 have hdn:d.fin.marks.dels.length≤4294967296:=by
  have h1:=zHead_eq d.fin;have h2:=szRs_length (d.fin.marks.dels.map DelD.dat);rw [List.length_map] at h2;omega
 refine eN [(0,_)] Tryz.func20 rfl Tryz.ntmps20 rfl rfl hG ?_;intro a H;refine c_seqR (fun _ K1=>?_);refine s_box (cs:=[_,_,_,_,_,_,_,_,_,_,_]) H wn rfl rfl rfl ?_;clear H;intro b1 a w hb1 H;refine kH H (Ra rfl ?_);clear H;intro a H;refine K1 _ _ ?_;clear K1;refine c_seq (fun _ K2=>?_);refine c_seq (fun _ K3=>?_);refine c_drawI (hmx) [[],[0],[0,1],[],[3],[0,1,2,3,4],[0,1,2,3,4,5],(List.range 7),(List.range 8)] [6,7,8] (by kernel_rfl) (by kernel_rfl) (fun (ix_:Nat) (v:Value) (G:GH)=>match ix_ with|0=>v=.pointer (some ⟨b1,7,none⟩)|1=>v=.agg #[sl3 d1,sl3 d2,sl3 d3,sl3 d4]|2=>v=vi (chkStg d.stg)|3=>v=.pointer (some ⟨b1,6,none⟩)|4=>v=sl3 dr|5=>v=vi (chkRvs d.revs)|_=>True) (fun _ _ _ _ _ h=>h) H ?_ ?_
 ·clear H;refine al4 ?_ ?_ ?_ ?_ (al4 ?_ ?_ ?_ ?_ (allI_cons ?_ allI_nil))
  ·exact Op0 rfl fun _ _ _ _ _ _ H fin=>kH H (Rf fd50_3nck rfl fun _ H=>fin H iJ rfl)
  ·refine Op1 0 8 rfl rfl fun _ a w G1 hG HT H fin=>?_;refine s_loada ty46chd (cs:=[_,_,_,_]) H wn rfl rfl (H.hp.ocells 0 rfl rfl) rfl ?_;clear H;intro a H;exact fin H iJ rfl
  ·refine Op1 1 9 rfl rfl fun _ a w G1 hG HT H fin=>?_;refine s_call en17chd H wn rfl (checkSettings_spec _ _ H.hp.ro d.stg _ _ _ _ (hst.mono hG) zg) rfl ?_;clear H;rintro v10 G10 a w rfl hGm10 H;exact fin H hGm10 (rfl)
  ·exact Op0 rfl fun _ _ _ _ _ _ H fin=>kH H (Rf fd50_2nck rfl fun _ H=>fin H iJ rfl)
  ·exact Op1 3 11 rfl rfl fun _ _ _ _ _ _ H fin=>kH H (Ro ty48nck 0 rfl rfl fun _ H=>fin H iJ rfl)
  ·refine Op1 4 12 rfl rfl fun _ a w G1 hG HT H fin=>?_;refine s_call en62chd H wn rfl (checkRevs_spec _ _ H.hp.ro d.revs _ (hrv.mono hG) zr zt) rfl ?_;clear H;rintro v13 G13 a w rfl hGm13 H;exact fin H hGm13 (rfl)
  ·exact opB rfl
  ·exact opB rfl
  exact opB rfl
 clear H;intro a w G hGm1 H hv;obtain ⟨u10,hu10,hp10⟩:=hv 2 10 (by decide) rfl;obtain rfl:u10=vi (chkStg d.stg):=hp10;have H:=H.addS hu10;obtain ⟨u13,hu13,hp13⟩:=hv 5 13 (by decide) rfl;obtain rfl:u13=vi (chkRvs d.revs):=hp13;have H:=H.addS hu13;clear hv;refine s_buildSlice un221fst ty22fst [_,_] [_,_] H wn rfl rfl rfl rfl rfl (by intro i q h;match i,h with|0,h=>exact h|1,h=>exact h|n+2,h=>simp at h) rfl rfl ?_;clear H;intro b14 a w hb14 H;obtain ⟨G14,hm14,hb14',H⟩:=H.giveBox;have hg1:=fun b o h=>hm14 b o (hGm1 b o h);replace hfl:=hfl.mono hg1;replace hhd:=hhd.mono hg1;replace hrv:=hrv.mono hg1;replace hst:=hst.mono hg1;refine s_call en52nam H wn rfl (first_spec1 _ _ H.hp.ro _ _ (two_rep hb14')) rfl ?_;clear H;rintro v15 _ a w ⟨rfl,rfl⟩ - H;refine kH H (Ra rfl ?_);clear H;intro a H;refine wl_nil ⟨rfl,?_⟩;refine K3 _ _ ?_;clear K3;refine c_seqR (fun _ K4=>?_);refine kH H (Rm rfl (Rc rfl ?_));clear H;intro a H;refine K4 _ _ ?_;clear K4;refine c_cond H rfl ?_ ?_
 ·intro h17
  try have p17:=of_decide_eq_true h17
  have hE:chkDoc d=firstE [chkStg d.stg,chkRvs d.revs]:=by rw [chkDoc,firstE,if_pos p17]
  refine c_seqR (fun _ K5=>?_);refine kH H (Rm rfl (Ra rfl ?_));clear H;intro a H;refine K5 _ _ ?_;clear K5;refine c_ret ?_;refine lv H Tryz.results20 rfl ?_;exact H.hp.ret (by rw [hE])
 intro h17
 try have p17:=of_decide_eq_false h17
 have e1:=Decidable.not_not.1 p17;have s1:=firstE_zero e1 _ List.mem_cons_self;have s2:=firstE_zero e1 _ (List.mem_cons_of_mem _ List.mem_cons_self);have t1:=firstE_zero s1 _ List.mem_cons_self;have t2:=firstE_zero s1 _ (List.mem_cons_of_mem _ List.mem_cons_self);refine c_skip ?_;refine K2 _ _ ?_;clear K2;refine c_seqR (fun _ K6=>?_);refine s_loada ty50dq (cs:=[_,_,_,_,_,_,_,_,_,_,_]) H wn rfl rfl (H.hp.ocells 0 rfl rfl) rfl ?_;clear H;intro a H;refine s_callL en63chd (Li:=[_]) (L:=[]) H wn rfl (newChecker_spec _ _ (Hp.owns (Li:=[_]) H.hp) ⟨df,dp,dd,dy,dr,d1,d2,d3,d4,d.fin.marks.ins,d.fin.marks.move⟩ d.stg.styles d.stg.lists d.revs hst.st hst.li hrv (sty_fresh t1) (lis_fresh t2) (rev_fresh s2) zs zg.ln zr) rfl ?_;clear H;rintro v20 G20 _ a w ⟨b,ms,ml,mr,mb,mu,rfl,rfl,hck⟩ hm20 H;dsimp only [List.cons_append,List.nil_append] at H;replace hfl:=hfl.mono hm20;replace hhd:=hhd.mono hm20;refine kH H (Ra rfl ?_);clear H;intro a H;refine K6 _ _ ?_;clear K6;refine c_seqR (fun _ K7=>?_);refine kH H (Rf fd50_1chd rfl (Rf fd31_1run rfl ?_));clear H;intro a H;refine s_loada ty29hea (cs:=[_,_,_,_]) H wn rfl rfl (H.hp.ocells 0 rfl rfl) rfl ?_;clear H;intro a H;refine s_alloc ty29hea H wn rfl ?_;clear H;intro b5 a w hb5 H;refine s_store ty29hea 0 (vs:=[_,_,_,_]) _ H wn rfl rfl rfl rfl rfl rfl rfl rfl ?_;clear H;intro w H;dsimp only [List.set,setRow] at H;refine K7 _ _ ?_;clear K7;refine c_seq (fun _ K8=>?_);refine c_seq (fun _ K9=>?_)
 by_cases c0:d.fin.marks.ins≠0
 ·skip;have c1:d.fin.marks.ins≠0∨d.fin.marks.move≠0:=Or.inl c0;refine c_drawI (hmx) [[],[],[1],[0,1,2],[],[4],[4,5],(List.range 7),(List.range 8),(List.range 9),(List.range 10),(List.range 11),(List.range 12),(List.range 13),(List.range 14),(List.range 15),(List.range 16),(List.range 17),(List.range 18),(List.range 19),(List.range 20),(List.range 21)] [19,20,21] (by kernel_rfl) (by kernel_rfl) (fun (ix_:Nat) (v:Value) (G:GH)=>match ix_ with|0=>v=.pointer (some ⟨b,0,none⟩)|1=>v=.pointer (some ⟨b1,1,none⟩)|2=>v=hdV d.fin (sl3 dp) (sl3 dd) (sl3 dy)|3=>v=vi (headE d.ckp 3 d.fin)|4=>v=.pointer (some ⟨b5,0,none⟩)|5=>v=vi d.fin.marks.ins|6=>v=.bool (decide (d.fin.marks.ins≠0))|7=>v=.bool (decide (d.fin.marks.ins≠0))|8=>v=undef|9=>v=undef|10=>v=undef|11=>v=.bool (decide (d.fin.marks.ins≠0∨d.fin.marks.move≠0))|12=>v=.bool (decide (d.fin.marks.ins≠0∨d.fin.marks.move≠0))|13=>v=undef|14=>v=undef|15=>v=undef|16=>v=undef|17=>v=.bool (mrkB d.fin.marks)|18=>v=vi (whenE (mrkB d.fin.marks) 21)|_=>True) (fun _ _ _ _ _ h=>h) H ?_ ?_
  ·clear H;refine al4 ?_ ?_ ?_ ?_ (al4 ?_ ?_ ?_ ?_ (al4 ?_ ?_ ?_ ?_ (al4 ?_ ?_ ?_ ?_ (al4 ?_ ?_ ?_ ?_ (allI_cons ?_ (allI_cons ?_ allI_nil))))))
   ·exact Op0 rfl fun _ _ _ _ _ _ H fin=>kH H (Rm rfl fun _ H=>fin H iJ rfl)
   ·exact Op0 rfl fun _ _ _ _ _ _ H fin=>kH H (Rf fd50_1chd rfl fun _ H=>fin H iJ rfl)
   ·refine Op1 1 25 rfl rfl fun _ a w G1 hG HT H fin=>?_;refine s_loada ty31run (cs:=[_,_,_,_,_]) H wn rfl rfl (H.hp.ocells 1 rfl rfl) rfl ?_;clear H;intro a H;exact fin H iJ rfl
   ·refine Op2 0 24 2 26 rfl rfl fun _ a w G1 hG HT H fin=>?_;refine s_callL en64rws (Li:=[_,_]) (L:=ckB b ms ml mr mb mu 0 :: (mb,mpK []) :: []) H wn rfl (headL_spec _ _ _ d.stg.styles d.stg.lists d.revs b ms ml mr mb mu _ (hck.mono hG) (Hp.owns (Li:=[_,_]) H.hp) 3 d.fin _ _ _ (hhd.mono hG) zh) rfl ?_;clear H;rintro v27 _ _ a w ⟨rfl,rfl,rfl⟩ hGm27 H;dsimp only [List.cons_append,List.nil_append] at H;exact fin H hGm27 (rfl)
   ·exact Op0 rfl fun _ _ _ _ _ _ H fin=>kH H (Rf fd29_0ehd rfl fun _ H=>fin H iJ rfl)
   ·exact Op1 4 28 rfl rfl fun _ _ _ _ _ _ H fin=>kH H (Ro ty3run 0 rfl rfl fun _ H=>fin H iJ rfl)
   ·exact Op1 5 29 rfl rfl fun _ _ _ _ _ _ H fin=>kH H (Rc rfl fun _ H=>fin H iJ rfl)
   ·exact Op1 6 30 rfl rfl fun _ _ _ _ _ _ H fin=>kH H (Rm rfl fun _ H=>fin H iJ rfl)
   ·exact skI 7 (decide_eq_true c0) rfl rfl
   ·exact skI 7 (decide_eq_true c0) rfl rfl
   ·exact skI 7 (decide_eq_true c0) rfl rfl
   ·refine Op2 7 31 10 34 rfl rfl fun _ a w G1 hG HT H fin=>?_;refine s_pick_t H wn rfl (decide_eq_true c0) rfl rfl ?_;clear H;intro a H;exact fin H iJ (by first|exact congrArg Value.bool (decide_eq_true c1).symm|exact congrArg Value.bool (by simp [c0]))
   ·exact Op1 11 35 rfl rfl fun _ _ _ _ _ _ H fin=>kH H (Rm rfl fun _ H=>fin H iJ rfl)
   ·exact skI 12 (decide_eq_true c1) rfl rfl
   ·exact skI 12 (decide_eq_true c1) rfl rfl
   ·exact skI 12 (decide_eq_true c1) rfl rfl
   ·exact skI 12 (decide_eq_true c1) rfl rfl
   ·refine Op2 12 36 16 40 rfl rfl fun _ a w G1 hG HT H fin=>?_;refine s_pick_t H wn rfl (decide_eq_true c1) rfl rfl ?_;clear H;intro a H;exact fin H iJ (by first|exact congrArg Value.bool (decide_eq_true (Or.inl c1)).symm|exact congrArg Value.bool (by simp [mrkB,c1]))
   ·refine Op1 17 41 rfl rfl fun _ a w G1 hG HT H fin=>?_;refine s_call en65nam H wn rfl (when_spec _ _ H.hp.ro _ 21) rfl ?_;clear H;rintro v42 G42 a w ⟨rfl,-⟩ hGm42 H;exact fin H hGm42 (rfl)
   ·exact opB rfl
   ·exact opB rfl
   exact opB rfl
  clear H;intro a w G hGm6 H hv;obtain ⟨u27,hu27,hp27⟩:=hv 3 27 (by decide) rfl;obtain rfl:u27=vi (headE d.ckp 3 d.fin):=hp27;have H:=H.addS hu27;obtain ⟨u42,hu42,hp42⟩:=hv 18 42 (by decide) rfl;obtain rfl:u42=vi (whenE (mrkB d.fin.marks) 21):=hp42;have H:=H.addS hu42;clear hv;refine s_buildSlice un221fst ty22fst [_,_] [_,_] H wn rfl rfl rfl rfl rfl (by intro i q h;match i,h with|0,h=>exact h|1,h=>exact h|n+2,h=>simp at h) rfl rfl ?_;clear H;intro b43 a w hb43 H;obtain ⟨G43,hm43,hb43',H⟩:=H.giveBox;have hg6:=fun b o h=>hm43 b o (hGm6 b o h);replace hfl:=hfl.mono hg6;replace hck:=hck.mono hg6;refine s_call en52nam H wn rfl (first_spec1 _ _ H.hp.ro _ _ (two_rep hb43')) rfl ?_;clear H;rintro v44 _ a w ⟨rfl,rfl⟩ - H;refine kH H (Ra rfl ?_);clear H;intro a H;refine wl_nil ⟨rfl,?_⟩;refine K9 _ _ ?_;clear K9;refine c_seqR (fun _ K10=>?_);refine kH H (Rm rfl (Rc rfl ?_));clear H;intro a H;refine K10 _ _ ?_;clear K10;refine c_cond H rfl ?_ ?_
  ·intro h46
   try have p46:=of_decide_eq_true h46
   have hE:chkDoc d=firstE [headE d.ckp 3 d.fin,whenE (mrkB d.fin.marks) 21]:=by rw [chkDoc,firstE,if_neg (by simpa using e1),firstE,if_pos p46]
   refine c_seqR (fun _ K11=>?_);refine kH H (Rm rfl (Ra rfl ?_));clear H;intro a H;refine K11 _ _ ?_;clear K11;refine c_ret ?_;refine lv H Tryz.results20 rfl ?_;exact H.hp.ret (by rw [hE])
  intro h46
  try have p46:=of_decide_eq_false h46
  have e2:=Decidable.not_not.1 p46;refine c_skip ?_;refine K8 _ _ ?_;clear K8;refine c_seq (fun _ K12=>?_);refine c_seqR (fun _ K13=>?_);refine kH H (Rm rfl (Rf fd50_0doc rfl (Ro ty32run 1 rfl rfl ?_)));clear H;intro a H;refine s_build sr136doc [_,_,_] H wn rfl rfl rfl rfl ?_;clear H;intro a H;refine s_callL en66rws (Li:=[_,_]) (L:=ckB b ms ml mr mb mu 0 :: (mb,mpK []) :: []) H wn rfl (items_ok 4294967297 (by omega) _ _ _ d.stg.styles d.stg.lists d.revs b ms ml mr mb mu ⟨0,[]⟩ d.flow _ true false 0 hck (Hp.owns (Li:=[_,_]) H.hp) hfl (by omega) (by omega) (by omega) (by decide) (by dsimp only;omega)) rfl ?_;clear H;rintro v52 _ _ a w ⟨rfl,s3,rfl,rfl,h3⟩ - H;dsimp only [List.cons_append,List.nil_append] at H;refine kH H (Ra rfl ?_);clear H;intro a H;refine K13 _ _ ?_;clear K13;refine c_seqR (fun _ K14=>?_);refine kH H (Rm rfl (Rc rfl ?_));clear H;intro a H;refine K14 _ _ ?_;clear K14;refine c_cond H rfl ?_ ?_
  ·intro h54
   try have p54:=of_decide_eq_true h54
   have hE:chkDoc d=(itemsC d.ckp true false 0 d.flow ⟨0,[]⟩).1:=by rw [chkDoc,firstE,if_neg (by simpa using e1),firstE,if_neg (by simpa using e2),firstE,if_pos p54]
   refine c_seqR (fun _ K15=>?_);refine kH H (Rm rfl (Ra rfl ?_));clear H;intro a H;refine K15 _ _ ?_;clear K15;refine c_ret ?_;refine lv H Tryz.results20 rfl ?_;exact H.hp.ret (by rw [hE])
  intro h54
  try have p54:=of_decide_eq_false h54
  have e3:=Decidable.not_not.1 p54;have hs3:=h3 e3;subst hs3;refine c_skip ?_;refine K12 _ _ ?_;clear K12;refine c_seqR (fun _ K16=>?_);refine kH H (Rm rfl (Rk rfl (Rf fd140_5itm rfl (Ro ty3run 2 rfl rfl (Rc rfl ?_)))));clear H;intro a H;refine s_call en65nam H wn rfl (when_spec _ _ H.hp.ro _ 9) rfl ?_;clear H;rintro v61 _ a w ⟨rfl,rfl⟩ - H
  have hE:chkDoc d=whenE (decide (16384 < (itemsC d.ckp true false 0 d.flow ⟨0,[]⟩).2.n)) 9:=by rw [chkDoc,firstE,if_neg (by simpa using e1),firstE,if_neg (by simpa using e2),firstE,if_neg (by simpa using e3)];exact firstE_one _
  refine kH H (Ra rfl ?_);clear H;intro a H;refine K16 _ _ ?_;clear K16;refine c_ret ?_;refine lv H Tryz.results20 rfl ?_;exact H.hp.ret (by rw [hE])
 skip
 by_cases c1:d.fin.marks.ins≠0∨d.fin.marks.move≠0
 ·skip;refine c_drawI (hmx) [[],[],[1],[0,1,2],[],[4],[4,5],(List.range 7),(List.range 8),(List.range 9),(List.range 10),(List.range 11),(List.range 12),(List.range 13),(List.range 14),(List.range 15),(List.range 16),(List.range 17),(List.range 18),(List.range 19),(List.range 20),(List.range 21)] [19,20,21] (by kernel_rfl) (by kernel_rfl) (fun (ix_:Nat) (v:Value) (G:GH)=>match ix_ with|0=>v=.pointer (some ⟨b,0,none⟩)|1=>v=.pointer (some ⟨b1,1,none⟩)|2=>v=hdV d.fin (sl3 dp) (sl3 dd) (sl3 dy)|3=>v=vi (headE d.ckp 3 d.fin)|4=>v=.pointer (some ⟨b5,0,none⟩)|5=>v=vi d.fin.marks.ins|6=>v=.bool (decide (d.fin.marks.ins≠0))|7=>v=.bool (decide (d.fin.marks.ins≠0))|8=>v=.pointer (some ⟨b5,1,none⟩)|9=>v=vi d.fin.marks.move|10=>v=.bool (decide (d.fin.marks.move≠0))|11=>v=.bool (decide (d.fin.marks.ins≠0∨d.fin.marks.move≠0))|12=>v=.bool (decide (d.fin.marks.ins≠0∨d.fin.marks.move≠0))|13=>v=undef|14=>v=undef|15=>v=undef|16=>v=undef|17=>v=.bool (mrkB d.fin.marks)|18=>v=vi (whenE (mrkB d.fin.marks) 21)|_=>True) (fun _ _ _ _ _ h=>h) H ?_ ?_
  ·clear H;refine al4 ?_ ?_ ?_ ?_ (al4 ?_ ?_ ?_ ?_ (al4 ?_ ?_ ?_ ?_ (al4 ?_ ?_ ?_ ?_ (al4 ?_ ?_ ?_ ?_ (allI_cons ?_ (allI_cons ?_ allI_nil))))))
   ·exact Op0 rfl fun _ _ _ _ _ _ H fin=>kH H (Rm rfl fun _ H=>fin H iJ rfl)
   ·exact Op0 rfl fun _ _ _ _ _ _ H fin=>kH H (Rf fd50_1chd rfl fun _ H=>fin H iJ rfl)
   ·refine Op1 1 25 rfl rfl fun _ a w G1 hG HT H fin=>?_;refine s_loada ty31run (cs:=[_,_,_,_,_]) H wn rfl rfl (H.hp.ocells 1 rfl rfl) rfl ?_;clear H;intro a H;exact fin H iJ rfl
   ·refine Op2 0 24 2 26 rfl rfl fun _ a w G1 hG HT H fin=>?_;refine s_callL en64rws (Li:=[_,_]) (L:=ckB b ms ml mr mb mu 0 :: (mb,mpK []) :: []) H wn rfl (headL_spec _ _ _ d.stg.styles d.stg.lists d.revs b ms ml mr mb mu _ (hck.mono hG) (Hp.owns (Li:=[_,_]) H.hp) 3 d.fin _ _ _ (hhd.mono hG) zh) rfl ?_;clear H;rintro v27 _ _ a w ⟨rfl,rfl,rfl⟩ hGm27 H;dsimp only [List.cons_append,List.nil_append] at H;exact fin H hGm27 (rfl)
   ·exact Op0 rfl fun _ _ _ _ _ _ H fin=>kH H (Rf fd29_0ehd rfl fun _ H=>fin H iJ rfl)
   ·exact Op1 4 28 rfl rfl fun _ _ _ _ _ _ H fin=>kH H (Ro ty3run 0 rfl rfl fun _ H=>fin H iJ rfl)
   ·exact Op1 5 29 rfl rfl fun _ _ _ _ _ _ H fin=>kH H (Rc rfl fun _ H=>fin H iJ rfl)
   ·exact Op1 6 30 rfl rfl fun _ _ _ _ _ _ H fin=>kH H (Rm rfl fun _ H=>fin H iJ rfl)
   ·refine Op1 7 31 rfl rfl fun _ a w G1 hG HT H fin=>?_;refine s_field fd29_1ehd H (wg H rfl rfl (decide_eq_false c0)) rfl rfl ?_;clear H;intro a H;exact fin H iJ rfl
   ·refine Op2 8 32 7 31 rfl rfl fun _ a w G1 hG HT H fin=>?_;refine s_load ty3run H (wg H rfl rfl (decide_eq_false c0)) rfl (H.hp.ocell 0 rfl rfl) rfl ?_;clear H;intro a H;exact fin H iJ rfl
   ·refine Op2 9 33 7 31 rfl rfl fun _ a w G1 hG HT H fin=>?_;refine s_cmp H (wg H rfl rfl (decide_eq_false c0)) rfl rfl rfl rfl ?_;clear H;intro a H;exact fin H iJ rfl
   ·refine Op2 7 31 10 34 rfl rfl fun _ a w G1 hG HT H fin=>?_;refine s_pick_f H wn rfl (decide_eq_false c0) rfl rfl ?_;clear H;intro a H;exact fin H iJ (by first|exact congrArg Value.bool (decide_eq_true c1).symm|exact congrArg Value.bool (by simp [c0]))
   ·exact Op1 11 35 rfl rfl fun _ _ _ _ _ _ H fin=>kH H (Rm rfl fun _ H=>fin H iJ rfl)
   ·exact skI 12 (decide_eq_true c1) rfl rfl
   ·exact skI 12 (decide_eq_true c1) rfl rfl
   ·exact skI 12 (decide_eq_true c1) rfl rfl
   ·exact skI 12 (decide_eq_true c1) rfl rfl
   ·refine Op2 12 36 16 40 rfl rfl fun _ a w G1 hG HT H fin=>?_;refine s_pick_t H wn rfl (decide_eq_true c1) rfl rfl ?_;clear H;intro a H;exact fin H iJ (by first|exact congrArg Value.bool (decide_eq_true (Or.inl c1)).symm|exact congrArg Value.bool (by simp [mrkB,c1]))
   ·refine Op1 17 41 rfl rfl fun _ a w G1 hG HT H fin=>?_;refine s_call en65nam H wn rfl (when_spec _ _ H.hp.ro _ 21) rfl ?_;clear H;rintro v42 G42 a w ⟨rfl,-⟩ hGm42 H;exact fin H hGm42 (rfl)
   ·exact opB rfl
   ·exact opB rfl
   exact opB rfl
  clear H;intro a w G hGm6 H hv;obtain ⟨u27,hu27,hp27⟩:=hv 3 27 (by decide) rfl;obtain rfl:u27=vi (headE d.ckp 3 d.fin):=hp27;have H:=H.addS hu27;obtain ⟨u42,hu42,hp42⟩:=hv 18 42 (by decide) rfl;obtain rfl:u42=vi (whenE (mrkB d.fin.marks) 21):=hp42;have H:=H.addS hu42;clear hv;refine s_buildSlice un221fst ty22fst [_,_] [_,_] H wn rfl rfl rfl rfl rfl (by intro i q h;match i,h with|0,h=>exact h|1,h=>exact h|n+2,h=>simp at h) rfl rfl ?_;clear H;intro b43 a w hb43 H;obtain ⟨G43,hm43,hb43',H⟩:=H.giveBox;have hg6:=fun b o h=>hm43 b o (hGm6 b o h);replace hfl:=hfl.mono hg6;replace hck:=hck.mono hg6;refine s_call en52nam H wn rfl (first_spec1 _ _ H.hp.ro _ _ (two_rep hb43')) rfl ?_;clear H;rintro v44 _ a w ⟨rfl,rfl⟩ - H;refine kH H (Ra rfl ?_);clear H;intro a H;refine wl_nil ⟨rfl,?_⟩;refine K9 _ _ ?_;clear K9;refine c_seqR (fun _ K17=>?_);refine kH H (Rm rfl (Rc rfl ?_));clear H;intro a H;refine K17 _ _ ?_;clear K17;refine c_cond H rfl ?_ ?_
  ·intro h46
   try have p46:=of_decide_eq_true h46
   have hE:chkDoc d=firstE [headE d.ckp 3 d.fin,whenE (mrkB d.fin.marks) 21]:=by rw [chkDoc,firstE,if_neg (by simpa using e1),firstE,if_pos p46]
   refine c_seqR (fun _ K18=>?_);refine kH H (Rm rfl (Ra rfl ?_));clear H;intro a H;refine K18 _ _ ?_;clear K18;refine c_ret ?_;refine lv H Tryz.results20 rfl ?_;exact H.hp.ret (by rw [hE])
  intro h46
  try have p46:=of_decide_eq_false h46
  have e2:=Decidable.not_not.1 p46;refine c_skip ?_;refine K8 _ _ ?_;clear K8;refine c_seq (fun _ K19=>?_);refine c_seqR (fun _ K20=>?_);refine kH H (Rm rfl (Rf fd50_0doc rfl (Ro ty32run 1 rfl rfl ?_)));clear H;intro a H;refine s_build sr136doc [_,_,_] H wn rfl rfl rfl rfl ?_;clear H;intro a H;refine s_callL en66rws (Li:=[_,_]) (L:=ckB b ms ml mr mb mu 0 :: (mb,mpK []) :: []) H wn rfl (items_ok 4294967297 (by omega) _ _ _ d.stg.styles d.stg.lists d.revs b ms ml mr mb mu ⟨0,[]⟩ d.flow _ true false 0 hck (Hp.owns (Li:=[_,_]) H.hp) hfl (by omega) (by omega) (by omega) (by decide) (by dsimp only;omega)) rfl ?_;clear H;rintro v52 _ _ a w ⟨rfl,s3,rfl,rfl,h3⟩ - H;dsimp only [List.cons_append,List.nil_append] at H;refine kH H (Ra rfl ?_);clear H;intro a H;refine K20 _ _ ?_;clear K20;refine c_seqR (fun _ K21=>?_);refine kH H (Rm rfl (Rc rfl ?_));clear H;intro a H;refine K21 _ _ ?_;clear K21;refine c_cond H rfl ?_ ?_
  ·intro h54
   try have p54:=of_decide_eq_true h54
   have hE:chkDoc d=(itemsC d.ckp true false 0 d.flow ⟨0,[]⟩).1:=by rw [chkDoc,firstE,if_neg (by simpa using e1),firstE,if_neg (by simpa using e2),firstE,if_pos p54]
   refine c_seqR (fun _ K22=>?_);refine kH H (Rm rfl (Ra rfl ?_));clear H;intro a H;refine K22 _ _ ?_;clear K22;refine c_ret ?_;refine lv H Tryz.results20 rfl ?_;exact H.hp.ret (by rw [hE])
  intro h54
  try have p54:=of_decide_eq_false h54
  have e3:=Decidable.not_not.1 p54;have hs3:=h3 e3;subst hs3;refine c_skip ?_;refine K19 _ _ ?_;clear K19;refine c_seqR (fun _ K23=>?_);refine kH H (Rm rfl (Rk rfl (Rf fd140_5itm rfl (Ro ty3run 2 rfl rfl (Rc rfl ?_)))));clear H;intro a H;refine s_call en65nam H wn rfl (when_spec _ _ H.hp.ro _ 9) rfl ?_;clear H;rintro v61 _ a w ⟨rfl,rfl⟩ - H
  have hE:chkDoc d=whenE (decide (16384 < (itemsC d.ckp true false 0 d.flow ⟨0,[]⟩).2.n)) 9:=by rw [chkDoc,firstE,if_neg (by simpa using e1),firstE,if_neg (by simpa using e2),firstE,if_neg (by simpa using e3)];exact firstE_one _
  refine kH H (Ra rfl ?_);clear H;intro a H;refine K23 _ _ ?_;clear K23;refine c_ret ?_;refine lv H Tryz.results20 rfl ?_;exact H.hp.ret (by rw [hE])
 skip;refine c_drawI (hmx) [[],[],[1],[0,1,2],[],[4],[4,5],(List.range 7),(List.range 8),(List.range 9),(List.range 10),(List.range 11),(List.range 12),(List.range 13),(List.range 14),(List.range 15),(List.range 16),(List.range 17),(List.range 18),(List.range 19),(List.range 20),(List.range 21)] [19,20,21] (by kernel_rfl) (by kernel_rfl) (fun (ix_:Nat) (v:Value) (G:GH)=>match ix_ with|0=>v=.pointer (some ⟨b,0,none⟩)|1=>v=.pointer (some ⟨b1,1,none⟩)|2=>v=hdV d.fin (sl3 dp) (sl3 dd) (sl3 dy)|3=>v=vi (headE d.ckp 3 d.fin)|4=>v=.pointer (some ⟨b5,0,none⟩)|5=>v=vi d.fin.marks.ins|6=>v=.bool (decide (d.fin.marks.ins≠0))|7=>v=.bool (decide (d.fin.marks.ins≠0))|8=>v=.pointer (some ⟨b5,1,none⟩)|9=>v=vi d.fin.marks.move|10=>v=.bool (decide (d.fin.marks.move≠0))|11=>v=.bool (decide (d.fin.marks.ins≠0∨d.fin.marks.move≠0))|12=>v=.bool (decide (d.fin.marks.ins≠0∨d.fin.marks.move≠0))|13=>v=.pointer (some ⟨b5,2,none⟩)|14=>v=sl3 dd|15=>v=vi d.fin.marks.dels.length|16=>v=.bool (decide (0 < (d.fin.marks.dels.length:Int)))|17=>v=.bool (mrkB d.fin.marks)|18=>v=vi (whenE (mrkB d.fin.marks) 21)|_=>True) (fun _ _ _ _ _ h=>h) H ?_ ?_
 ·clear H;refine al4 ?_ ?_ ?_ ?_ (al4 ?_ ?_ ?_ ?_ (al4 ?_ ?_ ?_ ?_ (al4 ?_ ?_ ?_ ?_ (al4 ?_ ?_ ?_ ?_ (allI_cons ?_ (allI_cons ?_ allI_nil))))))
  ·exact Op0 rfl fun _ _ _ _ _ _ H fin=>kH H (Rm rfl fun _ H=>fin H iJ rfl)
  ·exact Op0 rfl fun _ _ _ _ _ _ H fin=>kH H (Rf fd50_1chd rfl fun _ H=>fin H iJ rfl)
  ·refine Op1 1 25 rfl rfl fun _ a w G1 hG HT H fin=>?_;refine s_loada ty31run (cs:=[_,_,_,_,_]) H wn rfl rfl (H.hp.ocells 1 rfl rfl) rfl ?_;clear H;intro a H;exact fin H iJ rfl
  ·refine Op2 0 24 2 26 rfl rfl fun _ a w G1 hG HT H fin=>?_;refine s_callL en64rws (Li:=[_,_]) (L:=ckB b ms ml mr mb mu 0 :: (mb,mpK []) :: []) H wn rfl (headL_spec _ _ _ d.stg.styles d.stg.lists d.revs b ms ml mr mb mu _ (hck.mono hG) (Hp.owns (Li:=[_,_]) H.hp) 3 d.fin _ _ _ (hhd.mono hG) zh) rfl ?_;clear H;rintro v27 _ _ a w ⟨rfl,rfl,rfl⟩ hGm27 H;dsimp only [List.cons_append,List.nil_append] at H;exact fin H hGm27 (rfl)
  ·exact Op0 rfl fun _ _ _ _ _ _ H fin=>kH H (Rf fd29_0ehd rfl fun _ H=>fin H iJ rfl)
  ·exact Op1 4 28 rfl rfl fun _ _ _ _ _ _ H fin=>kH H (Ro ty3run 0 rfl rfl fun _ H=>fin H iJ rfl)
  ·exact Op1 5 29 rfl rfl fun _ _ _ _ _ _ H fin=>kH H (Rc rfl fun _ H=>fin H iJ rfl)
  ·exact Op1 6 30 rfl rfl fun _ _ _ _ _ _ H fin=>kH H (Rm rfl fun _ H=>fin H iJ rfl)
  ·refine Op1 7 31 rfl rfl fun _ a w G1 hG HT H fin=>?_;refine s_field fd29_1ehd H (wg H rfl rfl (decide_eq_false c0)) rfl rfl ?_;clear H;intro a H;exact fin H iJ rfl
  ·refine Op2 8 32 7 31 rfl rfl fun _ a w G1 hG HT H fin=>?_;refine s_load ty3run H (wg H rfl rfl (decide_eq_false c0)) rfl (H.hp.ocell 0 rfl rfl) rfl ?_;clear H;intro a H;exact fin H iJ rfl
  ·refine Op2 9 33 7 31 rfl rfl fun _ a w G1 hG HT H fin=>?_;refine s_cmp H (wg H rfl rfl (decide_eq_false c0)) rfl rfl rfl rfl ?_;clear H;intro a H;exact fin H iJ rfl
  ·refine Op2 7 31 10 34 rfl rfl fun _ a w G1 hG HT H fin=>?_;refine s_pick_f H wn rfl (decide_eq_false c0) rfl rfl ?_;clear H;intro a H;exact fin H iJ (by first|exact congrArg Value.bool (decide_eq_true c1).symm|exact congrArg Value.bool (by simp [c0]))
  ·exact Op1 11 35 rfl rfl fun _ _ _ _ _ _ H fin=>kH H (Rm rfl fun _ H=>fin H iJ rfl)
  ·refine Op1 12 36 rfl rfl fun _ a w G1 hG HT H fin=>?_;refine s_field fd29_2run H (wg H rfl rfl (decide_eq_false c1)) rfl rfl ?_;clear H;intro a H;exact fin H iJ rfl
  ·refine Op2 13 37 12 36 rfl rfl fun _ a w G1 hG HT H fin=>?_;refine s_load ty26run H (wg H rfl rfl (decide_eq_false c1)) rfl (H.hp.ocell 0 rfl rfl) rfl ?_;clear H;intro a H;exact fin H iJ rfl
  ·refine Op2 14 38 12 36 rfl rfl fun _ a w G1 hG HT H fin=>?_;refine s_len un26run H (wg H rfl rfl (decide_eq_false c1)) rfl rfl ?_;clear H;intro a H;exact fin H iJ (by first|rfl|exact congrArg (fun n:Nat=>vi n) hdl)
  ·refine Op2 15 39 12 36 rfl rfl fun _ a w G1 hG HT H fin=>?_;refine s_cmp H (wg H rfl rfl (decide_eq_false c1)) rfl rfl rfl rfl ?_;clear H;intro a H;exact fin H iJ rfl
  ·refine Op2 12 36 16 40 rfl rfl fun _ a w G1 hG HT H fin=>?_;refine s_pick_f H wn rfl (decide_eq_false c1) rfl rfl ?_;clear H;intro a H;exact fin H iJ (by first|exact congrArg Value.bool (decide_eq_true (Or.inl c1)).symm|exact congrArg Value.bool (by simp [mrkB,c1]))
  ·refine Op1 17 41 rfl rfl fun _ a w G1 hG HT H fin=>?_;refine s_call en65nam H wn rfl (when_spec _ _ H.hp.ro _ 21) rfl ?_;clear H;rintro v42 G42 a w ⟨rfl,-⟩ hGm42 H;exact fin H hGm42 (rfl)
  ·exact opB rfl
  ·exact opB rfl
  exact opB rfl
 clear H;intro a w G hGm6 H hv;obtain ⟨u27,hu27,hp27⟩:=hv 3 27 (by decide) rfl;obtain rfl:u27=vi (headE d.ckp 3 d.fin):=hp27;have H:=H.addS hu27;obtain ⟨u42,hu42,hp42⟩:=hv 18 42 (by decide) rfl;obtain rfl:u42=vi (whenE (mrkB d.fin.marks) 21):=hp42;have H:=H.addS hu42;clear hv;refine s_buildSlice un221fst ty22fst [_,_] [_,_] H wn rfl rfl rfl rfl rfl (by intro i q h;match i,h with|0,h=>exact h|1,h=>exact h|n+2,h=>simp at h) rfl rfl ?_;clear H;intro b43 a w hb43 H;obtain ⟨G43,hm43,hb43',H⟩:=H.giveBox;have hg6:=fun b o h=>hm43 b o (hGm6 b o h);replace hfl:=hfl.mono hg6;replace hck:=hck.mono hg6;refine s_call en52nam H wn rfl (first_spec1 _ _ H.hp.ro _ _ (two_rep hb43')) rfl ?_;clear H;rintro v44 _ a w ⟨rfl,rfl⟩ - H;refine kH H (Ra rfl ?_);clear H;intro a H;refine wl_nil ⟨rfl,?_⟩;refine K9 _ _ ?_;clear K9;refine c_seqR (fun _ K24=>?_);refine kH H (Rm rfl (Rc rfl ?_));clear H;intro a H;refine K24 _ _ ?_;clear K24;refine c_cond H rfl ?_ ?_
 ·intro h46
  try have p46:=of_decide_eq_true h46
  have hE:chkDoc d=firstE [headE d.ckp 3 d.fin,whenE (mrkB d.fin.marks) 21]:=by rw [chkDoc,firstE,if_neg (by simpa using e1),firstE,if_pos p46]
  refine c_seqR (fun _ K25=>?_);refine kH H (Rm rfl (Ra rfl ?_));clear H;intro a H;refine K25 _ _ ?_;clear K25;refine c_ret ?_;refine lv H Tryz.results20 rfl ?_;exact H.hp.ret (by rw [hE])
 intro h46
 try have p46:=of_decide_eq_false h46
 have e2:=Decidable.not_not.1 p46;refine c_skip ?_;refine K8 _ _ ?_;clear K8;refine c_seq (fun _ K26=>?_);refine c_seqR (fun _ K27=>?_);refine kH H (Rm rfl (Rf fd50_0doc rfl (Ro ty32run 1 rfl rfl ?_)));clear H;intro a H;refine s_build sr136doc [_,_,_] H wn rfl rfl rfl rfl ?_;clear H;intro a H;refine s_callL en66rws (Li:=[_,_]) (L:=ckB b ms ml mr mb mu 0 :: (mb,mpK []) :: []) H wn rfl (items_ok 4294967297 (by omega) _ _ _ d.stg.styles d.stg.lists d.revs b ms ml mr mb mu ⟨0,[]⟩ d.flow _ true false 0 hck (Hp.owns (Li:=[_,_]) H.hp) hfl (by omega) (by omega) (by omega) (by decide) (by dsimp only;omega)) rfl ?_;clear H;rintro v52 _ _ a w ⟨rfl,s3,rfl,rfl,h3⟩ - H;dsimp only [List.cons_append,List.nil_append] at H;refine kH H (Ra rfl ?_);clear H;intro a H;refine K27 _ _ ?_;clear K27;refine c_seqR (fun _ K28=>?_);refine kH H (Rm rfl (Rc rfl ?_));clear H;intro a H;refine K28 _ _ ?_;clear K28;refine c_cond H rfl ?_ ?_
 ·intro h54
  try have p54:=of_decide_eq_true h54
  have hE:chkDoc d=(itemsC d.ckp true false 0 d.flow ⟨0,[]⟩).1:=by rw [chkDoc,firstE,if_neg (by simpa using e1),firstE,if_neg (by simpa using e2),firstE,if_pos p54]
  refine c_seqR (fun _ K29=>?_);refine kH H (Rm rfl (Ra rfl ?_));clear H;intro a H;refine K29 _ _ ?_;clear K29;refine c_ret ?_;refine lv H Tryz.results20 rfl ?_;exact H.hp.ret (by rw [hE])
 intro h54
 try have p54:=of_decide_eq_false h54
 have e3:=Decidable.not_not.1 p54;have hs3:=h3 e3;subst hs3;refine c_skip ?_;refine K26 _ _ ?_;clear K26;refine c_seqR (fun _ K30=>?_);refine kH H (Rm rfl (Rk rfl (Rf fd140_5itm rfl (Ro ty3run 2 rfl rfl (Rc rfl ?_)))));clear H;intro a H;refine s_call en65nam H wn rfl (when_spec _ _ H.hp.ro _ 9) rfl ?_;clear H;rintro v61 _ a w ⟨rfl,rfl⟩ - H
 have hE:chkDoc d=whenE (decide (16384 < (itemsC d.ckp true false 0 d.flow ⟨0,[]⟩).2.n)) 9:=by rw [chkDoc,firstE,if_neg (by simpa using e1),firstE,if_neg (by simpa using e2),firstE,if_neg (by simpa using e3)];exact firstE_one _
 refine kH H (Ra rfl ?_);clear H;intro a H;refine K30 _ _ ?_;clear K30;refine c_ret ?_;refine lv H Tryz.results20 rfl ?_;exact H.hp.ret (by rw [hE])
end
section
open Go.RowKit
theorem en189vis:∀ args w,(callFunc 189 args).run Tryz.prog w=.ok (.enter 189 args) w:=enters Tryz.func189 rfl (by kernel_rfl)
mutual
/-- The ids in items, in document order. -/
def iItem:ItemD→List Int
 | .mk k _ i _ _ f r=>(if k=6∨k=7 then [i] else [])++((if k=6 then iItems f else [])++(if k=7 then iRows r else []))
def iItems:List ItemD→List Int
 | []=>[]
 | x :: r=>iItem x++iItems r
def iRow:RowD→List Int
 | .mk _ c=>iCells c
def iRows:List RowD→List Int
 | []=>[]
 | x :: r=>iRow x++iRows r
def iCell:CellD→List Int
 | .mk i _ f=>i :: iItems f
def iCells:List CellD→List Int
 | []=>[]
 | x :: r=>iCell x++iCells r
end
theorem iItem_eq (x:ItemD):iItem x=(if x.kind=6∨x.kind=7 then [x.id] else [])++((if x.kind=6 then iItems x.flow else [])++(if x.kind=7 then iRows x.rows else [])):=by cases x;rw [iItem];rfl
theorem iRow_eq (x:RowD):iRow x=iCells x.cells:=by cases x;rw [iRow];rfl
theorem iCell_eq (x:CellD):iCell x=x.id :: iItems x.flow:=by cases x;rw [iCell];rfl
def idP (i:Int):AP:=fun args _=>args=[vi i]
def VisOk (n:Nat):Prop:=∀ (fv:Value) (Gi:GH) (xs:List AP) (J:Nat→GH→OL→Prop) (Jx:GH→OL→Prop) (G:GH) (L:OL) (w0:World) (j:Nat) (l:List ItemD) (v:Value),
 (∀ b o,Gi b=some o→G b=some o)→Cback Tryz.prog fv Gi xs J Jx→JMono J→XMono Jx→J j G L→Owns G L w0→RepV G (.sl 11 (l.map ItemD.dat)) v→zItems l < n→(∀ i a,(iItems l)[i]?=some a→xs[j+i]?=some (idP a)) →
 Calls Tryz.prog 189 #[v,fv] w0 (RetL w0 G L fun u G' L'=>∃ b,u=.bool b∧(b=true→J (j+(iItems l).length) G' L')∧(b=false→Jx G' L'))
set_option maxHeartbeats 1000000 in
theorem vis_step {n:Nat} (ih:VisOk n) (hn:n≤4294967296):VisOk (n+1):=by
 intro fv Gi xs J Jx G L w0 j0 l v hGi hcb hJm hJx hJ0 hO hv hz hx0;obtain ⟨A,c,rfl,hc1,hc2,hg⟩:=hv.slice;rw [List.length_map] at *;have hll:=zItems_length l;refine enterL (N:=74) (T:=[(0,_),(1,_)]) Tryz.func189 rfl Tryz.ntmps189 rfl rfl hO ?_;intro a H;refine c_seqR (fun _ K1=>?_);refine kH H (Ra rfl ?_);clear H;intro a H;refine K1 _ _ ?_;clear K1;refine c_seq (fun _ K2=>?_);refine c_seqR (fun _ K3=>?_);refine kH H (Rm rfl (Rl un32run rfl (Rm rfl ?_)));clear H;intro a H;refine K3 _ _ ?_;clear K3;refine c_block ?_;skip;refine c_loopS (ι:=Nat × Nat × OL × GH) (Tc:=[(1,_),(11,_),(12,_)]) (Lc:=[]) (fun (gh:Nat × Nat × OL × GH)=>[(13,vi gh.1)]) (fun (gh:Nat × Nat × OL × GH)=>[]++gh.2.2.1) (fun (gh:Nat × Nat × OL × GH)=>gh.2.2.2) (fun (gh:Nat × Nat × OL × GH)=>gh.1≤l.length∧(∀ b o,G b=some o→gh.2.2.2 b=some o)∧Now xs idP J (j0+(iItems l).length) gh.2.1 (iItems (l.drop gh.1)) gh.2.2.2 gh.2.2.1) (fun (gh:Nat × Nat × OL × GH)=>l.length - gh.1) ((0,j0,L,G)) (by exact (H).sub ⟨rfl,rfl,rfl,rfl,trivial⟩) ?_ ?_
 ·exact ⟨by omega,fun _ _ h=>h,⟨hJ0,hx0,rfl⟩⟩
 clear H;intro gh a w hI H;obtain ⟨k,j,Lt,g⟩:=gh;dsimp only at hI H;obtain ⟨hk,hgm,hnow⟩:=hI;dsimp only [List.cons_append,List.nil_append,List.append_nil] at H;refine c_seqR (fun _ K4=>?_);refine kH H (Rc rfl ?_);clear H;intro a H;refine K4 _ _ ?_;clear K4;refine c_seq (fun _ K5=>?_);refine c_cond H rfl ?_ ?_
 ·intro h14
  try have p14:=of_decide_eq_true h14
  have hk2:k < l.length:=by omega
  obtain ⟨b,o,pA,pn,pc,dA,dn,dc,yA,yn,yc,fA,fn,fc,rA,rn,rc,rfl,hrow,hhd,hfl,hrw⟩:=flow_get hk2 hg;replace hrow:=fun j u hj=>gcell_mono hgm (hrow j u hj);have hrn:=hrw.len;rw [List.length_map] at hrn;subst hrn;have hrs:=zRows_length l[k].rows;have hsz1:=zItems_get hk2;rw [List.drop_eq_getElem_cons hk2] at hnow
  simp only [iItems,iItem_eq,List.append_assoc] at hnow
  refine c_skip ?_;refine K5 _ _ ?_;clear K5;refine c_seq (fun _ K6=>?_);refine c_block ?_;refine c_seqR (fun _ K7=>?_);refine s_index un32run ty35run _ H wn rfl rfl rfl (by first|assumption|omega) rfl ?_;clear H;intro a H;refine s_loada ty35run (cs:=[_,_,_,_,_,_,_,_,_,_,_]) H wn rfl rfl (fun j v hj=>H.hp.gcell (hrow j v hj)) rfl ?_;clear H;intro a H;refine s_alloc ty35run H wn rfl ?_;clear H;intro b6 a w hb6 H;refine s_store ty35run 0 (vs:=[_,_,_,_,_,_,_,_,_,_,_]) _ H wn rfl rfl rfl rfl rfl rfl rfl rfl ?_;clear H;intro w H;dsimp only [List.set,setRow] at H;refine K7 _ _ ?_;clear K7;refine c_seq (fun _ K8=>?_);refine c_seqR (fun _ K9=>?_);refine kH H (Rf fd35_0run rfl (Ro ty3run 0 rfl rfl (Rc rfl (Rm rfl ?_))));clear H;intro a H;refine s_split H 20 rfl ?_ ?_
  ·intro h20
   try have p20:=of_decide_eq_true h20
   rw [if_pos (Or.inl p20),if_pos p20,if_neg (by omega)] at hnow
   simp only [List.cons_append,List.nil_append] at hnow
   (iterate 3 refine s_skip H rfl rfl h20 rfl ?_;clear H;intro a H);refine s_pick_t H wn rfl h20 rfl rfl ?_;clear H;intro a H;refine kH H (Rm rfl ?_);clear H;intro a H;refine s_move H (wg H rfl rfl rfl) rfl rfl ?_;clear H;intro a H;refine s_field fd35_2doc H (wg H rfl rfl rfl) rfl rfl ?_;clear H;intro a H;refine s_load ty3run H (wg H rfl rfl rfl) rfl (H.hp.ocell 0 rfl rfl) rfl ?_;clear H;intro a H;refine s_callv (Li:=[_]) (L:=Lt) H (wg H rfl rfl rfl) rfl rfl (hcb _ _ _ _ _ ⟨_,hnow.head,rfl⟩ (fun b o h=>hgm b o (hGi b o h)) hnow.now (Hp.owns (Li:=[_]) H.hp)) rfl ?_;clear H;rintro v29 G29 Lt29 a w ⟨b29,rfl,hb1,hb2⟩ hm29 H;refine s_not H (wg H rfl rfl rfl) rfl rfl ?_;clear H;intro a H;refine s_pick_t H wn rfl rfl rfl rfl ?_;clear H;intro a H;refine K9 _ _ ?_;clear K9;refine c_cond H rfl ?_ ?_
   ·intro h31
    try have p31:=of_decide_eq_true h31
    refine c_seqR (fun _ K10=>?_);refine kH H (Ra rfl ?_);clear H;intro a H;refine K10 _ _ ?_;clear K10;refine c_ret ?_;refine lv H Tryz.results189 rfl ?_
    first
     | exact H.hp.retD (L':=Lt29) (by repeat (first|exact List.Sublist.refl _|apply List.Sublist.cons)) ⟨_,rfl,fun e=>(by cases e),fun _=>hb2 (by simpa using h31)⟩
     | exact H.hp.retD (L':=Lt39) (by repeat (first|exact List.Sublist.refl _|apply List.Sublist.cons)) ⟨_,rfl,fun e=>(by cases e),fun _=>hb4 (by simpa using h41)⟩
     | exact H.hp.retD (L':=Lt62) (by repeat (first|exact List.Sublist.refl _|apply List.Sublist.cons)) ⟨_,rfl,fun e=>(by cases e),fun _=>hb6 (by simpa using h64)⟩
     | exact H.hp.retD (L':=Lt68) (by repeat (first|exact List.Sublist.refl _|apply List.Sublist.cons)) ⟨_,rfl,fun e=>(by cases e),fun _=>hb8 (by simpa using h70)⟩
     | exact H.hp.retD (L':=Lt) (by repeat (first|exact List.Sublist.refl _|apply List.Sublist.cons)) ⟨_,rfl,fun _=>(by rw [List.drop_of_length_le (by omega),iItems] at hnow;have:=hnow.len;simp only [List.length_nil,Nat.add_zero] at this;rw [← this];exact hnow.now),fun e=>(by cases e)⟩
   intro h31
   try have p31:=of_decide_eq_false h31
   have hnow2:=hnow.step (hb1 (by simpa using h31));have hgm2:∀ b o,G b=some o→G29 b=some o:=fun b o h=>hm29 b o (hgm b o h);refine c_skip ?_;refine K8 _ _ ?_;clear K8;refine c_seq (fun _ K11=>?_);refine c_seqR (fun _ K12=>?_);refine kH H (Rf fd35_0run rfl (Ro ty3run 0 rfl rfl (Rc rfl (Rm rfl ?_))));clear H;intro a H;refine s_field fd35_5run H (wg H rfl rfl h20) rfl rfl ?_;clear H;intro a H;refine s_load ty32run H (wg H rfl rfl h20) rfl (H.hp.ocell 0 rfl rfl) rfl ?_;clear H;intro a H;refine s_move H (wg H rfl rfl h20) rfl rfl ?_;clear H;intro a H;refine s_callL en189vis (Li:=[_]) (L:=Lt29) H (wg H rfl rfl h20) rfl (ih fv Gi xs J Jx _ _ _ (j+1) l[k].flow _ (fun b o h=>hgm2 b o (hGi b o h)) hcb hJm hJx hnow2.now (Hp.owns (Li:=[_]) H.hp) (hfl.mono hgm2) (by omega) hnow2.part) rfl ?_;clear H;rintro v39 G39 Lt39 a w ⟨b39,rfl,hb3,hb4⟩ hm39 H;refine s_not H (wg H rfl rfl h20) rfl rfl ?_;clear H;intro a H;refine s_pick_t H wn rfl h20 rfl rfl ?_;clear H;intro a H;refine K12 _ _ ?_;clear K12;refine c_cond H rfl ?_ ?_
   ·intro h41
    try have p41:=of_decide_eq_true h41
    refine c_seqR (fun _ K13=>?_);refine kH H (Ra rfl ?_);clear H;intro a H;refine K13 _ _ ?_;clear K13;refine c_ret ?_;refine lv H Tryz.results189 rfl ?_
    first
     | exact H.hp.retD (L':=Lt29) (by repeat (first|exact List.Sublist.refl _|apply List.Sublist.cons)) ⟨_,rfl,fun e=>(by cases e),fun _=>hb2 (by simpa using h31)⟩
     | exact H.hp.retD (L':=Lt39) (by repeat (first|exact List.Sublist.refl _|apply List.Sublist.cons)) ⟨_,rfl,fun e=>(by cases e),fun _=>hb4 (by simpa using h41)⟩
     | exact H.hp.retD (L':=Lt62) (by repeat (first|exact List.Sublist.refl _|apply List.Sublist.cons)) ⟨_,rfl,fun e=>(by cases e),fun _=>hb6 (by simpa using h64)⟩
     | exact H.hp.retD (L':=Lt68) (by repeat (first|exact List.Sublist.refl _|apply List.Sublist.cons)) ⟨_,rfl,fun e=>(by cases e),fun _=>hb8 (by simpa using h70)⟩
     | exact H.hp.retD (L':=Lt) (by repeat (first|exact List.Sublist.refl _|apply List.Sublist.cons)) ⟨_,rfl,fun _=>(by rw [List.drop_of_length_le (by omega),iItems] at hnow;have:=hnow.len;simp only [List.length_nil,Nat.add_zero] at this;rw [← this];exact hnow.now),fun e=>(by cases e)⟩
   intro h41
   try have p41:=of_decide_eq_false h41
   refine c_skip ?_;refine K11 _ _ ?_;clear K11;refine c_seq (fun _ K14=>?_);refine c_seqR (fun _ K15=>?_);refine kH H (Rf fd35_0run rfl (Ro ty3run 0 rfl rfl (Rc rfl ?_)));clear H;intro a H;refine K15 _ _ ?_;clear K15;refine c_cond H rfl ?_ ?_
   ·intro h44
    try have p44:=of_decide_eq_true h44
    refine c_exit ?_;refine K6 _ _ ?_;clear K6;refine c_region ?_;refine s_add _ H wn rfl rfl rfl (by omega) (by omega) rfl ?_;clear H;intro a H;refine kH H (Rm rfl ?_);clear H;intro a H;refine wl_nil ?_;refine loop_end ((k+1,j+1+(iItems l[k].flow).length,Lt39,G39)) (by exact (H.pickT (Pl:=[_]) (Pl':=[]) [] (by decide) rfl).sub ⟨rfl,rfl,rfl,rfl,trivial⟩) ?_ ?_
    ·(try dsimp only);exact ⟨by omega,fun b o h=>hm39 b o (hgm2 b o h),hnow2.jump (hb3 (by simpa using h41))⟩
    first|omega|(dsimp only;omega)
   intro h44
   try have p44:=of_decide_eq_false h44
   exact absurd (show l[k].kind=7 by omega) (by omega)
  intro h20
  try have p20:=of_decide_eq_false h20
  refine s_field fd35_0run H (wg H rfl rfl h20) rfl rfl ?_;clear H;intro a H;refine s_load ty3run H (wg H rfl rfl h20) rfl (H.hp.ocell 0 rfl rfl) rfl ?_;clear H;intro a H;refine s_cmp H (wg H rfl rfl h20) rfl rfl rfl rfl ?_;clear H;intro a H;refine s_pick_f H wn rfl h20 rfl rfl ?_;clear H;intro a H;refine kH H (Rm rfl ?_);clear H;intro a H;refine s_split H 25 rfl ?_ ?_
  ·intro h25
   try have p25:=of_decide_eq_true h25
   rw [if_pos (Or.inr p25),if_neg p20,if_pos p25] at hnow
   simp only [List.cons_append,List.nil_append] at hnow
   refine s_move H (wg H rfl rfl h25) rfl rfl ?_;clear H;intro a H;refine s_field fd35_2doc H (wg H rfl rfl h25) rfl rfl ?_;clear H;intro a H;refine s_load ty3run H (wg H rfl rfl h25) rfl (H.hp.ocell 0 rfl rfl) rfl ?_;clear H;intro a H;refine s_callv (Li:=[_]) (L:=Lt) H (wg H rfl rfl h25) rfl rfl (hcb _ _ _ _ _ ⟨_,hnow.head,rfl⟩ (fun b o h=>hgm b o (hGi b o h)) hnow.now (Hp.owns (Li:=[_]) H.hp)) rfl ?_;clear H;rintro v29 G29 Lt29 a w ⟨b29,rfl,hb1,hb2⟩ hm29 H;refine s_not H (wg H rfl rfl h25) rfl rfl ?_;clear H;intro a H;refine s_pick_t H wn rfl h25 rfl rfl ?_;clear H;intro a H;refine K9 _ _ ?_;clear K9;refine c_cond H rfl ?_ ?_
   ·intro h31
    try have p31:=of_decide_eq_true h31
    refine c_seqR (fun _ K16=>?_);refine kH H (Ra rfl ?_);clear H;intro a H;refine K16 _ _ ?_;clear K16;refine c_ret ?_;refine lv H Tryz.results189 rfl ?_
    first
     | exact H.hp.retD (L':=Lt29) (by repeat (first|exact List.Sublist.refl _|apply List.Sublist.cons)) ⟨_,rfl,fun e=>(by cases e),fun _=>hb2 (by simpa using h31)⟩
     | exact H.hp.retD (L':=Lt39) (by repeat (first|exact List.Sublist.refl _|apply List.Sublist.cons)) ⟨_,rfl,fun e=>(by cases e),fun _=>hb4 (by simpa using h41)⟩
     | exact H.hp.retD (L':=Lt62) (by repeat (first|exact List.Sublist.refl _|apply List.Sublist.cons)) ⟨_,rfl,fun e=>(by cases e),fun _=>hb6 (by simpa using h64)⟩
     | exact H.hp.retD (L':=Lt68) (by repeat (first|exact List.Sublist.refl _|apply List.Sublist.cons)) ⟨_,rfl,fun e=>(by cases e),fun _=>hb8 (by simpa using h70)⟩
     | exact H.hp.retD (L':=Lt) (by repeat (first|exact List.Sublist.refl _|apply List.Sublist.cons)) ⟨_,rfl,fun _=>(by rw [List.drop_of_length_le (by omega),iItems] at hnow;have:=hnow.len;simp only [List.length_nil,Nat.add_zero] at this;rw [← this];exact hnow.now),fun e=>(by cases e)⟩
   intro h31
   try have p31:=of_decide_eq_false h31
   have hnow2:=hnow.step (hb1 (by simpa using h31));have hgm2:∀ b o,G b=some o→G29 b=some o:=fun b o h=>hm29 b o (hgm b o h);refine c_skip ?_;refine K8 _ _ ?_;clear K8;refine c_seq (fun _ K17=>?_);refine c_seqR (fun _ K18=>?_);refine kH H (Rf fd35_0run rfl (Ro ty3run 0 rfl rfl (Rc rfl (Rm rfl ?_))));clear H;intro a H;(iterate 5 refine s_skip H rfl rfl h20 rfl ?_;clear H;intro a H);refine s_pick_f H wn rfl h20 rfl rfl ?_;clear H;intro a H;refine K18 _ _ ?_;clear K18;refine c_cond_f H rfl rfl ?_;refine c_skip ?_;refine K17 _ _ ?_;clear K17;refine c_seq (fun _ K19=>?_);refine c_seqR (fun _ K20=>?_);refine kH H (Rf fd35_0run rfl (Ro ty3run 0 rfl rfl (Rc rfl ?_)));clear H;intro a H;refine K20 _ _ ?_;clear K20;refine c_cond H rfl ?_ ?_
   ·intro h44
    try have p44:=of_decide_eq_true h44
    exact absurd p25 p44
   intro h44
   try have p44:=of_decide_eq_false h44
   refine c_skip ?_;refine K19 _ _ ?_;clear K19;refine c_seqR (fun _ K21=>?_);refine kH H (Rf fd35_6run rfl (Ro ty33run 0 rfl rfl (Rl un33run rfl (Rm rfl ?_))));clear H;intro a H;refine K21 _ _ ?_;clear K21;refine c_block ?_;skip;refine c_loopS (ι:=Nat × Nat × OL × GH) (Tc:=[(1,_),(11,_),(12,_),(13,_),(46,_),(47,_)]) (Lc:=[(_,_)]) (fun (gh:Nat × Nat × OL × GH)=>[(48,vi gh.1)]) (fun (gh:Nat × Nat × OL × GH)=>[]++gh.2.2.1) (fun (gh:Nat × Nat × OL × GH)=>gh.2.2.2) (fun (gh:Nat × Nat × OL × GH)=>gh.1≤l[k].rows.length∧(∀ b o,G b=some o→gh.2.2.2 b=some o)∧Now xs idP J (j0+(iItems l).length) gh.2.1 (iRows (l[k].rows.drop gh.1)++iItems (l.drop (k+1))) gh.2.2.2 gh.2.2.1) (fun (gh:Nat × Nat × OL × GH)=>l[k].rows.length - gh.1) ((0,j+1,Lt29,G29)) (by exact (H).sub ⟨rfl,rfl,rfl,rfl,rfl,rfl,rfl,trivial⟩) ?_ ?_
   ·exact ⟨by omega,hgm2,hnow2⟩
   clear H;intro gh a w hI H;obtain ⟨rk,j3,Lt3,g3⟩:=gh;dsimp only at hI H;obtain ⟨hrk,hgm3,hnow3⟩:=hI;dsimp only [List.cons_append,List.nil_append,List.append_nil] at H;refine c_seqR (fun _ K22=>?_);refine kH H (Rc rfl ?_);clear H;intro a H;refine K22 _ _ ?_;clear K22;refine c_seq (fun _ K23=>?_);refine c_cond H rfl ?_ ?_
   ·intro h49
    try have p49:=of_decide_eq_true h49
    have hk3:rk < l[k].rows.length:=by omega
    obtain ⟨b2,o2,qA,qn,qc,eA,en,ec,zA,zn,zc,cA,cn,cc,rfl,hrow,hrh,hcl⟩:=row_get hk3 hrw.at_;replace hrow:=fun j u hj=>gcell_mono hgm3 (hrow j u hj);have hcn:=hcl.len;rw [List.length_map] at hcn;subst hcn;have hsz2:=zRows_get hk3;have hcs:=zCells_length l[k].rows[rk].cells;rw [List.drop_eq_getElem_cons hk3] at hnow3
    simp only [iRows,iRow_eq,List.append_assoc] at hnow3
    refine c_skip ?_;refine K23 _ _ ?_;clear K23;refine c_seq (fun _ K24=>?_);refine c_block ?_;refine c_seqR (fun _ K25=>?_);refine s_index un33run ty171run _ H wn rfl rfl rfl (by first|assumption|omega) rfl ?_;clear H;intro a H;refine s_loada ty171run (cs:=[_,_,_,_,_,_]) H wn rfl rfl (fun j v hj=>H.hp.gcell (hrow j v hj)) rfl ?_;clear H;intro a H;refine s_alloc ty171run H wn rfl ?_;clear H;intro b8 a w hb8 H;refine s_store ty171run 0 (vs:=[_,_,_,_,_,_]) _ H wn rfl rfl rfl rfl rfl rfl rfl rfl ?_;clear H;intro w H;dsimp only [List.set,setRow] at H;refine K25 _ _ ?_;clear K25;refine c_seqR (fun _ K26=>?_);refine kH H (Rf fd171_1run rfl (Ro ty169run 0 rfl rfl (Rl un169run rfl (Rm rfl ?_))));clear H;intro a H;refine K26 _ _ ?_;clear K26;refine c_block ?_;skip;refine c_loopS (ι:=Nat × Nat × OL × GH) (Tc:=[(1,_),(11,_),(12,_),(13,_),(46,_),(47,_),(48,_),(53,_),(54,_)]) (Lc:=[(_,_),(_,_)]) (fun (gh:Nat × Nat × OL × GH)=>[(55,vi gh.1)]) (fun (gh:Nat × Nat × OL × GH)=>[]++gh.2.2.1) (fun (gh:Nat × Nat × OL × GH)=>gh.2.2.2) (fun (gh:Nat × Nat × OL × GH)=>gh.1≤l[k].rows[rk].cells.length∧(∀ b o,G b=some o→gh.2.2.2 b=some o)∧Now xs idP J (j0+(iItems l).length) gh.2.1 (iCells (l[k].rows[rk].cells.drop gh.1)++(iRows (l[k].rows.drop (rk+1))++iItems (l.drop (k+1)))) gh.2.2.2 gh.2.2.1) (fun (gh:Nat × Nat × OL × GH)=>l[k].rows[rk].cells.length - gh.1) ((0,j3,Lt3,g3)) (by exact (H).sub ⟨rfl,rfl,rfl,rfl,rfl,rfl,rfl,rfl,rfl,rfl,trivial⟩) ?_ ?_
    ·exact ⟨by omega,hgm3,hnow3⟩
    clear H;intro gh a w hI H;obtain ⟨ck,j4,Lt4,g4⟩:=gh;dsimp only at hI H;obtain ⟨hck,hgm4,hnow4⟩:=hI;dsimp only [List.cons_append,List.nil_append,List.append_nil] at H;refine c_seqR (fun _ K27=>?_);refine kH H (Rc rfl ?_);clear H;intro a H;refine K27 _ _ ?_;clear K27;refine c_seq (fun _ K28=>?_);refine c_cond H rfl ?_ ?_
    ·intro h56
     try have p56:=of_decide_eq_true h56
     have hk4:ck < l[k].rows[rk].cells.length:=by omega
     obtain ⟨b3,o3,sA,sn,sc,tA,tn,tc,uA,un,uc,gA,gn,gc,rfl,hrow,hch,hcf⟩:=cell_get hk4 hcl.at_;replace hrow:=fun j u hj=>gcell_mono hgm4 (hrow j u hj);have hsz3:=zCells_get hk4;rw [List.drop_eq_getElem_cons hk4] at hnow4
     simp only [iCells,iCell_eq,List.append_assoc,List.cons_append] at hnow4
     refine c_skip ?_;refine K28 _ _ ?_;clear K28;refine c_seq (fun _ K29=>?_);refine c_block ?_;refine c_seqR (fun _ K30=>?_);refine s_index un169run ty174run _ H wn rfl rfl rfl (by first|assumption|omega) rfl ?_;clear H;intro a H;refine s_loada ty174run (cs:=[_,_,_,_,_,_,_]) H wn rfl rfl (fun j v hj=>H.hp.gcell (hrow j v hj)) rfl ?_;clear H;intro a H;refine s_alloc ty174run H wn rfl ?_;clear H;intro b10 a w hb10 H;refine s_store ty174run 0 (vs:=[_,_,_,_,_,_,_]) _ H wn rfl rfl rfl rfl rfl rfl rfl rfl ?_;clear H;intro w H;dsimp only [List.set,setRow] at H;refine K30 _ _ ?_;clear K30;refine c_seqR (fun _ K31=>?_);refine kH H (Rm rfl (Rf fd174_0run rfl (Ro ty3run 0 rfl rfl ?_)));clear H;intro a H;refine s_callv (Li:=[_,_,_]) (L:=Lt4) H wn rfl rfl (hcb _ _ _ _ _ ⟨_,hnow4.head,rfl⟩ (fun b o h=>hgm4 b o (hGi b o h)) hnow4.now (Hp.owns (Li:=[_,_,_]) H.hp)) rfl ?_;clear H;rintro v62 G62 Lt62 a w ⟨b62,rfl,hb5,hb6⟩ hm62 H;refine kH H (Rn rfl (Rm rfl ?_));clear H;intro a H;refine s_split H 64 rfl ?_ ?_
     ·intro h64
      try have p64:=of_decide_eq_true h64
      (iterate 5 refine s_skip H rfl rfl h64 rfl ?_;clear H;intro a H);refine s_pick_t H wn rfl h64 rfl rfl ?_;clear H;intro a H;refine K31 _ _ ?_;clear K31;refine c_cond_t H rfl rfl ?_;refine c_seqR (fun _ K32=>?_);refine kH H (Ra rfl ?_);clear H;intro a H;refine K32 _ _ ?_;clear K32;refine c_ret ?_;refine lv H Tryz.results189 rfl ?_
      first
       | exact H.hp.retD (L':=Lt29) (by repeat (first|exact List.Sublist.refl _|apply List.Sublist.cons)) ⟨_,rfl,fun e=>(by cases e),fun _=>hb2 (by simpa using h31)⟩
       | exact H.hp.retD (L':=Lt39) (by repeat (first|exact List.Sublist.refl _|apply List.Sublist.cons)) ⟨_,rfl,fun e=>(by cases e),fun _=>hb4 (by simpa using h41)⟩
       | exact H.hp.retD (L':=Lt62) (by repeat (first|exact List.Sublist.refl _|apply List.Sublist.cons)) ⟨_,rfl,fun e=>(by cases e),fun _=>hb6 (by simpa using h64)⟩
       | exact H.hp.retD (L':=Lt68) (by repeat (first|exact List.Sublist.refl _|apply List.Sublist.cons)) ⟨_,rfl,fun e=>(by cases e),fun _=>hb8 (by simpa using h70)⟩
       | exact H.hp.retD (L':=Lt) (by repeat (first|exact List.Sublist.refl _|apply List.Sublist.cons)) ⟨_,rfl,fun _=>(by rw [List.drop_of_length_le (by omega),iItems] at hnow;have:=hnow.len;simp only [List.length_nil,Nat.add_zero] at this;rw [← this];exact hnow.now),fun e=>(by cases e)⟩
     intro h64
     try have p64:=of_decide_eq_false h64
     have hnow5:=hnow4.step (hb5 (by simpa using h64));refine s_field fd174_2run H (wg H rfl rfl h64) rfl rfl ?_;clear H;intro a H;refine s_load ty32run H (wg H rfl rfl h64) rfl (H.hp.ocell 0 rfl rfl) rfl ?_;clear H;intro a H;refine s_move H (wg H rfl rfl h64) rfl rfl ?_;clear H;intro a H;refine s_callL en189vis (Li:=[_,_,_]) (L:=Lt62) H (wg H rfl rfl h64) rfl (ih fv Gi xs J Jx _ _ _ (j4+1) l[k].rows[rk].cells[ck].flow _ (fun b o h=>hm62 b o (hgm4 b o (hGi b o h))) hcb hJm hJx hnow5.now (Hp.owns (Li:=[_,_,_]) H.hp) ((hcf.mono hgm4).mono hm62) (by omega) hnow5.part) rfl ?_;clear H;rintro v68 G68 Lt68 a w ⟨b68,rfl,hb7,hb8⟩ hm68 H;refine s_not H (wg H rfl rfl h64) rfl rfl ?_;clear H;intro a H;refine s_pick_f H wn rfl h64 rfl rfl ?_;clear H;intro a H;refine K31 _ _ ?_;clear K31;refine c_cond H rfl ?_ ?_
     ·intro h70
      try have p70:=of_decide_eq_true h70
      refine c_seqR (fun _ K33=>?_);refine kH H (Ra rfl ?_);clear H;intro a H;refine K33 _ _ ?_;clear K33;refine c_ret ?_;refine lv H Tryz.results189 rfl ?_
      first
       | exact H.hp.retD (L':=Lt29) (by repeat (first|exact List.Sublist.refl _|apply List.Sublist.cons)) ⟨_,rfl,fun e=>(by cases e),fun _=>hb2 (by simpa using h31)⟩
       | exact H.hp.retD (L':=Lt39) (by repeat (first|exact List.Sublist.refl _|apply List.Sublist.cons)) ⟨_,rfl,fun e=>(by cases e),fun _=>hb4 (by simpa using h41)⟩
       | exact H.hp.retD (L':=Lt62) (by repeat (first|exact List.Sublist.refl _|apply List.Sublist.cons)) ⟨_,rfl,fun e=>(by cases e),fun _=>hb6 (by simpa using h64)⟩
       | exact H.hp.retD (L':=Lt68) (by repeat (first|exact List.Sublist.refl _|apply List.Sublist.cons)) ⟨_,rfl,fun e=>(by cases e),fun _=>hb8 (by simpa using h70)⟩
       | exact H.hp.retD (L':=Lt) (by repeat (first|exact List.Sublist.refl _|apply List.Sublist.cons)) ⟨_,rfl,fun _=>(by rw [List.drop_of_length_le (by omega),iItems] at hnow;have:=hnow.len;simp only [List.length_nil,Nat.add_zero] at this;rw [← this];exact hnow.now),fun e=>(by cases e)⟩
     intro h70
     try have p70:=of_decide_eq_false h70
     refine c_skip ?_;refine K29 _ _ ?_;clear K29;refine c_region ?_;refine s_add _ H wn rfl rfl rfl (by omega) (by omega) rfl ?_;clear H;intro a H;refine kH H (Rm rfl ?_);clear H;intro a H;refine wl_nil ?_;refine loop_end ((ck+1,j4+1+(iItems l[k].rows[rk].cells[ck].flow).length,Lt68,G68)) (by exact (H.pickT (Pl:=[_,_,_]) (Pl':=[_,_]) [1,2] (by decide) rfl).sub ⟨rfl,rfl,rfl,rfl,rfl,rfl,rfl,rfl,rfl,rfl,trivial⟩) ?_ ?_
     ·(try dsimp only);exact ⟨by omega,fun b o h=>hm68 b o (hm62 b o (hgm4 b o h)),hnow5.jump (hb7 (by simpa using h70))⟩
     first|omega|(dsimp only;omega)
    intro h56
    try have p56:=of_decide_eq_false h56
    refine c_exit ?_;refine K24 _ _ ?_;clear K24;refine c_region ?_;refine s_add _ H wn rfl rfl rfl (by omega) (by omega) rfl ?_;clear H;intro a H;refine kH H (Rm rfl ?_);clear H;intro a H;refine wl_nil ?_;refine loop_end ((rk+1,j4,Lt4,g4)) (by exact (H.pickT (Pl:=[_,_]) (Pl':=[_]) [1] (by decide) rfl).sub ⟨rfl,rfl,rfl,rfl,rfl,rfl,rfl,trivial⟩) ?_ ?_
    ·(try dsimp only);exact ⟨by omega,hgm4,by rw [List.drop_of_length_le (by omega),iCells,List.nil_append] at hnow4;exact hnow4⟩
    first|omega|(dsimp only;omega)
   intro h49
   try have p49:=of_decide_eq_false h49
   refine c_exit ?_;refine K6 _ _ ?_;clear K6;refine c_region ?_;refine s_add _ H wn rfl rfl rfl (by omega) (by omega) rfl ?_;clear H;intro a H;refine kH H (Rm rfl ?_);clear H;intro a H;refine wl_nil ?_;refine loop_end ((k+1,j3,Lt3,g3)) (by exact (H.pickT (Pl:=[_]) (Pl':=[]) [] (by decide) rfl).sub ⟨rfl,rfl,rfl,rfl,trivial⟩) ?_ ?_
   ·(try dsimp only);exact ⟨by omega,hgm3,by rw [List.drop_of_length_le (by omega),iRows,List.nil_append] at hnow3;exact hnow3⟩
   first|omega|(dsimp only;omega)
  intro h25
  try have p25:=of_decide_eq_false h25
  rw [if_neg (by omega),if_neg p20,if_neg p25] at hnow
  simp only [List.nil_append] at hnow
  (iterate 5 refine s_skip H rfl rfl h25 rfl ?_;clear H;intro a H);refine s_pick_f H wn rfl h25 rfl rfl ?_;clear H;intro a H;refine K9 _ _ ?_;clear K9;refine c_cond_f H rfl rfl ?_;refine c_skip ?_;refine K8 _ _ ?_;clear K8;refine c_seq (fun _ K34=>?_);refine c_seqR (fun _ K35=>?_);refine kH H (Rf fd35_0run rfl (Ro ty3run 0 rfl rfl (Rc rfl (Rm rfl ?_))));clear H;intro a H;(iterate 5 refine s_skip H rfl rfl h20 rfl ?_;clear H;intro a H);refine s_pick_f H wn rfl h20 rfl rfl ?_;clear H;intro a H;refine K35 _ _ ?_;clear K35;refine c_cond_f H rfl rfl ?_;refine c_skip ?_;refine K34 _ _ ?_;clear K34;refine c_seq (fun _ K36=>?_);refine c_seqR (fun _ K37=>?_);refine kH H (Rf fd35_0run rfl (Ro ty3run 0 rfl rfl (Rc rfl ?_)));clear H;intro a H;refine K37 _ _ ?_;clear K37;refine c_cond H rfl ?_ ?_
  ·intro h44
   try have p44:=of_decide_eq_true h44
   refine c_exit ?_;refine K6 _ _ ?_;clear K6;refine c_region ?_;refine s_add _ H wn rfl rfl rfl (by omega) (by omega) rfl ?_;clear H;intro a H;refine kH H (Rm rfl ?_);clear H;intro a H;refine wl_nil ?_;refine loop_end ((k+1,j,Lt,g)) (by exact (H.pickT (Pl:=[_]) (Pl':=[]) [] (by decide) rfl).sub ⟨rfl,rfl,rfl,rfl,trivial⟩) ?_ ?_
   ·(try dsimp only);exact ⟨by omega,hgm,hnow⟩
   first|omega|(dsimp only;omega)
  intro h44
  try have p44:=of_decide_eq_false h44
  exact absurd p25 p44
 intro h14
 try have p14:=of_decide_eq_false h14
 refine c_exit ?_;refine K2 _ _ ?_;clear K2;refine c_seqR (fun _ K38=>?_);refine kH H (Ra rfl ?_);clear H;intro a H;refine K38 _ _ ?_;clear K38;refine c_ret ?_;refine lv H Tryz.results189 rfl ?_
 first
  | exact H.hp.retD (L':=Lt29) (by repeat (first|exact List.Sublist.refl _|apply List.Sublist.cons)) ⟨_,rfl,fun e=>(by cases e),fun _=>hb2 (by simpa using h31)⟩
  | exact H.hp.retD (L':=Lt39) (by repeat (first|exact List.Sublist.refl _|apply List.Sublist.cons)) ⟨_,rfl,fun e=>(by cases e),fun _=>hb4 (by simpa using h41)⟩
  | exact H.hp.retD (L':=Lt62) (by repeat (first|exact List.Sublist.refl _|apply List.Sublist.cons)) ⟨_,rfl,fun e=>(by cases e),fun _=>hb6 (by simpa using h64)⟩
  | exact H.hp.retD (L':=Lt68) (by repeat (first|exact List.Sublist.refl _|apply List.Sublist.cons)) ⟨_,rfl,fun e=>(by cases e),fun _=>hb8 (by simpa using h70)⟩
  | exact H.hp.retD (L':=Lt) (by repeat (first|exact List.Sublist.refl _|apply List.Sublist.cons)) ⟨_,rfl,fun _=>(by rw [List.drop_of_length_le (by omega),iItems] at hnow;have:=hnow.len;simp only [List.length_nil,Nat.add_zero] at this;rw [← this];exact hnow.now),fun e=>(by cases e)⟩
theorem vis_ok:∀ n:Nat,n≤4294967297→VisOk n
 | 0,_=>fun _ _ _ _ _ _ _ _ _ _ _ _ _ _ _ _ _ _ _ h=>absurd h (by omega)
 | n+1,hn=>vis_step (vis_ok n (by omega)) (by omega)
end
section
open Go.RowKit
theorem ty234frs:Ty Tryz.prog 234 1 8 [.nilFunc] false:=⟨by kernel_rfl,by kernel_rfl⟩
theorem en118frs:∀ args w,(callFunc 118 args).run Tryz.prog w=.ok (.enter 118 args) w:=enters Tryz.func118 rfl (by kernel_rfl)
theorem en188frs:∀ args w,(callFunc 188 args).run Tryz.prog w=.ok (.enter 188 args) w:=enters Tryz.func188 rfl (by kernel_rfl)
theorem ty38frs:Ty Tryz.prog 38 1 24 [.slice none 0 0] false:=⟨by kernel_rfl,by kernel_rfl⟩
theorem en190frs:∀ args w,(callFunc 190 args).run Tryz.prog w=.ok (.enter 190 args) w:=enters Tryz.func190 rfl (by kernel_rfl)
theorem id_at {A:List Int} {k:Nat} {args:List Value} {g:GH} (h:AtAP (A.map idP) k args g):∃ hk:k < A.length,args=[vi A[k]]:=by
 obtain ⟨p,hp,hargs⟩:=h;rw [List.getElem?_map] at hp;obtain ⟨q,hq,rfl⟩:=Option.map_eq_some_iff.1 hp;obtain ⟨hk,rfl⟩:=List.getElem?_eq_some_iff.1 hq;exact ⟨hk,hargs⟩
theorem idc_cb {G G0:GH} {A:List Int} {b2:Nat} {fv:Value} {J:Nat→GH→OL→Prop} {Jx:GH→OL→Prop} (hcb:Cback Tryz.prog fv G0 (A.map idP) J Jx) (hG0:∀ b o,G0 b=some o→G b=some o) (hfv:fv.cells=#[fv]) (hb:gcell G b2 0=some fv) :
  Cback Tryz.prog (.func (.func 190) #[] #[.pointer (some ⟨b2,0,none⟩)]) G (A.map idP) J Jx:=by
 intro k args G1 L w0 hk hm hJ hO;obtain ⟨hk2,rfl⟩:=id_at hk;refine callV_func (caps:=[.pointer (some ⟨b2,0,none⟩)]) en190frs ?_;replace hb:=gcell_mono hm hb;refine enterL (N:=7) (T:=[(0,_),(1,_)]) Tryz.func190 rfl Tryz.ntmps190 rfl rfl hO ?_;intro a H;refine c_seqR (fun _ K1=>?_);refine kH H (Ra rfl ?_);clear H;intro a H;refine K1 _ _ ?_;clear K1;refine c_seqR (fun _ K2=>?_);refine s_load ty234frs H wn rfl (H.hp.gcell (by assumption)) rfl ?_;clear H;intro a H;refine kH H (Rm rfl ?_);clear H;intro a H;refine s_callv (Li:=[]) (L:=L) H wn rfl rfl (hcb _ _ _ _ _ hk (fun b o h=>hm b o (hG0 b o h)) hJ (Hp.owns (Li:=[]) H.hp)) rfl ?_;clear H;rintro v6 G6 L6 a w ⟨b6,rfl,h1,h2⟩ hm6 H;refine kH H (Ra rfl ?_);clear H;intro a H;refine K2 _ _ ?_;clear K2;refine c_ret ?_;refine lv H Tryz.results190 rfl ?_;exact H.hp.retL ⟨b6,rfl,h1,h2⟩
theorem ids1_iter {G:GH} {bd:Nat} {D:DocV} {l:List ItemD} (hb:G bd=some (.cells D.cells.toArray 50 (0,0))) (hv:RepV G (.sl 11 (l.map ItemD.dat)) (sl3 D.f)) (hz:zItems l≤4294967296) :
  Iter Tryz.prog G (.func (.func 188) #[] #[.pointer (some ⟨bd,0,none⟩)]) ((iItems l).map idP):=by
 intro J Jx fv G1 L w0 hfv hGi hJm hJx hJ hO hcb;refine callV_func (caps:=[.pointer (some ⟨bd,0,none⟩)]) en188frs ?_;have hfl:gcell G1 bd 0=some (sl3 D.f):=gcell_mono hGi (by unfold gcell;rw [hb];rfl);refine enterL (N:=7) (T:=[(0,_),(1,_)]) Tryz.func188 rfl Tryz.ntmps188 rfl rfl hO ?_;intro a H;refine c_seqR (fun _ K1=>?_);refine s_box (cs:=[fv]) H wn rfl hfv rfl ?_;clear H;intro b2 a w hb2 H;refine K1 _ _ ?_;clear K1;obtain ⟨G2,hm2,hb2,H⟩:=H.giveBox;replace hfl:=gcell_mono hm2 hfl;refine c_region ?_;refine kH H (Rf fd50_0doc rfl ?_);clear H;intro a H;refine s_load ty32run H wn rfl (H.hp.gcell (by assumption)) rfl ?_;clear H;intro a H;refine s_makeFunc H wn rfl rfl ?_;clear H;intro a H;refine s_callL en189vis (Li:=[]) (L:=L) H wn rfl (vis_ok 4294967297 (by omega) _ G2 ((iItems l).map idP) J Jx G2 _ _ 0 l _ (fun _ _ h=>h) (idc_cb (b2:=b2) hcb hm2 hfv (by unfold gcell;rw [hb2];rfl)) hJm hJx (hJm _ _ _ _ hm2 hJ) (Hp.owns (Li:=[]) H.hp) ((hv.mono hGi).mono hm2) (by omega) (fun i a h=>by rw [Nat.zero_add,List.getElem?_map,h];rfl)) rfl ?_;clear H;rintro v6 G6 L6 a w ⟨b6,rfl,h1,h2⟩ hm6 H;refine wl_nil ?_;refine (leave0 H Tryz.results188 ?_).2
 cases b6
 ·exact H.hp.retL (.inr (h2 rfl))
 exact H.hp.retL (.inl (by simpa using h1 rfl))
theorem ids_spec (G:GH) (w0:World) (hG:Hold G w0) (D:DocV) (l:List ItemD) (hv:RepV G (.sl 11 (l.map ItemD.dat)) (sl3 D.f)) (hz:zItems l≤4294967296) :
  Calls Tryz.prog 118 #[D.val] w0 (Ret w0 G fun v G'=>∃ bd,v=.func (.func 188) #[] #[.pointer (some ⟨bd,0,none⟩)]∧Iter Tryz.prog G' v ((iItems l).map idP)):=by
 refine eN [(0,_)] Tryz.func118 rfl Tryz.ntmps118 rfl rfl hG ?_;intro a H;refine c_seqR (fun _ K1=>?_);refine s_box (cs:=[_,_,_,_,_,_,_,_,_,_,_]) H wn rfl rfl rfl ?_;clear H;intro b1 a w hb1 H;refine kH H (Ra rfl ?_);clear H;intro a H;refine K1 _ _ ?_;clear K1;refine c_seqR (fun _ K2=>?_);refine s_makeFunc H wn rfl rfl ?_;clear H;intro a H;refine kH H (Ra rfl ?_);clear H;intro a H;refine K2 _ _ ?_;clear K2;refine c_ret ?_;obtain ⟨G2,hm2,hb2,H⟩:=H.giveBox;refine lv H Tryz.results118 rfl ?_;exact H.hp.ret ⟨b1,rfl,ids1_iter hb2 (hv.mono hm2) hz⟩
def maxI (l:List Int):Int:=l.foldl max 0
theorem maxI_snoc {l:List Int} {k:Nat} (h:k < l.length):maxI (l.take (k+1))=max (maxI (l.take k)) l[k]:=by
 rw [maxI,List.take_succ_eq_append_getElem h,List.foldl_append];rfl
theorem fresh_spec (G:GH) (w0:World) (hG:Hold G w0) (D:DocV) (l:List ItemD) (hv:RepV G (.sl 11 (l.map ItemD.dat)) (sl3 D.f)) (hz:zItems l≤4294967296) (hm:maxI (iItems l)≤4611686018427387904) (h0:0≤maxI (iItems l)) :
  Calls Tryz.prog 50 #[D.val] w0 (Ret w0 G fun v G'=>v=vi (maxI (iItems l)+1)):=by
 refine eN [(0,_)] Tryz.func50 rfl Tryz.ntmps50 rfl rfl hG ?_;intro a H;refine c_seqR (fun _ K1=>?_);refine s_box (cs:=[_,_,_,_,_,_,_,_,_,_,_]) H wn rfl rfl rfl ?_;clear H;intro b1 a w hb1 H;refine kH H (Ra rfl ?_);clear H;intro a H;refine K1 _ _ ?_;clear K1;refine c_seqR (fun _ K2=>?_);refine s_alloc ty3run H wn rfl ?_;clear H;intro b3 a w hb3 H;refine s_store ty3run 0 (vs:=[_]) _ H wn rfl rfl rfl rfl rfl rfl rfl rfl ?_;clear H;intro w H;dsimp only [List.set,setRow] at H;refine K2 _ _ ?_;clear K2;refine c_seq (fun _ K3=>?_);refine c_seqR (fun _ K4=>?_);refine s_loada ty50dq (cs:=[_,_,_,_,_,_,_,_,_,_,_]) H wn rfl rfl (H.hp.ocells 1 rfl rfl) rfl ?_;clear H;intro a H;refine s_call en118frs H wn rfl (ids_spec _ _ H.hp.ro D l hv hz) rfl ?_;clear H;rintro v6 G6 a w ⟨bd,rfl,hit⟩ hm6 H;refine K4 _ _ ?_;clear K4;refine c_block ?_;skip;refine c_rangeJ (ι:=Unit) (κ:=Empty) (Lc:=[(_,_)]) (fun (k:Nat) (gh:Unit)=>[(b3,.cells #[vi (maxI ((iItems l).take k))] 3 (0,0))]) (fun (k:Nat) (gh:Unit)=>[]) (fun (k:Nat) (gh:Unit) (g:GH)=>True) (fun x=>x.elim) (fun x=>x.elim) (fun x=>x.elim) (fun x=>x.elim) (()) (by exact H.pickT (Pl:=[_,_]) (Pl':=[_,_]) [1,0] (by decide) rfl) rfl en188frs (hit) (fun _ _ h=>h) rfl (fun k args g h=>by obtain ⟨_,rfl⟩:=id_at h;rfl) (fun _ _ _ _ _ h=>h) (fun x=>x.elim) (trivial) ?_ ?_ ?_
 ·clear H;intro l3 rdy bsy bk k args gh G3 w3 F3 B3 a hk3 hm3 hI hbeg3 hnext3 hstop3 H;obtain ⟨hk,rfl⟩:=id_at hk3;dsimp only [asg,List.cons_append,List.nil_append] at H;refine c_region ?_;refine kH H (Ra rfl ?_);clear H;intro a H;refine wl_nil ?_;refine hbeg3 _ _ _ _ _ _ (by exact H) ?_;clear H;intro w H;refine c_block ?_;refine c_region ?_;refine kH H (Ro ty3run 2 rfl rfl (Rm rfl ?_));clear H;intro a H;refine s_max H wn rfl rfl rfl ?_;clear H;intro a H;rw [← maxI_snoc hk] at H;refine s_store ty3run 2 (vs:=[_]) _ H wn rfl rfl rfl rfl rfl rfl rfl rfl ?_;clear H;intro w H;dsimp only [List.set,setRow] at H;refine wl_nil ?_;refine hnext3 (()) _ _ _ _ _ (by exact H) ?_
  trivial
 ·clear H;intro Dk3 gh Gd3 a w hm3 hI H;dsimp only [List.cons_append,List.nil_append,List.append_nil] at H;refine K3 _ _ ?_;clear K3;refine c_seq (fun _ K5=>?_);rw [List.take_of_length_le (by simp)] at H;refine c_region ?_;refine kH H (Ro ty3run 2 rfl rfl ?_);clear H;intro a H;refine s_add _ H wn rfl rfl rfl (by omega) (by omega) rfl ?_;clear H;intro a H;refine kH H (Ra rfl ?_);clear H;intro a H;refine wl_nil ?_;refine K5 _ _ ?_;clear K5;refine c_ret ?_;refine (leaveM H 0 rfl ?_).1;clear H;intro a w H;dsimp only [List.eraseIdx_cons_succ,List.eraseIdx_cons_zero] at H;refine lv H Tryz.results50 rfl ?_;exact H.hp.ret rfl
 intro Dk x;exact x.elim
theorem intRow1 (G:GH) (n:Int):RepRow G [li n] [vi n]:=by simp [RepRow,RepV,Value.oneCell']
/-- How many units all flows have. -/
def unS (A:List FlowD):Int:=A.foldl (fun n f=>n+lenS f.items) 0
theorem unS_snoc {A:List FlowD} {k:Nat} (h:k < A.length):unS (A.take (k+1))=unS (A.take k)+lenS A[k].items:=by
 rw [unS,List.take_succ_eq_append_getElem h,List.foldl_append];rfl
theorem units_doc (G:GH) (w0:World) (hG:Hold G w0) (D:DocV) (l:List ItemD) (hv:RepV G (.sl 11 (l.map ItemD.dat)) (sl3 D.f)) (hz:zItems l≤4294967296) (hm:∀ k,k≤(flowsD l).length→0≤unS ((flowsD l).take k)∧unS ((flowsD l).take k)≤4611686018427387904) :
  Calls Tryz.prog 51 #[D.val] w0 (Ret w0 G fun v G'=>v=vi (unS (flowsD l))):=by
 refine eN [(0,_)] Tryz.func51 rfl Tryz.ntmps51 rfl rfl hG ?_;intro a H;refine c_seqR (fun _ K1=>?_);refine s_box (cs:=[_,_,_,_,_,_,_,_,_,_,_]) H wn rfl rfl rfl ?_;clear H;intro b1 a w hb1 H;refine kH H (Ra rfl ?_);clear H;intro a H;refine K1 _ _ ?_;clear K1;refine c_seqR (fun _ K2=>?_);refine s_alloc ty3run H wn rfl ?_;clear H;intro b3 a w hb3 H;refine s_store ty3run 0 (vs:=[_]) _ H wn rfl rfl rfl rfl rfl rfl rfl rfl ?_;clear H;intro w H;dsimp only [List.set,setRow] at H;refine K2 _ _ ?_;clear K2;refine c_seq (fun _ K3=>?_);refine c_seqR (fun _ K4=>?_);refine s_loada ty50dq (cs:=[_,_,_,_,_,_,_,_,_,_,_]) H wn rfl rfl (H.hp.ocells 1 rfl rfl) rfl ?_;clear H;intro a H;refine s_call en81dq H wn rfl (of_spec _ _ H.hp.ro D l hv hz) rfl ?_;clear H;rintro v9 G9 a w ⟨ba,bl,bp,rfl,hit⟩ hm9 H;refine K4 _ _ ?_;clear K4;refine c_block ?_;skip;refine c_rangeJ (ι:=Unit) (κ:=Empty) (Lc:=[(_,_)]) (fun (k:Nat) (gh:Unit)=>[(b3,.cells #[vi (unS ((flowsD l).take k))] 3 (0,0))]) (fun (k:Nat) (gh:Unit)=>[]) (fun (k:Nat) (gh:Unit) (g:GH)=>True) (fun x=>x.elim) (fun x=>x.elim) (fun x=>x.elim) (fun x=>x.elim) (()) (by exact H.pickT (Pl:=[_,_]) (Pl':=[_,_]) [1,0] (by decide) rfl) rfl en203doc (hit) (fun _ _ h=>h) rfl (fun k args g h=>by obtain ⟨_,_,_,_,rfl,_⟩:=fl_at h;rfl) (fun _ _ _ _ _ h=>h) (fun x=>x.elim) (trivial) ?_ ?_ ?_
 ·clear H;intro l3 rdy bsy bk k args gh G3 w3 F3 B3 a hk3 hm3 hI hbeg3 hnext3 hstop3 H;obtain ⟨hk,vA,vn,vc,rfl,hfr⟩:=fl_at hk3;dsimp only [asg,List.cons_append,List.nil_append] at H;refine c_region ?_;refine s_alloc ty166dq H wn rfl ?_;clear H;intro b5 a w hb5 H;refine s_store ty166dq 0 (vs:=[_,_,_,_]) _ H wn rfl rfl rfl rfl rfl rfl rfl rfl ?_;clear H;intro w H;dsimp only [List.set,setRow] at H;refine wl_nil ?_;refine hbeg3 _ _ _ _ _ _ (by exact H.pickT (Pl:=[_,_,_,_]) (Pl':=[_,_,_,_]) [1,0,2,3] (by decide) rfl) ?_;clear H;intro w H;refine c_block ?_;refine c_seqR (fun _ K5=>?_);refine kH H (Rf fd166_0dq rfl (Ro ty32run 1 rfl rfl ?_));clear H;intro a H;refine s_call en8par H wn rfl (len_spec _ _ H.hp.ro (flowsD l)[k].items _ hfr (Nat.le_trans (flowsD_sz (List.getElem_mem hk)) hz)) rfl ?_;clear H;rintro v15 _ a w ⟨rfl,rfl⟩ - H;refine kH H (Rm rfl ?_);clear H;intro a H;(iterate 2 refine s_extract H wn rfl rfl rfl ?_;clear H;intro a H);refine kH H (Ra rfl (Ra rfl ?_));clear H;intro a H;refine K5 _ _ ?_;clear K5;have hb20:=hm (k+1) hk;rw [unS_snoc hk] at hb20;refine c_region ?_;refine kH H (Ro ty3run 3 rfl rfl (Rm rfl ?_));clear H;intro a H;refine s_add _ H wn rfl rfl rfl (by omega) (by omega) rfl ?_;clear H;intro a H;rw [← unS_snoc hk] at H;refine s_store ty3run 3 (vs:=[_]) _ H wn rfl rfl rfl rfl rfl rfl rfl rfl ?_;clear H;intro w H;dsimp only [List.set,setRow] at H;refine wl_nil ?_;refine hnext3 (()) _ _ _ _ _ (by exact H.pickT (Pl:=[_,_,_,_]) (Pl':=[_,_,_]) [0,2,3] (by decide) rfl) ?_
  trivial
 ·clear H;intro Dk3 gh Gd3 a w hm3 hI H;dsimp only [List.cons_append,List.nil_append,List.append_nil] at H;refine K3 _ _ ?_;clear K3;refine c_seq (fun _ K6=>?_);rw [List.take_of_length_le (by simp)] at H;refine c_region ?_;refine kH H (Ro ty3run 2 rfl rfl (Ra rfl ?_));clear H;intro a H;refine wl_nil ?_;refine K6 _ _ ?_;clear K6;refine c_ret ?_;refine (leaveM H 0 rfl ?_).1;clear H;intro a w H;dsimp only [List.eraseIdx_cons_succ,List.eraseIdx_cons_zero] at H;refine lv H Tryz.results51 rfl ?_;exact H.hp.ret rfl
 intro Dk x;exact x.elim
mutual
theorem wItem_n (note:Bool) (t:Int):∀ x:ItemD,(wItem note t x).length < szR x.dat
 | .mk k c i tx h f r=>by
  have h4:=zItem_eq (.mk k c i tx h f r);have hf:=wItems_n true t f;have hr:=wRows_n note t r;dsimp only [ItemD.text,ItemD.head,ItemD.flow,ItemD.rows] at h4;rw [wItem]
  split
  ·rw [List.length_cons];omega
  split <;> first|omega|(simp only [List.length_nil];omega)
theorem wItems_n (note:Bool) (t:Int):∀ l:List ItemD,(wItems note t l).length≤zItems l
 | []=>by simp [wItems]
 | x :: l=>by
  have h1:=wItem_n note t x;have h2:=wItems_n note t l;rw [wItems,List.length_append]
  simp only [zItems,List.map_cons,szRs] at *;omega
theorem wRow_n (note:Bool) (t:Int):∀ x:RowD,(wRow note t x).length≤szR x.dat
 | .mk h cs=>by
  have h4:=zRow_eq (.mk h cs);have hc:=wCells_n note t cs;dsimp only [RowD.head,RowD.cells] at h4;rw [wRow];omega
theorem wRows_n (note:Bool) (t:Int):∀ l:List RowD,(wRows note t l).length≤zRows l
 | []=>by simp [wRows]
 | x :: l=>by
  have h1:=wRow_n note t x;have h2:=wRows_n note t l;rw [wRows,List.length_append]
  simp only [zRows,List.map_cons,szRs] at *;omega
theorem wCell_n (note:Bool) (t:Int):∀ x:CellD,(wCell note t x).length≤szR x.dat
 | .mk i h f=>by
  have h4:=zCell_eq (.mk i h f);have hf:=wItems_n note (t+1) f;dsimp only [CellD.head,CellD.flow] at h4;rw [wCell,List.length_cons];omega
theorem wCells_n (note:Bool) (t:Int):∀ l:List CellD,(wCells note t l).length≤zCells l
 | []=>by simp [wCells]
 | x :: l=>by
  have h1:=wCell_n note t x;have h2:=wCells_n note t l;rw [wCells,List.length_append]
  simp only [zCells,List.map_cons,szRs] at *;omega
end
theorem docFlows_spec (G:GH) (w0:World) (hG:Hold G w0) (D:DocV) (l:List ItemD) (hv:RepV G (.sl 11 (l.map ItemD.dat)) (sl3 D.f)) (hz:zItems l≤4294967296) :
  Calls Tryz.prog 25 #[D.val] w0 (Ret w0 G fun u G'=>RepV G' (.sl 1 ((flowsD l).map fun f:FlowD=>[li f.id])) u):=by
 have hml:4294967299≤maxLen:=by decide
 have hn:(flowsD l).length≤4294967297:=by
  have:=wItems_n false 0 l;rw [flowsD,List.length_cons];omega
 refine eN [(0,_)] Tryz.func25 rfl Tryz.ntmps25 rfl rfl hG ?_;intro a H;refine c_seqR (fun _ K1=>?_);refine s_box (cs:=[_,_,_,_,_,_,_,_,_,_,_]) H wn rfl rfl rfl ?_;clear H;intro b1 a w hb1 H;refine kH H (Ra rfl ?_);clear H;intro a H;refine K1 _ _ ?_;clear K1;refine c_seqR (fun _ K2=>?_);refine s_alloc ty38frs H wn rfl ?_;clear H;intro b3 a w hb3 H;refine K2 _ _ ?_;clear K2;refine c_seq (fun _ K3=>?_);refine c_seq (fun _ K4=>?_);have H:=H.pickT (Pl:=[_,_]) (Pl':=[_,_]) [1,0] (by decide) rfl;refine c_region ?_;refine s_loada ty50dq (cs:=[_,_,_,_,_,_,_,_,_,_,_]) H wn rfl rfl (H.hp.ocells 0 rfl rfl) rfl ?_;clear H;intro a H;refine s_call en81dq H wn rfl (of_spec _ _ H.hp.ro D l hv hz) rfl ?_;clear H;rintro v6 G6 a w ⟨ba,bl,bp,rfl,hit⟩ hm6 H;refine wl_nil ?_;refine K4 _ _ ?_;clear K4;refine c_block ?_;skip;refine c_rangeJ (ι:=Value × List Value × OL) (κ:=Empty) (Lc:=[(_,_)]) (fun (k:Nat) (gh:Value × List Value × OL)=>[(b3,.cells #[gh.1] 38 (0,0))]) (fun (k:Nat) (gh:Value × List Value × OL)=>gh.2.2) (fun (k:Nat) (gh:Value × List Value × OL) (g:GH)=>IsRow 3 1 gh.1 k gh.2.1 gh.2.2∧RepCat g 1 (((flowsD l).take k).map fun f:FlowD=>[li f.id]) gh.2.1) (fun x=>x.elim) (fun x=>x.elim) (fun x=>x.elim) (fun x=>x.elim) ((.slice none 0 0,[],[])) (by exact H.nilT (A:=[_,_])) rfl en203doc (hit) (fun _ _ h=>h) rfl (fun k args g h=>by obtain ⟨_,_,_,_,rfl,_⟩:=fl_at h;rfl) (fun k i G G' hm h=>⟨h.1,h.2.mono hm⟩) (fun x=>x.elim) (⟨IsRow.nil,RepCat.nil⟩) ?_ ?_ ?_
 ·clear H;intro l3 rdy bsy bk k args gh G3 w3 F3 B3 a hk3 hm3 hI hbeg3 hnext3 hstop3 H;obtain ⟨v,xs,Lo⟩:=gh;dsimp only at hI H;obtain ⟨hk,vA,vn,vc,rfl,hfr⟩:=fl_at hk3;dsimp only [asg,List.cons_append,List.nil_append] at H;obtain ⟨hrw,hcat⟩:=hI;refine c_region ?_;refine kH H (Ra rfl ?_);clear H;intro a H;refine wl_nil ?_;refine hbeg3 _ _ _ _ _ _ (by exact H) ?_;clear H;intro w H;refine c_block ?_;refine c_region ?_;refine kH H (Ro ty38frs 2 rfl rfl (Rm rfl ?_));clear H;intro a H;refine s_buildSlice un38l14c ty3run [_] [_] H wn rfl rfl rfl rfl rfl (by intro i q h;match i,h with|0,h=>exact h|n+1,h=>simp at h) rfl rfl ?_;clear H;intro b11 a w hb11 H;refine s_append (Li:=[_,_,_,_]++bk) (Lo:=Lo) (news:=[vi (flowsD l)[k].id]) un38l14c ty3run rfl rfl (St.un (A:=[_,_,_,_]) H) wn rfl rfl hrw rfl (H.hp.ocells 0 rfl rfl) rfl (by omega) (by omega) rfl ?_;clear H;intro v12 Lo12 a w hrw12 H;obtain ⟨A12,c12,rfl,-,-⟩:=hrw12.shape
  simp only [List.append_assoc,List.cons_append,List.nil_append] at H
  refine s_store ty38frs 3 (vs:=[_]) _ H wn rfl rfl rfl rfl rfl rfl rfl rfl ?_;clear H;intro w H;dsimp only [List.set,setRow] at H;refine wl_nil ?_;refine hnext3 ((.slice A12 (k+1) c12,xs++[vi (flowsD l)[k].id],Lo12)) _ _ _ _ _ (by exact H.pickT (Pl:=[_,_,_,_]) (Pl':=[_,_,_]) [1,2,3] (by decide) rfl) ?_;exact ⟨hrw12,by rw [List.take_succ_eq_append_getElem hk,List.map_append];exact hcat.snoc (intRow1 _ _) rfl⟩
 ·clear H;intro Dk3 gh Gd3 a w hm3 hI H;obtain ⟨v,xs,Lo⟩:=gh;dsimp only at hI H;dsimp only [List.cons_append,List.nil_append,List.append_nil] at H;obtain ⟨hrw,hcat⟩:=hI;rw [List.length_map] at hrw hcat;rw [List.take_length] at hcat;refine K3 _ _ ?_;clear K3;refine c_seqR (fun _ K5=>?_);refine kH H (Ro ty38frs 2 rfl rfl (Ra rfl ?_));clear H;intro a H;refine K5 _ _ ?_;clear K5;refine c_ret ?_;refine (leaveM H 0 rfl ?_).1;clear H;intro a w H;dsimp only [List.eraseIdx_cons_succ,List.eraseIdx_cons_zero] at H;refine lv H Tryz.results25 rfl ?_;obtain ⟨Gr,hmr,hrep,H⟩:=St.giveRow (Li:=[_,_]) H hrw (rows:=(flowsD l).map fun f:FlowD=>[li f.id]) (by simp) hcat;exact H.hp.ret hrep
 intro Dk x;exact x.elim
end
section
open Go.RowKit
theorem txt_ab:validS ⟨#[97,98]⟩=true∧cntFrom ⟨#[97,98]⟩ 0=2:=by
 have d0:decS ⟨#[97,98]⟩ 0=(97,1,true):=by decide
 have d1:decS ⟨#[97,98]⟩ 1=(98,1,true):=by decide
 have e2:firstS ⟨#[97,98]⟩ 2=-1:=by rw [firstS,dif_neg (by decide)]
 have e1:firstS ⟨#[97,98]⟩ 1=-1:=by rw [firstS,dif_pos (by decide),dif_pos (by rw [d1]),d1];exact e2
 have e0:firstS ⟨#[97,98]⟩ 0=-1:=by rw [firstS,dif_pos (by decide),dif_pos (by rw [d0]),d0];exact e1
 have c2:cntFrom ⟨#[97,98]⟩ 2=0:=by rw [cntFrom,if_neg (by decide)]
 have c1:cntFrom ⟨#[97,98]⟩ 1=1:=by rw [cntFrom,if_pos (by decide),c2];decide
 have c0:cntFrom ⟨#[97,98]⟩ 0=2:=by rw [cntFrom,if_pos (by decide),c1];decide
 exact ⟨by unfold validS;rw [e0];decide,c0⟩
abbrev hd0:HeadD:=⟨[],⟨0,0,[],[]⟩⟩
def exA:ItemD:=.mk 1 0 0 ⟨#[97,98]⟩ hd0 [] []
def exX:ItemD:=.mk 1 0 0 ⟨#[120]⟩ hd0 [] []
def exN:ItemD:=.mk 6 1 4 ⟨#[]⟩ hd0 [exX] []
def exP:ItemD:=.mk 2 0 0 ⟨#[]⟩ hd0 [] []
def exL:List ItemD:=[exA,exN,exP]
theorem uA:unitsS exA=2∧unitsE exA=0:=by simp [unitsS,unitsE,exA,ItemD.kind,ItemD.text,cntS,utfS,txt_ab.1,txt_ab.2]
theorem hd0_rep {G:GH}:HeadR G hd0 (.slice none 0 0) (.slice none 0 0) (.slice none 0 0):=⟨RepV.nil_ rfl (by decide),RepV.nil_ rfl (by decide),RepV.nil_ rfl (by decide)⟩
end
section
open Go.RowKit
def xCA:CellD:=.mk 5 hd0 [exA]
def xCB:CellD:=.mk 4 hd0 []
def xRow:RowD:=.mk hd0 [xCA,xCB]
def xTab:ItemD:=.mk 7 0 3 ⟨#[]⟩ hd0 [] [xRow]
def xDoc:DocD:=⟨[xTab],hd0,[],⟨[],[],[],[]⟩⟩
theorem txt_0:validS ⟨#[]⟩=true:=by
 have e0:firstS ⟨#[]⟩ 0=-1:=by rw [firstS,dif_neg (by decide)]
 unfold validS;rw [e0];decide
theorem xStg:chkStg ⟨[],[],[],[]⟩=0:=by simp [chkStg,firstE,checkS,errF,chkLis,chkCms,chkVas,whenE,allE]
theorem xRev:chkRvs []=0:=by simp [chkRvs,firstE,whenE,allE]
theorem xHead (C:CkP) {e:Int} (h1:1≤e) (h2:e≤10):headE C e hd0=0:=by
 have h3:chkPS e []=0:=by rw [chkPS,if_neg (by omega)];rfl
 simp [headE,firstE,hd0,h3,refsE,mrkE,allE,whenE]
theorem xFa:formE exA=0:=by
 simp [formE,exA,ItemD.kind,ItemD.code,ItemD.id,ItemD.text,ItemD.flow,ItemD.rows,codeOk,fmtB,codedB,namedB,wordB,startB,emptyB,txt_ab.1]
theorem xFt:formE xTab=0:=by
 simp [formE,xTab,ItemD.kind,ItemD.code,ItemD.id,ItemD.text,ItemD.flow,ItemD.rows,codeOk,fmtB,codedB,namedB,wordB,startB,emptyB,txt_0]
theorem xItems:itemsC xDoc.ckp true false 0 [xTab] ⟨0,[]⟩=(0,⟨3,[3,5,4]⟩):=by
 generalize xDoc.ckp=C
 have hA:∀ s:CS,itemsC C false false 1 [exA] s=(0,⟨s.n+2,s.bef⟩):=fun s=>by
  have e1:preC false false 1 exA.kind exA.id ⟨s.n+(unitsS exA:Nat),s.bef⟩=(0,⟨s.n+2,s.bef⟩):=by rw [uA.1];rfl
  have e2:headE C exA.kind exA.head=0:=xHead C (by decide) (by decide)
  simp [itemsC,itemC_eq,andT,xFa,e1,e2,show ¬ exA.kind=6 by decide,show ¬ exA.kind=7 by decide]
 have e2:preC true false 0 7 xTab.id ⟨((unitsS xTab:Nat):Int),[]⟩=(0,⟨1,[3]⟩):=rfl;have e3:headE C 7 xTab.head=0:=xHead C (by decide) (by decide);have e4:headE C 9 xRow.head=0:=xHead C (by decide) (by decide);have e5:headE C 10 xCA.head=0:=xHead C (by decide) (by decide);have e6:headE C 10 xCB.head=0:=xHead C (by decide) (by decide);have e7:idC ⟨1,[3]⟩ xCA.id=(0,⟨1,[3,5]⟩):=rfl;have e8:idC ⟨3,[3,5]⟩ xCB.id=(0,⟨3,[3,5,4]⟩):=rfl;have f1:xTab.rows=[xRow]:=rfl;have f2:xRow.cells=[xCA,xCB]:=rfl;have f3:xCA.flow=[exA]:=rfl;have f4:xCB.flow=[]:=rfl
 simp [itemsC,itemC_eq,andT,xFt,e2,e3,show ¬ xTab.kind=6 by decide,show xTab.kind=7 by decide,f1,rowsC0,rowsC,rowC_eq,rowE,e4,firstE,whenE,f2,cellsC,cellC_eq,e5,e6,e7,e8,f3,f4,hA]
theorem xChk:chkDoc xDoc=0:=by
 have h1:headE xDoc.ckp 3 xDoc.fin=0:=xHead _ (by decide) (by decide);have h2:chkStg xDoc.stg=0:=xStg;have h3:chkRvs xDoc.revs=0:=xRev;have h4:itemsC xDoc.ckp true false 0 xDoc.flow ⟨0,[]⟩=(0,⟨3,[3,5,4]⟩):=xItems
 have h5:mrkB xDoc.fin.marks=false:=by decide
 simp [chkDoc,h1,h2,h3,h4,h5,firstE,whenE]
theorem xFlows:flowsD [xTab]=[⟨0,[xTab],true,false,0⟩,⟨5,[exA],false,false,1⟩,⟨4,[],false,false,1⟩]:=by
 simp [flowsD,wItems,wItem_eq,xTab,ItemD.kind,ItemD.rows,wRows,wRow_eq,xRow,RowD.cells,wCells,wCell_eq,xCA,xCB,CellD.id,CellD.flow,exA]
theorem xPlace:placeS [xTab] 4=some (0,0):=by
 have h1:pItems 5 0 [exA]=[]:=by simp [pItems,pItem_eq,exA,ItemD.kind]
 have h2:pItems 4 0 []=[]:=by simp [pItems]
 simp [placeS,pItems,pItem_eq,xTab,ItemD.kind,innerC,xRow,xCA,xCB,RowD.cells,pCells,pCell_eq,CellD.id,CellD.flow,h1,h2,isAt,ItemD.id,ItemD.rows,inRow]
theorem xIds:iItems [xTab]=[3,5,4]:=by
 simp [iItems,iItem_eq,xTab,ItemD.kind,ItemD.id,ItemD.rows,ItemD.flow,iRows,iRow_eq,xRow,RowD.cells,iCells,iCell_eq,xCA,xCB,CellD.id,CellD.flow,exA]
theorem xUnits:∀ k,unS ((flowsD [xTab]).take k)=if k=0 then 0 else if k=1 then 1 else 3:=by
 have l1:lenS [xTab]=1:=by simp [lenS,divS,sumS,unitsS,unitsE,xTab,ItemD.kind]
 have l2:lenS [exA]=2:=by simp [lenS,divS,sumS,uA.1,uA.2]
 have l3:lenS []=0:=rfl;intro k;rw [xFlows]
 match k with
 | 0=>rfl
 | 1=>simp [unS,l1]
 | 2=>simp [unS,l1,l2]
 | n+3=>simp [unS,l1,l2,l3]
end
section
open Go.RowKit
theorem sr35kn13:Srt Tryz.prog 35 [(0,1),(1,1),(2,1),(3,1),(4,5),(9,1),(10,1)] [.int .i64 0,.int .i64 0,.int .i64 0,.string ⟨#[]⟩,.slice none 0 0,.int .i64 0,.int .i64 0,.slice none 0 0,.slice none 0 0,.slice none 0 0,.slice none 0 0]:=⟨by kernel_rfl,by kernel_rfl⟩
theorem sr50kn13:Srt Tryz.prog 50 [(0,1),(1,5),(6,1),(7,4)] [.slice none 0 0,.slice none 0 0,.int .i64 0,.int .i64 0,.slice none 0 0,.slice none 0 0,.slice none 0 0,.slice none 0 0,.slice none 0 0,.slice none 0 0,.slice none 0 0]:=⟨by kernel_rfl,by kernel_rfl⟩
theorem en49kn13:∀ args w,(callFunc 49 args).run Tryz.prog w=.ok (.enter 49 args) w:=enters Tryz.func49 rfl (by kernel_rfl)
theorem en25kn13:∀ args w,(callFunc 25 args).run Tryz.prog w=.ok (.enter 25 args) w:=enters Tryz.func25 rfl (by kernel_rfl)
theorem en30kn13:∀ args w,(callFunc 30 args).run Tryz.prog w=.ok (.enter 30 args) w:=enters Tryz.func30 rfl (by kernel_rfl)
theorem en20kn13:∀ args w,(callFunc 20 args).run Tryz.prog w=.ok (.enter 20 args) w:=enters Tryz.func20 rfl (by kernel_rfl)
theorem eqi54kn13:EqI Tryz.prog 54 [0,1]:=⟨by kernel_rfl,by kernel_rfl,by kernel_rfl,by kernel_rfl,by kernel_rfl⟩
theorem en50kn13:∀ args w,(callFunc 50 args).run Tryz.prog w=.ok (.enter 50 args) w:=enters Tryz.func50 rfl (by kernel_rfl)
theorem en51kn13:∀ args w,(callFunc 51 args).run Tryz.prog w=.ok (.enter 51 args) w:=enters Tryz.func51 rfl (by kernel_rfl)
theorem nil_stg {G:GH}:StgR G ⟨[],[],[],[]⟩ (.slice none 0 0) (.slice none 0 0) (.slice none 0 0) (.slice none 0 0):=⟨RepV.nil_ rfl (by decide),RepV.nil_ rfl (by decide),RepV.nil_ rfl (by decide),RepV.nil_ rfl (by decide)⟩
theorem example13_spec (G:GH) (w0:World) (hG:Hold G w0) :
  Calls Tryz.prog 49 #[] w0 (Ret w0 G fun u G'=>∃ D:DocV,u=D.val∧DocR G' D xDoc):=by
 refine eN [] Tryz.func49 rfl Tryz.ntmps49 rfl rfl hG ?_;intro a H;refine c_seqR (fun _ K1=>?_);refine s_alloc ty50dq H wn rfl ?_;clear H;intro b0 a w hb0 H;refine K1 _ _ ?_;clear K1;refine c_seqR (fun _ K2=>?_);refine s_build sr35kn13 [_,_,_,_,_,_,_,_,_,_,_] H wn rfl rfl rfl rfl ?_;clear H;intro a H;refine s_buildSlice un32run ty35run [_,_,_,_,_,_,_,_,_,_,_] [_,_,_,_,_,_,_,_,_,_,_] H wn rfl rfl rfl rfl rfl (by intro i q h;match i,h with|0,h=>exact h|n+1,h=>simp at h) rfl rfl ?_;clear H;intro b3 a w hb3 H;refine kH H (Ra rfl ?_);clear H;intro a H;refine K2 _ _ ?_;clear K2;refine c_seqR (fun _ K3=>?_);refine kH H (Rm rfl ?_);clear H;intro a H;(iterate 2 refine s_build sr174run [_,_,_,_,_,_,_] H wn rfl rfl rfl rfl ?_;clear H;intro a H);refine s_buildSlice un169run ty174run [_,_,_,_,_,_,_,_,_,_,_,_,_,_] [_,_,_,_,_,_,_,_,_,_,_,_,_,_] H wn rfl rfl rfl rfl rfl (by intro i q h;match i,h with|0,h=>exact h|1,h=>exact h|n+2,h=>simp at h) rfl rfl ?_;clear H;intro b7 a w hb7 H;refine s_build sr171run [_,_,_,_,_,_] H wn rfl rfl rfl rfl ?_;clear H;intro a H;refine s_buildSlice un33run ty171run [_,_,_,_,_,_] [_,_,_,_,_,_] H wn rfl rfl rfl rfl rfl (by intro i q h;match i,h with|0,h=>exact h|n+1,h=>simp at h) rfl rfl ?_;clear H;intro b9 a w hb9 H;refine s_build sr35kn13 [_,_,_,_,_,_,_,_,_,_,_] H wn rfl rfl rfl rfl ?_;clear H;intro a H;refine s_buildSlice un32run ty35run [_,_,_,_,_,_,_,_,_,_,_] [_,_,_,_,_,_,_,_,_,_,_] H wn rfl rfl rfl rfl rfl (by intro i q h;match i,h with|0,h=>exact h|n+1,h=>simp at h) rfl rfl ?_;clear H;intro b11 a w hb11 H;refine s_build sr50kn13 [_,_,_,_,_,_,_,_,_,_,_] H wn rfl rfl rfl rfl ?_;clear H;intro a H;refine s_store ty50dq 4 (vs:=[_,_,_,_,_,_,_,_,_,_,_]) _ H wn rfl rfl rfl rfl rfl rfl rfl rfl ?_;clear H;intro w H;dsimp only [List.set,setRow] at H;refine K3 _ _ ?_;clear K3;refine c_ret ?_;refine (leave1 H Tryz.results49 (.cons (rv_cella ty50dq (cs:=[_,_,_,_,_,_,_,_,_,_,_]) H rfl rfl (H.hp.ocells 4 rfl rfl)) .nil) ?_).1;have H:=H.pickT (Pl:=[_,_,_,_,_]) (Pl':=[_,_,_,_]) [3,2,1,0] (by decide) rfl;obtain ⟨G3,hm3,hr3,H⟩:=H.giveOne (sz:=11) (d:=exA.dat) rfl (RepRow.mkItem (x:=exA) hd0_rep (RepV.nil_ (A:=none) (n:=0) (c:=0) rfl (by decide)) (RepV.nil_ (A:=none) (n:=0) (c:=0) rfl (by decide)));obtain ⟨G7,hm7,hb7,H⟩:=H.giveBox;have rA:RepRow G7 xCA.dat _:=RepRow.mkCell (x:=xCA) hd0_rep (hr3.mono hm7);have rB:RepRow G7 xCB.dat _:=RepRow.mkCell (x:=xCB) hd0_rep (RepV.nil_ (A:=none) (n:=0) (c:=0) rfl (by decide));have hcat:RepCat G7 7 (xRow.cells.map CellD.dat) _:=(RepCat.nil.snoc rA rfl).snoc rB rfl;have hr7:RepV G7 (.sl 7 (xRow.cells.map CellD.dat)) (.slice (some ⟨b7,0,none⟩) 2 2):=RepV.of_row (n:=2) (cap:=2) hb7 rfl (Nat.le_refl _) (show 2≤maxLen by decide) rfl hcat;obtain ⟨G9,hm9,hr9,H⟩:=H.giveOne (sz:=6) (d:=xRow.dat) rfl (RepRow.mkRow (x:=xRow) hd0_rep hr7);obtain ⟨G11,hm11,hr11,H⟩:=H.giveOne (sz:=11) (d:=xTab.dat) rfl (RepRow.mkItem (x:=xTab) hd0_rep (RepV.nil_ (A:=none) (n:=0) (c:=0) rfl (by decide)) hr9);exact H.hp.ret ⟨⟨(some ⟨b11,0,none⟩,1,1),(none,0,0),(none,0,0),(none,0,0),(none,0,0),(none,0,0),(none,0,0),(none,0,0),(none,0,0),0,0⟩,rfl,⟨hr11,hd0_rep,rfl,rfl,RepV.nil_ (c:=0) rfl (show 0≤maxLen by decide),nil_stg⟩⟩
theorem xZt:szR xTab.dat≤100:=by
 have h1:=zItem_eq xTab;have h2:=zRow_eq xRow;have h3:=zCell_eq xCA;have h4:=zCell_eq xCB;have h5:=zItem_eq exA
 have h0:zHead hd0=5:=by simp [zHead_eq,szRs]
 have g1:xTab.head=hd0:=rfl;have g2:xRow.head=hd0:=rfl;have g3:xCA.head=hd0:=rfl;have g4:xCB.head=hd0:=rfl;have g5:exA.head=hd0:=rfl;have s1:xTab.text.size=0:=rfl;have s5:exA.text.size=2:=rfl;have f1:zItems xTab.flow=0:=rfl;have f5:zItems exA.flow=0:=rfl;have f3:zItems xCA.flow=1+szR exA.dat:=rfl;have f4:zItems xCB.flow=0:=rfl;have r1:zRows xTab.rows=1+szR xRow.dat:=rfl;have r5:zRows exA.rows=0:=rfl;have c2:zCells xRow.cells=1+szR xCA.dat+(1+szR xCB.dat):=rfl;rw [g1,h0] at h1;rw [g2,h0] at h2;rw [g3,h0] at h3;rw [g4,h0] at h4;rw [g5,h0] at h5
 omega
theorem xZ:DocZ xDoc:=by
 have h0:zHead hd0=5:=by simp [zHead_eq,szRs]
 have h1:zItems xDoc.flow=1+szR xTab.dat:=rfl;have h2:=xZt;exact ⟨by omega,by show zHead hd0≤_;omega,by decide,(fun x h=>by cases h),by decide,⟨(fun x h=>by cases h),by decide,(fun x h=>by cases h),by decide,(fun x h=>by cases h),by decide,(fun x h=>by cases h)⟩⟩
theorem known13 (G:GH) (w0:World) (hG:Hold G w0):Calls Tryz.prog 15 #[] w0 (Ret w0 G fun u G'=>u=.bool true):=by
 have hz:zItems [xTab]≤4294967296:=xZ.fl;refine eN [] Tryz.func15 rfl Tryz.ntmps15 rfl rfl hG ?_;intro a H;refine c_seqR (fun _ K1=>?_);refine kH H (Ra rfl ?_);clear H;intro a H;refine K1 _ _ ?_;clear K1;refine c_seqR (fun _ K2=>?_);refine s_call en49kn13 H wn rfl (example13_spec _ _ H.hp.ro) rfl ?_;clear H;rintro v5 G5 a w ⟨D,rfl,hR⟩ hm5 H;refine s_alloc ty50dq H wn rfl ?_;clear H;intro b1 a w hb1 H;refine s_store ty50dq 0 (vs:=[_,_,_,_,_,_,_,_,_,_,_]) _ H wn rfl rfl rfl rfl rfl rfl rfl rfl ?_;clear H;intro w H;dsimp only [List.set,setRow] at H;refine K2 _ _ ?_;clear K2;refine c_seqR (fun _ K3=>?_);refine s_loada ty50dq (cs:=[_,_,_,_,_,_,_,_,_,_,_]) H wn rfl rfl (H.hp.ocells 0 rfl rfl) rfl ?_;clear H;intro a H;refine s_call en25kn13 H wn rfl (docFlows_spec _ _ H.hp.ro D [xTab] hR.fl hz) rfl ?_;clear H;rintro v7 G7 a w hfl hm7 H;replace hR:=hR.mono hm7;rw [xFlows] at hfl;obtain ⟨vA,vn,vc,rfl⟩:=hfl.form;obtain rfl:vn=3:=hfl.len;obtain ⟨b,o,cs,rfl,hcl,hrow1,hr⟩:=hfl.at_ 1 [li 5] rfl;obtain ⟨_,_,rfl,⟨rfl,-⟩,rfl⟩:∃ v vs,cs=v :: vs∧RepV G7 (li 5) v∧vs=[]:=hr;obtain ⟨b',o',cs,he,hcl,hrow2,hr⟩:=hfl.at_ 2 [li 4] rfl;obtain ⟨_,_,rfl,⟨rfl,-⟩,rfl⟩:∃ v vs,cs=v :: vs∧RepV G7 (li 4) v∧vs=[]:=hr
 injection he with he
 injection he with e1 e2
 subst e1;subst e2;have c1:gcell G7 b (o+1*1)=some (vi 5):=hrow1 0 _ rfl;have c2:gcell G7 b (o+2*1)=some (vi 4):=hrow2 0 _ rfl;refine kH H (Ra rfl ?_);clear H;intro a H;refine K3 _ _ ?_;clear K3;refine c_seqR (fun _ K4=>?_);refine s_loada ty50dq (cs:=[_,_,_,_,_,_,_,_,_,_,_]) H wn rfl rfl (H.hp.ocells 0 rfl rfl) rfl ?_;clear H;intro a H;refine s_call en30kn13 H wn rfl (place_spec _ _ H.hp.ro D [xTab] 4 hR.fl hz) rfl ?_;clear H;rintro v10 G10 a w rfl hm10 H;replace hR:=hR.mono hm10;replace c1:=gcell_mono hm10 c1;replace c2:=gcell_mono hm10 c2;rw [xPlace] at H;dsimp only [Option.getD,Option.isSome] at H;refine kH H (Rm rfl ?_);clear H;intro a H;(iterate 2 refine s_extract H wn rfl rfl rfl ?_;clear H;intro a H);refine s_alloc ty54plc H wn rfl ?_;clear H;intro b3 a w hb3 H;refine s_store ty54plc 0 (vs:=[_,_]) _ H wn rfl rfl rfl rfl rfl rfl rfl rfl ?_;clear H;intro w H;dsimp only [List.set,setRow] at H;refine kH H (Ra rfl ?_);clear H;intro a H;refine K4 _ _ ?_;clear K4;refine c_seqR (fun _ K5=>?_);refine s_loada ty50dq (cs:=[_,_,_,_,_,_,_,_,_,_,_]) H wn rfl rfl (H.hp.ocells 1 rfl rfl) rfl ?_;clear H;intro a H;refine s_call en20kn13 H wn rfl (check_doc _ _ H.hp.ro D xDoc hR xZ) rfl ?_;clear H;rintro v14 G14 a w rfl hm14 H;replace hR:=hR.mono hm14;replace c1:=gcell_mono hm14 c1;replace c2:=gcell_mono hm14 c2;rw [xChk] at H;refine kH H (Rc rfl (Rm rfl ?_));clear H;intro a H;refine s_split H 16 rfl ?_ ?_
 ·intro h16
  try have p16:=of_decide_eq_true h16
  refine s_move H (wg H rfl rfl h16) rfl rfl ?_;clear H;intro a H;refine s_len un38l14c H (wg H rfl rfl h16) rfl rfl ?_;clear H;intro a H;refine s_cmp H (wg H rfl rfl h16) rfl rfl rfl rfl ?_;clear H;intro a H;refine s_pick_t H wn rfl h16 rfl rfl ?_;clear H;intro a H;refine kH H (Rm rfl ?_);clear H;intro a H;refine s_split H 21 rfl ?_ ?_
  ·intro h21
   try have p21:=of_decide_eq_true h21
   refine s_move H (wg H rfl rfl h21) rfl rfl ?_;clear H;intro a H;refine s_index un38l14c ty3run 1 H (wg H rfl rfl h21) rfl rfl rfl (by omega) rfl ?_;clear H;intro a H;refine s_load ty3run H (wg H rfl rfl h21) rfl (H.hp.gcell c1) rfl ?_;clear H;intro a H;refine s_cmp H (wg H rfl rfl h21) rfl rfl rfl rfl ?_;clear H;intro a H;refine s_pick_t H wn rfl h21 rfl rfl ?_;clear H;intro a H;refine kH H (Rm rfl ?_);clear H;intro a H;refine s_split H 27 rfl ?_ ?_
   ·intro h27
    try have p27:=of_decide_eq_true h27
    refine s_move H (wg H rfl rfl h27) rfl rfl ?_;clear H;intro a H;refine s_index un38l14c ty3run 2 H (wg H rfl rfl h27) rfl rfl rfl (by omega) rfl ?_;clear H;intro a H;refine s_load ty3run H (wg H rfl rfl h27) rfl (H.hp.gcell c2) rfl ?_;clear H;intro a H;refine s_cmp H (wg H rfl rfl h27) rfl rfl rfl rfl ?_;clear H;intro a H;refine s_pick_t H wn rfl h27 rfl rfl ?_;clear H;intro a H;refine kH H (Rm rfl ?_);clear H;intro a H;refine s_split H 33 rfl ?_ ?_
    ·intro h33
     try have p33:=of_decide_eq_true h33
     refine s_move H (wg H rfl rfl h33) rfl rfl ?_;clear H;intro a H;refine s_pick_t H wn rfl h33 rfl rfl ?_;clear H;intro a H;refine kH H (Rm rfl ?_);clear H;intro a H;refine s_split H 36 rfl ?_ ?_
     ·intro h36
      try have p36:=of_decide_eq_true h36
      refine s_loada ty54plc (cs:=[_,_]) H (wg H rfl rfl h36) rfl rfl (H.hp.ocells 0 rfl rfl) rfl ?_;clear H;intro a H;refine s_build sr54plc [_,_] H (wg H rfl rfl h36) rfl rfl rfl rfl ?_;clear H;intro a H;refine s_eqagg eqi54kn13 H (wg H rfl rfl h36) rfl rfl rfl rfl ?_;clear H;intro a H;refine s_pick_t H wn rfl h36 rfl rfl ?_;clear H;intro a H;refine kH H (Rm rfl ?_);clear H;intro a H;refine s_split H 41 rfl ?_ ?_
      ·intro h41
       try have p41:=of_decide_eq_true h41
       refine s_loada ty50dq (cs:=[_,_,_,_,_,_,_,_,_,_,_]) H (wg H rfl rfl h41) rfl rfl (H.hp.ocells 1 rfl rfl) rfl ?_;clear H;intro a H;refine s_call en50kn13 H (wg H rfl rfl h41) rfl (fresh_spec _ _ H.hp.ro D [xTab] hR.fl hz (by rw [xIds];decide) (by rw [xIds];decide)) rfl ?_;clear H;rintro v43 G43 a w rfl hm43 H;replace hR:=hR.mono hm43;rw [xIds] at H;refine s_cmp H (wg H rfl rfl h41) rfl rfl rfl rfl ?_;clear H;intro a H;refine s_pick_t H wn rfl h41 rfl rfl ?_;clear H;intro a H;refine kH H (Rm rfl ?_);clear H;intro a H;refine s_split H 46 rfl ?_ ?_
       ·intro h46
        try have p46:=of_decide_eq_true h46
        refine s_loada ty50dq (cs:=[_,_,_,_,_,_,_,_,_,_,_]) H (wg H rfl rfl h46) rfl rfl (H.hp.ocells 1 rfl rfl) rfl ?_;clear H;intro a H
        refine s_call en51kn13 H (wg H rfl rfl h46) rfl (units_doc _ _ H.hp.ro D [xTab] hR.fl hz (fun k _=>by rw [xUnits];(repeat' split) <;> decide)) rfl ?_;clear H
        rintro v48 G48 a w rfl hm48 H;rw [show unS (flowsD [xTab])=3 by have:=xUnits 3;rw [List.take_of_length_le (by rw [xFlows];decide)] at this;exact this] at H;refine s_cmp H (wg H rfl rfl h46) rfl rfl rfl rfl ?_;clear H;intro a H;refine s_pick_t H wn rfl h46 rfl rfl ?_;clear H;intro a H;refine kH H (Ra rfl ?_);clear H;intro a H;refine K5 _ _ ?_;clear K5;refine c_ret ?_;refine lv H Tryz.results15 rfl ?_;exact H.hp.ret rfl
       intro h46
       try have p46:=of_decide_eq_false h46
       exact absurd h46 (by decide)
      intro h41
      try have p41:=of_decide_eq_false h41
      exact absurd h41 (by decide)
     intro h36
     try have p36:=of_decide_eq_false h36
     exact absurd h36 (by decide)
    intro h33
    try have p33:=of_decide_eq_false h33
    exact absurd h33 (by decide)
   intro h27
   try have p27:=of_decide_eq_false h27
   exact absurd h27 (by decide)
  intro h21
  try have p21:=of_decide_eq_false h21
  exact absurd h21 (by decide)
 intro h16
 try have p16:=of_decide_eq_false h16
 exact absurd h16 (by decide)
end
section
open Go.RowKit
theorem en15dms:∀ args w,(callFunc 15 args).run Tryz.prog w=.ok (.enter 15 args) w:=enters Tryz.func15 rfl (by kernel_rfl)
theorem en16dms:∀ args w,(callFunc 16 args).run Tryz.prog w=.ok (.enter 16 args) w:=enters Tryz.func16 rfl (by kernel_rfl)
theorem en18dms:∀ args w,(callFunc 18 args).run Tryz.prog w=.ok (.enter 18 args) w:=enters Tryz.func18 rfl (by kernel_rfl)
theorem settings_true (G:GH) (w0:World) (hG:Hold G w0) (s:StgD) (a b c d:Value) (hR:StgR G s a b c d) (hsl:s.styles.length≤4294967296) (hz:StgZ s) :
  Calls Tryz.prog 4 #[.agg #[a,b,c,d]] w0 (Ret w0 G fun u G'=>u=.bool true):=by
 obtain ⟨sA,sn,sc,rfl⟩:=hR.st.form;obtain ⟨lA,ln,lc,rfl⟩:=hR.li.form;obtain ⟨cA,cn,cc,rfl⟩:=hR.cm.form;obtain ⟨vA,vn,vc,rfl⟩:=hR.va.form;refine eN [(0,_)] Tryz.func4 rfl Tryz.ntmps4 rfl rfl hG ?_;intro a H;refine c_seqR (fun _ K1=>?_);refine s_box (cs:=[_,_,_,_]) H wn rfl rfl rfl ?_;clear H;intro b1 a w hb1 H;refine kH H (Ra rfl ?_);clear H;intro a H;refine K1 _ _ ?_;clear K1;refine c_seq (fun _ K2=>?_);refine c_seq (fun _ K3=>?_);obtain ⟨Ga,hma,hb1',H⟩:=H.giveBox
 have hc0:gcell Ga b1 0=some (.slice sA sn sc):=by unfold gcell;rw [hb1'];rfl
 have hc1:gcell Ga b1 1=some (.slice lA ln lc):=by unfold gcell;rw [hb1'];rfl
 have hc2:gcell Ga b1 2=some (.slice cA cn cc):=by unfold gcell;rw [hb1'];rfl
 have hc3:gcell Ga b1 3=some (.slice vA vn vc):=by unfold gcell;rw [hb1'];rfl
 have hst:=hR.mono hma
 have hrow:∀ j v,[(.slice sA sn sc:Value),.slice lA ln lc,.slice cA cn cc,.slice vA vn vc][j]?=some v→gcell Ga b1 (0+j)=some v:=fun j v hj=>by
  match j,hj with
  | 0,hj=>cases hj;exact hc0
  | 1,hj=>cases hj;exact hc1
  | 2,hj=>cases hj;exact hc2
  | 3,hj=>cases hj;exact hc3
 refine c_region ?_;refine s_call en15dms H wn rfl (known13 _ _ H.hp.ro) rfl ?_;clear H;rintro v3 G3 a w rfl hm3 H;refine kH H (Rn rfl (Rm rfl ?_));clear H;intro a H;refine s_split H 5 rfl ?_ ?_
 ·intro h5
  try have p5:=of_decide_eq_true h5
  exact absurd h5 (by decide)
 intro h5
 try have p5:=of_decide_eq_false h5
 refine s_loada ty46chd H (wg H rfl rfl h5) rfl rfl (fun j v hj=>H.hp.gcell (gcell_mono hm3 (hrow j v hj))) rfl ?_;clear H;intro a H;refine s_call en16dms H (wg H rfl rfl h5) rfl (smallStg_spec _ _ H.hp.ro s _ _ _ _ (hst.mono hm3) hsl hz) rfl ?_;clear H;rintro v7 G7 a w ⟨b7,rfl⟩ hm7 H;refine s_not H (wg H rfl rfl h5) rfl rfl ?_;clear H;intro a H;refine s_pick_f H wn rfl h5 rfl rfl ?_;clear H;intro a H;refine wl_nil ?_;refine K3 _ _ ?_;clear K3;refine c_cond H rfl ?_ ?_
 ·intro h9
  try have p9:=of_decide_eq_true h9
  refine c_seqR (fun _ K4=>?_);refine s_call en15dms H wn rfl (known13 _ _ H.hp.ro) rfl ?_;clear H;rintro v10 G10 a w rfl hm10 H;refine kH H (Ra rfl ?_);clear H;intro a H;refine K4 _ _ ?_;clear K4;refine c_ret ?_;refine lv H Tryz.results4 rfl ?_;exact H.hp.ret (by first|rfl|exact congrArg Value.bool (decide_eq_true rfl))
 intro h9
 try have p9:=of_decide_eq_false h9
 refine c_skip ?_;refine K2 _ _ ?_;clear K2;refine c_seq (fun _ K5=>?_);refine c_drawI (hmx) [[],[0],[],[0,1,2],[0,1,2,3],[0,1,2,3,4]] [4,5] (by kernel_rfl) (by kernel_rfl) (fun (ix_:Nat) (v:Value) (G:GH)=>match ix_ with|0=>v=.agg #[.slice sA sn sc,.slice lA ln lc,.slice cA cn cc,.slice vA vn vc]|1=>v=vi (chkStg s)|2=>v=.agg #[.slice sA sn sc,.slice lA ln lc,.slice cA cn cc,.slice vA vn vc]|3=>v=vi (chkStg s)|_=>True) (fun _ _ _ _ _ h=>h) H ?_ ?_
 ·clear H;refine al4 ?_ ?_ ?_ ?_ (allI_cons ?_ (allI_cons ?_ allI_nil))
  ·refine Op0 rfl fun _ a w G1 hG HT H fin=>?_;refine s_loada ty46chd H wn rfl rfl (fun j v hj=>H.hp.gcell (gcell_mono hG (gcell_mono hm7 (gcell_mono hm3 (hrow j v hj))))) rfl ?_;clear H;intro a H;exact fin H iJ rfl
  ·refine Op1 0 11 rfl rfl fun _ a w G1 hG HT H fin=>?_;refine s_call en17chd H wn rfl (checkSettings_spec _ _ H.hp.ro s _ _ _ _ (((hst.mono hm3).mono hm7).mono hG) hz) rfl ?_;clear H;rintro v12 G12 a w rfl hGm12 H;exact fin H hGm12 (rfl)
  ·refine Op0 rfl fun _ a w G1 hG HT H fin=>?_;refine s_loada ty46chd H wn rfl rfl (fun j v hj=>H.hp.gcell (gcell_mono hG (gcell_mono hm7 (gcell_mono hm3 (hrow j v hj))))) rfl ?_;clear H;intro a H;exact fin H iJ rfl
  ·refine Op1 2 13 rfl rfl fun _ a w G1 hG HT H fin=>?_;refine s_call en18dms H wn rfl (mset_spec _ _ H.hp.ro s _ _ _ _ (((hst.mono hm3).mono hm7).mono hG) hz) rfl ?_;clear H;rintro v14 G14 a w rfl hGm14 H;exact fin H hGm14 (rfl)
  ·exact opB rfl
  exact opB rfl
 clear H;intro a w G hGm3 H hv;obtain ⟨u12,hu12,hp12⟩:=hv 1 12 (by decide) rfl;obtain rfl:u12=vi (chkStg s):=hp12;have H:=H.addS hu12;obtain ⟨u14,hu14,hp14⟩:=hv 3 14 (by decide) rfl;obtain rfl:u14=vi (chkStg s):=hp14;have H:=H.addS hu14;clear hv;refine kH H (Rc rfl (Ra rfl ?_));clear H;intro a H;refine wl_nil ⟨rfl,?_⟩;refine K5 _ _ ?_;clear K5;refine c_ret ?_;refine lv H Tryz.results4 rfl ?_;exact H.hp.ret (by first|rfl|exact congrArg Value.bool (decide_eq_true rfl))
end
section
open Go.ChangeShapes Go.RowKit Go.Deep
abbrev heapG (W:World):GH:=fun k=>W.heap[k]?
theorem gcell_heap {W:World} {b o:Nat} {v:Value} (h:W.cell? ⟨b,o,none⟩=some v):gcell (heapG W) b o=some v:=by
 unfold World.cell? at h
 unfold gcell heapG
 split at h
 ·rename_i c e f hh
  simp only at hh
  rw [hh];simpa using h
 cases h
theorem list_of {α:Type} {p:Nat→α→Prop}:∀ n:Nat,(∀ i,i < n→∃ x,p i x)→∃ l:List α,l.length=n∧∀ i x,l[i]?=some x→p i x
 | 0,_=>⟨[],rfl,fun i x h=>by simp at h⟩
 | n+1,h=>by
  obtain ⟨l,hl,hp⟩:=list_of n (fun i hi=>h i (by omega));obtain ⟨x,hx⟩:=h n (by omega);refine ⟨l++[x],by simp [hl],fun i y hy=>?_⟩
  by_cases hi:i < l.length
  ·exact hp i y (by rwa [List.getElem?_append_left hi] at hy)
  rw [List.getElem?_append_right (by omega)] at hy
  have hin:i - l.length=0:=by
   have:=(List.getElem?_eq_some_iff.1 hy).1
   simp at this;omega
  rw [hin] at hy
  simp only [List.getElem?_cons_zero,Option.some.injEq] at hy
  subst hy;rw [show i=n by omega];exact hx
theorem bulk_pos {H:Type} (d:DataW H):1≤Rows.uptoBulk d:=by
 cases d <;> (try simp only [Rows.uptoBulk]) <;> (try omega)
 rename_i x;cases x <;> simp only [Rows.uptoBulk] <;> omega
theorem bulk_rows {H ρ:Type} {dat:ρ→List Dat}:∀ (rs:List ρ) (D:Nat→DataW H),(∀ i r,rs[i]?=some r→szR (dat r)+1≤8*Rows.uptoBulk (D i))→szRs (rs.map dat)≤8*Rows.uptoBulkAll ((List.range rs.length).map D)
 | [],D,_=>Nat.zero_le _
 | r :: rs,D,h=>by
  have h0:=h 0 r rfl;have hp:=bulk_pos (D 0);have ih:=bulk_rows rs (fun i=>D (i+1)) (fun i r hr=>h (i+1) r (by simpa using hr));rw [List.length_cons,List.range_succ_eq_map]
  simp only [List.map_cons,List.map_map,szRs,Rows.uptoBulkAll]
  have e:(List.map (D ∘ Nat.succ) (List.range rs.length))=(List.map (fun i=>D (i+1)) (List.range rs.length)):=rfl;rw [e];omega
theorem bulk_mem {H:Type} {D:Nat→DataW H}:∀ {n i:Nat},i < n→Rows.uptoBulk (D i)≤Rows.uptoBulkAll ((List.range n).map D)
 | 0,i,h=>absurd h (by omega)
 | n+1,i,h=>by
  have key:∀ (l m:List (DataW H)),Rows.uptoBulkAll (l++m)=Rows.uptoBulkAll l+Rows.uptoBulkAll m:=by
   intro l m
   induction l with
   | nil=>simp [Rows.uptoBulkAll]
   | cons x l ih=>simp only [List.cons_append,Rows.uptoBulkAll,ih];omega
  rw [List.range_succ,List.map_append,key]
  by_cases hi:i < n
  ·have:=bulk_mem (D:=D) hi;omega
  have:i=n:=by omega
  subst this
  simp only [List.map_cons,List.map_nil,Rows.uptoBulkAll];omega
section
variable {H:Type} {enc:TypeId × Value→H} {P:Program} {W:World} {base:Nat} {spare:Nat→Bool} {held:Bool}
/-- A slice whose elements read as rows. -/
theorem rd_slice {ρ:Type} {dat:ρ→List Dat} {t e:TypeId} {sz:Nat} (hsz:0 < sz) {fuel:Nat} {cs:List Value} {x:DataW H × List MemPlace} (ht:P.underlying t=some (.slice e)) (hc:P.cellsOf e=sz) (h:DataW.trod enc P W base spare held fuel t cs=some x)
  (row:∀ n cs' D Pl,DataW.trod enc P W base spare held n e cs'=some (D,Pl)→Rows.uptoBulk D < Rows.uptoBulk x.1→∃ r:ρ,RepRow (heapG W) (dat r) cs'∧szR (dat r)+1≤8*Rows.uptoBulk D) :
  ∃ (rs:List ρ) (v:Value),cs=[v]∧RepV (heapG W) (.sl sz (rs.map dat)) v∧szRs (rs.map dat)+8≤8*Rows.uptoBulk x.1:=by
 rcases open_slice ht h with ⟨rfl,rfl⟩|⟨a,len,cap,m,n,D,Pl,rfl,hb,hl,hm,hmm,rfl,hx⟩
 ·exact ⟨[],_,rfl,RepV.nil_ rfl (by decide),by simp [szRs,Rows.uptoBulk]⟩
 obtain ⟨rs,hrl,hrs⟩:=list_of (p:=fun i (r:ρ)=>∃ cs',W.cells? base (a.add (i*sz)) sz=some cs'∧RepRow (heapG W) (dat r) cs'∧szR (dat r)+1≤8*Rows.uptoBulk (D i)) len (fun i hi=>by
  have him:i < m:=by rw [hmm];split <;> omega
  obtain ⟨cs',h1,h2⟩:=hx i him;rw [hc] at h1;have hb1:=bulk_mem (D:=D) hi;obtain ⟨r,hr1,hr2⟩:=row n cs' (D i) (Pl i) h2 (by simp only [Rows.uptoBulk];omega)
  exact ⟨r,cs',h1,hr1,hr2⟩)
 refine ⟨rs,_,rfl,?_,?_⟩
 ·simp only [RepV,List.length_map]
  refine ⟨some a,cap,by rw [hrl],by omega,hm,fun hne=>?_⟩;obtain ⟨b,off,spot⟩:=a
  have hlen:0 < rs.length:=by cases rs with|nil=>simp at hne|cons _ _=>simp
  obtain ⟨cs0,h1,-,-⟩:=hrs 0 rs[0] (List.getElem?_eq_getElem hlen);obtain ⟨-,hl0,hg0⟩:=World.cells?_some h1
  have hspot:spot=none:=by
   have h3:=hg0 0 hsz;rw [List.getElem?_eq_getElem (by omega)] at h3
   simpa [Addr.add] using World.cell?_spot h3
  subst hspot;refine ⟨b,off,rfl,RepRows.mk fun k r hk=>?_⟩;rw [List.getElem?_map] at hk;obtain ⟨y,hy,rfl⟩:=Option.map_eq_some_iff.1 hk;obtain ⟨cs',h2,h3,-⟩:=hrs k y hy;obtain ⟨-,hl1,hg1⟩:=World.cells?_some h2;refine ⟨cs',hl1,fun j u hj=>gcell_heap ?_,h3⟩
  have hj2:j < sz:=by rw [← hl1];exact (List.getElem?_eq_some_iff.1 hj).1
  have:=hg1 j hj2;rw [add_add,Go.WideShapes.add_plain] at this;rw [show off+k*sz+j=off+(k*sz+j) by omega,this];exact hj
 have:=bulk_rows rs D (fun i r hr=>(hrs i r hr).choose_spec.2.2);rw [hrl] at this
 simp only [Rows.uptoBulk];omega
end
/-- A struct's fields: their types and where they begin. -/
structure StF (P:Program) (t:TypeId) (sz:Nat) (fs:List (TypeId × Nat × Nat)):Prop where
 und:P.underlying t=some (.struct (P.fieldsOf t))
 cells:P.cellsOf t=sz
 flds:(P.fieldsOf t).toList.map (fun f=>(f.type,f.offset,P.cellsOf f.type))=fs
theorem rd_struct {P:Program} {H:Type} {enc:TypeId × Value→H} {W:World} {base:Nat} {spare:Nat→Bool} {held:Bool} {t:TypeId} {sz fuel:Nat} {fs:List (TypeId × Nat × Nat)} {cs:List Value} {x:DataW H × List MemPlace} (hs:StF P t sz fs) (h:DataW.trod enc P W base spare held fuel t cs=some x) :
  ∃ (xs:List (DataW H × List MemPlace)) (n:Nat),x.1=.agg (xs.map (·.1))∧cs.length=sz∧xs.length=fs.length∧∀ (i:Nat) (ti:TypeId) (off k:Nat),fs[i]?=some (ti,off,k)→DataW.trod enc P W base spare held n ti ((cs.drop off).take k)=xs[i]?:=by
 obtain ⟨xs,n,-,rfl,hl,hxl,hf⟩:=DataW.trod_struct hs.und h;refine ⟨xs,n,rfl,by rw [hl,hs.cells],by rw [hxl,← hs.flds];simp,fun i ti off k hi=>?_⟩;rw [← hs.flds,List.getElem?_map] at hi;obtain ⟨f,hf1,hf2⟩:=Option.map_eq_some_iff.1 hi
 simp only [Prod.mk.injEq] at hf2
 obtain ⟨rfl,rfl,rfl⟩:=hf2;exact hf i f (by simpa using hf1)
section
variable {H:Type} {enc:TypeId × Value→H} {W:World} {base:Nat} {spare:Nat→Bool} {held:Bool}
theorem sfProp:StF Tryz.prog 40 2 [(3,0,1),(3,1,1)]:=⟨by kernel_rfl,by kernel_rfl,by kernel_rfl⟩
theorem rd_prop {n:Nat} {cs:List Value} {D:DataW H} {Pl:List MemPlace} (h:DataW.trod enc Tryz.prog W base spare held n 40 cs=some (D,Pl)):∃ r:PropD,RepRow (heapG W) r.dat cs∧szR r.dat+1≤8*Rows.uptoBulk D:=by
 obtain ⟨xs,m,hx,hl,hxl,hf⟩:=rd_struct sfProp h
 match cs,hl,xs,hxl with
 | [c0,c1],_,[y0,y1],_ =>
  have h0:=hf 0 _ _ _ rfl;have h1:=hf 1 _ _ _ rfl;obtain ⟨k0,e0,d0,-⟩:=DataW.trod_int Tryz.underlying3 h0;obtain ⟨k1,e1,d1,-⟩:=DataW.trod_int Tryz.underlying3 h1
  simp at e0 e1
  subst e0 e1
  simp only at hx
  refine ⟨⟨k0,k1⟩,?_,?_⟩
  ·simp [RepRow,PropD.dat,RepV,Value.oneCell']
  rw [hx];simp [d0,d1,PropD.dat,szR,szD,Rows.uptoBulk,Rows.uptoBulkAll]
theorem cellsProp:Tryz.prog.cellsOf 40=2:=by kernel_rfl
end
end
section
open Go.ChangeShapes Go.RowKit Go.Deep
theorem szRs_in {ρ:Type} {dat:ρ→List Dat}:∀ {l:List ρ} {x:ρ},x∈l→szR (dat x)+1≤szRs (l.map dat)
 | y :: l,x,h=>by
  rw [List.map_cons,szRs]
  rcases List.mem_cons.1 h with rfl|h
  ·omega
  have:=szRs_in (dat:=dat) h;omega
section
variable {H:Type} {enc:TypeId × Value→H} {W:World} {base:Nat} {spare:Nat→Bool} {held:Bool}
theorem sfStyle:StF Tryz.prog 100 6 [(3,0,1),(3,1,1),(9,2,1),(3,3,1),(3,4,1),(25,5,1)]:=⟨by kernel_rfl,by kernel_rfl,by kernel_rfl⟩
theorem cellsStyle:Tryz.prog.cellsOf 100=6:=by kernel_rfl
theorem rd_style {n:Nat} {cs:List Value} {D:DataW H} {Pl:List MemPlace} (h:DataW.trod enc Tryz.prog W base spare held n 100 cs=some (D,Pl)):∃ r:StyleD,RepRow (heapG W) r.dat cs∧szR r.dat+1≤8*Rows.uptoBulk D:=by
 obtain ⟨xs,m,hx,hl,hxl,hf⟩:=rd_struct sfStyle h
 match cs,hl,xs,hxl with
 | [c0,c1,c2,c3,c4,c5],_,[y0,y1,y2,y3,y4,y5],_ =>
  have h0:=hf 0 _ _ _ rfl;have h1:=hf 1 _ _ _ rfl;have h2:=hf 2 _ _ _ rfl;have h3:=hf 3 _ _ _ rfl;have h4:=hf 4 _ _ _ rfl;have h5:=hf 5 _ _ _ rfl
  simp only at hx
  have hD:Rows.uptoBulk D=Rows.uptoBulk y0.1+(Rows.uptoBulk y1.1+(Rows.uptoBulk y2.1+(Rows.uptoBulk y3.1+(Rows.uptoBulk y4.1+(Rows.uptoBulk y5.1+0)))))+1:=by rw [hx];simp only [List.map_cons,List.map_nil,Rows.uptoBulk,Rows.uptoBulkAll]
  obtain ⟨k0,e0,d0,-⟩:=DataW.trod_int Tryz.underlying3 h0;obtain ⟨k1,e1,d1,-⟩:=DataW.trod_int Tryz.underlying3 h1;obtain ⟨k2,e2,d2,-⟩:=DataW.trod_string Tryz.underlying9 h2;obtain ⟨k3,e3,d3,-⟩:=DataW.trod_int Tryz.underlying3 h3;obtain ⟨k4,e4,d4,-⟩:=DataW.trod_int Tryz.underlying3 h4;obtain ⟨k5,q5,e5,r5,d5⟩:=rd_slice (dat:=PropD.dat) (sz:=2) (by omega) Tryz.underlying25 cellsProp h5 (fun n cs' D Pl hh _=>rd_prop hh)
  simp at e0 e1 e2 e3 e4 e5
  subst e0 e1 e2 e3 e4 e5
  have b0:Rows.uptoBulk y0.1=1:=by rw [d0];rfl
  have b1:Rows.uptoBulk y1.1=1:=by rw [d1];rfl
  have b2:Rows.uptoBulk y2.1=k2.size+1:=by rw [d2];show k2.data.toList.length+1=k2.data.size+1;rw [Array.length_toList]
  have b3:Rows.uptoBulk y3.1=1:=by rw [d3];rfl
  have b4:Rows.uptoBulk y4.1=1:=by rw [d4];rfl
  refine ⟨⟨k0,k1,k2,k3,k4,k5⟩,?_,?_⟩
  ·exact ⟨_,_,rfl,(by simp [RepV,Value.oneCell']),⟨_,_,rfl,(by simp [RepV,Value.oneCell']),⟨_,_,rfl,(by simp [RepV,Value.oneCell']),⟨_,_,rfl,(by simp [RepV,Value.oneCell']),⟨_,_,rfl,(by simp [RepV,Value.oneCell']),⟨_,_,rfl,r5,rfl⟩⟩⟩⟩⟩⟩
  simp only [StyleD.dat,szR,szD];omega
theorem sfLv:StF Tryz.prog 102 4 [(3,0,1),(3,1,1),(9,2,1),(3,3,1)]:=⟨by kernel_rfl,by kernel_rfl,by kernel_rfl⟩
theorem cellsLv:Tryz.prog.cellsOf 102=4:=by kernel_rfl
theorem rd_level {n:Nat} {cs:List Value} {D:DataW H} {Pl:List MemPlace} (h:DataW.trod enc Tryz.prog W base spare held n 102 cs=some (D,Pl)):∃ r:LvD,RepRow (heapG W) r.dat cs∧szR r.dat+1≤8*Rows.uptoBulk D:=by
 obtain ⟨xs,m,hx,hl,hxl,hf⟩:=rd_struct sfLv h
 match cs,hl,xs,hxl with
 | [c0,c1,c2,c3],_,[y0,y1,y2,y3],_ =>
  have h0:=hf 0 _ _ _ rfl;have h1:=hf 1 _ _ _ rfl;have h2:=hf 2 _ _ _ rfl;have h3:=hf 3 _ _ _ rfl
  simp only at hx
  have hD:Rows.uptoBulk D=Rows.uptoBulk y0.1+(Rows.uptoBulk y1.1+(Rows.uptoBulk y2.1+(Rows.uptoBulk y3.1+0)))+1:=by rw [hx];simp only [List.map_cons,List.map_nil,Rows.uptoBulk,Rows.uptoBulkAll]
  obtain ⟨k0,e0,d0,-⟩:=DataW.trod_int Tryz.underlying3 h0;obtain ⟨k1,e1,d1,-⟩:=DataW.trod_int Tryz.underlying3 h1;obtain ⟨k2,e2,d2,-⟩:=DataW.trod_string Tryz.underlying9 h2;obtain ⟨k3,e3,d3,-⟩:=DataW.trod_int Tryz.underlying3 h3
  simp at e0 e1 e2 e3
  subst e0 e1 e2 e3
  have b0:Rows.uptoBulk y0.1=1:=by rw [d0];rfl
  have b1:Rows.uptoBulk y1.1=1:=by rw [d1];rfl
  have b2:Rows.uptoBulk y2.1=k2.size+1:=by rw [d2];show k2.data.toList.length+1=k2.data.size+1;rw [Array.length_toList]
  have b3:Rows.uptoBulk y3.1=1:=by rw [d3];rfl
  refine ⟨⟨k0,k1,k2,k3⟩,?_,?_⟩
  ·exact ⟨_,_,rfl,(by simp [RepV,Value.oneCell']),⟨_,_,rfl,(by simp [RepV,Value.oneCell']),⟨_,_,rfl,(by simp [RepV,Value.oneCell']),⟨_,_,rfl,(by simp [RepV,Value.oneCell']),rfl⟩⟩⟩⟩
  simp only [LvD.dat,szR,szD];omega
theorem sfLi:StF Tryz.prog 105 2 [(3,0,1),(103,1,1)]:=⟨by kernel_rfl,by kernel_rfl,by kernel_rfl⟩
theorem cellsLi:Tryz.prog.cellsOf 105=2:=by kernel_rfl
theorem rd_list {n:Nat} {cs:List Value} {D:DataW H} {Pl:List MemPlace} (h:DataW.trod enc Tryz.prog W base spare held n 105 cs=some (D,Pl)):∃ r:LiD,RepRow (heapG W) r.dat cs∧szR r.dat+1≤8*Rows.uptoBulk D:=by
 obtain ⟨xs,m,hx,hl,hxl,hf⟩:=rd_struct sfLi h
 match cs,hl,xs,hxl with
 | [c0,c1],_,[y0,y1],_ =>
  have h0:=hf 0 _ _ _ rfl;have h1:=hf 1 _ _ _ rfl
  simp only at hx
  have hD:Rows.uptoBulk D=Rows.uptoBulk y0.1+(Rows.uptoBulk y1.1+0)+1:=by rw [hx];simp only [List.map_cons,List.map_nil,Rows.uptoBulk,Rows.uptoBulkAll]
  obtain ⟨k0,e0,d0,-⟩:=DataW.trod_int Tryz.underlying3 h0;obtain ⟨k1,q1,e1,r1,d1⟩:=rd_slice (dat:=LvD.dat) (sz:=4) (by omega) Tryz.underlying103 cellsLv h1 (fun n cs' D Pl hh _=>rd_level hh)
  simp at e0 e1
  subst e0 e1
  have b0:Rows.uptoBulk y0.1=1:=by rw [d0];rfl
  refine ⟨⟨k0,k1⟩,?_,?_⟩
  ·exact ⟨_,_,rfl,(by simp [RepV,Value.oneCell']),⟨_,_,rfl,r1,rfl⟩⟩
  simp only [LiD.dat,szR,szD];omega
theorem sfCm:StF Tryz.prog 107 6 [(3,0,1),(3,1,1),(9,2,1),(3,3,1),(9,4,1),(4,5,1)]:=⟨by kernel_rfl,by kernel_rfl,by kernel_rfl⟩
theorem cellsCm:Tryz.prog.cellsOf 107=6:=by kernel_rfl
theorem rd_comment {n:Nat} {cs:List Value} {D:DataW H} {Pl:List MemPlace} (h:DataW.trod enc Tryz.prog W base spare held n 107 cs=some (D,Pl)):∃ r:CmD,RepRow (heapG W) r.dat cs∧szR r.dat+1≤8*Rows.uptoBulk D:=by
 obtain ⟨xs,m,hx,hl,hxl,hf⟩:=rd_struct sfCm h
 match cs,hl,xs,hxl with
 | [c0,c1,c2,c3,c4,c5],_,[y0,y1,y2,y3,y4,y5],_ =>
  have h0:=hf 0 _ _ _ rfl;have h1:=hf 1 _ _ _ rfl;have h2:=hf 2 _ _ _ rfl;have h3:=hf 3 _ _ _ rfl;have h4:=hf 4 _ _ _ rfl;have h5:=hf 5 _ _ _ rfl
  simp only at hx
  have hD:Rows.uptoBulk D=Rows.uptoBulk y0.1+(Rows.uptoBulk y1.1+(Rows.uptoBulk y2.1+(Rows.uptoBulk y3.1+(Rows.uptoBulk y4.1+(Rows.uptoBulk y5.1+0)))))+1:=by rw [hx];simp only [List.map_cons,List.map_nil,Rows.uptoBulk,Rows.uptoBulkAll]
  obtain ⟨k0,e0,d0,-⟩:=DataW.trod_int Tryz.underlying3 h0;obtain ⟨k1,e1,d1,-⟩:=DataW.trod_int Tryz.underlying3 h1;obtain ⟨k2,e2,d2,-⟩:=DataW.trod_string Tryz.underlying9 h2;obtain ⟨k3,e3,d3,-⟩:=DataW.trod_int Tryz.underlying3 h3;obtain ⟨k4,e4,d4,-⟩:=DataW.trod_string Tryz.underlying9 h4;obtain ⟨k5,e5,d5⟩:=DataW.trod_bool Tryz.underlying4 h5
  simp at e0 e1 e2 e3 e4 e5
  subst e0 e1 e2 e3 e4 e5
  have b0:Rows.uptoBulk y0.1=1:=by rw [d0];rfl
  have b1:Rows.uptoBulk y1.1=1:=by rw [d1];rfl
  have b2:Rows.uptoBulk y2.1=k2.size+1:=by rw [d2];show k2.data.toList.length+1=k2.data.size+1;rw [Array.length_toList]
  have b3:Rows.uptoBulk y3.1=1:=by rw [d3];rfl
  have b4:Rows.uptoBulk y4.1=k4.size+1:=by rw [d4];show k4.data.toList.length+1=k4.data.size+1;rw [Array.length_toList]
  have b5:Rows.uptoBulk y5.1=1:=by rw [d5];rfl
  refine ⟨⟨k0,k1,k2,k3,k4,k5⟩,?_,?_⟩
  ·exact ⟨_,_,rfl,(by simp [RepV,Value.oneCell']),⟨_,_,rfl,(by simp [RepV,Value.oneCell']),⟨_,_,rfl,(by simp [RepV,Value.oneCell']),⟨_,_,rfl,(by simp [RepV,Value.oneCell']),⟨_,_,rfl,(by simp [RepV,Value.oneCell']),⟨_,_,rfl,(by simp [RepV,Value.oneCell']),rfl⟩⟩⟩⟩⟩⟩
  simp only [CmD.dat,szR,szD];omega
theorem sfVa:StF Tryz.prog 109 2 [(9,0,1),(9,1,1)]:=⟨by kernel_rfl,by kernel_rfl,by kernel_rfl⟩
theorem cellsVa:Tryz.prog.cellsOf 109=2:=by kernel_rfl
theorem rd_var {n:Nat} {cs:List Value} {D:DataW H} {Pl:List MemPlace} (h:DataW.trod enc Tryz.prog W base spare held n 109 cs=some (D,Pl)):∃ r:VaD,RepRow (heapG W) r.dat cs∧szR r.dat+1≤8*Rows.uptoBulk D:=by
 obtain ⟨xs,m,hx,hl,hxl,hf⟩:=rd_struct sfVa h
 match cs,hl,xs,hxl with
 | [c0,c1],_,[y0,y1],_ =>
  have h0:=hf 0 _ _ _ rfl;have h1:=hf 1 _ _ _ rfl
  simp only at hx
  have hD:Rows.uptoBulk D=Rows.uptoBulk y0.1+(Rows.uptoBulk y1.1+0)+1:=by rw [hx];simp only [List.map_cons,List.map_nil,Rows.uptoBulk,Rows.uptoBulkAll]
  obtain ⟨k0,e0,d0,-⟩:=DataW.trod_string Tryz.underlying9 h0;obtain ⟨k1,e1,d1,-⟩:=DataW.trod_string Tryz.underlying9 h1
  simp at e0 e1
  subst e0 e1
  have b0:Rows.uptoBulk y0.1=k0.size+1:=by rw [d0];show k0.data.toList.length+1=k0.data.size+1;rw [Array.length_toList]
  have b1:Rows.uptoBulk y1.1=k1.size+1:=by rw [d1];show k1.data.toList.length+1=k1.data.size+1;rw [Array.length_toList]
  refine ⟨⟨k0,k1⟩,?_,?_⟩
  ·exact ⟨_,_,rfl,(by simp [RepV,Value.oneCell']),⟨_,_,rfl,(by simp [RepV,Value.oneCell']),rfl⟩⟩
  simp only [VaD.dat,szR,szD];omega
theorem sfStg:StF Tryz.prog 46 4 [(41,0,1),(42,1,1),(43,2,1),(44,3,1)]:=⟨by kernel_rfl,by kernel_rfl,by kernel_rfl⟩
/-- Sizes of settings that were read. -/
structure StgB (s:StgD) (n:Nat):Prop where
 st:szRs (s.styles.map StyleD.dat)≤n
 li:szRs (s.lists.map LiD.dat)≤n
 cm:szRs (s.comments.map CmD.dat)≤n
 va:szRs (s.vars.map VaD.dat)≤n
theorem StgB.zn {s:StgD} {n:Nat} (h:StgB s n) (hn:n≤4294967296):StgZ s∧s.styles.length≤4294967296:=by
 obtain ⟨h1,h2,h3,h4⟩:=h;have l1:=szRs_length (s.styles.map StyleD.dat);have l2:=szRs_length (s.lists.map LiD.dat);have l3:=szRs_length (s.comments.map CmD.dat);have l4:=szRs_length (s.vars.map VaD.dat);rw [List.length_map] at l1 l2 l3 l4;refine ⟨⟨fun x hx=>?_,by omega,fun x hx y hy=>?_,by omega,fun x hx=>?_,by omega,fun x hx=>?_⟩,by omega⟩
 ·have:=szRs_in (dat:=StyleD.dat) hx
  simp only [StyleD.dat,szR,szD] at this;omega
 ·have:=szRs_in (dat:=LiD.dat) hx
  simp only [LiD.dat,szR,szD] at this
  have h5:=szRs_in (dat:=LvD.dat) hy
  simp only [LvD.dat,szR,szD] at h5;omega
 ·have:=szRs_in (dat:=CmD.dat) hx
  simp only [CmD.dat,szR,szD] at this;omega
 have:=szRs_in (dat:=VaD.dat) hx
 simp only [VaD.dat,szR,szD] at this;omega
/-- Settings among other cells. -/
theorem rd_stg {n:Nat} {cs:List Value} {x:DataW H × List MemPlace} (h:DataW.trod enc Tryz.prog W base spare held n 46 cs=some x):∃ (s:StgD) (a b c d:Value),cs=[a,b,c,d]∧StgR (heapG W) s a b c d∧StgB s (8*Rows.uptoBulk x.1):=by
 obtain ⟨xs,m,hx,hl,hxl,hf⟩:=rd_struct sfStg h
 match cs,hl,xs,hxl with
 | [c0,c1,c2,c3],_,[y0,y1,y2,y3],_ =>
  have h0:=hf 0 _ _ _ rfl;have h1:=hf 1 _ _ _ rfl;have h2:=hf 2 _ _ _ rfl;have h3:=hf 3 _ _ _ rfl;obtain ⟨k0,q0,e0,r0,d0⟩:=rd_slice (dat:=StyleD.dat) (sz:=6) (by omega) Tryz.underlying41 cellsStyle h0 (fun n cs' D Pl hh _=>rd_style hh);obtain ⟨k1,q1,e1,r1,d1⟩:=rd_slice (dat:=LiD.dat) (sz:=2) (by omega) Tryz.underlying42 cellsLi h1 (fun n cs' D Pl hh _=>rd_list hh);obtain ⟨k2,q2,e2,r2,d2⟩:=rd_slice (dat:=CmD.dat) (sz:=6) (by omega) Tryz.underlying43 cellsCm h2 (fun n cs' D Pl hh _=>rd_comment hh);obtain ⟨k3,q3,e3,r3,d3⟩:=rd_slice (dat:=VaD.dat) (sz:=2) (by omega) Tryz.underlying44 cellsVa h3 (fun n cs' D Pl hh _=>rd_var hh)
  simp at e0 e1 e2 e3
  subst e0 e1 e2 e3
  have hD:Rows.uptoBulk x.1=Rows.uptoBulk y0.1+(Rows.uptoBulk y1.1+(Rows.uptoBulk y2.1+(Rows.uptoBulk y3.1+0)))+1:=by rw [hx];simp only [List.map_cons,List.map_nil,Rows.uptoBulk,Rows.uptoBulkAll]
  exact ⟨⟨k0,k1,k2,k3⟩,_,_,_,_,rfl,⟨r0,r1,r2,r3⟩,⟨by show szRs (k0.map _)≤_;omega,by show szRs (k1.map _)≤_;omega,by show szRs (k2.map _)≤_;omega,by show szRs (k3.map _)≤_;omega⟩⟩
end
end
end Go.Proofs.YtlnhhlighgaapaaGreat
