/-
  What the claim stands on, part 5: Package obeluslaw13: SmallSettings. Maps from numbers to values: lookups of one result, in what is owned or only read; new keys. Package document: newChecker. Package document: the checker's id and reference. Paths within a region that meet; what a call that only reads leaves; calls that are lent what they only read. Package document: the checker's layer. Package document: the checker's head. Package document: form. What the checker's item, items and rows compute. Package document: the checker's rows. Package document: the checker's item. Package document: all with blocks that are lent; the checker's items.
-/
import Derived.Test.YtlnhhlighgaapaaGreatSd
namespace Go.Proofs.YtlnhhlighgaapaaGreat
section
open Go.RowKit
theorem smallStg_spec (G:GH) (w0:World) (hG:Hold G w0) (s:StgD) (a b c d:Value) (hR:StgR G s a b c d) (hsl:s.styles.length≤4294967296) (hz:StgZ s) :
  Calls Tryz.prog 16 #[.agg #[a,b,c,d]] w0 (Ret w0 G fun u G'=>∃ r,u=.bool r):=by
 obtain ⟨sA,sc,rfl,-,-,-⟩:=hR.st.slice;obtain ⟨lA,lc,rfl,-,-,-⟩:=hR.li.slice;obtain ⟨cA,cc,rfl,-,-,-⟩:=hR.cm.slice;obtain ⟨vA,vc,rfl,-,-,-⟩:=hR.va.slice;have hl1:=hz.ln
 simp only [List.length_map] at hR ⊢
 refine eN [(0,_)] Tryz.func16 rfl Tryz.ntmps16 rfl rfl hG ?_;intro a H;refine c_seqR (fun _ K1=>?_);refine s_box (cs:=[_,_,_,_]) H wn rfl rfl rfl ?_;clear H;intro b1 a w hb1 H;refine kH H (Ra rfl ?_);clear H;intro a H;refine K1 _ _ ?_;clear K1;refine c_seq (fun _ K2=>?_);refine c_seq (fun _ K3=>?_);obtain ⟨Ga,hma,hb1',H⟩:=H.giveBox
 have hc0:gcell Ga b1 0=some (.slice sA s.styles.length sc):=by unfold gcell;rw [hb1'];rfl
 have hc1:gcell Ga b1 1=some (.slice lA s.lists.length lc):=by unfold gcell;rw [hb1'];rfl
 have hc2:gcell Ga b1 2=some (.slice cA s.comments.length cc):=by unfold gcell;rw [hb1'];rfl
 have hc3:gcell Ga b1 3=some (.slice vA s.vars.length vc):=by unfold gcell;rw [hb1'];rfl
 have hst:=hR.st.mono hma;have hli:=hR.li.mono hma;refine c_region ?_;refine kH H (Rf fd46_0dsv rfl ?_);clear H;intro a H;refine s_load ty41chn H wn rfl (H.hp.gcell (by assumption)) rfl ?_;clear H;intro a H;refine kH H (Rl un41sty rfl (Rc rfl (Rm rfl ?_)));clear H;intro a H;refine s_split H 9 rfl ?_ ?_
 ·intro h9
  try have p9:=of_decide_eq_true h9
  (iterate 4 refine s_skip H rfl rfl h9 rfl ?_;clear H;intro a H);refine s_pick_t H wn rfl h9 rfl rfl ?_;clear H;intro a H;refine kH H (Rm rfl ?_);clear H;intro a H;(iterate 4 refine s_skip H rfl rfl rfl rfl ?_;clear H;intro a H);refine s_pick_t H wn rfl rfl rfl rfl ?_;clear H;intro a H;refine kH H (Rm rfl ?_);clear H;intro a H;(iterate 4 refine s_skip H rfl rfl rfl rfl ?_;clear H;intro a H);refine s_pick_t H wn rfl rfl rfl rfl ?_;clear H;intro a H;refine wl_nil ?_;refine K3 _ _ ?_;clear K3;refine c_cond_t H rfl rfl ?_;refine c_seqR (fun _ K4=>?_);refine kH H (Ra rfl ?_);clear H;intro a H;refine K4 _ _ ?_;clear K4;refine c_ret ?_;refine lv H Tryz.results16 rfl ?_;exact H.hp.ret ⟨_,rfl⟩
 intro h9
 try have p9:=of_decide_eq_false h9
 refine s_field fd46_1dsv H (wg H rfl rfl h9) rfl rfl ?_;clear H;intro a H;refine s_load ty42dst H (wg H rfl rfl h9) rfl (H.hp.gcell (by assumption)) rfl ?_;clear H;intro a H;refine s_len un42dst H (wg H rfl rfl h9) rfl rfl ?_;clear H;intro a H;refine s_cmp H (wg H rfl rfl h9) rfl rfl rfl rfl ?_;clear H;intro a H;refine s_pick_f H wn rfl h9 rfl rfl ?_;clear H;intro a H;refine kH H (Rm rfl ?_);clear H;intro a H;refine s_split H 15 rfl ?_ ?_
 ·intro h15
  try have p15:=of_decide_eq_true h15
  (iterate 4 refine s_skip H rfl rfl h15 rfl ?_;clear H;intro a H);refine s_pick_t H wn rfl h15 rfl rfl ?_;clear H;intro a H;refine kH H (Rm rfl ?_);clear H;intro a H;(iterate 4 refine s_skip H rfl rfl rfl rfl ?_;clear H;intro a H);refine s_pick_t H wn rfl rfl rfl rfl ?_;clear H;intro a H;refine wl_nil ?_;refine K3 _ _ ?_;clear K3;refine c_cond_t H rfl rfl ?_;refine c_seqR (fun _ K5=>?_);refine kH H (Ra rfl ?_);clear H;intro a H;refine K5 _ _ ?_;clear K5;refine c_ret ?_;refine lv H Tryz.results16 rfl ?_;exact H.hp.ret ⟨_,rfl⟩
 intro h15
 try have p15:=of_decide_eq_false h15
 refine s_field fd46_2dsv H (wg H rfl rfl h15) rfl rfl ?_;clear H;intro a H;refine s_load ty43dsc H (wg H rfl rfl h15) rfl (H.hp.gcell (by assumption)) rfl ?_;clear H;intro a H;refine s_len un43dsc H (wg H rfl rfl h15) rfl rfl ?_;clear H;intro a H;refine s_cmp H (wg H rfl rfl h15) rfl rfl rfl rfl ?_;clear H;intro a H;refine s_pick_f H wn rfl h15 rfl rfl ?_;clear H;intro a H;refine kH H (Rm rfl ?_);clear H;intro a H;refine s_split H 21 rfl ?_ ?_
 ·intro h21
  try have p21:=of_decide_eq_true h21
  (iterate 4 refine s_skip H rfl rfl h21 rfl ?_;clear H;intro a H);refine s_pick_t H wn rfl h21 rfl rfl ?_;clear H;intro a H;refine wl_nil ?_;refine K3 _ _ ?_;clear K3;refine c_cond_t H rfl rfl ?_;refine c_seqR (fun _ K6=>?_);refine kH H (Ra rfl ?_);clear H;intro a H;refine K6 _ _ ?_;clear K6;refine c_ret ?_;refine lv H Tryz.results16 rfl ?_;exact H.hp.ret ⟨_,rfl⟩
 intro h21
 try have p21:=of_decide_eq_false h21
 refine s_field fd46_3dsv H (wg H rfl rfl h21) rfl rfl ?_;clear H;intro a H;refine s_load ty44dsv H (wg H rfl rfl h21) rfl (H.hp.gcell (by assumption)) rfl ?_;clear H;intro a H;refine s_len un44dsv H (wg H rfl rfl h21) rfl rfl ?_;clear H;intro a H;refine s_cmp H (wg H rfl rfl h21) rfl rfl rfl rfl ?_;clear H;intro a H;refine s_pick_f H wn rfl h21 rfl rfl ?_;clear H;intro a H;refine wl_nil ?_;refine K3 _ _ ?_;clear K3;refine c_cond H rfl ?_ ?_
 ·intro h26
  try have p26:=of_decide_eq_true h26
  refine c_seqR (fun _ K7=>?_);refine kH H (Ra rfl ?_);clear H;intro a H;refine K7 _ _ ?_;clear K7;refine c_ret ?_;refine lv H Tryz.results16 rfl ?_;exact H.hp.ret ⟨_,rfl⟩
 intro h26
 try have p26:=of_decide_eq_false h26
 refine c_skip ?_;refine K2 _ _ ?_;clear K2;refine c_seq (fun _ K8=>?_);refine c_seqR (fun _ K9=>?_);refine kH H (Ra rfl ?_);clear H;intro a H;refine K9 _ _ ?_;clear K9;refine c_block ?_;skip;refine c_loopS (ι:=Nat) (Tc:=[(1,_)]) (Lc:=[]) (fun (gh:Nat)=>[(3,vi gh)]) (fun (gh:Nat)=>[]) (fun (gh:Nat)=>Ga) (fun (gh:Nat)=>gh≤s.styles.length) (fun (gh:Nat)=>s.styles.length - gh) (0) (by exact (H).sub ⟨rfl,rfl,trivial⟩) ?_ ?_
 ·exact Nat.zero_le _
 clear H;intro gh a w hI H;obtain ⟨k,hgh⟩:∃ x,x=gh:=⟨_,rfl⟩;subst hgh;have hk:=hI;dsimp only [List.cons_append,List.nil_append,List.append_nil] at H;refine c_seq (fun _ K10=>?_);refine c_seqR (fun _ K11=>?_);refine kH H (Rm rfl (Rf fd46_0dsv rfl ?_));clear H;intro a H;refine s_load ty41chn H wn rfl (H.hp.gcell (by assumption)) rfl ?_;clear H;intro a H;refine kH H (Rl un41sty rfl (Rc rfl ?_));clear H;intro a H;refine K11 _ _ ?_;clear K11;refine c_cond H rfl ?_ ?_
 ·intro h31
  try have p31:=of_decide_eq_true h31
  have hk2:k < s.styles.length:=by omega
  obtain ⟨b',o',pA,pc,rfl,hrow,-,-⟩:=style_at hst hk2;have hq:=hrow 5 _ rfl;refine c_skip ?_;refine K10 _ _ ?_;clear K10;refine c_seq (fun _ K12=>?_);refine c_block ?_;refine c_seqR (fun _ K13=>?_);refine kH H (Rf fd46_0dsv rfl ?_);clear H;intro a H;refine s_load ty41chn H wn rfl (H.hp.gcell (by assumption)) rfl ?_;clear H;intro a H;refine kH H (Rm rfl ?_);clear H;intro a H;refine s_index un41sty ty100sty _ H wn rfl rfl rfl (by first|assumption|omega) rfl ?_;clear H;intro a H;refine kH H (Rf fd100_5stz rfl ?_);clear H;intro a H;refine s_load ty25run H wn rfl (H.hp.gcell (by assumption)) rfl ?_;clear H;intro a H;refine kH H (Rl un25run rfl (Rc rfl ?_));clear H;intro a H;refine K13 _ _ ?_;clear K13;refine c_cond H rfl ?_ ?_
  ·intro h41
   try have p41:=of_decide_eq_true h41
   refine c_seqR (fun _ K14=>?_);refine kH H (Ra rfl ?_);clear H;intro a H;refine K14 _ _ ?_;clear K14;refine c_ret ?_;refine lv H Tryz.results16 rfl ?_;exact H.hp.ret ⟨_,rfl⟩
  intro h41
  try have p41:=of_decide_eq_false h41
  refine c_skip ?_;refine K12 _ _ ?_;clear K12;refine c_region ?_;refine kH H (Rm rfl ?_);clear H;intro a H;refine s_add _ H wn rfl rfl rfl (by omega) (by omega) rfl ?_;clear H;intro a H;refine kH H (Ra rfl ?_);clear H;intro a H;refine wl_nil ?_;refine loop_end ((k+1)) (by exact (H).sub ⟨rfl,rfl,trivial⟩) ?_ ?_
  ·omega
  first|omega|(dsimp only;omega)
 intro h31
 try have p31:=of_decide_eq_false h31
 refine c_exit ?_;refine K8 _ _ ?_;clear K8;refine c_seq (fun _ K15=>?_);refine c_seqR (fun _ K16=>?_);refine kH H (Ra rfl ?_);clear H;intro a H;refine K16 _ _ ?_;clear K16;refine c_block ?_;skip;refine c_loopS (ι:=Nat) (Tc:=[(1,_)]) (Lc:=[]) (fun (gh:Nat)=>[(4,vi gh)]) (fun (gh:Nat)=>[]) (fun (gh:Nat)=>Ga) (fun (gh:Nat)=>gh≤s.lists.length) (fun (gh:Nat)=>s.lists.length - gh) (0) (by exact (H).sub ⟨rfl,rfl,trivial⟩) ?_ ?_
 ·exact Nat.zero_le _
 clear H;intro gh a w hI H;obtain ⟨n,hgh⟩:∃ x,x=gh:=⟨_,rfl⟩;subst hgh;have hn:=hI;dsimp only [List.cons_append,List.nil_append,List.append_nil] at H;refine c_seq (fun _ K17=>?_);refine c_seqR (fun _ K18=>?_);refine kH H (Rm rfl (Rf fd46_1dsv rfl ?_));clear H;intro a H;refine s_load ty42dst H wn rfl (H.hp.gcell (by assumption)) rfl ?_;clear H;intro a H;refine kH H (Rl un42dst rfl (Rc rfl ?_));clear H;intro a H;refine K18 _ _ ?_;clear K18;refine c_cond H rfl ?_ ?_
 ·intro h46
  try have p46:=of_decide_eq_true h46
  have hn2:n < s.lists.length:=by omega
  obtain ⟨b',o',B,d,rfl,hrow,-⟩:=li_at hli hn2;have hq:=hrow 1 _ rfl;refine c_skip ?_;refine K17 _ _ ?_;clear K17;refine c_seq (fun _ K19=>?_);refine c_block ?_;refine c_seqR (fun _ K20=>?_);refine kH H (Rf fd46_1dsv rfl ?_);clear H;intro a H;refine s_load ty42dst H wn rfl (H.hp.gcell (by assumption)) rfl ?_;clear H;intro a H;refine kH H (Rm rfl ?_);clear H;intro a H;refine s_index un42dst ty105dst _ H wn rfl rfl rfl (by first|assumption|omega) rfl ?_;clear H;intro a H;refine kH H (Rf fd105_1dst rfl ?_);clear H;intro a H;refine s_load ty103dst H wn rfl (H.hp.gcell (by assumption)) rfl ?_;clear H;intro a H;refine kH H (Rl un103lcl rfl (Rc rfl ?_));clear H;intro a H;refine K20 _ _ ?_;clear K20;refine c_cond H rfl ?_ ?_
  ·intro h56
   try have p56:=of_decide_eq_true h56
   refine c_seqR (fun _ K21=>?_);refine kH H (Ra rfl ?_);clear H;intro a H;refine K21 _ _ ?_;clear K21;refine c_ret ?_;refine lv H Tryz.results16 rfl ?_;exact H.hp.ret ⟨_,rfl⟩
  intro h56
  try have p56:=of_decide_eq_false h56
  refine c_skip ?_;refine K19 _ _ ?_;clear K19;refine c_region ?_;refine kH H (Rm rfl ?_);clear H;intro a H;refine s_add _ H wn rfl rfl rfl (by omega) (by omega) rfl ?_;clear H;intro a H;refine kH H (Ra rfl ?_);clear H;intro a H;refine wl_nil ?_;refine loop_end ((n+1)) (by exact (H).sub ⟨rfl,rfl,trivial⟩) ?_ ?_
  ·omega
  first|omega|(dsimp only;omega)
 intro h46
 try have p46:=of_decide_eq_false h46
 refine c_exit ?_;refine K15 _ _ ?_;clear K15;refine c_seqR (fun _ K22=>?_);refine kH H (Ra rfl ?_);clear H;intro a H;refine K22 _ _ ?_;clear K22;refine c_ret ?_;refine lv H Tryz.results16 rfl ?_;exact H.hp.ret ⟨_,rfl⟩
end
section
open Go.RowKit
/-- The entries of a map that was filled in an order. -/
def mapK:Nat→List (Int × Value)→List MapEntry
 | _,[]=>[]
 | i,(k,v) :: r=>⟨.int .i64 k,v,i⟩ :: mapK (i+1) r
theorem mapK_snoc (x:Int × Value):∀ (i:Nat) (l:List (Int × Value)),mapK i (l++[x])=mapK i l++[⟨.int .i64 x.1,x.2,i+l.length⟩]
 | _,[]=>rfl
 | i,k :: r=>by
  rw [List.cons_append,mapK,mapK_snoc x (i+1) r,mapK,List.cons_append,List.length_cons,show i+1+r.length=i+(r.length+1) by omega]
def lkK (x:Int):List (Int × Value)→Option Value
 | []=>none
 | (k,v) :: r=>if k=x then some v else lkK x r
theorem lkK_none {x:Int}:∀ {l:List (Int × Value)},x∉l.map (·.1)→lkK x l=none
 | [],_=>rfl
 | (k,v) :: r,h=>by
  rw [lkK,if_neg (fun e=>h (by simp [e])),lkK_none (fun hm=>h (List.mem_cons_of_mem _ hm))]
theorem findNow_mapK (x:Int):∀ (i j:Nat) (l:List (Int × Value)),∃ an,Instr.findNow (.int .i64) (.int .i64 x) (mapK i l) j=some an∧an.map (·.2)=lkK x l
 | _,_,[]=>⟨none,rfl,rfl⟩
 | i,j,(k,v) :: r=>by
  obtain ⟨an,h1,h2⟩:=findNow_mapK x (i+1) (j+1) r
  by_cases e:k=x
  ·subst e
   exact ⟨some (j,v),by simp only [mapK,Instr.findNow,Instr.sameNow,if_pos,beq_self_eq_true],by rw [lkK,if_pos rfl];rfl⟩
  ·have hb:(x == k)=false:=by simp;exact fun h=>e h.symm
   exact ⟨an,by simpa only [mapK,Instr.findNow,Instr.sameNow,if_pos,hb] using h1,by rw [lkK,if_neg e];exact h2⟩
abbrev mpK (l:List (Int × Value)):Obj:=.map (mapK 0 l).toArray l.length
section
variable {N:Nat} {D:List Deferred} {w0:World} {F:Nat→Prop} {G0 G:GH} {L:OL} {T:List (Nat × Value)}
variable {r:Option Nat} {P:Program} {ops:Array Oper} {Q:Exit→Act→World→Prop} {rest:List Oper} {a:Act} {w:World}
variable {d:Nat} {ty:TypeId} {pos:String} {aft:Array Edge} {g:Option (Nat × Bool)}
theorem s_lookupK {t kt et:TypeId} {x y:Operand} {b:Nat} {l:List (Int × Value)} {ky:Int} {zv:Value} (hm:P.underlying t=some (.map kt et)) (hk:P.underlying kt=some (.int .i64)) (hz:(P.info? et).map (fun i=>i.zero)=some (some zv)) (H:St N D w0 F G0 G L T a w)
  (hw:Region.wanted ⟨some d,.lookup t x y false,ty,pos,aft,g⟩ (yielded ops a.tmps)=true) (hx:ev T x=some (.map (some b))) (hy:ev T y=some (.int .i64 ky)) (hb:w.heap[b]?=some (mpK l)) (hd:Nat.blt d N=true)
  (k:∀ a',St N D w0 F G0 G L ((d,(lkK ky l).getD zv) :: T) a' w→WL r P ops Q rest a' w):WL r P ops Q (⟨some d,.lookup t x y false,ty,pos,aft,g⟩ :: rest) a w:=by
 obtain ⟨an,hf,han⟩:=findNow_mapK ky 0 0 l
 obtain ⟨inf,hi1,hi2⟩:=Option.map_eq_some_iff.1 hz
 refine wl_value (v:=(lkK ky l).getD zv) (w':=w) hw rfl ?_ (k _ (H.put hd _ H.hp))
 have hkey:MapKept.IsKey (.int .i64) (.int .i64 ky):=by trivial
 have hf2:Instr.findNow (.int .i64) (.int .i64 ky) (mapK 0 l).toArray.toList 0=some an:=by simpa using hf
 replace hb:w.heap[b]?=some (.map (mapK 0 l).toArray l.length):=hb
 generalize (mapK 0 l).toArray=es at hb hf2
 have h1:=MapKept.run_checkKey (P:=P) (w:=w) hk hkey es.isEmpty 9999
 have h2:=MapKept.run_findKey (P:=P) (w:=w) hk hf2
 rw [← han]
 cases an with
 | none=>simp [execOp,Instr.lookup,H.ev hx,H.ev hy,Sem.run_bind,run_und hm,MapKept.run_getObj_map hb,h1,h2,Result.andThen,zeroValue,run_info hi1,hi2]
 | some q=>simp [execOp,Instr.lookup,H.ev hx,H.ev hy,Sem.run_bind,run_und hm,MapKept.run_getObj_map hb,h1,h2,Result.andThen]
/-- A key that is not there yet. -/
theorem s_putK {t kt et:TypeId} {x y z:Operand} {b i:Nat} {l:List (Int × Value)} {ky:Int} {v:Value} (hm:P.underlying t=some (.map kt et)) (hk:P.underlying kt=some (.int .i64)) (H:St N D w0 F G0 G L T a w)
  (hw:Region.wanted ⟨none,.mapUpdate t x y z,ty,pos,aft,g⟩ (yielded ops a.tmps)=true) (hx:ev T x=some (.map (some b))) (hy:ev T y=some (.int .i64 ky)) (hzv:ev T z=some v) (hi:L[i]?=some (b,mpK l)) (hn:lkK ky l=none)
  (k:∀ w',St N D w0 F G0 G (L.set i (b,mpK (l++[(ky,v)]))) T a w'→WL r P ops Q rest a w'):WL r P ops Q (⟨none,.mapUpdate t x y z,ty,pos,aft,g⟩ :: rest) a w:=by
 obtain ⟨an,hf,han⟩:=findNow_mapK ky 0 0 l
 have hnone:an=none:=by
  rw [hn] at han
  cases an with
  | none=>rfl
  | some q=>cases han
 subst hnone
 refine s_mapNew (i:=i) hm hk H hw hx hy hzv hi (by trivial) (by simpa using hf) ?_
 intro w' H'
 have e:(mapK 0 l).toArray.push ⟨.int .i64 ky,v,l.length⟩=(mapK 0 (l++[(ky,v)])).toArray:=by
  rw [mapK_snoc,List.push_toArray,Nat.zero_add]
 refine k w' ?_
 rw [e] at H'
 rw [mpK,List.length_append]
 exact H'
end
end
section
open Go.RowKit
theorem un138nck:Tryz.prog.underlying 138=some (.map 3 4):=by kernel_rfl
theorem ty65nck:Ty Tryz.prog 65 3 32 [.int .i64 0,.string ⟨#[]⟩,.int .i64 0] true:=⟨by kernel_rfl,by kernel_rfl⟩
theorem sr140nck:Srt Tryz.prog 140 [(0,1),(1,1),(2,1),(3,1),(4,1),(5,1)] [.map none,.map none,.map none,.map none,.map none,.int .i64 0]:=⟨by kernel_rfl,by kernel_rfl⟩
theorem fd50_3nck:Fld Tryz.prog 50 3 7:=⟨by kernel_rfl⟩
theorem fd140_0nck:Fld Tryz.prog 140 0 0:=⟨by kernel_rfl⟩
theorem ty137nck:Ty Tryz.prog 137 1 8 [.map none] false:=⟨by kernel_rfl,by kernel_rfl⟩
theorem fd140_1nck:Fld Tryz.prog 140 1 1:=⟨by kernel_rfl⟩
theorem ty138nck:Ty Tryz.prog 138 1 8 [.map none] false:=⟨by kernel_rfl,by kernel_rfl⟩
theorem fd50_2nck:Fld Tryz.prog 50 2 6:=⟨by kernel_rfl⟩
theorem ty48nck:Ty Tryz.prog 48 1 24 [.slice none 0 0] false:=⟨by kernel_rfl,by kernel_rfl⟩
theorem un48nck:Tryz.prog.underlying 48=some (.slice 65):=by kernel_rfl
theorem fd140_2nck:Fld Tryz.prog 140 2 2:=⟨by kernel_rfl⟩
theorem fd65_0nck:Fld Tryz.prog 65 0 0:=⟨by kernel_rfl⟩
structure RvD where
 id:Int
 author:ByteArray
 time:Int
def RvD.dat (x:RvD):List Dat:=[li x.id,.lf (.string x.author),li x.time]
abbrev RvD.cells (x:RvD):List Value:=[vi x.id,.string x.author,vi x.time]
theorem rv_of {G:GH} {x:RvD} {cs:List Value} (h:RepRow G x.dat cs):cs=x.cells:=by
 simp only [RvD.dat,RepRow,RepV] at h
 obtain ⟨_,_,rfl,⟨rfl,_⟩,_,_,rfl,⟨rfl,_⟩,_,_,rfl,⟨rfl,_⟩,rfl⟩:=h
 rfl
theorem rv_at {G:GH} {l:List RvD} {A:Option Addr} {n c k:Nat} (hv:RepV G (.sl 3 (l.map RvD.dat)) (.slice A n c)) (hk:k < l.length):∃ b o,A=some ⟨b,o,none⟩∧(∀ j u,l[k].cells[j]?=some u→gcell G b (o+k*3+j)=some u):=by
 obtain ⟨A',c',he,_,_,hg⟩:=hv.slice
 injection he with e1 e2 e3
 subst e1;obtain ⟨b,o,cs,h1,h2,h3,h4⟩:=hg k l[k].dat (by simp [hk]);have:=rv_of h4;subst this;exact ⟨b,o,h1,h3⟩
/-- A checker's block. -/
abbrev ckB (b ms ml mr mb mu:Nat) (n:Int):Nat × Obj:=(b,.cells #[.map (some ms),.map (some ml),.map (some mr),.map (some mb),.map (some mu),vi n] 140 (0,0))
def mSty (l:List StyleD):List (Int × Value):=l.map fun s=>(s.id,vi s.kind)
def mSet (l:List Int):List (Int × Value):=l.map fun k=>(k,.bool true)
/-- What a checker holds of a document's tables. -/
structure CkG (G:GH) (st:List StyleD) (li:List LiD) (rv:List RvD) (ms ml mr mu:Nat):Prop where
 sty:G ms=some (mpK (mSty st))
 lis:G ml=some (mpK (mSet (li.map LiD.id)))
 rev:G mr=some (mpK (mSet (rv.map RvD.id)))
 use:G mu=some (mpK [])
theorem CkG.mono {G G':GH} {st:List StyleD} {li:List LiD} {rv:List RvD} {ms ml mr mu:Nat} (h:CkG G st li rv ms ml mr mu) (hm:∀ b o,G b=some o→G' b=some o):CkG G' st li rv ms ml mr mu:=⟨hm _ _ h.sty,hm _ _ h.lis,hm _ _ h.rev,hm _ _ h.use⟩
def Fresh (l:List Int):Prop:=∀ (k:Nat) (h:k < l.length),l[k]∉l.take k
theorem mSty_snoc {l:List StyleD} {k:Nat} (h:k < l.length):mSty (l.take (k+1))=mSty (l.take k)++[(l[k].id,vi l[k].kind)]:=by rw [mSty,List.take_succ_eq_append_getElem h,List.map_append];rfl
theorem mSet_snoc {l:List Int} {k:Nat} (h:k < l.length):mSet (l.take (k+1))=mSet (l.take k)++[(l[k],.bool true)]:=by rw [mSet,List.take_succ_eq_append_getElem h,List.map_append];rfl
theorem mSty_new {l:List StyleD} {k:Nat} (f:Fresh (l.map StyleD.id)) (h:k < l.length):lkK l[k].id (mSty (l.take k))=none:=by
 refine lkK_none ?_;have:=f k (by simpa using h)
 simpa [mSty,List.map_take,List.map_map,Function.comp_def] using this
theorem mSet_new {l:List Int} {k:Nat} (f:Fresh l) (h:k < l.length):lkK l[k] (mSet (l.take k))=none:=by
 refine lkK_none ?_;have:=f k h
 simpa [mSet,List.map_map,Function.comp_def] using this
theorem newChecker_spec (G:GH) (w0:World) (hO:Owns G [] w0) (D:DocV) (st:List StyleD) (li:List LiD) (rv:List RvD) (hst:RepV G (.sl 6 (st.map StyleD.dat)) (sl3 D.s1)) (hli:RepV G (.sl 2 (li.map LiD.dat)) (sl3 D.s2)) (hrv:RepV G (.sl 3 (rv.map RvD.dat)) (sl3 D.r))
  (f1:Fresh (st.map StyleD.id)) (f2:Fresh (li.map LiD.id)) (f3:Fresh (rv.map RvD.id)) (z1:st.length≤4294967296) (z2:li.length≤4294967296) (z3:rv.length≤4294967296) :
  Calls Tryz.prog 63 #[D.val] w0 (RetL w0 G [] fun u G' L'=>∃ b ms ml mr mb mu,u=.pointer (some ⟨b,0,none⟩)∧L'=[ckB b ms ml mr mb mu 0,(mb,mpK [])]∧CkG G' st li rv ms ml mr mu):=by
 obtain ⟨df,dp,dd,dy,⟨rA,rn,rc⟩,⟨sA,sn,sc⟩,⟨lA,ln,lc⟩,d3,d4,ins,mv⟩:=D;dsimp only at hst hli hrv
 obtain rfl:sn=st.length:=by have:=hst.len;simpa using this
 obtain rfl:ln=li.length:=by have:=hli.len;simpa using this
 obtain rfl:rn=rv.length:=by have:=hrv.len;simpa using this
 have hml:maxLen=9223372036854775807:=rfl;refine enterL (N:=64) (T:=[(0,_)]) Tryz.func63 rfl Tryz.ntmps63 rfl rfl hO ?_;intro a H;refine c_seqR (fun _ K1=>?_);refine s_box (cs:=[_,_,_,_,_,_,_,_,_,_,_]) H wn rfl rfl rfl ?_;clear H;intro b1 a w hb1 H;refine kH H (Ra rfl ?_);clear H;intro a H;refine K1 _ _ ?_;clear K1;refine c_seq (fun _ K2=>?_);obtain ⟨Ga,hma,hb1',H⟩:=H.giveBox
 have hc7:gcell Ga b1 7=some (.slice sA st.length sc):=by unfold gcell;rw [hb1'];rfl
 have hc8:gcell Ga b1 8=some (.slice lA li.length lc):=by unfold gcell;rw [hb1'];rfl
 have hc6:gcell Ga b1 6=some (.slice rA rv.length rc):=by unfold gcell;rw [hb1'];rfl
 replace hst:=hst.mono hma;replace hli:=hli.mono hma;replace hrv:=hrv.mono hma;refine c_region ?_;refine s_makeMap H wn rfl ?_;clear H;intro b10 a w hb10 H;refine s_makeMap H wn rfl ?_;clear H;intro b11 a w hb11 H;refine s_makeMap H wn rfl ?_;clear H;intro b12 a w hb12 H;refine s_makeMap H wn rfl ?_;clear H;intro b13 a w hb13 H;refine s_makeMap H wn rfl ?_;clear H;intro b14 a w hb14 H;refine s_build sr140nck [_,_,_,_,_,_] H wn rfl rfl rfl rfl ?_;clear H;intro a H;refine s_box (cs:=[_,_,_,_,_,_]) H wn rfl rfl rfl ?_;clear H;intro b16 a w hb16 H;refine kH H (Ra rfl ?_);clear H;intro a H;refine wl_nil ?_;refine K2 _ _ ?_;clear K2;refine c_seq (fun _ K3=>?_);refine c_seqR (fun _ K4=>?_);refine kH H (Rf fd50_3nck rfl (Rf fd46_0dsv rfl ?_));clear H;intro a H;refine s_load ty41chn H wn rfl (H.hp.gcell (by assumption)) rfl ?_;clear H;intro a H;refine kH H (Rl un41sty rfl (Rm rfl ?_));clear H;intro a H;refine K4 _ _ ?_;clear K4;refine c_block ?_;skip;refine c_loopS (ι:=Nat × GH) (Tc:=[(1,_),(3,_),(19,_),(20,_)]) (Lc:=[(_,_),(_,_),(_,_),(_,_),(_,_)]) (fun (gh:Nat × GH)=>[(21,vi gh.1)]) (fun (gh:Nat × GH)=>[(b10,mpK (mSty (st.take gh.1)))]) (fun (gh:Nat × GH)=>gh.2) (fun (gh:Nat × GH)=>gh.1≤st.length∧(∀ b o,Ga b=some o→gh.2 b=some o)) (fun (gh:Nat × GH)=>st.length - gh.1) ((0,Ga)) (by exact (H).sub ⟨rfl,rfl,rfl,rfl,rfl,trivial⟩) ?_ ?_
 ·exact ⟨Nat.zero_le _,fun _ _ h=>h⟩
 clear H;intro gh a w hI H;obtain ⟨k,g1⟩:=gh;dsimp only at hI H;obtain ⟨hk,hmg1⟩:=hI;dsimp only [List.cons_append,List.nil_append,List.append_nil] at H;refine c_seqR (fun _ K5=>?_);refine kH H (Rc rfl ?_);clear H;intro a H;refine K5 _ _ ?_;clear K5;refine c_seq (fun _ K6=>?_);refine c_cond H rfl ?_ ?_
 ·intro h22
  try have p22:=of_decide_eq_true h22
  have hk2:k < st.length:=by omega
  obtain ⟨xb,xo,pA,pc,rfl,hrow,-,-⟩:=style_at (hst.mono hmg1) hk2;have hnew:=mSty_new f1 hk2;refine c_skip ?_;refine K6 _ _ ?_;clear K6;refine c_seq (fun _ K7=>?_);refine c_block ?_;refine c_seqR (fun _ K8=>?_);refine s_index un41sty ty100sty _ H wn rfl rfl rfl (by first|assumption|omega) rfl ?_;clear H;intro a H;refine s_loada ty100sty (cs:=_) H wn rfl rfl (fun j v hj=>H.hp.gcell (hrow j v hj)) rfl ?_;clear H;intro a H;refine s_alloc ty100sty H wn rfl ?_;clear H;intro b5 a w hb5 H;refine s_store ty100sty 0 (vs:=[_,_,_,_,_,_]) _ H wn rfl rfl rfl rfl rfl rfl rfl rfl ?_;clear H;intro w H;dsimp only [List.set,setRow] at H;refine K8 _ _ ?_;clear K8;refine c_drawI (hmx) [[],[0],[0,1],[0,1,2],[],[4],[],[6],(List.range 8)] [8] (by kernel_rfl) (by kernel_rfl) (fun (ix_:Nat) (v:Value) (G:GH)=>match ix_ with|0=>v=.pointer (some ⟨b16,0,none⟩)|1=>v=.pointer (some ⟨b16,0,none⟩)|2=>v=.pointer (some ⟨b16,0,none⟩)|3=>v=.map (some b10)|4=>v=.pointer (some ⟨b5,0,none⟩)|5=>v=vi st[k].id|6=>v=.pointer (some ⟨b5,1,none⟩)|7=>v=vi st[k].kind|_=>True) (fun _ _ _ _ _ h=>h) H ?_ ?_
  ·clear H;refine al4 ?_ ?_ ?_ ?_ (al4 ?_ ?_ ?_ ?_ (allI_cons ?_ allI_nil))
   ·exact Op0 rfl fun _ _ _ _ _ _ H fin=>kH H (Rm rfl fun _ H=>fin H iJ rfl)
   ·exact Op1 0 25 rfl rfl fun _ _ _ _ _ _ H fin=>kH H (Rk rfl fun _ H=>fin H iJ rfl)
   ·exact Op1 1 26 rfl rfl fun _ _ _ _ _ _ H fin=>kH H (Rf fd140_0nck rfl fun _ H=>fin H iJ rfl)
   ·exact Op1 2 27 rfl rfl fun _ _ _ _ _ _ H fin=>kH H (Ro ty137nck 1 rfl rfl fun _ H=>fin H iJ rfl)
   ·exact Op0 rfl fun _ _ _ _ _ _ H fin=>kH H (Rf fd100_0sty rfl fun _ H=>fin H iJ rfl)
   ·exact Op1 4 29 rfl rfl fun _ _ _ _ _ _ H fin=>kH H (Ro ty3run 0 rfl rfl fun _ H=>fin H iJ rfl)
   ·exact Op0 rfl fun _ _ _ _ _ _ H fin=>kH H (Rf fd100_1sty rfl fun _ H=>fin H iJ rfl)
   ·exact Op1 6 31 rfl rfl fun _ _ _ _ _ _ H fin=>kH H (Ro ty3run 0 rfl rfl fun _ H=>fin H iJ rfl)
   exact opB rfl
  clear H;intro a w G hGm5 H hv;obtain ⟨u28,hu28,hp28⟩:=hv 3 28 (by decide) rfl;obtain rfl:u28=.map (some b10):=hp28;have H:=H.addS hu28;obtain ⟨u30,hu30,hp30⟩:=hv 5 30 (by decide) rfl;obtain rfl:u30=vi st[k].id:=hp30;have H:=H.addS hu30;obtain ⟨u32,hu32,hp32⟩:=hv 7 32 (by decide) rfl;obtain rfl:u32=vi st[k].kind:=hp32;have H:=H.addS hu32;clear hv;refine s_putK (i:=6) un137chn un3cp H wn rfl rfl rfl rfl hnew ?_;clear H;intro w H;dsimp only [List.set,List.append,List.cons_append,List.nil_append] at H;rw [← mSty_snoc hk2] at H;refine wl_nil ⟨rfl,?_⟩;refine K7 _ _ ?_;clear K7;refine c_region ?_;refine s_add _ H wn rfl rfl rfl (by omega) (by omega) rfl ?_;clear H;intro a H;refine kH H (Rm rfl ?_);clear H;intro a H;refine wl_nil ?_;refine loop_end ((k+1,G)) (by exact (H.pickT (Pl:=[_,_,_,_,_,_,_]) (Pl':=[_,_,_,_,_,_]) [1,2,3,4,5,6] (by decide) rfl).sub ⟨rfl,rfl,rfl,rfl,rfl,trivial⟩) ?_ ?_
  ·(try dsimp only);exact ⟨by omega,fun b o h=>hGm5 b o (hmg1 b o h)⟩
  first|omega|(dsimp only;omega)
 intro h22
 try have p22:=of_decide_eq_false h22
 obtain rfl:k=st.length:=by omega
 rw [List.take_length] at H;have hc8g:=gcell_mono hmg1 hc8;refine c_exit ?_;refine K3 _ _ ?_;clear K3;refine c_seq (fun _ K9=>?_);refine c_seqR (fun _ K10=>?_);refine kH H (Rf fd50_3nck rfl (Rf fd46_1dsv rfl ?_));clear H;intro a H;refine s_load ty42dst H wn rfl (H.hp.gcell (by assumption)) rfl ?_;clear H;intro a H;refine kH H (Rl un42dst rfl (Rm rfl ?_));clear H;intro a H;refine K10 _ _ ?_;clear K10;refine c_block ?_;skip;refine c_loopS (ι:=Nat × GH) (Tc:=[(1,_),(3,_),(36,_),(37,_)]) (Lc:=[(_,_),(_,_),(_,_),(_,_),(_,_)]) (fun (gh:Nat × GH)=>[(38,vi gh.1)]) (fun (gh:Nat × GH)=>[(b11,mpK (mSet ((li.map LiD.id).take gh.1)))]) (fun (gh:Nat × GH)=>gh.2) (fun (gh:Nat × GH)=>gh.1≤li.length∧(∀ b o,g1 b=some o→gh.2 b=some o)) (fun (gh:Nat × GH)=>li.length - gh.1) ((0,g1)) (by exact (H.pickT (Pl:=[_,_,_,_,_,_]) (Pl':=[_,_,_,_,_,_]) [0,1,2,3,5,4] (by decide) rfl).sub ⟨rfl,rfl,rfl,rfl,rfl,trivial⟩) ?_ ?_
 ·exact ⟨Nat.zero_le _,fun _ _ h=>h⟩
 clear H;intro gh a w hI H;obtain ⟨k,g2⟩:=gh;dsimp only at hI H;obtain ⟨hk,hmg2⟩:=hI;dsimp only [List.cons_append,List.nil_append,List.append_nil] at H;refine c_seqR (fun _ K11=>?_);refine kH H (Rc rfl ?_);clear H;intro a H;refine K11 _ _ ?_;clear K11;refine c_seq (fun _ K12=>?_);refine c_cond H rfl ?_ ?_
 ·intro h39
  try have p39:=of_decide_eq_true h39
  have hk2:k < li.length:=by omega
  obtain ⟨xb,xo,B,d,rfl,hrow,-⟩:=li_at ((hli.mono hmg1).mono hmg2) hk2
  have hk3:k < (li.map LiD.id).length:=by simpa using hk2
  have hnew:=mSet_new f2 hk3
  have hgk:(li.map LiD.id)[k]=li[k].id:=by simp
  rw [hgk] at hnew;refine c_skip ?_;refine K12 _ _ ?_;clear K12;refine c_seq (fun _ K13=>?_);refine c_block ?_;refine c_seqR (fun _ K14=>?_);refine s_index un42dst ty105dst _ H wn rfl rfl rfl (by first|assumption|omega) rfl ?_;clear H;intro a H;refine s_loada ty105dst (cs:=_) H wn rfl rfl (fun j v hj=>H.hp.gcell (hrow j v hj)) rfl ?_;clear H;intro a H;refine s_alloc ty105dst H wn rfl ?_;clear H;intro b7 a w hb7 H;refine s_store ty105dst 0 (vs:=[_,_]) _ H wn rfl rfl rfl rfl rfl rfl rfl rfl ?_;clear H;intro w H;dsimp only [List.set,setRow] at H;refine K14 _ _ ?_;clear K14;refine c_drawI (hmx) [[],[0],[0,1],[0,1,2],[],[4],[0,1,2,3,4,5]] [6] (by kernel_rfl) (by kernel_rfl) (fun (ix_:Nat) (v:Value) (G:GH)=>match ix_ with|0=>v=.pointer (some ⟨b16,0,none⟩)|1=>v=.pointer (some ⟨b16,0,none⟩)|2=>v=.pointer (some ⟨b16,1,none⟩)|3=>v=.map (some b11)|4=>v=.pointer (some ⟨b7,0,none⟩)|5=>v=vi li[k].id|_=>True) (fun _ _ _ _ _ h=>h) H ?_ ?_
  ·clear H;refine al4 ?_ ?_ ?_ ?_ (allI_cons ?_ (allI_cons ?_ (allI_cons ?_ allI_nil)))
   ·exact Op0 rfl fun _ _ _ _ _ _ H fin=>kH H (Rm rfl fun _ H=>fin H iJ rfl)
   ·exact Op1 0 42 rfl rfl fun _ _ _ _ _ _ H fin=>kH H (Rk rfl fun _ H=>fin H iJ rfl)
   ·exact Op1 1 43 rfl rfl fun _ _ _ _ _ _ H fin=>kH H (Rf fd140_1nck rfl fun _ H=>fin H iJ rfl)
   ·exact Op1 2 44 rfl rfl fun _ _ _ _ _ _ H fin=>kH H (Ro ty138nck 1 rfl rfl fun _ H=>fin H iJ rfl)
   ·exact Op0 rfl fun _ _ _ _ _ _ H fin=>kH H (Rf fd105_0dst rfl fun _ H=>fin H iJ rfl)
   ·exact Op1 4 46 rfl rfl fun _ _ _ _ _ _ H fin=>kH H (Ro ty3run 0 rfl rfl fun _ H=>fin H iJ rfl)
   exact opB rfl
  clear H;intro a w G hGm10 H hv;obtain ⟨u45,hu45,hp45⟩:=hv 3 45 (by decide) rfl;obtain rfl:u45=.map (some b11):=hp45;have H:=H.addS hu45;obtain ⟨u47,hu47,hp47⟩:=hv 5 47 (by decide) rfl;obtain rfl:u47=vi li[k].id:=hp47;have H:=H.addS hu47;clear hv;refine s_putK (i:=6) un138nck un3cp H wn rfl rfl rfl rfl hnew ?_;clear H;intro w H;dsimp only [List.set,List.append,List.cons_append,List.nil_append] at H;rw [← hgk,← mSet_snoc hk3] at H;refine wl_nil ⟨rfl,?_⟩;refine K13 _ _ ?_;clear K13;refine c_region ?_;refine s_add _ H wn rfl rfl rfl (by omega) (by omega) rfl ?_;clear H;intro a H;refine kH H (Rm rfl ?_);clear H;intro a H;refine wl_nil ?_;refine loop_end ((k+1,G)) (by exact (H.pickT (Pl:=[_,_,_,_,_,_,_]) (Pl':=[_,_,_,_,_,_]) [1,2,3,4,5,6] (by decide) rfl).sub ⟨rfl,rfl,rfl,rfl,rfl,trivial⟩) ?_ ?_
  ·(try dsimp only);exact ⟨by omega,fun b o h=>hGm10 b o (hmg2 b o h)⟩
  first|omega|(dsimp only;omega)
 intro h39
 try have p39:=of_decide_eq_false h39
 obtain rfl:k=li.length:=by omega
 rw [List.take_of_length_le (by simp)] at H;have hc6g:=gcell_mono hmg2 (gcell_mono hmg1 hc6);refine c_exit ?_;refine K9 _ _ ?_;clear K9;refine c_seq (fun _ K15=>?_);refine c_seqR (fun _ K16=>?_);refine kH H (Rf fd50_2nck rfl ?_);clear H;intro a H;refine s_load ty48nck H wn rfl (H.hp.gcell (by assumption)) rfl ?_;clear H;intro a H;refine kH H (Rl un48nck rfl (Rm rfl ?_));clear H;intro a H;refine K16 _ _ ?_;clear K16;refine c_block ?_;skip;refine c_loopS (ι:=Nat × GH) (Tc:=[(3,_),(50,_),(51,_)]) (Lc:=[(_,_),(_,_),(_,_),(_,_),(_,_)]) (fun (gh:Nat × GH)=>[(52,vi gh.1)]) (fun (gh:Nat × GH)=>[(b12,mpK (mSet ((rv.map RvD.id).take gh.1)))]) (fun (gh:Nat × GH)=>gh.2) (fun (gh:Nat × GH)=>gh.1≤rv.length∧(∀ b o,g2 b=some o→gh.2 b=some o)) (fun (gh:Nat × GH)=>rv.length - gh.1) ((0,g2)) (by exact (H.pickT (Pl:=[_,_,_,_,_,_]) (Pl':=[_,_,_,_,_,_]) [0,1,2,4,5,3] (by decide) rfl).sub ⟨rfl,rfl,rfl,rfl,trivial⟩) ?_ ?_
 ·exact ⟨Nat.zero_le _,fun _ _ h=>h⟩
 clear H;intro gh a w hI H;obtain ⟨k,g3⟩:=gh;dsimp only at hI H;obtain ⟨hk,hmg3⟩:=hI;dsimp only [List.cons_append,List.nil_append,List.append_nil] at H;refine c_seqR (fun _ K17=>?_);refine kH H (Rc rfl ?_);clear H;intro a H;refine K17 _ _ ?_;clear K17;refine c_seq (fun _ K18=>?_);refine c_cond H rfl ?_ ?_
 ·intro h53
  try have p53:=of_decide_eq_true h53
  have hk2:k < rv.length:=by omega
  obtain ⟨xb,xo,rfl,hrow⟩:=rv_at (((hrv.mono hmg1).mono hmg2).mono hmg3) hk2
  have hk3:k < (rv.map RvD.id).length:=by simpa using hk2
  have hnew:=mSet_new f3 hk3
  have hgk:(rv.map RvD.id)[k]=rv[k].id:=by simp
  rw [hgk] at hnew;refine c_skip ?_;refine K18 _ _ ?_;clear K18;refine c_seq (fun _ K19=>?_);refine c_block ?_;refine c_seqR (fun _ K20=>?_);refine s_index un48nck ty65nck _ H wn rfl rfl rfl (by first|assumption|omega) rfl ?_;clear H;intro a H;refine s_loada ty65nck (cs:=_) H wn rfl rfl (fun j v hj=>H.hp.gcell (hrow j v hj)) rfl ?_;clear H;intro a H;refine s_alloc ty65nck H wn rfl ?_;clear H;intro b9 a w hb9 H;refine s_store ty65nck 0 (vs:=[_,_,_]) _ H wn rfl rfl rfl rfl rfl rfl rfl rfl ?_;clear H;intro w H;dsimp only [List.set,setRow] at H;refine K20 _ _ ?_;clear K20;refine c_drawI (hmx) [[],[0],[0,1],[0,1,2],[],[4],[0,1,2,3,4,5]] [6] (by kernel_rfl) (by kernel_rfl) (fun (ix_:Nat) (v:Value) (G:GH)=>match ix_ with|0=>v=.pointer (some ⟨b16,0,none⟩)|1=>v=.pointer (some ⟨b16,0,none⟩)|2=>v=.pointer (some ⟨b16,2,none⟩)|3=>v=.map (some b12)|4=>v=.pointer (some ⟨b9,0,none⟩)|5=>v=vi rv[k].id|_=>True) (fun _ _ _ _ _ h=>h) H ?_ ?_
  ·clear H;refine al4 ?_ ?_ ?_ ?_ (allI_cons ?_ (allI_cons ?_ (allI_cons ?_ allI_nil)))
   ·exact Op0 rfl fun _ _ _ _ _ _ H fin=>kH H (Rm rfl fun _ H=>fin H iJ rfl)
   ·exact Op1 0 56 rfl rfl fun _ _ _ _ _ _ H fin=>kH H (Rk rfl fun _ H=>fin H iJ rfl)
   ·exact Op1 1 57 rfl rfl fun _ _ _ _ _ _ H fin=>kH H (Rf fd140_2nck rfl fun _ H=>fin H iJ rfl)
   ·exact Op1 2 58 rfl rfl fun _ _ _ _ _ _ H fin=>kH H (Ro ty138nck 1 rfl rfl fun _ H=>fin H iJ rfl)
   ·exact Op0 rfl fun _ _ _ _ _ _ H fin=>kH H (Rf fd65_0nck rfl fun _ H=>fin H iJ rfl)
   ·exact Op1 4 60 rfl rfl fun _ _ _ _ _ _ H fin=>kH H (Ro ty3run 0 rfl rfl fun _ H=>fin H iJ rfl)
   exact opB rfl
  clear H;intro a w G hGm15 H hv;obtain ⟨u59,hu59,hp59⟩:=hv 3 59 (by decide) rfl;obtain rfl:u59=.map (some b12):=hp59;have H:=H.addS hu59;obtain ⟨u61,hu61,hp61⟩:=hv 5 61 (by decide) rfl;obtain rfl:u61=vi rv[k].id:=hp61;have H:=H.addS hu61;clear hv;refine s_putK (i:=6) un138nck un3cp H wn rfl rfl rfl rfl hnew ?_;clear H;intro w H;dsimp only [List.set,List.append,List.cons_append,List.nil_append] at H;rw [← hgk,← mSet_snoc hk3] at H;refine wl_nil ⟨rfl,?_⟩;refine K19 _ _ ?_;clear K19;refine c_region ?_;refine s_add _ H wn rfl rfl rfl (by omega) (by omega) rfl ?_;clear H;intro a H;refine kH H (Rm rfl ?_);clear H;intro a H;refine wl_nil ?_;refine loop_end ((k+1,G)) (by exact (H.pickT (Pl:=[_,_,_,_,_,_,_]) (Pl':=[_,_,_,_,_,_]) [1,2,3,4,5,6] (by decide) rfl).sub ⟨rfl,rfl,rfl,rfl,trivial⟩) ?_ ?_
  ·(try dsimp only);exact ⟨by omega,fun b o h=>hGm15 b o (hmg3 b o h)⟩
  first|omega|(dsimp only;omega)
 intro h53
 try have p53:=of_decide_eq_false h53
 obtain rfl:k=rv.length:=by omega
 rw [List.take_of_length_le (by simp)] at H;refine c_exit ?_;refine K15 _ _ ?_;clear K15;refine c_seqR (fun _ K21=>?_);refine kH H (Rm rfl (Ra rfl ?_));clear H;intro a H;refine K21 _ _ ?_;clear K21;refine c_ret ?_;have H:=H.pickT (Pl:=[_,_,_,_,_,_]) (Pl':=[_,_,_,_,_,_]) [3,4,5,1,0,2] (by decide) rfl;obtain ⟨Gs,hms,hs,H⟩:=H.giveBox;obtain ⟨Gl,hml2,hl,H⟩:=H.giveBox;obtain ⟨Gr,hmr,hr,H⟩:=H.giveBox;obtain ⟨Gu,hmu,hu,H⟩:=H.giveBox;refine lv H Tryz.results63 rfl ?_;exact H.hp.retL ⟨b16,b10,b11,b12,b13,b14,rfl,rfl,⟨hmu _ _ (hmr _ _ (hml2 _ _ hs)),hmu _ _ (hmr _ _ hl),hmu _ _ hr,hu⟩⟩
end
section
open Go.RowKit
theorem fd140_4cid:Fld Tryz.prog 140 4 4:=⟨by kernel_rfl⟩
theorem fd140_3cid:Fld Tryz.prog 140 3 3:=⟨by kernel_rfl⟩
theorem lk_set (x:Int):∀ l:List Int,(lkK x (mSet l)).getD (.bool false)=.bool (decide (x∈l))
 | []=>rfl
 | k :: r=>by
  have ih:=lk_set x r;rw [mSet,List.map_cons,lkK]
  by_cases e:k=x
  ·subst e;simp
  rw [if_neg e,show (r.map fun k=>(k,Value.bool true))=mSet r from rfl,ih]
  simp [show x≠k from fun h=>e h.symm]
def stK (st:List StyleD) (v:Int):Int:=((st.find? fun s=>decide (s.id=v)).map StyleD.kind).getD 0
theorem lk_sty (x:Int):∀ l:List StyleD,(lkK x (mSty l)).getD (vi 0)=vi (stK l x)
 | []=>rfl
 | s :: r=>by
  have ih:=lk_sty x r;rw [mSty,List.map_cons,lkK]
  by_cases e:s.id=x
  ·subst e;simp [stK]
  rw [if_neg e,show (r.map fun s=>(s.id,vi s.kind))=mSty r from rfl,ih]
  simp [stK,e]
/-- The error of an id behind others, and the ids with it. -/
def idE (bef:List Int) (x:Int):Int:=if ¬ (1≤x∧x≤1073741824) then 18 else if x∈bef then 7 else 0
def idB (bef:List Int) (x:Int):List Int:=if idE bef x=0 then bef++[x] else bef
theorem mSet_app (l:List Int) (x:Int):mSet (l++[x])=mSet l++[(x,.bool true)]:=by simp [mSet]
theorem ckId_spec (G:GH) (L:OL) (w0:World) (st:List StyleD) (li:List LiD) (rv:List RvD) (b ms ml mr mb mu:Nat) (n:Int) (bef:List Int) (x:Int) (hck:CkG G st li rv ms ml mr mu) (hO:Owns G (ckB b ms ml mr mb mu n :: (mb,mpK (mSet bef)) :: L) w0) :
  Calls Tryz.prog 198 #[.pointer (some ⟨b,0,none⟩),vi x] w0 (RetL w0 G (ckB b ms ml mr mb mu n :: (mb,mpK (mSet bef)) :: L) fun u G' L'=>u=vi (idE bef x)∧L'=ckB b ms ml mr mb mu n :: (mb,mpK (mSet (idB bef x))) :: L∧G=G'):=by
 refine enterL (N:=29) (T:=[(0,_),(1,_)]) Tryz.func198 rfl Tryz.ntmps198 rfl rfl hO ?_;intro a H;refine c_seqR (fun _ K1=>?_);refine kH H (Ra rfl ?_);clear H;intro a H;refine K1 _ _ ?_;clear K1;refine c_seq (fun _ K2=>?_);refine c_block ?_;refine c_seqR (fun _ K3=>?_);refine kH H (Rm rfl ?_);clear H;intro a H;refine s_call en128fst H wn rfl (in_spec _ _ H.hp.ro x 1 1073741824) rfl ?_;clear H;rintro v7 _ a w ⟨rfl,rfl⟩ - H;refine kH H (Rn rfl (Rm rfl ?_));clear H;intro a H;refine s_split H 9 rfl ?_ ?_
 ·intro h9
  try have p9:=of_decide_eq_true h9
  (iterate 6 refine s_skip H rfl rfl h9 rfl ?_;clear H;intro a H);refine s_pick_t H wn rfl h9 rfl rfl ?_;clear H;intro a H;refine kH H (Ra rfl ?_);clear H;intro a H;refine K3 _ _ ?_;clear K3;refine c_cond_t H rfl rfl ?_;refine c_seq (fun _ K4=>?_)
  have e:idE bef x=18:=by rw [idE,if_pos (by first|(simp_all;done)|(simp_all;omega))]
  refine c_region ?_;refine kH H (Ra rfl ?_);clear H;intro a H;refine wl_nil ?_;refine K4 _ _ ?_;clear K4;refine c_ret ?_;refine lv H Tryz.results198 rfl ?_
  first
   | exact H.hp.retL ⟨by rw [e],by rw [idB,if_pos e],rfl⟩
   | exact H.hp.retL ⟨by rw [e],by rw [idB,if_neg (by rw [e];decide)],rfl⟩
 intro h9
 try have p9:=of_decide_eq_false h9
 refine s_move H (wg H rfl rfl h9) rfl rfl ?_;clear H;intro a H;refine s_nilCheck H (wg H rfl rfl h9) rfl rfl ?_;clear H;intro a H;refine s_field fd140_4cid H (wg H rfl rfl h9) rfl rfl ?_;clear H;intro a H;refine s_load ty138nck H (wg H rfl rfl h9) rfl (H.hp.ocell 0 rfl rfl) rfl ?_;clear H;intro a H;refine s_move H (wg H rfl rfl h9) rfl rfl ?_;clear H;intro a H;refine s_lookupK (zv:=.bool false) un138nck un3cp (by kernel_rfl) H (wg H rfl rfl h9) rfl rfl (H.hp.ro _ _ hck.use) rfl ?_;clear H;intro a H;rw [show (lkK x []).getD (Value.bool false)=.bool false from rfl] at H;refine s_pick_f H wn rfl h9 rfl rfl ?_;clear H;intro a H;refine kH H (Ra rfl ?_);clear H;intro a H;refine K3 _ _ ?_;clear K3;refine c_cond H rfl ?_ ?_
 ·intro h5
  try have p5:=of_decide_eq_true h5
  refine c_seq (fun _ K5=>?_)
  have e:idE bef x=18:=by rw [idE,if_pos (by first|(simp_all;done)|(simp_all;omega))]
  refine c_region ?_;refine kH H (Ra rfl ?_);clear H;intro a H;refine wl_nil ?_;refine K5 _ _ ?_;clear K5;refine c_ret ?_;refine lv H Tryz.results198 rfl ?_
  first
   | exact H.hp.retL ⟨by rw [e],by rw [idB,if_pos e],rfl⟩
   | exact H.hp.retL ⟨by rw [e],by rw [idB,if_neg (by rw [e];decide)],rfl⟩
 intro h5
 try have p5:=of_decide_eq_false h5
 have hin:decide (1≤x∧x≤1073741824)=true:=by simp_all
 refine c_seqR (fun _ K6=>?_);refine kH H (Rm rfl (Rk rfl (Rf fd140_3cid rfl (Ro ty138nck 0 rfl rfl (Rm rfl ?_)))));clear H;intro a H;refine s_lookupK (zv:=.bool false) un138nck un3cp (by kernel_rfl) H wn rfl rfl (H.hp.own _ (List.mem_cons_of_mem _ List.mem_cons_self)) rfl ?_;clear H;intro a H;rw [lk_set] at H;refine kH H (Ra rfl ?_);clear H;intro a H;refine K6 _ _ ?_;clear K6;refine c_cond H rfl ?_ ?_
 ·intro h17
  try have p17:=of_decide_eq_true h17
  refine c_seq (fun _ K7=>?_)
  have e:idE bef x=7:=by rw [idE,if_neg (by simpa using hin),if_pos (of_decide_eq_true h17)]
  refine c_region ?_;refine kH H (Ra rfl ?_);clear H;intro a H;refine wl_nil ?_;refine K7 _ _ ?_;clear K7;refine c_ret ?_;refine lv H Tryz.results198 rfl ?_
  first
   | exact H.hp.retL ⟨by rw [e],by rw [idB,if_pos e],rfl⟩
   | exact H.hp.retL ⟨by rw [e],by rw [idB,if_neg (by rw [e];decide)],rfl⟩
 intro h17
 try have p17:=of_decide_eq_false h17
 have hx:x∉bef:=of_decide_eq_false h17;have hnew:lkK x (mSet bef)=none:=lkK_none (by simpa [mSet,List.map_map,Function.comp_def] using hx)
 have e:idE bef x=0:=by rw [idE,if_neg (by simpa using hin),if_neg hx]
 refine c_skip ?_;refine K2 _ _ ?_;clear K2;refine c_seqR (fun _ K8=>?_);refine kH H (Rm rfl (Rk rfl (Rf fd140_3cid rfl (Ro ty138nck 0 rfl rfl (Rm rfl ?_)))));clear H;intro a H;refine s_putK (i:=1) un138nck un3cp H wn rfl rfl rfl rfl hnew ?_;clear H;intro w H;dsimp only [List.set] at H;rw [← mSet_app] at H;refine K8 _ _ ?_;clear K8;refine c_seqR (fun _ K9=>?_);refine kH H (Ra rfl ?_);clear H;intro a H;refine K9 _ _ ?_;clear K9;refine c_ret ?_;refine lv H Tryz.results198 rfl ?_
 first
  | exact H.hp.retL ⟨by rw [e],by rw [idB,if_pos e],rfl⟩
  | exact H.hp.retL ⟨by rw [e],by rw [idB,if_neg (by rw [e];decide)],rfl⟩
/-- The error of a value that is an id. -/
def refE (st:List StyleD) (lis:List Int) (key v:Int):Int :=
 if key=20∨key=1 then whenE (decide (v≠0∧stK st v≠(if key=1 then 2 else 1))) 25 else if key=33 then whenE (decide (v≠0∧v∉lis)) 26 else 0
theorem ckRef_spec (G:GH) (w0:World) (hG:Hold G w0) (st:List StyleD) (li:List LiD) (rv:List RvD) (b ms ml mr mb mu:Nat) (n:Int) (key v:Int) (hck:CkG G st li rv ms ml mr mu) (hb:G b=some (ckB b ms ml mr mb mu n).2) :
  Calls Tryz.prog 136 #[.pointer (some ⟨b,0,none⟩),vi key,vi v] w0 (Ret w0 G fun u G'=>u=vi (refE st (li.map LiD.id) key v)∧G=G'):=by
 have hc0:gcell G b 0=some (.map (some ms)):=by unfold gcell;rw [hb];rfl
 have hc1:gcell G b 1=some (.map (some ml)):=by unfold gcell;rw [hb];rfl
 refine eN [(0,_),(1,_),(2,_)] Tryz.func136 rfl Tryz.ntmps136 rfl rfl hG ?_;intro a H;refine c_seqR (fun _ K1=>?_);refine kH H (Ra rfl ?_);clear H;intro a H;refine K1 _ _ ?_;clear K1;refine c_seq (fun _ K2=>?_);refine c_seqR (fun _ K3=>?_);refine kH H (Rm rfl ?_);clear H;intro a H;refine K3 _ _ ?_;clear K3;refine c_block ?_;refine c_seq (fun _ K4=>?_);refine c_seqR (fun _ K5=>?_);refine kH H (Rc rfl (Ra rfl ?_));clear H;intro a H;refine K5 _ _ ?_;clear K5;refine c_cond H rfl ?_ ?_
 ·intro h9
  try have p9:=of_decide_eq_true h9
  refine c_skip ?_;refine K4 _ _ ?_;clear K4;refine c_cond_t H rfl h9 ?_;refine c_seqR (fun _ K6=>?_);refine kH H (Ra rfl ?_);clear H;intro a H;refine K6 _ _ ?_;clear K6;refine c_seq (fun _ K7=>?_);refine c_seqR (fun _ K8=>?_);refine kH H (Rm rfl (Rc rfl ?_));clear H;intro a H;refine K8 _ _ ?_;clear K8;refine c_cond H rfl ?_ ?_
  ·intro h13
   try have p13:=of_decide_eq_true h13
   refine c_region ?_;refine kH H (Ra rfl ?_);clear H;intro a H;refine wl_nil ?_;refine K7 _ _ ?_;clear K7;refine c_seqR (fun _ K9=>?_);refine kH H (Rm rfl (Rc rfl (Rm rfl ?_)));clear H;intro a H;refine s_split H 16 rfl ?_ ?_
   ·intro h16
    try have p16:=of_decide_eq_true h16
    refine s_move H (wg H rfl rfl h16) rfl rfl ?_;clear H;intro a H;refine s_nilCheck H (wg H rfl rfl h16) rfl rfl ?_;clear H;intro a H;refine s_field fd140_0nck H (wg H rfl rfl h16) rfl rfl ?_;clear H;intro a H;refine s_load ty137nck H (wg H rfl rfl h16) rfl (H.hp.gcell (by assumption)) rfl ?_;clear H;intro a H;refine s_move H (wg H rfl rfl h16) rfl rfl ?_;clear H;intro a H;refine s_lookupK (zv:=vi 0) un137chn un3cp (by kernel_rfl) H (wg H rfl rfl h16) rfl rfl (H.hp.ro _ _ hck.sty) rfl ?_;clear H;intro a H;rw [lk_sty] at H;refine s_move H (wg H rfl rfl h16) rfl rfl ?_;clear H;intro a H;refine s_cmp H (wg H rfl rfl h16) rfl rfl rfl rfl ?_;clear H;intro a H;refine s_pick_t H wn rfl h16 rfl rfl ?_;clear H;intro a H;refine s_call en65nam H wn rfl (when_spec _ _ H.hp.ro _ 25) rfl ?_;clear H;rintro v26 _ a w ⟨rfl,rfl⟩ - H;refine kH H (Ra rfl ?_);clear H;intro a H;refine K9 _ _ ?_;clear K9;refine c_ret ?_;refine lv H Tryz.results136 rfl ?_
    exact H.hp.ret ⟨congrArg vi (by unfold refE;(repeat' split) <;> first|rfl|(simp_all;done)|(exfalso;simp_all;done)|(congr 1;rw [Bool.eq_iff_iff];simp only [Bool.not_eq_true',decide_eq_false_iff_not,decide_eq_true_eq];exact ⟨fun h=>⟨p31,h⟩,fun h=>h.2⟩)),rfl⟩
   intro h16
   try have p16:=of_decide_eq_false h16
   (iterate 8 refine s_skip H rfl rfl h16 rfl ?_;clear H;intro a H);refine s_pick_f H wn rfl h16 rfl rfl ?_;clear H;intro a H;refine s_call en65nam H wn rfl (when_spec _ _ H.hp.ro _ 25) rfl ?_;clear H;rintro v26 _ a w ⟨rfl,rfl⟩ - H;refine kH H (Ra rfl ?_);clear H;intro a H;refine K9 _ _ ?_;clear K9;refine c_ret ?_;refine lv H Tryz.results136 rfl ?_
   exact H.hp.ret ⟨congrArg vi (by unfold refE;(repeat' split) <;> first|rfl|(simp_all;done)|(exfalso;simp_all;done)|(congr 1;rw [Bool.eq_iff_iff];simp only [Bool.not_eq_true',decide_eq_false_iff_not,decide_eq_true_eq];exact ⟨fun h=>⟨p31,h⟩,fun h=>h.2⟩)),rfl⟩
  intro h13
  try have p13:=of_decide_eq_false h13
  refine c_skip ?_;refine K7 _ _ ?_;clear K7;refine c_seqR (fun _ K10=>?_);refine kH H (Rm rfl (Rc rfl (Rm rfl ?_)));clear H;intro a H;refine s_split H 16 rfl ?_ ?_
  ·intro h16
   try have p16:=of_decide_eq_true h16
   refine s_move H (wg H rfl rfl h16) rfl rfl ?_;clear H;intro a H;refine s_nilCheck H (wg H rfl rfl h16) rfl rfl ?_;clear H;intro a H;refine s_field fd140_0nck H (wg H rfl rfl h16) rfl rfl ?_;clear H;intro a H;refine s_load ty137nck H (wg H rfl rfl h16) rfl (H.hp.gcell (by assumption)) rfl ?_;clear H;intro a H;refine s_move H (wg H rfl rfl h16) rfl rfl ?_;clear H;intro a H;refine s_lookupK (zv:=vi 0) un137chn un3cp (by kernel_rfl) H (wg H rfl rfl h16) rfl rfl (H.hp.ro _ _ hck.sty) rfl ?_;clear H;intro a H;rw [lk_sty] at H;refine s_move H (wg H rfl rfl h16) rfl rfl ?_;clear H;intro a H;refine s_cmp H (wg H rfl rfl h16) rfl rfl rfl rfl ?_;clear H;intro a H;refine s_pick_t H wn rfl h16 rfl rfl ?_;clear H;intro a H;refine s_call en65nam H wn rfl (when_spec _ _ H.hp.ro _ 25) rfl ?_;clear H;rintro v26 _ a w ⟨rfl,rfl⟩ - H;refine kH H (Ra rfl ?_);clear H;intro a H;refine K10 _ _ ?_;clear K10;refine c_ret ?_;refine lv H Tryz.results136 rfl ?_
   exact H.hp.ret ⟨congrArg vi (by unfold refE;(repeat' split) <;> first|rfl|(simp_all;done)|(exfalso;simp_all;done)|(congr 1;rw [Bool.eq_iff_iff];simp only [Bool.not_eq_true',decide_eq_false_iff_not,decide_eq_true_eq];exact ⟨fun h=>⟨p31,h⟩,fun h=>h.2⟩)),rfl⟩
  intro h16
  try have p16:=of_decide_eq_false h16
  (iterate 8 refine s_skip H rfl rfl h16 rfl ?_;clear H;intro a H);refine s_pick_f H wn rfl h16 rfl rfl ?_;clear H;intro a H;refine s_call en65nam H wn rfl (when_spec _ _ H.hp.ro _ 25) rfl ?_;clear H;rintro v26 _ a w ⟨rfl,rfl⟩ - H;refine kH H (Ra rfl ?_);clear H;intro a H;refine K10 _ _ ?_;clear K10;refine c_ret ?_;refine lv H Tryz.results136 rfl ?_
  exact H.hp.ret ⟨congrArg vi (by unfold refE;(repeat' split) <;> first|rfl|(simp_all;done)|(exfalso;simp_all;done)|(congr 1;rw [Bool.eq_iff_iff];simp only [Bool.not_eq_true',decide_eq_false_iff_not,decide_eq_true_eq];exact ⟨fun h=>⟨p31,h⟩,fun h=>h.2⟩)),rfl⟩
 intro h9
 try have p9:=of_decide_eq_false h9
 refine c_region ?_;refine kH H (Rc rfl (Ra rfl ?_));clear H;intro a H;refine wl_nil ?_;refine K4 _ _ ?_;clear K4;refine c_cond H rfl ?_ ?_
 ·intro h9
  try have p9:=of_decide_eq_true h9
  refine c_seqR (fun _ K11=>?_);refine kH H (Ra rfl ?_);clear H;intro a H;refine K11 _ _ ?_;clear K11;refine c_seq (fun _ K12=>?_);refine c_seqR (fun _ K13=>?_);refine kH H (Rm rfl (Rc rfl ?_));clear H;intro a H;refine K13 _ _ ?_;clear K13;refine c_cond H rfl ?_ ?_
  ·intro h13
   try have p13:=of_decide_eq_true h13
   refine c_region ?_;refine kH H (Ra rfl ?_);clear H;intro a H;refine wl_nil ?_;refine K12 _ _ ?_;clear K12;refine c_seqR (fun _ K14=>?_);refine kH H (Rm rfl (Rc rfl (Rm rfl ?_)));clear H;intro a H;refine s_split H 16 rfl ?_ ?_
   ·intro h16
    try have p16:=of_decide_eq_true h16
    refine s_move H (wg H rfl rfl h16) rfl rfl ?_;clear H;intro a H;refine s_nilCheck H (wg H rfl rfl h16) rfl rfl ?_;clear H;intro a H;refine s_field fd140_0nck H (wg H rfl rfl h16) rfl rfl ?_;clear H;intro a H;refine s_load ty137nck H (wg H rfl rfl h16) rfl (H.hp.gcell (by assumption)) rfl ?_;clear H;intro a H;refine s_move H (wg H rfl rfl h16) rfl rfl ?_;clear H;intro a H;refine s_lookupK (zv:=vi 0) un137chn un3cp (by kernel_rfl) H (wg H rfl rfl h16) rfl rfl (H.hp.ro _ _ hck.sty) rfl ?_;clear H;intro a H;rw [lk_sty] at H;refine s_move H (wg H rfl rfl h16) rfl rfl ?_;clear H;intro a H;refine s_cmp H (wg H rfl rfl h16) rfl rfl rfl rfl ?_;clear H;intro a H;refine s_pick_t H wn rfl h16 rfl rfl ?_;clear H;intro a H;refine s_call en65nam H wn rfl (when_spec _ _ H.hp.ro _ 25) rfl ?_;clear H;rintro v26 _ a w ⟨rfl,rfl⟩ - H;refine kH H (Ra rfl ?_);clear H;intro a H;refine K14 _ _ ?_;clear K14;refine c_ret ?_;refine lv H Tryz.results136 rfl ?_
    exact H.hp.ret ⟨congrArg vi (by unfold refE;(repeat' split) <;> first|rfl|(simp_all;done)|(exfalso;simp_all;done)|(congr 1;rw [Bool.eq_iff_iff];simp only [Bool.not_eq_true',decide_eq_false_iff_not,decide_eq_true_eq];exact ⟨fun h=>⟨p31,h⟩,fun h=>h.2⟩)),rfl⟩
   intro h16
   try have p16:=of_decide_eq_false h16
   (iterate 8 refine s_skip H rfl rfl h16 rfl ?_;clear H;intro a H);refine s_pick_f H wn rfl h16 rfl rfl ?_;clear H;intro a H;refine s_call en65nam H wn rfl (when_spec _ _ H.hp.ro _ 25) rfl ?_;clear H;rintro v26 _ a w ⟨rfl,rfl⟩ - H;refine kH H (Ra rfl ?_);clear H;intro a H;refine K14 _ _ ?_;clear K14;refine c_ret ?_;refine lv H Tryz.results136 rfl ?_
   exact H.hp.ret ⟨congrArg vi (by unfold refE;(repeat' split) <;> first|rfl|(simp_all;done)|(exfalso;simp_all;done)|(congr 1;rw [Bool.eq_iff_iff];simp only [Bool.not_eq_true',decide_eq_false_iff_not,decide_eq_true_eq];exact ⟨fun h=>⟨p31,h⟩,fun h=>h.2⟩)),rfl⟩
  intro h13
  try have p13:=of_decide_eq_false h13
  refine c_skip ?_;refine K12 _ _ ?_;clear K12;refine c_seqR (fun _ K15=>?_);refine kH H (Rm rfl (Rc rfl (Rm rfl ?_)));clear H;intro a H;refine s_split H 16 rfl ?_ ?_
  ·intro h16
   try have p16:=of_decide_eq_true h16
   refine s_move H (wg H rfl rfl h16) rfl rfl ?_;clear H;intro a H;refine s_nilCheck H (wg H rfl rfl h16) rfl rfl ?_;clear H;intro a H;refine s_field fd140_0nck H (wg H rfl rfl h16) rfl rfl ?_;clear H;intro a H;refine s_load ty137nck H (wg H rfl rfl h16) rfl (H.hp.gcell (by assumption)) rfl ?_;clear H;intro a H;refine s_move H (wg H rfl rfl h16) rfl rfl ?_;clear H;intro a H;refine s_lookupK (zv:=vi 0) un137chn un3cp (by kernel_rfl) H (wg H rfl rfl h16) rfl rfl (H.hp.ro _ _ hck.sty) rfl ?_;clear H;intro a H;rw [lk_sty] at H;refine s_move H (wg H rfl rfl h16) rfl rfl ?_;clear H;intro a H;refine s_cmp H (wg H rfl rfl h16) rfl rfl rfl rfl ?_;clear H;intro a H;refine s_pick_t H wn rfl h16 rfl rfl ?_;clear H;intro a H;refine s_call en65nam H wn rfl (when_spec _ _ H.hp.ro _ 25) rfl ?_;clear H;rintro v26 _ a w ⟨rfl,rfl⟩ - H;refine kH H (Ra rfl ?_);clear H;intro a H;refine K15 _ _ ?_;clear K15;refine c_ret ?_;refine lv H Tryz.results136 rfl ?_
   exact H.hp.ret ⟨congrArg vi (by unfold refE;(repeat' split) <;> first|rfl|(simp_all;done)|(exfalso;simp_all;done)|(congr 1;rw [Bool.eq_iff_iff];simp only [Bool.not_eq_true',decide_eq_false_iff_not,decide_eq_true_eq];exact ⟨fun h=>⟨p31,h⟩,fun h=>h.2⟩)),rfl⟩
  intro h16
  try have p16:=of_decide_eq_false h16
  (iterate 8 refine s_skip H rfl rfl h16 rfl ?_;clear H;intro a H);refine s_pick_f H wn rfl h16 rfl rfl ?_;clear H;intro a H;refine s_call en65nam H wn rfl (when_spec _ _ H.hp.ro _ 25) rfl ?_;clear H;rintro v26 _ a w ⟨rfl,rfl⟩ - H;refine kH H (Ra rfl ?_);clear H;intro a H;refine K15 _ _ ?_;clear K15;refine c_ret ?_;refine lv H Tryz.results136 rfl ?_
  exact H.hp.ret ⟨congrArg vi (by unfold refE;(repeat' split) <;> first|rfl|(simp_all;done)|(exfalso;simp_all;done)|(congr 1;rw [Bool.eq_iff_iff];simp only [Bool.not_eq_true',decide_eq_false_iff_not,decide_eq_true_eq];exact ⟨fun h=>⟨p31,h⟩,fun h=>h.2⟩)),rfl⟩
 intro h9
 try have p9:=of_decide_eq_false h9
 refine c_seqR (fun _ K16=>?_);refine kH H (Rc rfl (Ra rfl ?_));clear H;intro a H;refine K16 _ _ ?_;clear K16;refine c_cond H rfl ?_ ?_
 ·intro h27
  try have p27:=of_decide_eq_true h27
  refine c_seqR (fun _ K17=>?_);refine kH H (Rm rfl (Rc rfl (Rm rfl ?_)));clear H;intro a H;refine s_split H 31 rfl ?_ ?_
  ·intro h31
   try have p31:=of_decide_eq_true h31
   refine s_move H (wg H rfl rfl h31) rfl rfl ?_;clear H;intro a H;refine s_nilCheck H (wg H rfl rfl h31) rfl rfl ?_;clear H;intro a H;refine s_field fd140_1nck H (wg H rfl rfl h31) rfl rfl ?_;clear H;intro a H;refine s_load ty138nck H (wg H rfl rfl h31) rfl (H.hp.gcell (by assumption)) rfl ?_;clear H;intro a H;refine s_move H (wg H rfl rfl h31) rfl rfl ?_;clear H;intro a H;refine s_lookupK (zv:=.bool false) un138nck un3cp (by kernel_rfl) H (wg H rfl rfl h31) rfl rfl (H.hp.ro _ _ hck.lis) rfl ?_;clear H;intro a H;rw [lk_set] at H;refine s_not H (wg H rfl rfl h31) rfl rfl ?_;clear H;intro a H;refine s_pick_t H wn rfl h31 rfl rfl ?_;clear H;intro a H;refine s_call en65nam H wn rfl (when_spec _ _ H.hp.ro _ 26) rfl ?_;clear H;rintro v40 _ a w ⟨rfl,rfl⟩ - H;refine kH H (Ra rfl ?_);clear H;intro a H;refine K17 _ _ ?_;clear K17;refine c_ret ?_;refine lv H Tryz.results136 rfl ?_
   exact H.hp.ret ⟨congrArg vi (by unfold refE;(repeat' split) <;> first|rfl|(simp_all;done)|(exfalso;simp_all;done)|(congr 1;rw [Bool.eq_iff_iff];simp only [Bool.not_eq_true',decide_eq_false_iff_not,decide_eq_true_eq];exact ⟨fun h=>⟨p31,h⟩,fun h=>h.2⟩)),rfl⟩
  intro h31
  try have p31:=of_decide_eq_false h31
  (iterate 7 refine s_skip H rfl rfl h31 rfl ?_;clear H;intro a H);refine s_pick_f H wn rfl h31 rfl rfl ?_;clear H;intro a H;refine s_call en65nam H wn rfl (when_spec _ _ H.hp.ro _ 26) rfl ?_;clear H;rintro v40 _ a w ⟨rfl,rfl⟩ - H;refine kH H (Ra rfl ?_);clear H;intro a H;refine K17 _ _ ?_;clear K17;refine c_ret ?_;refine lv H Tryz.results136 rfl ?_
  exact H.hp.ret ⟨congrArg vi (by unfold refE;(repeat' split) <;> first|rfl|(simp_all;done)|(exfalso;simp_all;done)|(congr 1;rw [Bool.eq_iff_iff];simp only [Bool.not_eq_true',decide_eq_false_iff_not,decide_eq_true_eq];exact ⟨fun h=>⟨p31,h⟩,fun h=>h.2⟩)),rfl⟩
 intro h27
 try have p27:=of_decide_eq_false h27
 refine c_skip ?_;refine K2 _ _ ?_;clear K2;refine c_seqR (fun _ K18=>?_);refine kH H (Ra rfl ?_);clear H;intro a H;refine K18 _ _ ?_;clear K18;refine c_ret ?_;refine lv H Tryz.results136 rfl ?_
 exact H.hp.ret ⟨congrArg vi (by unfold refE;(repeat' split) <;> first|rfl|(simp_all;done)|(exfalso;simp_all;done)|(congr 1;rw [Bool.eq_iff_iff];simp only [Bool.not_eq_true',decide_eq_false_iff_not,decide_eq_true_eq];exact ⟨fun h=>⟨p31,h⟩,fun h=>h.2⟩)),rfl⟩
end
section
open Go.RowKit
section
variable {N:Nat} {D:List Deferred} {w0:World} {F:Nat→Prop} {G0 G G':GH} {L L':OL} {T:List (Nat × Value)}
variable {r:Option Nat} {P:Program} {ops:Array Oper} {Q:Exit→Act→World→Prop} {rest:List Oper} {a:Act} {w w':World}
theorem wl_meet {ι:Type} {Tc:List (Nat × Value)} {l:List Oper} (k:Nat) (Tv:ι→List (Nat × Value)) (Pr:ι→Prop) (_:St N D w0 F G0 G L Tc a w)
  (h1:(∀ i a w,Pr i→St N D w0 F G0 G L (Tv i++Tc) a w→WL r P ops Q (l.drop k) a w)→WL r P ops Q l a w)
  (h2:∀ i a w,Pr i→St N D w0 F G0 G L (Tv i++Tc) a w→WL r P ops Q (l.drop k) a w):WL r P ops Q l a w:=h1 h2
theorem Change.back (h:Change w w' G G' L L'):Change w w' G G L L' :=
 ⟨h.os,h.tape,h.output,h.size,h.fr,fun _ _ h=>h,fun _ _ h=>.inl h,⟨fun k o hk=>h.owns.ro k o (h.gm k o hk),h.owns.own,fun p hp=>(by
  have hs:=h.owns.sep p hp
  cases hg:G p.1 with
  | none=>rfl
  | some o=>have:=h.gm _ _ hg;rw [hs] at this;cases this),h.owns.nd⟩,h.lx⟩
theorem RetL.back {R:Value→GH→OL→Prop} {R':Value→OL→Prop} (hR:∀ v G' L',R v G' L'→R' v L') {e:Ending} (h:RetL w G L R e w'):RetL w G L (fun v G' L'=>G=G'∧R' v L') e w':=by
 obtain ⟨v,G',L',rfl,hc,hr⟩:=h
 exact ⟨v,G,L',rfl,hc.back,rfl,hR _ _ _ hr⟩
theorem Calls.backL {f:FuncId} {args:Array Value} {R:Value→GH→OL→Prop} {R':Value→OL→Prop} (h:Calls P f args w (RetL w G L R)) (hR:∀ v G' L',R v G' L'→R' v L'):Calls P f args w (RetL w G L fun v G' L'=>G=G'∧R' v L') :=
 h.mono fun _ _=>RetL.back hR
theorem Ret.back {R:Value→GH→Prop} {e:Ending} (h:Ret w G R e w'):Ret w G (fun v G'=>(∃ g,R v g)∧G=G') e w':=by
 obtain ⟨v,G',rfl,hb,hX,hr⟩:=h
 exact ⟨v,G,rfl,hb,⟨fun _ _ h=>h,fun _ _ h=>.inl h,fun k o hk=>hX.2.2 k o (hX.1 k o hk)⟩,⟨G',hr⟩,rfl⟩
theorem backR {f:FuncId} {args:Array Value} {R:Value→GH→Prop} (h:Calls P f args w (Ret w G R)):Calls P f args w (Ret w G fun v G'=>(∃ g,R v g)∧G=G'):=h.mono fun _ _=>Ret.back
/-- A block that a call only reads may be lent to it as if it were read alone. -/
theorem Owns.add {b:Nat} {o:Obj} (h:Owns G ((b,o) :: L) w):Hold (G.add b o) w:=fun k o' hk=>by
 unfold GH.add at hk
 split at hk
 ·next e=>cases hk;subst e;exact h.own _ List.mem_cons_self
 ·exact h.ro k o' hk
theorem ret_lend {b:Nat} {o:Obj} {R:Value→GH→Prop} {R':Value→Prop} (hO:Owns G ((b,o) :: L) w) (hR:∀ v G',R v G'→R' v) {e:Ending} (h:Ret w (G.add b o) R e w'):RetL w G ((b,o) :: L) (fun v G' L'=>G=G'∧L'=(b,o) :: L∧R' v) e w':=by
 obtain ⟨v,G',rfl,hb,hX,hr⟩:=h
 exact ⟨v,G,_,rfl,(hO.hp.below hb).toChange,rfl,rfl,hR _ _ hr⟩
end
end
section
open Go.RowKit
theorem fd217_0hdr:Fld Tryz.prog 217 0 0:=⟨by kernel_rfl⟩
theorem fd217_1hdr:Fld Tryz.prog 217 1 1:=⟨by kernel_rfl⟩
theorem fd217_3hdr:Fld Tryz.prog 217 3 3:=⟨by kernel_rfl⟩
theorem fd217_2hdr:Fld Tryz.prog 217 2 2:=⟨by kernel_rfl⟩
theorem en136hdr:∀ args w,(callFunc 136 args).run Tryz.prog w=.ok (.enter 136 args) w:=enters Tryz.func136 rfl (by kernel_rfl)
/-- What a checker knows: styles, the lists' ids, the revisions' ids. -/
structure CkP where
 st:List StyleD
 lis:List Int
 rvs:List Int
abbrev ckP (st:List StyleD) (li:List LiD) (rv:List RvD):CkP:=⟨st,li.map LiD.id,rv.map RvD.id⟩
theorem layer_at {G:GH} {l:List LayerD} {A:Option Addr} {n c k:Nat} (hv:RepV G (.sl 4 (l.map LayerD.dat)) (.slice A n c)) (hk:k < l.length):∃ b o,A=some ⟨b,o,none⟩∧(∀ j u,l[k].cells[j]?=some u→gcell G b (o+k*4+j)=some u):=by
 obtain ⟨A',c',he,_,_,hg⟩:=hv.slice
 injection he with e1 e2 e3
 subst e1;obtain ⟨b,o,cs,h1,h2,h3,h4⟩:=hg k l[k].dat (by simp [hk]);have:=layer_of h4;subst this;exact ⟨b,o,h1,h3⟩
theorem del_at {G:GH} {l:List DelD} {A:Option Addr} {n c k:Nat} (hv:RepV G (.sl 2 (l.map DelD.dat)) (.slice A n c)) (hk:k < l.length):∃ b o,A=some ⟨b,o,none⟩∧(∀ j u,l[k].cells[j]?=some u→gcell G b (o+k*2+j)=some u):=by
 obtain ⟨A',c',he,_,_,hg⟩:=hv.slice
 injection he with e1 e2 e3
 subst e1;obtain ⟨b,o,cs,h1,h2,h3,h4⟩:=hg k l[k].dat (by simp [hk]);have:=del_of h4;subst this;exact ⟨b,o,h1,h3⟩
def layE0 (C:CkP) (e:Int) (k:Nat) (x:LayerD) (pk:Int):Int :=
 if x.rev∉C.rvs then 22 else if fitsS e x.key=false then 4 else if 0 < k∧x.key < pk then 6 else if x.had=false then whenE (decide (x.before≠0)) 21 else firstE [chkVS x.key x.before,refE C.st C.lis x.key x.before]
def layE (C:CkP) (e:Int) (l:List LayerD) (k:Nat):Int:=match l[k]? with|some x=>layE0 C e k x ((l[k - 1]?.map LayerD.key).getD 0)|none=>0
theorem layer_spec (G:GH) (w0:World) (hG:Hold G w0) (st:List StyleD) (li:List LiD) (rv:List RvD) (b ms ml mr mb mu:Nat) (n:Int) (hck:CkG G st li rv ms ml mr mu) (hb:G b=some (ckB b ms ml mr mb mu n).2)
  (e:Int) (l:List LayerD) (v:Value) (hv:RepV G (.sl 4 (l.map LayerD.dat)) v) (k:Nat) (hk:k < l.length) :
  Calls Tryz.prog 138 #[.pointer (some ⟨b,0,none⟩),vi e,v,vi k] w0 (Ret w0 G fun u G'=>u=vi (layE (ckP st li rv) e l k)):=by
 have hc2:gcell G b 2=some (.map (some mr)):=by unfold gcell;rw [hb];rfl
 obtain ⟨A,c,rfl,hl1,hl2,-⟩:=hv.slice;have hml:maxLen=9223372036854775807:=rfl;rw [List.length_map] at *;obtain ⟨xb,xo,rfl,hrow⟩:=layer_at hv hk
 have hk1:k - 1 < l.length:=by omega
 obtain ⟨b',o',he',hrow'⟩:=layer_at hv hk1
 injection he' with he'
 injection he' with e1 e2
 subst e1;subst e2
 have he:layE (ckP st li rv) e l k=layE0 (ckP st li rv) e k l[k] l[k - 1].key:=by unfold layE;rw [List.getElem?_eq_getElem hk,List.getElem?_eq_getElem hk1];rfl
 obtain ⟨x,hx⟩:∃ x,x=l[k]:=⟨_,rfl⟩;obtain ⟨y,hy⟩:∃ y,y=l[k - 1]:=⟨_,rfl⟩;rw [← hx] at hrow he;rw [← hy] at hrow' he;have hq:=hrow' 1 _ rfl;refine eN [(0,_),(1,_),(2,_),(3,_)] Tryz.func138 rfl Tryz.ntmps138 rfl rfl hG ?_;intro a H;refine c_seqR (fun _ K1=>?_);refine kH H (Ra rfl ?_);clear H;intro a H;refine K1 _ _ ?_;clear K1;refine c_seqR (fun _ K2=>?_);refine kH H (Rm rfl (Rm rfl ?_));clear H;intro a H;refine s_index un27run ty217run _ H wn rfl rfl rfl (by first|assumption|omega) rfl ?_;clear H;intro a H;refine s_loada ty217run (cs:=x.cells) H wn rfl rfl (fun j v hj=>H.hp.gcell (hrow j v hj)) rfl ?_;clear H;intro a H;refine s_alloc ty217run H wn rfl ?_;clear H;intro b9 a w hb9 H;refine s_store ty217run 0 (vs:=[_,_,_,_]) _ H wn rfl rfl rfl rfl rfl rfl rfl rfl ?_;clear H;intro w H;dsimp only [List.set,setRow] at H;refine K2 _ _ ?_;clear K2;refine c_seq (fun _ K3=>?_);refine c_block ?_;refine c_seq (fun _ K4=>?_);refine c_drawI (hmx) [[],[0],[0,1],[0,1,2],[],[4],[0,1,2,3,4,5],(List.range 7),(List.range 8)] [8] (by kernel_rfl) (by kernel_rfl) (fun (ix_:Nat) (v:Value) (G:GH)=>match ix_ with|0=>v=.pointer (some ⟨b,0,none⟩)|1=>v=.pointer (some ⟨b,0,none⟩)|2=>v=.pointer (some ⟨b,2,none⟩)|3=>v=.map (some mr)|4=>v=.pointer (some ⟨b9,0,none⟩)|5=>v=vi x.rev|6=>v=.bool (decide (x.rev∈rv.map RvD.id))|7=>v=.bool (!decide (x.rev∈rv.map RvD.id))|_=>True) (fun _ _ _ _ _ h=>h) H ?_ ?_
 ·clear H;refine al4 ?_ ?_ ?_ ?_ (al4 ?_ ?_ ?_ ?_ (allI_cons ?_ allI_nil))
  ·exact Op0 rfl fun _ _ _ _ _ _ H fin=>kH H (Rm rfl fun _ H=>fin H iJ rfl)
  ·exact Op1 0 15 rfl rfl fun _ _ _ _ _ _ H fin=>kH H (Rk rfl fun _ H=>fin H iJ rfl)
  ·exact Op1 1 16 rfl rfl fun _ _ _ _ _ _ H fin=>kH H (Rf fd140_2nck rfl fun _ H=>fin H iJ rfl)
  ·refine Op1 2 17 rfl rfl fun _ a w G1 hG HT H fin=>?_;refine s_load ty138nck H wn rfl (H.hp.gcell (gcell_mono hG hc2)) rfl ?_;clear H;intro a H;exact fin H iJ rfl
  ·exact Op0 rfl fun _ _ _ _ _ _ H fin=>kH H (Rf fd217_0hdr rfl fun _ H=>fin H iJ rfl)
  ·exact Op1 4 19 rfl rfl fun _ _ _ _ _ _ H fin=>kH H (Ro ty3run 0 rfl rfl fun _ H=>fin H iJ rfl)
  ·refine Op2 3 18 5 20 rfl rfl fun _ a w G1 hG HT H fin=>?_;refine s_lookupK (zv:=.bool false) un138nck un3cp (by kernel_rfl) H wn rfl rfl (H.hp.ro _ _ (hG _ _ hck.rev)) rfl ?_;clear H;intro a H;rw [lk_set] at H;exact fin H iJ rfl
  ·exact Op1 6 21 rfl rfl fun _ _ _ _ _ _ H fin=>kH H (Rn rfl fun _ H=>fin H iJ rfl)
  exact opB rfl
 clear H;intro a w G hGm2 H hv;obtain ⟨u22,hu22,hp22⟩:=hv 7 22 (by decide) rfl;obtain rfl:u22=.bool (!decide (x.rev∈rv.map RvD.id)):=hp22;have H:=H.addS hu22;clear hv;refine kH H (Ra rfl ?_);clear H;intro a H;refine wl_nil ⟨rfl,?_⟩;refine K4 _ _ ?_;clear K4;refine c_cond H rfl ?_ ?_
 ·intro h14
  try have p14:=of_decide_eq_true h14
  refine c_seqR (fun _ K5=>?_);refine kH H (Ra rfl ?_);clear H;intro a H;refine K5 _ _ ?_;clear K5;refine c_ret ?_;refine lv H Tryz.results138 rfl ?_
  exact H.hp.ret (by rw [he];refine congrArg vi ?_;clear he hrow hrow' hq hx hy;unfold layE0;(repeat' split) <;> first|rfl|(simp_all;done)|(exfalso;simp_all;done))
 intro h14
 try have p14:=of_decide_eq_false h14
 refine c_seqR (fun _ K6=>?_);refine kH H (Rm rfl (Rf fd217_1hdr rfl (Ro ty3run 0 rfl rfl ?_)));clear H;intro a H;refine s_call en106prc H wn rfl (backR (fits_spec _ _ H.hp.ro e x.key)) rfl ?_;clear H;rintro v27 _ a w ⟨⟨_,rfl⟩,rfl⟩ - H;refine kH H (Rn rfl (Ra rfl ?_));clear H;intro a H;refine K6 _ _ ?_;clear K6;refine c_cond H rfl ?_ ?_
 ·intro h23
  try have p23:=of_decide_eq_true h23
  refine c_seqR (fun _ K7=>?_);refine kH H (Ra rfl ?_);clear H;intro a H;refine K7 _ _ ?_;clear K7;refine c_ret ?_;refine lv H Tryz.results138 rfl ?_
  exact H.hp.ret (by rw [he];refine congrArg vi ?_;clear he hrow hrow' hq hx hy;unfold layE0;(repeat' split) <;> first|rfl|(simp_all;done)|(exfalso;simp_all;done))
 intro h23
 try have p23:=of_decide_eq_false h23
 refine c_seq (fun _ K8=>?_);replace hq:=gcell_mono hGm2 hq
 by_cases c0:0 < (k:Int)
 ·skip
  by_cases c1:x.key < y.key
  ·skip;refine c_drawI (hmx) [[],[0],[0,1],[0,1,2],[0,1,2,3],[0,1,2],[0,1,2],[0,1,2,6],[0,1,2,5,6,7],[0,1,2,5,6,7,8],[0,1,2,5,6,7,8,9],(List.range 11),(List.range 12),(List.range 13)] [13] (by kernel_rfl) (by kernel_rfl) (fun (ix_:Nat) (v:Value) (G:GH)=>match ix_ with|0=>v=vi k|1=>v=.bool (decide (0 < (k:Int)))|2=>v=.bool (decide (0 < (k:Int)))|3=>v=.pointer (some ⟨b9,1,none⟩)|4=>v=vi x.key|5=>v=.slice (some ⟨xb,xo,none⟩) l.length c|6=>v=vi k|7=>v=vi ((k - 1:Nat):Int)|8=>v=.pointer (some ⟨xb,xo+(k - 1)*4,none⟩)|9=>v=.pointer (some ⟨xb,xo+(k - 1)*4+1,none⟩)|10=>v=vi y.key|11=>v=.bool (decide (x.key < y.key))|12=>v=.bool (decide (x.key < y.key))|_=>True) (fun _ _ _ _ _ h=>h) H ?_ ?_
   ·clear H;refine al4 ?_ ?_ ?_ ?_ (al4 ?_ ?_ ?_ ?_ (al4 ?_ ?_ ?_ ?_ (allI_cons ?_ (allI_cons ?_ allI_nil))))
    ·exact Op0 rfl fun _ _ _ _ _ _ H fin=>kH H (Rm rfl fun _ H=>fin H iJ rfl)
    ·exact Op1 0 30 rfl rfl fun _ _ _ _ _ _ H fin=>kH H (Rc rfl fun _ H=>fin H iJ rfl)
    ·exact Op1 1 31 rfl rfl fun _ _ _ _ _ _ H fin=>kH H (Rm rfl fun _ H=>fin H iJ rfl)
    ·refine Op1 2 32 rfl rfl fun _ a w G1 hG HT H fin=>?_;refine s_field fd217_1hdr H (wg H rfl rfl (decide_eq_true c0)) rfl rfl ?_;clear H;intro a H;exact fin H iJ rfl
    ·refine Op2 3 33 2 32 rfl rfl fun _ a w G1 hG HT H fin=>?_;refine s_load ty3run H (wg H rfl rfl (decide_eq_true c0)) rfl (H.hp.ocell 0 rfl rfl) rfl ?_;clear H;intro a H;exact fin H iJ rfl
    ·refine Op1 2 32 rfl rfl fun _ a w G1 hG HT H fin=>?_;refine s_move H (wg H rfl rfl (decide_eq_true c0)) rfl rfl ?_;clear H;intro a H;exact fin H iJ rfl
    ·refine Op1 2 32 rfl rfl fun _ a w G1 hG HT H fin=>?_;refine s_move H (wg H rfl rfl (decide_eq_true c0)) rfl rfl ?_;clear H;intro a H;exact fin H iJ rfl
    ·refine Op2 6 36 2 32 rfl rfl fun _ a w G1 hG HT H fin=>?_;refine s_sub _ H (wg H rfl rfl (decide_eq_true c0)) rfl rfl rfl (by omega) (by omega) rfl ?_;clear H;intro a H;exact fin H iJ (by first|rfl|exact congrArg vi (by omega))
    ·refine Op3 5 35 7 37 2 32 rfl rfl fun _ a w G1 hG HT H fin=>?_;refine s_index un27run ty217run _ H (wg H rfl rfl (decide_eq_true c0)) rfl rfl rfl (by first|assumption|omega) rfl ?_;clear H;intro a H;exact fin H iJ rfl
    ·refine Op2 8 38 2 32 rfl rfl fun _ a w G1 hG HT H fin=>?_;refine s_field fd217_1hdr H (wg H rfl rfl (decide_eq_true c0)) rfl rfl ?_;clear H;intro a H;exact fin H iJ rfl
    ·refine Op2 9 39 2 32 rfl rfl fun _ a w G1 hG HT H fin=>?_;refine s_load ty3run H (wg H rfl rfl (decide_eq_true c0)) rfl (H.hp.gcell (gcell_mono hG hq)) rfl ?_;clear H;intro a H;exact fin H iJ rfl
    ·refine Op3 4 34 10 40 2 32 rfl rfl fun _ a w G1 hG HT H fin=>?_;refine s_cmp H (wg H rfl rfl (decide_eq_true c0)) rfl rfl rfl rfl ?_;clear H;intro a H;exact fin H iJ rfl
    ·refine Op2 2 32 11 41 rfl rfl fun _ a w G1 hG HT H fin=>?_;refine s_pick_t H wn rfl (decide_eq_true c0) rfl rfl ?_;clear H;intro a H;exact fin H iJ rfl
    exact opB rfl
   clear H;intro a w G hGm6 H hv;obtain ⟨u42,hu42,hp42⟩:=hv 12 42 (by decide) rfl;obtain rfl:u42=.bool (decide (x.key < y.key)):=hp42;have H:=H.addS hu42;clear hv;refine kH H (Ra rfl ?_);clear H;intro a H;refine wl_nil ⟨rfl,?_⟩;refine K8 _ _ ?_;clear K8;refine c_cond_t H rfl (decide_eq_true c1) ?_;refine c_seq (fun _ K9=>?_);have hz:0 < k∧x.key < y.key:=⟨by omega,c1⟩;refine c_region ?_;refine kH H (Ra rfl ?_);clear H;intro a H;refine wl_nil ?_;refine K9 _ _ ?_;clear K9;refine c_ret ?_;refine lv H Tryz.results138 rfl ?_
   exact H.hp.ret (by rw [he];refine congrArg vi ?_;clear he hrow hrow' hq hx hy;unfold layE0;(repeat' split) <;> first|rfl|(simp_all;done)|(exfalso;simp_all;done))
  skip;refine c_drawI (hmx) [[],[0],[0,1],[0,1,2],[0,1,2,3],[0,1,2],[0,1,2],[0,1,2,6],[0,1,2,5,6,7],[0,1,2,5,6,7,8],[0,1,2,5,6,7,8,9],(List.range 11),(List.range 12),(List.range 13)] [13] (by kernel_rfl) (by kernel_rfl) (fun (ix_:Nat) (v:Value) (G:GH)=>match ix_ with|0=>v=vi k|1=>v=.bool (decide (0 < (k:Int)))|2=>v=.bool (decide (0 < (k:Int)))|3=>v=.pointer (some ⟨b9,1,none⟩)|4=>v=vi x.key|5=>v=.slice (some ⟨xb,xo,none⟩) l.length c|6=>v=vi k|7=>v=vi ((k - 1:Nat):Int)|8=>v=.pointer (some ⟨xb,xo+(k - 1)*4,none⟩)|9=>v=.pointer (some ⟨xb,xo+(k - 1)*4+1,none⟩)|10=>v=vi y.key|11=>v=.bool (decide (x.key < y.key))|12=>v=.bool (decide (x.key < y.key))|_=>True) (fun _ _ _ _ _ h=>h) H ?_ ?_
  ·clear H;refine al4 ?_ ?_ ?_ ?_ (al4 ?_ ?_ ?_ ?_ (al4 ?_ ?_ ?_ ?_ (allI_cons ?_ (allI_cons ?_ allI_nil))))
   ·exact Op0 rfl fun _ _ _ _ _ _ H fin=>kH H (Rm rfl fun _ H=>fin H iJ rfl)
   ·exact Op1 0 30 rfl rfl fun _ _ _ _ _ _ H fin=>kH H (Rc rfl fun _ H=>fin H iJ rfl)
   ·exact Op1 1 31 rfl rfl fun _ _ _ _ _ _ H fin=>kH H (Rm rfl fun _ H=>fin H iJ rfl)
   ·refine Op1 2 32 rfl rfl fun _ a w G1 hG HT H fin=>?_;refine s_field fd217_1hdr H (wg H rfl rfl (decide_eq_true c0)) rfl rfl ?_;clear H;intro a H;exact fin H iJ rfl
   ·refine Op2 3 33 2 32 rfl rfl fun _ a w G1 hG HT H fin=>?_;refine s_load ty3run H (wg H rfl rfl (decide_eq_true c0)) rfl (H.hp.ocell 0 rfl rfl) rfl ?_;clear H;intro a H;exact fin H iJ rfl
   ·refine Op1 2 32 rfl rfl fun _ a w G1 hG HT H fin=>?_;refine s_move H (wg H rfl rfl (decide_eq_true c0)) rfl rfl ?_;clear H;intro a H;exact fin H iJ rfl
   ·refine Op1 2 32 rfl rfl fun _ a w G1 hG HT H fin=>?_;refine s_move H (wg H rfl rfl (decide_eq_true c0)) rfl rfl ?_;clear H;intro a H;exact fin H iJ rfl
   ·refine Op2 6 36 2 32 rfl rfl fun _ a w G1 hG HT H fin=>?_;refine s_sub _ H (wg H rfl rfl (decide_eq_true c0)) rfl rfl rfl (by omega) (by omega) rfl ?_;clear H;intro a H;exact fin H iJ (by first|rfl|exact congrArg vi (by omega))
   ·refine Op3 5 35 7 37 2 32 rfl rfl fun _ a w G1 hG HT H fin=>?_;refine s_index un27run ty217run _ H (wg H rfl rfl (decide_eq_true c0)) rfl rfl rfl (by first|assumption|omega) rfl ?_;clear H;intro a H;exact fin H iJ rfl
   ·refine Op2 8 38 2 32 rfl rfl fun _ a w G1 hG HT H fin=>?_;refine s_field fd217_1hdr H (wg H rfl rfl (decide_eq_true c0)) rfl rfl ?_;clear H;intro a H;exact fin H iJ rfl
   ·refine Op2 9 39 2 32 rfl rfl fun _ a w G1 hG HT H fin=>?_;refine s_load ty3run H (wg H rfl rfl (decide_eq_true c0)) rfl (H.hp.gcell (gcell_mono hG hq)) rfl ?_;clear H;intro a H;exact fin H iJ rfl
   ·refine Op3 4 34 10 40 2 32 rfl rfl fun _ a w G1 hG HT H fin=>?_;refine s_cmp H (wg H rfl rfl (decide_eq_true c0)) rfl rfl rfl rfl ?_;clear H;intro a H;exact fin H iJ rfl
   ·refine Op2 2 32 11 41 rfl rfl fun _ a w G1 hG HT H fin=>?_;refine s_pick_t H wn rfl (decide_eq_true c0) rfl rfl ?_;clear H;intro a H;exact fin H iJ rfl
   exact opB rfl
  clear H;intro a w G hGm6 H hv;obtain ⟨u42,hu42,hp42⟩:=hv 12 42 (by decide) rfl;obtain rfl:u42=.bool (decide (x.key < y.key)):=hp42;have H:=H.addS hu42;clear hv;refine kH H (Ra rfl ?_);clear H;intro a H;refine wl_nil ⟨rfl,?_⟩;refine K8 _ _ ?_;clear K8;refine c_cond_f H rfl (decide_eq_false c1) ?_;refine c_seq (fun _ K10=>?_)
  have hz:¬ (0 < k∧x.key < y.key):=by first|exact fun h=>c1 h.2|exact fun h=>c0 (by omega)
  refine c_region ?_;refine kH H (Rf fd217_3hdr rfl (Ro ty4doc 0 rfl rfl (Rn rfl (Ra rfl ?_))));clear H;intro a H;refine wl_nil ?_;refine K10 _ _ ?_;clear K10;refine c_cond H rfl ?_ ?_
  ·intro h43
   try have p43:=of_decide_eq_true h43
   refine c_seqR (fun _ K11=>?_);refine kH H (Rf fd217_2hdr rfl (Ro ty3run 0 rfl rfl (Rc rfl ?_)));clear H;intro a H;refine s_call en65nam H wn rfl (when_spec _ _ H.hp.ro _ 21) rfl ?_;clear H;rintro v50 _ a w ⟨rfl,rfl⟩ - H;refine kH H (Ra rfl ?_);clear H;intro a H;refine K11 _ _ ?_;clear K11;refine c_ret ?_;refine lv H Tryz.results138 rfl ?_
   exact H.hp.ret (by rw [he];refine congrArg vi ?_;clear he hrow hrow' hq hx hy;unfold layE0;(repeat' split) <;> first|rfl|(simp_all;done)|(exfalso;simp_all;done))
  intro h43
  try have p43:=of_decide_eq_false h43
  refine c_skip ?_;refine K3 _ _ ?_;clear K3;refine c_seq (fun _ K12=>?_);replace hck:=(hck.mono hGm2).mono hGm6;replace hb:=hGm6 _ _ (hGm2 _ _ hb);refine c_drawI (hmx) [[],[0],[],[2],[0,1,2,3],[],[],[6],[],[8],(List.range 10),(List.range 11),(List.range 12),(List.range 13)] [11,12,13] (by kernel_rfl) (by kernel_rfl) (fun (ix_:Nat) (v:Value) (G:GH)=>match ix_ with|0=>v=.pointer (some ⟨b9,1,none⟩)|1=>v=vi x.key|2=>v=.pointer (some ⟨b9,2,none⟩)|3=>v=vi x.before|4=>v=vi (chkVS x.key x.before)|5=>v=.pointer (some ⟨b,0,none⟩)|6=>v=.pointer (some ⟨b9,1,none⟩)|7=>v=vi x.key|8=>v=.pointer (some ⟨b9,2,none⟩)|9=>v=vi x.before|10=>v=vi (refE st (li.map LiD.id) x.key x.before)|_=>True) (fun _ _ _ _ _ h=>h) H ?_ ?_
  ·clear H;refine al4 ?_ ?_ ?_ ?_ (al4 ?_ ?_ ?_ ?_ (al4 ?_ ?_ ?_ ?_ (allI_cons ?_ (allI_cons ?_ allI_nil))))
   ·exact Op0 rfl fun _ _ _ _ _ _ H fin=>kH H (Rf fd217_1hdr rfl fun _ H=>fin H iJ rfl)
   ·exact Op1 0 51 rfl rfl fun _ _ _ _ _ _ H fin=>kH H (Ro ty3run 0 rfl rfl fun _ H=>fin H iJ rfl)
   ·exact Op0 rfl fun _ _ _ _ _ _ H fin=>kH H (Rf fd217_2hdr rfl fun _ H=>fin H iJ rfl)
   ·exact Op1 2 53 rfl rfl fun _ _ _ _ _ _ H fin=>kH H (Ro ty3run 0 rfl rfl fun _ H=>fin H iJ rfl)
   ·refine Op2 1 52 3 54 rfl rfl fun _ a w G1 hG HT H fin=>?_;refine s_call en107prc H wn rfl (checkValue_spec _ _ H.hp.ro x.key x.before) rfl ?_;clear H;rintro v55 G55 a w rfl hGm55 H;exact fin H hGm55 (rfl)
   ·exact Op0 rfl fun _ _ _ _ _ _ H fin=>kH H (Rm rfl fun _ H=>fin H iJ rfl)
   ·exact Op0 rfl fun _ _ _ _ _ _ H fin=>kH H (Rf fd217_1hdr rfl fun _ H=>fin H iJ rfl)
   ·exact Op1 6 57 rfl rfl fun _ _ _ _ _ _ H fin=>kH H (Ro ty3run 0 rfl rfl fun _ H=>fin H iJ rfl)
   ·exact Op0 rfl fun _ _ _ _ _ _ H fin=>kH H (Rf fd217_2hdr rfl fun _ H=>fin H iJ rfl)
   ·exact Op1 8 59 rfl rfl fun _ _ _ _ _ _ H fin=>kH H (Ro ty3run 0 rfl rfl fun _ H=>fin H iJ rfl)
   ·refine Op3 5 56 7 58 9 60 rfl rfl fun _ a w G1 hG HT H fin=>?_;refine s_call en136hdr H wn rfl (ckRef_spec _ _ H.hp.ro st li rv b ms ml mr mb mu n x.key x.before (hck.mono hG) (hG _ _ hb)) rfl ?_;clear H;rintro v61 G61 a w ⟨rfl,-⟩ hGm61 H;exact fin H hGm61 (rfl)
   ·exact opB rfl
   ·exact opB rfl
   exact opB rfl
  clear H;intro a w G hGm10 H hv;obtain ⟨u55,hu55,hp55⟩:=hv 4 55 (by decide) rfl;obtain rfl:u55=vi (chkVS x.key x.before):=hp55;have H:=H.addS hu55;obtain ⟨u61,hu61,hp61⟩:=hv 10 61 (by decide) rfl;obtain rfl:u61=vi (refE st (li.map LiD.id) x.key x.before):=hp61;have H:=H.addS hu61;clear hv;refine s_buildSlice un221fst ty22fst [_,_] [_,_] H wn rfl rfl rfl rfl rfl (by intro i q h;match i,h with|0,h=>exact h|1,h=>exact h|n+2,h=>simp at h) rfl rfl ?_;clear H;intro b62 a w hb62 H;obtain ⟨G62,hm62,hb62',H⟩:=H.giveBox;refine s_call en52nam H wn rfl (first_spec1 _ _ H.hp.ro _ _ (two_rep hb62')) rfl ?_;clear H;rintro v63 _ a w ⟨rfl,rfl⟩ - H;refine kH H (Ra rfl ?_);clear H;intro a H;refine wl_nil ⟨rfl,?_⟩;refine K12 _ _ ?_;clear K12;refine c_ret ?_;refine lv H Tryz.results138 rfl ?_
  exact H.hp.ret (by rw [he];refine congrArg vi ?_;clear he hrow hrow' hq hx hy;unfold layE0;(repeat' split) <;> first|rfl|(simp_all;done)|(exfalso;simp_all;done))
 skip;refine c_drawI (hmx) [[],[0],[0,1],[0,1,2],[0,1,2,3],[0,1,2],[0,1,2],[0,1,2,6],[0,1,2,5,6,7],[0,1,2,5,6,7,8],[0,1,2,5,6,7,8,9],(List.range 11),(List.range 12),(List.range 13)] [13] (by kernel_rfl) (by kernel_rfl) (fun (ix_:Nat) (v:Value) (G:GH)=>match ix_ with|0=>v=vi k|1=>v=.bool (decide (0 < (k:Int)))|2=>v=.bool (decide (0 < (k:Int)))|3=>v=undef|4=>v=undef|5=>v=undef|6=>v=undef|7=>v=undef|8=>v=undef|9=>v=undef|10=>v=undef|11=>v=undef|12=>v=.bool false|_=>True) (fun _ _ _ _ _ h=>h) H ?_ ?_
 ·clear H;refine al4 ?_ ?_ ?_ ?_ (al4 ?_ ?_ ?_ ?_ (al4 ?_ ?_ ?_ ?_ (allI_cons ?_ (allI_cons ?_ allI_nil))))
  ·exact Op0 rfl fun _ _ _ _ _ _ H fin=>kH H (Rm rfl fun _ H=>fin H iJ rfl)
  ·exact Op1 0 30 rfl rfl fun _ _ _ _ _ _ H fin=>kH H (Rc rfl fun _ H=>fin H iJ rfl)
  ·exact Op1 1 31 rfl rfl fun _ _ _ _ _ _ H fin=>kH H (Rm rfl fun _ H=>fin H iJ rfl)
  ·exact skI 2 (decide_eq_false c0) rfl rfl
  ·exact skI 2 (decide_eq_false c0) rfl rfl
  ·exact skI 2 (decide_eq_false c0) rfl rfl
  ·exact skI 2 (decide_eq_false c0) rfl rfl
  ·exact skI 2 (decide_eq_false c0) rfl rfl
  ·exact skI 2 (decide_eq_false c0) rfl rfl
  ·exact skI 2 (decide_eq_false c0) rfl rfl
  ·exact skI 2 (decide_eq_false c0) rfl rfl
  ·exact skI 2 (decide_eq_false c0) rfl rfl
  ·refine Op2 2 32 11 41 rfl rfl fun _ a w G1 hG HT H fin=>?_;refine s_pick_f H wn rfl (decide_eq_false c0) rfl rfl ?_;clear H;intro a H;exact fin H iJ rfl
  exact opB rfl
 clear H;intro a w G hGm6 H hv;obtain ⟨u42,hu42,hp42⟩:=hv 12 42 (by decide) rfl;obtain rfl:u42=.bool false:=hp42;have H:=H.addS hu42;clear hv;refine kH H (Ra rfl ?_);clear H;intro a H;refine wl_nil ⟨rfl,?_⟩;refine K8 _ _ ?_;clear K8;refine c_cond_f H rfl rfl ?_;refine c_seq (fun _ K13=>?_)
 have hz:¬ (0 < k∧x.key < y.key):=by first|exact fun h=>c1 h.2|exact fun h=>c0 (by omega)
 refine c_region ?_;refine kH H (Rf fd217_3hdr rfl (Ro ty4doc 0 rfl rfl (Rn rfl (Ra rfl ?_))));clear H;intro a H;refine wl_nil ?_;refine K13 _ _ ?_;clear K13;refine c_cond H rfl ?_ ?_
 ·intro h43
  try have p43:=of_decide_eq_true h43
  refine c_seqR (fun _ K14=>?_);refine kH H (Rf fd217_2hdr rfl (Ro ty3run 0 rfl rfl (Rc rfl ?_)));clear H;intro a H;refine s_call en65nam H wn rfl (when_spec _ _ H.hp.ro _ 21) rfl ?_;clear H;rintro v50 _ a w ⟨rfl,rfl⟩ - H;refine kH H (Ra rfl ?_);clear H;intro a H;refine K14 _ _ ?_;clear K14;refine c_ret ?_;refine lv H Tryz.results138 rfl ?_
  exact H.hp.ret (by rw [he];refine congrArg vi ?_;clear he hrow hrow' hq hx hy;unfold layE0;(repeat' split) <;> first|rfl|(simp_all;done)|(exfalso;simp_all;done))
 intro h43
 try have p43:=of_decide_eq_false h43
 refine c_skip ?_;refine K3 _ _ ?_;clear K3;refine c_seq (fun _ K15=>?_);replace hck:=(hck.mono hGm2).mono hGm6;replace hb:=hGm6 _ _ (hGm2 _ _ hb);refine c_drawI (hmx) [[],[0],[],[2],[0,1,2,3],[],[],[6],[],[8],(List.range 10),(List.range 11),(List.range 12),(List.range 13)] [11,12,13] (by kernel_rfl) (by kernel_rfl) (fun (ix_:Nat) (v:Value) (G:GH)=>match ix_ with|0=>v=.pointer (some ⟨b9,1,none⟩)|1=>v=vi x.key|2=>v=.pointer (some ⟨b9,2,none⟩)|3=>v=vi x.before|4=>v=vi (chkVS x.key x.before)|5=>v=.pointer (some ⟨b,0,none⟩)|6=>v=.pointer (some ⟨b9,1,none⟩)|7=>v=vi x.key|8=>v=.pointer (some ⟨b9,2,none⟩)|9=>v=vi x.before|10=>v=vi (refE st (li.map LiD.id) x.key x.before)|_=>True) (fun _ _ _ _ _ h=>h) H ?_ ?_
 ·clear H;refine al4 ?_ ?_ ?_ ?_ (al4 ?_ ?_ ?_ ?_ (al4 ?_ ?_ ?_ ?_ (allI_cons ?_ (allI_cons ?_ allI_nil))))
  ·exact Op0 rfl fun _ _ _ _ _ _ H fin=>kH H (Rf fd217_1hdr rfl fun _ H=>fin H iJ rfl)
  ·exact Op1 0 51 rfl rfl fun _ _ _ _ _ _ H fin=>kH H (Ro ty3run 0 rfl rfl fun _ H=>fin H iJ rfl)
  ·exact Op0 rfl fun _ _ _ _ _ _ H fin=>kH H (Rf fd217_2hdr rfl fun _ H=>fin H iJ rfl)
  ·exact Op1 2 53 rfl rfl fun _ _ _ _ _ _ H fin=>kH H (Ro ty3run 0 rfl rfl fun _ H=>fin H iJ rfl)
  ·refine Op2 1 52 3 54 rfl rfl fun _ a w G1 hG HT H fin=>?_;refine s_call en107prc H wn rfl (checkValue_spec _ _ H.hp.ro x.key x.before) rfl ?_;clear H;rintro v55 G55 a w rfl hGm55 H;exact fin H hGm55 (rfl)
  ·exact Op0 rfl fun _ _ _ _ _ _ H fin=>kH H (Rm rfl fun _ H=>fin H iJ rfl)
  ·exact Op0 rfl fun _ _ _ _ _ _ H fin=>kH H (Rf fd217_1hdr rfl fun _ H=>fin H iJ rfl)
  ·exact Op1 6 57 rfl rfl fun _ _ _ _ _ _ H fin=>kH H (Ro ty3run 0 rfl rfl fun _ H=>fin H iJ rfl)
  ·exact Op0 rfl fun _ _ _ _ _ _ H fin=>kH H (Rf fd217_2hdr rfl fun _ H=>fin H iJ rfl)
  ·exact Op1 8 59 rfl rfl fun _ _ _ _ _ _ H fin=>kH H (Ro ty3run 0 rfl rfl fun _ H=>fin H iJ rfl)
  ·refine Op3 5 56 7 58 9 60 rfl rfl fun _ a w G1 hG HT H fin=>?_;refine s_call en136hdr H wn rfl (ckRef_spec _ _ H.hp.ro st li rv b ms ml mr mb mu n x.key x.before (hck.mono hG) (hG _ _ hb)) rfl ?_;clear H;rintro v61 G61 a w ⟨rfl,-⟩ hGm61 H;exact fin H hGm61 (rfl)
  ·exact opB rfl
  ·exact opB rfl
  exact opB rfl
 clear H;intro a w G hGm10 H hv;obtain ⟨u55,hu55,hp55⟩:=hv 4 55 (by decide) rfl;obtain rfl:u55=vi (chkVS x.key x.before):=hp55;have H:=H.addS hu55;obtain ⟨u61,hu61,hp61⟩:=hv 10 61 (by decide) rfl;obtain rfl:u61=vi (refE st (li.map LiD.id) x.key x.before):=hp61;have H:=H.addS hu61;clear hv;refine s_buildSlice un221fst ty22fst [_,_] [_,_] H wn rfl rfl rfl rfl rfl (by intro i q h;match i,h with|0,h=>exact h|1,h=>exact h|n+2,h=>simp at h) rfl rfl ?_;clear H;intro b62 a w hb62 H;obtain ⟨G62,hm62,hb62',H⟩:=H.giveBox;refine s_call en52nam H wn rfl (first_spec1 _ _ H.hp.ro _ _ (two_rep hb62')) rfl ?_;clear H;rintro v63 _ a w ⟨rfl,rfl⟩ - H;refine kH H (Ra rfl ?_);clear H;intro a H;refine wl_nil ⟨rfl,?_⟩;refine K15 _ _ ?_;clear K15;refine c_ret ?_;refine lv H Tryz.results138 rfl ?_
 exact H.hp.ret (by rw [he];refine congrArg vi ?_;clear he hrow hrow' hq hx hy;unfold layE0;(repeat' split) <;> first|rfl|(simp_all;done)|(exfalso;simp_all;done))
end
section
open Go.RowKit
theorem ty130hea:Ty Tryz.prog 130 1 8 [.pointer none] false:=⟨by kernel_rfl,by kernel_rfl⟩
theorem en138hea:∀ args w,(callFunc 138 args).run Tryz.prog w=.ok (.enter 138 args) w:=enters Tryz.func138 rfl (by kernel_rfl)
theorem ty29hea:Ty Tryz.prog 29 4 64 [.int .i64 0,.int .i64 0,.slice none 0 0,.slice none 0 0] true:=⟨by kernel_rfl,by kernel_rfl⟩
theorem fd214_0hea:Fld Tryz.prog 214 0 0:=⟨by kernel_rfl⟩
theorem fd214_1hea:Fld Tryz.prog 214 1 1:=⟨by kernel_rfl⟩
theorem en137hea:∀ args w,(callFunc 137 args).run Tryz.prog w=.ok (.enter 137 args) w:=enters Tryz.func137 rfl (by kernel_rfl)
theorem lay_cb {G:GH} {st:List StyleD} {li:List LiD} {rv:List RvD} {b ms ml mr mb mu:Nat} {n:Int} (hck:CkG G st li rv ms ml mr mu) (hb:G b=some (ckB b ms ml mr mb mu n).2)
  {x3 x4 x11:Nat} {e:Int} {l:List LayerD} {v:Value} (h3:gcell G x3 0=some (.pointer (some ⟨b,0,none⟩))) (h4:gcell G x4 0=some (vi e)) (h11:gcell G x11 3=some v) (hv:RepV G (.sl 4 (l.map LayerD.dat)) v) :
  IxCb (.func (.func 137) #[] #[.pointer (some ⟨x3,0,none⟩),.pointer (some ⟨x4,0,none⟩),.pointer (some ⟨x11,0,none⟩)]) G l.length (layE (ckP st li rv) e l):=by
 intro k hk G1 w0 hm hG;refine callV_func (caps:=[.pointer (some ⟨x3,0,none⟩),.pointer (some ⟨x4,0,none⟩),.pointer (some ⟨x11,0,none⟩)]) en137hea ?_;replace h3:=gcell_mono hm h3;replace h4:=gcell_mono hm h4;replace h11:=gcell_mono hm h11;replace hv:=hv.mono hm;obtain ⟨vA,vn,vc,rfl⟩:=hv.form;refine eN [(0,_),(1,_),(2,_),(3,_)] Tryz.func137 rfl Tryz.ntmps137 rfl rfl hG ?_;intro a H;refine c_seqR (fun _ K1=>?_);refine kH H (Ra rfl ?_);clear H;intro a H;refine K1 _ _ ?_;clear K1;refine c_seqR (fun _ K2=>?_);refine s_load ty130hea H wn rfl (H.hp.gcell (by assumption)) rfl ?_;clear H;intro a H;refine s_load ty3run H wn rfl (H.hp.gcell (by assumption)) rfl ?_;clear H;intro a H;refine kH H (Rf fd29_3run rfl ?_);clear H;intro a H;refine s_load ty27run H wn rfl (H.hp.gcell (by assumption)) rfl ?_;clear H;intro a H;refine kH H (Rm rfl ?_);clear H;intro a H;refine s_call en138hea H wn rfl (layer_spec _ _ H.hp.ro st li rv b ms ml mr mb mu n (hck.mono hm) (hm _ _ hb) e l _ hv k hk) rfl ?_;clear H;rintro v11 G11 a w rfl hm11 H;refine kH H (Ra rfl ?_);clear H;intro a H;refine K2 _ _ ?_;clear K2;refine c_ret ?_;refine lv H Tryz.results137 rfl ?_;exact H.hp.ret rfl
/-- The errors of the properties, of the marks, of the deletions. -/
def refsE (C:CkP) (l:List PropD):Int:=firstE (l.map fun p=>refE C.st C.lis p.key p.value)
def mrkE (C:CkP) (m:MarksD):Int:=if m.ins≠0∧m.ins∉C.rvs then 22 else if ¬ (0≤m.move∧m.move≤1073741824)∨(m.move≠0∧m.ins=0) then 21 else if 16 < (m.dels.length:Int) then 9 else 0
def delE0 (C:CkP) (k:Nat) (x:DelD) (pr:Int):Int:=if x.rev∉C.rvs then 22 else if 0 < k∧x.rev≤pr then 6 else if ¬ (0≤x.move∧x.move≤1073741824) then 21 else 0
def delE (C:CkP) (l:List DelD) (k:Nat):Int:=match l[k]? with|some x=>delE0 C k x ((l[k - 1]?.map DelD.rev).getD 0)|none=>0
/-- The error of a head. -/
def headE (C:CkP) (e:Int) (h:HeadD):Int:=firstE [chkPS e h.props,refsE C h.props,mrkE C h.marks,allE (delE C h.marks.dels) h.marks.dels.length,whenE (decide (64 < (h.marks.layers.length:Int))) 9,allE (layE C e h.marks.layers) h.marks.layers.length]
theorem headE_1 {C:CkP} {e:Int} {h:HeadD} (h1:chkPS e h.props≠0):headE C e h=chkPS e h.props:=by simp [headE,firstE,h1]
theorem headE_2 {C:CkP} {e:Int} {h:HeadD} (h1:chkPS e h.props=0) (h2:refsE C h.props≠0):headE C e h=refsE C h.props:=by simp [headE,firstE,h1,h2]
theorem headE_3 {C:CkP} {e:Int} {h:HeadD} (h1:chkPS e h.props=0) (h2:refsE C h.props=0) (h3:mrkE C h.marks≠0):headE C e h=mrkE C h.marks:=by simp [headE,firstE,h1,h2,h3]
theorem headE_4 {C:CkP} {e:Int} {h:HeadD} (h1:chkPS e h.props=0) (h2:refsE C h.props=0) (h3:mrkE C h.marks=0) (h4:allE (delE C h.marks.dels) h.marks.dels.length≠0):headE C e h=allE (delE C h.marks.dels) h.marks.dels.length:=by simp [headE,firstE,h1,h2,h3,h4]
theorem headE_5 {C:CkP} {e:Int} {h:HeadD} (h1:chkPS e h.props=0) (h2:refsE C h.props=0) (h3:mrkE C h.marks=0) (h4:allE (delE C h.marks.dels) h.marks.dels.length=0) (h5:64 < (h.marks.layers.length:Int)):headE C e h=9:=by simp [headE,firstE,h1,h2,h3,h4,whenE,h5]
theorem headE_6 {C:CkP} {e:Int} {h:HeadD} (h1:chkPS e h.props=0) (h2:refsE C h.props=0) (h3:mrkE C h.marks=0) (h4:allE (delE C h.marks.dels) h.marks.dels.length=0) (h5:¬ 64 < (h.marks.layers.length:Int)):headE C e h=allE (layE C e h.marks.layers) h.marks.layers.length:=by simp [headE,firstE,h1,h2,h3,h4,whenE,h5];exact Eq.symm
theorem refsE_at {C:CkP} {l:List PropD} {k:Nat} (h:k < l.length):firstE ((l.map fun p=>refE C.st C.lis p.key p.value).drop k)=if refE C.st C.lis l[k].key l[k].value≠0 then refE C.st C.lis l[k].key l[k].value else firstE ((l.map fun p=>refE C.st C.lis p.key p.value).drop (k+1)):=by
 rw [firstE_at (by simpa using h)];simp
theorem head_spec (G:GH) (w0:World) (hG:Hold G w0) (st:List StyleD) (li:List LiD) (rv:List RvD) (b ms ml mr mb mu:Nat) (n:Int) (hck:CkG G st li rv ms ml mr mu) (hb:G b=some (ckB b ms ml mr mb mu n).2)
  (e:Int) (h:HeadD) (p d l:Value) (hh:HeadR G h p d l) (hz:zHead h≤4294967296) :
  Calls Tryz.prog 64 #[.pointer (some ⟨b,0,none⟩),vi e,hdV h p d l] w0 (Ret w0 G fun u G'=>u=vi (headE (ckP st li rv) e h)):=by
 obtain ⟨pA,pc,rfl,-,-,-⟩:=hh.props.slice;obtain ⟨dA,dc,rfl,-,-,-⟩:=hh.dels.slice;obtain ⟨lA,lc,rfl,-,-,-⟩:=hh.layers.slice;have hml:maxLen=9223372036854775807:=rfl;have hzz:=zHead_eq h;have hz1:=szRs_length (h.props.map PropD.dat);have hz2:=szRs_length (h.marks.dels.map DelD.dat);have hz3:=szRs_length (h.marks.layers.map LayerD.dat)
 simp only [List.length_map] at hh hz1 hz2 hz3 ⊢
 generalize zHead h=zz at hz hzz
 refine eN [(0,_),(1,_),(2,_)] Tryz.func64 rfl Tryz.ntmps64 rfl rfl hG ?_;intro a H;refine c_seqR (fun _ K1=>?_);refine s_box (cs:=[_]) H wn rfl rfl rfl ?_;clear H;intro b3 a w hb3 H;refine s_box (cs:=[_]) H wn rfl rfl rfl ?_;clear H;intro b4 a w hb4 H;refine s_box (cs:=[_,_,_,_,_]) H wn rfl rfl rfl ?_;clear H;intro b5 a w hb5 H;refine kH H (Ra rfl ?_);clear H;intro a H;refine K1 _ _ ?_;clear K1;refine c_seq (fun _ K2=>?_);refine c_seq (fun _ K3=>?_);obtain ⟨Ga5,hma5,hb5',H⟩:=H.giveBox;obtain ⟨Ga4,hma4,hb4',H⟩:=H.giveBox;obtain ⟨Ga,hma3,hb3',H⟩:=H.giveBox;replace hb5':=hma3 _ _ (hma4 _ _ hb5');replace hb4':=hma3 _ _ hb4';have hma:∀ b o,G b=some o→Ga b=some o:=fun b o h=>hma3 _ _ (hma4 _ _ (hma5 _ _ h));clear hma3 hma4 hma5;replace hck:=hck.mono hma;replace hb:=hma _ _ hb;replace hh:=hh.mono hma
 have g3:gcell Ga b3 0=some (.pointer (some ⟨b,0,none⟩)):=by unfold gcell;rw [hb3'];rfl
 have g4:gcell Ga b4 0=some (vi e):=by unfold gcell;rw [hb4'];rfl
 have g50:gcell Ga b5 0=some (.slice pA h.props.length pc):=by unfold gcell;rw [hb5'];rfl
 have g51:∀ (j:Nat) (u:Value),[vi h.marks.ins,vi h.marks.move,.slice dA h.marks.dels.length dc,.slice lA h.marks.layers.length lc][j]?=some u→gcell Ga b5 (1+j)=some u:=by
  intro j u hj
  unfold gcell;rw [hb5']
  match j,hj with
  | 0,hj=>exact hj
  | 1,hj=>exact hj
  | 2,hj=>exact hj
  | 3,hj=>exact hj
  | n+4,hj=>simp at hj
 have hc2:gcell Ga b 2=some (.map (some mr)):=by unfold gcell;rw [hb];rfl
 refine c_region ?_;refine s_load ty3run H wn rfl (H.hp.gcell (by assumption)) rfl ?_;clear H;intro a H;refine kH H (Rf fd31_0run rfl ?_);clear H;intro a H;refine s_load ty25run H wn rfl (H.hp.gcell (by assumption)) rfl ?_;clear H;intro a H;refine s_call en44stz H wn rfl (backR (propCheck_spec _ _ H.hp.ro e h.props _ hh.props)) rfl ?_;clear H;rintro v17 _ a w ⟨⟨_,rfl⟩,rfl⟩ - H;refine kH H (Ra rfl ?_);clear H;intro a H;refine wl_nil ?_;refine K3 _ _ ?_;clear K3;refine c_seqR (fun _ K4=>?_);refine kH H (Rm rfl (Rc rfl ?_));clear H;intro a H;refine K4 _ _ ?_;clear K4;refine c_cond H rfl ?_ ?_
 ·intro h19
  try have p19:=of_decide_eq_true h19
  refine c_seq (fun _ K5=>?_);have hE:=headE_1 (C:=ckP st li rv) (e:=e) (h:=h) p19;refine c_region ?_;refine kH H (Rm rfl (Ra rfl ?_));clear H;intro a H;refine wl_nil ?_;refine K5 _ _ ?_;clear K5;refine c_ret ?_;refine lv H Tryz.results64 rfl ?_;exact H.hp.ret (by rw [hE])
 intro h19
 try have p19:=of_decide_eq_false h19
 have e1:chkPS e h.props=0:=by simpa using p19
 refine c_skip ?_;refine K2 _ _ ?_;clear K2;refine c_seq (fun _ K6=>?_);refine c_seqR (fun _ K7=>?_);refine kH H (Rf fd31_0run rfl ?_);clear H;intro a H;refine s_load ty25run H wn rfl (H.hp.gcell (by assumption)) rfl ?_;clear H;intro a H;refine kH H (Rl un25run rfl (Rm rfl ?_));clear H;intro a H;refine K7 _ _ ?_;clear K7;refine c_block ?_;skip;refine c_loopS (ι:=Nat) (Tc:=[(3,_),(4,_),(5,_),(22,_),(23,_)]) (Lc:=[]) (fun (gh:Nat)=>[(24,vi gh)]) (fun (gh:Nat)=>[]) (fun (gh:Nat)=>Ga) (fun (gh:Nat)=>gh≤h.props.length∧firstE ((h.props.map fun p=>refE st (li.map LiD.id) p.key p.value).drop gh)=refsE (ckP st li rv) h.props) (fun (gh:Nat)=>h.props.length - gh) (0) (by exact (H).sub ⟨rfl,rfl,rfl,rfl,rfl,rfl,trivial⟩) ?_ ?_
 ·exact ⟨Nat.zero_le _,rfl⟩
 clear H;intro gh a w hI H;obtain ⟨k,hgh⟩:∃ x,x=gh:=⟨_,rfl⟩;subst hgh;obtain ⟨hk,heq⟩:=hI;dsimp only [List.cons_append,List.nil_append,List.append_nil] at H;refine c_seqR (fun _ K8=>?_);refine kH H (Rc rfl ?_);clear H;intro a H;refine K8 _ _ ?_;clear K8;refine c_seq (fun _ K9=>?_);refine c_cond H rfl ?_ ?_
 ·intro h25
  try have p25:=of_decide_eq_true h25
  have hk2:k < h.props.length:=by omega
  obtain ⟨xb,xo,rfl,hrow⟩:=prop_at hh.props hk2;refine c_skip ?_;refine K9 _ _ ?_;clear K9;refine c_seq (fun _ K10=>?_);refine c_block ?_;refine c_seqR (fun _ K11=>?_);refine s_index un25run ty40run _ H wn rfl rfl rfl (by first|assumption|omega) rfl ?_;clear H;intro a H;refine s_loada ty40run (cs:=[_,_]) H wn rfl rfl (fun j v hj=>H.hp.gcell (hrow j v hj)) rfl ?_;clear H;intro a H;refine s_alloc ty40run H wn rfl ?_;clear H;intro b9 a w hb9 H;refine s_store ty40run 0 (vs:=[_,_]) _ H wn rfl rfl rfl rfl rfl rfl rfl rfl ?_;clear H;intro w H;dsimp only [List.set,setRow] at H;refine K11 _ _ ?_;clear K11;refine c_seqR (fun _ K12=>?_);refine s_load ty130hea H wn rfl (H.hp.gcell (by assumption)) rfl ?_;clear H;intro a H;refine kH H (Rf fd40_0prp rfl (Ro ty3run 0 rfl rfl (Rf fd40_1prc rfl (Ro ty3run 0 rfl rfl ?_))));clear H;intro a H;refine s_call en136hdr H wn rfl (ckRef_spec _ _ H.hp.ro st li rv b ms ml mr mb mu n h.props[k].key h.props[k].value hck hb) rfl ?_;clear H;rintro v33 _ a w ⟨rfl,rfl⟩ - H;refine kH H (Ra rfl ?_);clear H;intro a H;refine K12 _ _ ?_;clear K12;refine c_seqR (fun _ K13=>?_);refine kH H (Rm rfl (Rc rfl ?_));clear H;intro a H;refine K13 _ _ ?_;clear K13;refine c_cond H rfl ?_ ?_
  ·intro h35
   try have p35:=of_decide_eq_true h35
   refine c_seq (fun _ K14=>?_)
   have hr:refsE (ckP st li rv) h.props=refE st (li.map LiD.id) h.props[k].key h.props[k].value:=by rw [← heq];exact (refsE_at (C:=ckP st li rv) hk2).trans (if_pos p35)
   have hE:=(headE_2 (C:=ckP st li rv) (e:=e) (h:=h) e1 (by rw [hr];exact p35)).trans hr;refine c_region ?_;refine kH H (Rm rfl (Ra rfl ?_));clear H;intro a H;refine wl_nil ?_;refine K14 _ _ ?_;clear K14;refine c_ret ?_;refine lv H Tryz.results64 rfl ?_;exact H.hp.ret (by rw [hE])
  intro h35
  try have p35:=of_decide_eq_false h35
  refine c_skip ?_;refine K10 _ _ ?_;clear K10;refine c_region ?_;refine s_add _ H wn rfl rfl rfl (by omega) (by omega) rfl ?_;clear H;intro a H;refine kH H (Rm rfl ?_);clear H;intro a H;refine wl_nil ?_;refine loop_end ((k+1)) (by exact (H.pickT (Pl:=[_]) (Pl':=[]) [] (by decide) rfl).sub ⟨rfl,rfl,rfl,rfl,rfl,rfl,trivial⟩) ?_ ?_
  ·exact ⟨by omega,by rw [refsE_at (C:=ckP st li rv) hk2,if_neg (by simpa using p35)] at heq;exact heq⟩
  first|omega|(dsimp only;omega)
 intro h25
 try have p25:=of_decide_eq_false h25
 refine c_exit ?_;refine K6 _ _ ?_;clear K6;refine c_seq (fun _ K15=>?_)
 have e2:refsE (ckP st li rv) h.props=0:=by rw [← heq,List.drop_of_length_le (by rw [List.length_map];omega)];rfl
 refine c_region ?_;refine kH H (Rf fd31_1run rfl ?_);clear H;intro a H;refine s_loada ty29hea (cs:=[vi h.marks.ins,vi h.marks.move,.slice dA h.marks.dels.length dc,.slice lA h.marks.layers.length lc]) H wn rfl rfl (fun j v hj=>H.hp.gcell (g51 j v hj)) rfl ?_;clear H;intro a H;refine s_alloc ty29hea H wn rfl ?_;clear H;intro b11 a w hb11 H;refine s_store ty29hea 0 (vs:=[_,_,_,_]) _ H wn rfl rfl rfl rfl rfl rfl rfl rfl ?_;clear H;intro w H;dsimp only [List.set,setRow] at H;obtain ⟨Gb,hmb,hb11',H⟩:=H.giveBox;replace hck:=hck.mono hmb;replace hb:=hmb _ _ hb;replace hh:=hh.mono hmb;replace g3:=gcell_mono hmb g3;replace g4:=gcell_mono hmb g4;replace hc2:=gcell_mono hmb hc2
 have q0:gcell Gb b11 0=some (vi h.marks.ins):=by unfold gcell;rw [hb11'];rfl
 have q1:gcell Gb b11 1=some (vi h.marks.move):=by unfold gcell;rw [hb11'];rfl
 have q2:gcell Gb b11 2=some (.slice dA h.marks.dels.length dc):=by unfold gcell;rw [hb11'];rfl
 have q3:gcell Gb b11 3=some (.slice lA h.marks.layers.length lc):=by unfold gcell;rw [hb11'];rfl
 have hcb:=lay_cb hck hb g3 g4 q3 hh.layers;refine wl_nil ?_;refine K15 _ _ ?_;clear K15;refine c_seqJ (ι:=GH) (Tc:=[(3,_),(4,_),(11,_)]) (Lc:=[]) (fun (gh:GH)=>[]) (fun (gh:GH)=>[]) (fun (gh:GH)=>gh) (fun (gh:GH)=>mrkE (ckP st li rv) h.marks=0∧(∀ b o,Gb b=some o→gh b=some o)) (by exact (H).sub ⟨rfl,rfl,rfl,trivial⟩) ?_ ?_
 ·skip;refine c_block ?_;refine c_seq (fun _ K16=>?_)
  by_cases c0:h.marks.ins≠0
  ·skip
   by_cases c1:h.marks.ins∉rv.map RvD.id
   ·skip;refine c_drawI (hmx) [[],[0],[0,1],[0,1,2],[0,1,2,3],[0,1,2,3,4],[0,1,2,3,4,5],(List.range 7),[0,1,2,3],[0,1,2,3,8],(List.range 10),(List.range 11),(List.range 12),(List.range 13)] [13] (by kernel_rfl) (by kernel_rfl) (fun (ix_:Nat) (v:Value) (G:GH)=>match ix_ with|0=>v=.pointer (some ⟨b11,0,none⟩)|1=>v=vi h.marks.ins|2=>v=.bool (decide (h.marks.ins≠0))|3=>v=.bool (decide (h.marks.ins≠0))|4=>v=.pointer (some ⟨b,0,none⟩)|5=>v=.pointer (some ⟨b,0,none⟩)|6=>v=.pointer (some ⟨b,2,none⟩)|7=>v=.map (some mr)|8=>v=.pointer (some ⟨b11,0,none⟩)|9=>v=vi h.marks.ins|10=>v=.bool (decide (h.marks.ins∈rv.map RvD.id))|11=>v=.bool (decide (h.marks.ins∉rv.map RvD.id))|12=>v=.bool (decide (h.marks.ins∉rv.map RvD.id))|_=>True) (fun _ _ _ _ _ h=>h) H ?_ ?_
    ·clear H;refine al4 ?_ ?_ ?_ ?_ (al4 ?_ ?_ ?_ ?_ (al4 ?_ ?_ ?_ ?_ (allI_cons ?_ (allI_cons ?_ allI_nil))))
     ·exact Op0 rfl fun _ _ _ _ _ _ H fin=>kH H (Rf fd29_0ehd rfl fun _ H=>fin H iJ rfl)
     ·refine Op1 0 41 rfl rfl fun _ a w G1 hG HT H fin=>?_;refine s_load ty3run H wn rfl (H.hp.gcell (gcell_mono hG q0)) rfl ?_;clear H;intro a H;exact fin H iJ rfl
     ·exact Op1 1 42 rfl rfl fun _ _ _ _ _ _ H fin=>kH H (Rc rfl fun _ H=>fin H iJ rfl)
     ·exact Op1 2 43 rfl rfl fun _ _ _ _ _ _ H fin=>kH H (Rm rfl fun _ H=>fin H iJ rfl)
     ·refine Op1 3 44 rfl rfl fun _ a w G1 hG HT H fin=>?_;refine s_load ty130hea H (wg H rfl rfl (decide_eq_true c0)) rfl (H.hp.gcell (gcell_mono hG g3)) rfl ?_;clear H;intro a H;exact fin H iJ rfl
     ·refine Op2 4 45 3 44 rfl rfl fun _ a w G1 hG HT H fin=>?_;refine s_nilCheck H (wg H rfl rfl (decide_eq_true c0)) rfl rfl ?_;clear H;intro a H;exact fin H iJ rfl
     ·refine Op2 5 46 3 44 rfl rfl fun _ a w G1 hG HT H fin=>?_;refine s_field fd140_2nck H (wg H rfl rfl (decide_eq_true c0)) rfl rfl ?_;clear H;intro a H;exact fin H iJ rfl
     ·refine Op2 6 47 3 44 rfl rfl fun _ a w G1 hG HT H fin=>?_;refine s_load ty138nck H (wg H rfl rfl (decide_eq_true c0)) rfl (H.hp.gcell (gcell_mono hG hc2)) rfl ?_;clear H;intro a H;exact fin H iJ rfl
     ·refine Op1 3 44 rfl rfl fun _ a w G1 hG HT H fin=>?_;refine s_field fd29_0ehd H (wg H rfl rfl (decide_eq_true c0)) rfl rfl ?_;clear H;intro a H;exact fin H iJ rfl
     ·refine Op2 8 49 3 44 rfl rfl fun _ a w G1 hG HT H fin=>?_;refine s_load ty3run H (wg H rfl rfl (decide_eq_true c0)) rfl (H.hp.gcell (gcell_mono hG q0)) rfl ?_;clear H;intro a H;exact fin H iJ rfl
     ·refine Op3 7 48 9 50 3 44 rfl rfl fun _ a w G1 hG HT H fin=>?_;refine s_lookupK (zv:=.bool false) un138nck un3cp (by kernel_rfl) H (wg H rfl rfl (decide_eq_true c0)) rfl rfl (H.hp.ro _ _ (hG _ _ hck.rev)) rfl ?_;clear H;intro a H;rw [lk_set] at H;exact fin H iJ rfl
     ·refine Op2 10 51 3 44 rfl rfl fun _ a w G1 hG HT H fin=>?_;refine s_not H (wg H rfl rfl (decide_eq_true c0)) rfl rfl ?_;clear H;intro a H;exact fin H iJ (by first|rfl|exact congrArg Value.bool decide_not.symm)
     ·refine Op2 3 44 11 52 rfl rfl fun _ a w G1 hG HT H fin=>?_;refine s_pick_t H wn rfl (decide_eq_true c0) rfl rfl ?_;clear H;intro a H;exact fin H iJ rfl
     exact opB rfl
    clear H;intro a w G hGm12 H hv;obtain ⟨u53,hu53,hp53⟩:=hv 12 53 (by decide) rfl;obtain rfl:u53=.bool (decide (h.marks.ins∉rv.map RvD.id)):=hp53;have H:=H.addS hu53;clear hv;refine kH H (Ra rfl ?_);clear H;intro a H;refine wl_nil ⟨rfl,?_⟩;refine K16 _ _ ?_;clear K16;refine c_cond_t H rfl (decide_eq_true c1) ?_;refine c_seq (fun _ K17=>?_);have e3:mrkE (ckP st li rv) h.marks=22:=if_pos ⟨c0,c1⟩;have hE:=(headE_3 (C:=ckP st li rv) (e:=e) (h:=h) e1 e2 (by rw [e3];decide)).trans e3;refine c_region ?_;refine kH H (Ra rfl ?_);clear H;intro a H;refine wl_nil ?_;refine K17 _ _ ?_;clear K17;refine c_ret ?_;refine lv H Tryz.results64 rfl ?_;exact H.hp.ret (by rw [hE])
   skip;refine c_drawI (hmx) [[],[0],[0,1],[0,1,2],[0,1,2,3],[0,1,2,3,4],[0,1,2,3,4,5],(List.range 7),[0,1,2,3],[0,1,2,3,8],(List.range 10),(List.range 11),(List.range 12),(List.range 13)] [13] (by kernel_rfl) (by kernel_rfl) (fun (ix_:Nat) (v:Value) (G:GH)=>match ix_ with|0=>v=.pointer (some ⟨b11,0,none⟩)|1=>v=vi h.marks.ins|2=>v=.bool (decide (h.marks.ins≠0))|3=>v=.bool (decide (h.marks.ins≠0))|4=>v=.pointer (some ⟨b,0,none⟩)|5=>v=.pointer (some ⟨b,0,none⟩)|6=>v=.pointer (some ⟨b,2,none⟩)|7=>v=.map (some mr)|8=>v=.pointer (some ⟨b11,0,none⟩)|9=>v=vi h.marks.ins|10=>v=.bool (decide (h.marks.ins∈rv.map RvD.id))|11=>v=.bool (decide (h.marks.ins∉rv.map RvD.id))|12=>v=.bool (decide (h.marks.ins∉rv.map RvD.id))|_=>True) (fun _ _ _ _ _ h=>h) H ?_ ?_
   ·clear H;refine al4 ?_ ?_ ?_ ?_ (al4 ?_ ?_ ?_ ?_ (al4 ?_ ?_ ?_ ?_ (allI_cons ?_ (allI_cons ?_ allI_nil))))
    ·exact Op0 rfl fun _ _ _ _ _ _ H fin=>kH H (Rf fd29_0ehd rfl fun _ H=>fin H iJ rfl)
    ·refine Op1 0 41 rfl rfl fun _ a w G1 hG HT H fin=>?_;refine s_load ty3run H wn rfl (H.hp.gcell (gcell_mono hG q0)) rfl ?_;clear H;intro a H;exact fin H iJ rfl
    ·exact Op1 1 42 rfl rfl fun _ _ _ _ _ _ H fin=>kH H (Rc rfl fun _ H=>fin H iJ rfl)
    ·exact Op1 2 43 rfl rfl fun _ _ _ _ _ _ H fin=>kH H (Rm rfl fun _ H=>fin H iJ rfl)
    ·refine Op1 3 44 rfl rfl fun _ a w G1 hG HT H fin=>?_;refine s_load ty130hea H (wg H rfl rfl (decide_eq_true c0)) rfl (H.hp.gcell (gcell_mono hG g3)) rfl ?_;clear H;intro a H;exact fin H iJ rfl
    ·refine Op2 4 45 3 44 rfl rfl fun _ a w G1 hG HT H fin=>?_;refine s_nilCheck H (wg H rfl rfl (decide_eq_true c0)) rfl rfl ?_;clear H;intro a H;exact fin H iJ rfl
    ·refine Op2 5 46 3 44 rfl rfl fun _ a w G1 hG HT H fin=>?_;refine s_field fd140_2nck H (wg H rfl rfl (decide_eq_true c0)) rfl rfl ?_;clear H;intro a H;exact fin H iJ rfl
    ·refine Op2 6 47 3 44 rfl rfl fun _ a w G1 hG HT H fin=>?_;refine s_load ty138nck H (wg H rfl rfl (decide_eq_true c0)) rfl (H.hp.gcell (gcell_mono hG hc2)) rfl ?_;clear H;intro a H;exact fin H iJ rfl
    ·refine Op1 3 44 rfl rfl fun _ a w G1 hG HT H fin=>?_;refine s_field fd29_0ehd H (wg H rfl rfl (decide_eq_true c0)) rfl rfl ?_;clear H;intro a H;exact fin H iJ rfl
    ·refine Op2 8 49 3 44 rfl rfl fun _ a w G1 hG HT H fin=>?_;refine s_load ty3run H (wg H rfl rfl (decide_eq_true c0)) rfl (H.hp.gcell (gcell_mono hG q0)) rfl ?_;clear H;intro a H;exact fin H iJ rfl
    ·refine Op3 7 48 9 50 3 44 rfl rfl fun _ a w G1 hG HT H fin=>?_;refine s_lookupK (zv:=.bool false) un138nck un3cp (by kernel_rfl) H (wg H rfl rfl (decide_eq_true c0)) rfl rfl (H.hp.ro _ _ (hG _ _ hck.rev)) rfl ?_;clear H;intro a H;rw [lk_set] at H;exact fin H iJ rfl
    ·refine Op2 10 51 3 44 rfl rfl fun _ a w G1 hG HT H fin=>?_;refine s_not H (wg H rfl rfl (decide_eq_true c0)) rfl rfl ?_;clear H;intro a H;exact fin H iJ (by first|rfl|exact congrArg Value.bool decide_not.symm)
    ·refine Op2 3 44 11 52 rfl rfl fun _ a w G1 hG HT H fin=>?_;refine s_pick_t H wn rfl (decide_eq_true c0) rfl rfl ?_;clear H;intro a H;exact fin H iJ rfl
    exact opB rfl
   clear H;intro a w G hGm12 H hv;obtain ⟨u53,hu53,hp53⟩:=hv 12 53 (by decide) rfl;obtain rfl:u53=.bool (decide (h.marks.ins∉rv.map RvD.id)):=hp53;have H:=H.addS hu53;clear hv;refine kH H (Ra rfl ?_);clear H;intro a H;refine wl_nil ⟨rfl,?_⟩;refine K16 _ _ ?_;clear K16;refine c_cond_f H rfl (decide_eq_false c1) ?_;refine c_seq (fun _ K18=>?_)
   have hno:¬ (h.marks.ins≠0∧h.marks.ins∉(ckP st li rv).rvs):=by first|exact fun h=>c1 h.2|exact fun h=>c0 h.1
   replace q0:=gcell_mono hGm12 q0;replace q1:=gcell_mono hGm12 q1;replace q2:=gcell_mono hGm12 q2;refine c_region ?_;refine kH H (Rf fd29_1ehd rfl ?_);clear H;intro a H;refine s_load ty3run H wn rfl (H.hp.gcell (by assumption)) rfl ?_;clear H;intro a H;refine s_call en128fst H wn rfl (in_spec _ _ H.hp.ro h.marks.move 0 1073741824) rfl ?_;clear H;rintro v57 _ a w ⟨rfl,rfl⟩ - H;refine kH H (Rn rfl (Rm rfl ?_));clear H;intro a H;refine s_split H 59 rfl ?_ ?_
   ·intro h59
    try have p59:=of_decide_eq_true h59
    (iterate 4 refine s_skip H rfl rfl h59 rfl ?_;clear H;intro a H);(iterate 3 refine s_skipU H rfl rfl rfl ?_;clear H;intro a H);refine s_skip H rfl rfl h59 rfl ?_;clear H;intro a H;refine s_pick_t H wn rfl h59 rfl rfl ?_;clear H;intro a H;refine kH H (Ra rfl ?_);clear H;intro a H;refine wl_nil ?_;refine K18 _ _ ?_;clear K18;refine c_cond_t H rfl rfl ?_;refine c_seq (fun _ K19=>?_)
    have e3:mrkE (ckP st li rv) h.marks=21:=by unfold mrkE;rw [if_neg hno,if_pos (by first|(simp_all;done)|(simp_all;omega))]
    have hE:=(headE_3 (C:=ckP st li rv) (e:=e) (h:=h) e1 e2 (by rw [e3];decide)).trans e3;refine c_region ?_;refine kH H (Ra rfl ?_);clear H;intro a H;refine wl_nil ?_;refine K19 _ _ ?_;clear K19;refine c_ret ?_;refine lv H Tryz.results64 rfl ?_;exact H.hp.ret (by rw [hE])
   intro h59
   try have p59:=of_decide_eq_false h59
   refine s_field fd29_1ehd H (wg H rfl rfl h59) rfl rfl ?_;clear H;intro a H;refine s_load ty3run H (wg H rfl rfl h59) rfl (H.hp.gcell (by assumption)) rfl ?_;clear H;intro a H;refine s_cmp H (wg H rfl rfl h59) rfl rfl rfl rfl ?_;clear H;intro a H;refine s_move H (wg H rfl rfl h59) rfl rfl ?_;clear H;intro a H;refine s_split H 63 rfl ?_ ?_
   ·intro h63
    try have p63:=of_decide_eq_true h63
    refine s_field fd29_0ehd H (wg H rfl rfl h63) rfl rfl ?_;clear H;intro a H;refine s_load ty3run H (wg H rfl rfl h63) rfl (H.hp.gcell (by assumption)) rfl ?_;clear H;intro a H;refine s_cmp H (wg H rfl rfl h63) rfl rfl rfl rfl ?_;clear H;intro a H;refine s_pick_t H (wg H rfl rfl h59) rfl h63 rfl rfl ?_;clear H;intro a H;refine s_pick_f H wn rfl h59 rfl rfl ?_;clear H;intro a H;refine kH H (Ra rfl ?_);clear H;intro a H;refine wl_nil ?_;refine K18 _ _ ?_;clear K18;refine c_cond H rfl ?_ ?_
    ·intro h54
     try have p54:=of_decide_eq_true h54
     refine c_seq (fun _ K20=>?_)
     have e3:mrkE (ckP st li rv) h.marks=21:=by unfold mrkE;rw [if_neg hno,if_pos (by first|(simp_all;done)|(simp_all;omega))]
     have hE:=(headE_3 (C:=ckP st li rv) (e:=e) (h:=h) e1 e2 (by rw [e3];decide)).trans e3;refine c_region ?_;refine kH H (Ra rfl ?_);clear H;intro a H;refine wl_nil ?_;refine K20 _ _ ?_;clear K20;refine c_ret ?_;refine lv H Tryz.results64 rfl ?_;exact H.hp.ret (by rw [hE])
    intro h54
    try have p54:=of_decide_eq_false h54
    refine c_seq (fun _ K21=>?_)
    have hn2:¬ (¬ (0≤h.marks.move∧h.marks.move≤1073741824)∨(h.marks.move≠0∧h.marks.ins=0)):=by first|(simp_all;done)|(simp_all;omega)
    refine c_region ?_;refine kH H (Rf fd29_2run rfl ?_);clear H;intro a H;refine s_load ty26run H wn rfl (H.hp.gcell (by assumption)) rfl ?_;clear H;intro a H;refine kH H (Rl un26run rfl (Rc rfl (Ra rfl ?_)));clear H;intro a H;refine wl_nil ?_;refine K21 _ _ ?_;clear K21;refine c_cond H rfl ?_ ?_
    ·intro h69
     try have p69:=of_decide_eq_true h69
     refine c_seq (fun _ K22=>?_)
     have e3:mrkE (ckP st li rv) h.marks=9:=by unfold mrkE;rw [if_neg hno,if_neg hn2,if_pos (by simpa using h69)]
     have hE:=(headE_3 (C:=ckP st li rv) (e:=e) (h:=h) e1 e2 (by rw [e3];decide)).trans e3;refine c_region ?_;refine kH H (Ra rfl ?_);clear H;intro a H;refine wl_nil ?_;refine K22 _ _ ?_;clear K22;refine c_ret ?_;refine lv H Tryz.results64 rfl ?_;exact H.hp.ret (by rw [hE])
    intro h69
    try have p69:=of_decide_eq_false h69
    have e3:mrkE (ckP st li rv) h.marks=0:=by unfold mrkE;rw [if_neg hno,if_neg hn2,if_neg (by simpa using h69)]
    refine c_skip ?_;refine ⟨_,by exact (H).sub ⟨rfl,rfl,rfl,trivial⟩,?_⟩;exact ⟨e3,hGm12⟩
   intro h63
   try have p63:=of_decide_eq_false h63
   (iterate 3 refine s_skip H rfl rfl h63 rfl ?_;clear H;intro a H);refine s_pick_f H (wg H rfl rfl h59) rfl h63 rfl rfl ?_;clear H;intro a H;refine s_pick_f H wn rfl h59 rfl rfl ?_;clear H;intro a H;refine kH H (Ra rfl ?_);clear H;intro a H;refine wl_nil ?_;refine K18 _ _ ?_;clear K18;refine c_cond_f H rfl rfl ?_;refine c_seq (fun _ K23=>?_)
   have hn2:¬ (¬ (0≤h.marks.move∧h.marks.move≤1073741824)∨(h.marks.move≠0∧h.marks.ins=0)):=by first|(simp_all;done)|(simp_all;omega)
   refine c_region ?_;refine kH H (Rf fd29_2run rfl ?_);clear H;intro a H;refine s_load ty26run H wn rfl (H.hp.gcell (by assumption)) rfl ?_;clear H;intro a H;refine kH H (Rl un26run rfl (Rc rfl (Ra rfl ?_)));clear H;intro a H;refine wl_nil ?_;refine K23 _ _ ?_;clear K23;refine c_cond H rfl ?_ ?_
   ·intro h69
    try have p69:=of_decide_eq_true h69
    refine c_seq (fun _ K24=>?_)
    have e3:mrkE (ckP st li rv) h.marks=9:=by unfold mrkE;rw [if_neg hno,if_neg hn2,if_pos (by simpa using h69)]
    have hE:=(headE_3 (C:=ckP st li rv) (e:=e) (h:=h) e1 e2 (by rw [e3];decide)).trans e3;refine c_region ?_;refine kH H (Ra rfl ?_);clear H;intro a H;refine wl_nil ?_;refine K24 _ _ ?_;clear K24;refine c_ret ?_;refine lv H Tryz.results64 rfl ?_;exact H.hp.ret (by rw [hE])
   intro h69
   try have p69:=of_decide_eq_false h69
   have e3:mrkE (ckP st li rv) h.marks=0:=by unfold mrkE;rw [if_neg hno,if_neg hn2,if_neg (by simpa using h69)]
   refine c_skip ?_;refine ⟨_,by exact (H).sub ⟨rfl,rfl,rfl,trivial⟩,?_⟩;exact ⟨e3,hGm12⟩
  skip;refine c_drawI (hmx) [[],[0],[0,1],[0,1,2],[0,1,2,3],[0,1,2,3,4],[0,1,2,3,4,5],(List.range 7),[0,1,2,3],[0,1,2,3,8],(List.range 10),(List.range 11),(List.range 12),(List.range 13)] [13] (by kernel_rfl) (by kernel_rfl) (fun (ix_:Nat) (v:Value) (G:GH)=>match ix_ with|0=>v=.pointer (some ⟨b11,0,none⟩)|1=>v=vi h.marks.ins|2=>v=.bool (decide (h.marks.ins≠0))|3=>v=.bool (decide (h.marks.ins≠0))|4=>v=undef|5=>v=undef|6=>v=undef|7=>v=undef|8=>v=undef|9=>v=undef|10=>v=undef|11=>v=undef|12=>v=.bool false|_=>True) (fun _ _ _ _ _ h=>h) H ?_ ?_
  ·clear H;refine al4 ?_ ?_ ?_ ?_ (al4 ?_ ?_ ?_ ?_ (al4 ?_ ?_ ?_ ?_ (allI_cons ?_ (allI_cons ?_ allI_nil))))
   ·exact Op0 rfl fun _ _ _ _ _ _ H fin=>kH H (Rf fd29_0ehd rfl fun _ H=>fin H iJ rfl)
   ·refine Op1 0 41 rfl rfl fun _ a w G1 hG HT H fin=>?_;refine s_load ty3run H wn rfl (H.hp.gcell (gcell_mono hG q0)) rfl ?_;clear H;intro a H;exact fin H iJ rfl
   ·exact Op1 1 42 rfl rfl fun _ _ _ _ _ _ H fin=>kH H (Rc rfl fun _ H=>fin H iJ rfl)
   ·exact Op1 2 43 rfl rfl fun _ _ _ _ _ _ H fin=>kH H (Rm rfl fun _ H=>fin H iJ rfl)
   ·exact skI 3 (decide_eq_false c0) rfl rfl
   ·exact skI 3 (decide_eq_false c0) rfl rfl
   ·exact skI 3 (decide_eq_false c0) rfl rfl
   ·exact skI 3 (decide_eq_false c0) rfl rfl
   ·exact skI 3 (decide_eq_false c0) rfl rfl
   ·exact skI 3 (decide_eq_false c0) rfl rfl
   ·exact skI 3 (decide_eq_false c0) rfl rfl
   ·exact skI 3 (decide_eq_false c0) rfl rfl
   ·refine Op2 3 44 11 52 rfl rfl fun _ a w G1 hG HT H fin=>?_;refine s_pick_f H wn rfl (decide_eq_false c0) rfl rfl ?_;clear H;intro a H;exact fin H iJ rfl
   exact opB rfl
  clear H;intro a w G hGm12 H hv;obtain ⟨u53,hu53,hp53⟩:=hv 12 53 (by decide) rfl;obtain rfl:u53=.bool false:=hp53;have H:=H.addS hu53;clear hv;refine kH H (Ra rfl ?_);clear H;intro a H;refine wl_nil ⟨rfl,?_⟩;refine K16 _ _ ?_;clear K16;refine c_cond_f H rfl rfl ?_;refine c_seq (fun _ K25=>?_)
  have hno:¬ (h.marks.ins≠0∧h.marks.ins∉(ckP st li rv).rvs):=by first|exact fun h=>c1 h.2|exact fun h=>c0 h.1
  replace q0:=gcell_mono hGm12 q0;replace q1:=gcell_mono hGm12 q1;replace q2:=gcell_mono hGm12 q2;refine c_region ?_;refine kH H (Rf fd29_1ehd rfl ?_);clear H;intro a H;refine s_load ty3run H wn rfl (H.hp.gcell (by assumption)) rfl ?_;clear H;intro a H;refine s_call en128fst H wn rfl (in_spec _ _ H.hp.ro h.marks.move 0 1073741824) rfl ?_;clear H;rintro v57 _ a w ⟨rfl,rfl⟩ - H;refine kH H (Rn rfl (Rm rfl ?_));clear H;intro a H;refine s_split H 59 rfl ?_ ?_
  ·intro h59
   try have p59:=of_decide_eq_true h59
   (iterate 4 refine s_skip H rfl rfl h59 rfl ?_;clear H;intro a H);(iterate 3 refine s_skipU H rfl rfl rfl ?_;clear H;intro a H);refine s_skip H rfl rfl h59 rfl ?_;clear H;intro a H;refine s_pick_t H wn rfl h59 rfl rfl ?_;clear H;intro a H;refine kH H (Ra rfl ?_);clear H;intro a H;refine wl_nil ?_;refine K25 _ _ ?_;clear K25;refine c_cond_t H rfl rfl ?_;refine c_seq (fun _ K26=>?_)
   have e3:mrkE (ckP st li rv) h.marks=21:=by unfold mrkE;rw [if_neg hno,if_pos (by first|(simp_all;done)|(simp_all;omega))]
   have hE:=(headE_3 (C:=ckP st li rv) (e:=e) (h:=h) e1 e2 (by rw [e3];decide)).trans e3;refine c_region ?_;refine kH H (Ra rfl ?_);clear H;intro a H;refine wl_nil ?_;refine K26 _ _ ?_;clear K26;refine c_ret ?_;refine lv H Tryz.results64 rfl ?_;exact H.hp.ret (by rw [hE])
  intro h59
  try have p59:=of_decide_eq_false h59
  refine s_field fd29_1ehd H (wg H rfl rfl h59) rfl rfl ?_;clear H;intro a H;refine s_load ty3run H (wg H rfl rfl h59) rfl (H.hp.gcell (by assumption)) rfl ?_;clear H;intro a H;refine s_cmp H (wg H rfl rfl h59) rfl rfl rfl rfl ?_;clear H;intro a H;refine s_move H (wg H rfl rfl h59) rfl rfl ?_;clear H;intro a H;refine s_split H 63 rfl ?_ ?_
  ·intro h63
   try have p63:=of_decide_eq_true h63
   refine s_field fd29_0ehd H (wg H rfl rfl h63) rfl rfl ?_;clear H;intro a H;refine s_load ty3run H (wg H rfl rfl h63) rfl (H.hp.gcell (by assumption)) rfl ?_;clear H;intro a H;refine s_cmp H (wg H rfl rfl h63) rfl rfl rfl rfl ?_;clear H;intro a H;refine s_pick_t H (wg H rfl rfl h59) rfl h63 rfl rfl ?_;clear H;intro a H;refine s_pick_f H wn rfl h59 rfl rfl ?_;clear H;intro a H;refine kH H (Ra rfl ?_);clear H;intro a H;refine wl_nil ?_;refine K25 _ _ ?_;clear K25;refine c_cond H rfl ?_ ?_
   ·intro h54
    try have p54:=of_decide_eq_true h54
    refine c_seq (fun _ K27=>?_)
    have e3:mrkE (ckP st li rv) h.marks=21:=by unfold mrkE;rw [if_neg hno,if_pos (by first|(simp_all;done)|(simp_all;omega))]
    have hE:=(headE_3 (C:=ckP st li rv) (e:=e) (h:=h) e1 e2 (by rw [e3];decide)).trans e3;refine c_region ?_;refine kH H (Ra rfl ?_);clear H;intro a H;refine wl_nil ?_;refine K27 _ _ ?_;clear K27;refine c_ret ?_;refine lv H Tryz.results64 rfl ?_;exact H.hp.ret (by rw [hE])
   intro h54
   try have p54:=of_decide_eq_false h54
   refine c_seq (fun _ K28=>?_)
   have hn2:¬ (¬ (0≤h.marks.move∧h.marks.move≤1073741824)∨(h.marks.move≠0∧h.marks.ins=0)):=by first|(simp_all;done)|(simp_all;omega)
   refine c_region ?_;refine kH H (Rf fd29_2run rfl ?_);clear H;intro a H;refine s_load ty26run H wn rfl (H.hp.gcell (by assumption)) rfl ?_;clear H;intro a H;refine kH H (Rl un26run rfl (Rc rfl (Ra rfl ?_)));clear H;intro a H;refine wl_nil ?_;refine K28 _ _ ?_;clear K28;refine c_cond H rfl ?_ ?_
   ·intro h69
    try have p69:=of_decide_eq_true h69
    refine c_seq (fun _ K29=>?_)
    have e3:mrkE (ckP st li rv) h.marks=9:=by unfold mrkE;rw [if_neg hno,if_neg hn2,if_pos (by simpa using h69)]
    have hE:=(headE_3 (C:=ckP st li rv) (e:=e) (h:=h) e1 e2 (by rw [e3];decide)).trans e3;refine c_region ?_;refine kH H (Ra rfl ?_);clear H;intro a H;refine wl_nil ?_;refine K29 _ _ ?_;clear K29;refine c_ret ?_;refine lv H Tryz.results64 rfl ?_;exact H.hp.ret (by rw [hE])
   intro h69
   try have p69:=of_decide_eq_false h69
   have e3:mrkE (ckP st li rv) h.marks=0:=by unfold mrkE;rw [if_neg hno,if_neg hn2,if_neg (by simpa using h69)]
   refine c_skip ?_;refine ⟨_,by exact (H).sub ⟨rfl,rfl,rfl,trivial⟩,?_⟩;exact ⟨e3,hGm12⟩
  intro h63
  try have p63:=of_decide_eq_false h63
  (iterate 3 refine s_skip H rfl rfl h63 rfl ?_;clear H;intro a H);refine s_pick_f H (wg H rfl rfl h59) rfl h63 rfl rfl ?_;clear H;intro a H;refine s_pick_f H wn rfl h59 rfl rfl ?_;clear H;intro a H;refine kH H (Ra rfl ?_);clear H;intro a H;refine wl_nil ?_;refine K25 _ _ ?_;clear K25;refine c_cond_f H rfl rfl ?_;refine c_seq (fun _ K30=>?_)
  have hn2:¬ (¬ (0≤h.marks.move∧h.marks.move≤1073741824)∨(h.marks.move≠0∧h.marks.ins=0)):=by first|(simp_all;done)|(simp_all;omega)
  refine c_region ?_;refine kH H (Rf fd29_2run rfl ?_);clear H;intro a H;refine s_load ty26run H wn rfl (H.hp.gcell (by assumption)) rfl ?_;clear H;intro a H;refine kH H (Rl un26run rfl (Rc rfl (Ra rfl ?_)));clear H;intro a H;refine wl_nil ?_;refine K30 _ _ ?_;clear K30;refine c_cond H rfl ?_ ?_
  ·intro h69
   try have p69:=of_decide_eq_true h69
   refine c_seq (fun _ K31=>?_)
   have e3:mrkE (ckP st li rv) h.marks=9:=by unfold mrkE;rw [if_neg hno,if_neg hn2,if_pos (by simpa using h69)]
   have hE:=(headE_3 (C:=ckP st li rv) (e:=e) (h:=h) e1 e2 (by rw [e3];decide)).trans e3;refine c_region ?_;refine kH H (Ra rfl ?_);clear H;intro a H;refine wl_nil ?_;refine K31 _ _ ?_;clear K31;refine c_ret ?_;refine lv H Tryz.results64 rfl ?_;exact H.hp.ret (by rw [hE])
  intro h69
  try have p69:=of_decide_eq_false h69
  have e3:mrkE (ckP st li rv) h.marks=0:=by unfold mrkE;rw [if_neg hno,if_neg hn2,if_neg (by simpa using h69)]
  refine c_skip ?_;refine ⟨_,by exact (H).sub ⟨rfl,rfl,rfl,trivial⟩,?_⟩;exact ⟨e3,hGm12⟩
 clear H;intro gh a w hI H;obtain ⟨g,hgh⟩:∃ x,x=gh:=⟨_,rfl⟩;subst hgh;obtain ⟨e3,hmg⟩:=hI;replace hck:=hck.mono hmg;replace hb:=hmg _ _ hb;replace hh:=hh.mono hmg;replace g3:=gcell_mono hmg g3;replace q2:=gcell_mono hmg q2;replace q3:=gcell_mono hmg q3;replace hc2:=gcell_mono hmg hc2;replace hcb:=hcb.mono hmg;dsimp only [List.cons_append,List.nil_append,List.append_nil] at H;refine c_seq (fun _ K32=>?_);refine c_seqR (fun _ K33=>?_);refine kH H (Rf fd29_2run rfl ?_);clear H;intro a H;refine s_load ty26run H wn rfl (H.hp.gcell (by assumption)) rfl ?_;clear H;intro a H;refine kH H (Rl un26run rfl (Rm rfl ?_));clear H;intro a H;refine K33 _ _ ?_;clear K33;refine c_block ?_;skip;refine c_loopS (ι:=Nat × GH) (Tc:=[(3,_),(4,_),(11,_),(75,_),(76,_)]) (Lc:=[]) (fun (gh:Nat × GH)=>[(77,vi gh.1)]) (fun (gh:Nat × GH)=>[]) (fun (gh:Nat × GH)=>gh.2) (fun (gh:Nat × GH)=>gh.1≤h.marks.dels.length∧firstE (((List.range h.marks.dels.length).map (delE (ckP st li rv) h.marks.dels)).drop gh.1)=allE (delE (ckP st li rv) h.marks.dels) h.marks.dels.length∧(∀ b o,g b=some o→gh.2 b=some o)) (fun (gh:Nat × GH)=>h.marks.dels.length - gh.1) ((0,g)) (by exact (H).sub ⟨rfl,rfl,rfl,rfl,rfl,rfl,trivial⟩) ?_ ?_
 ·exact ⟨Nat.zero_le _,rfl,fun _ _ h=>h⟩
 clear H;intro gh a w hI H;obtain ⟨k,g2⟩:=gh;dsimp only at hI H;obtain ⟨hk,heq,hgm⟩:=hI;dsimp only [List.cons_append,List.nil_append,List.append_nil] at H;refine c_seqR (fun _ K34=>?_);refine kH H (Rc rfl ?_);clear H;intro a H;refine K34 _ _ ?_;clear K34;refine c_seq (fun _ K35=>?_);refine c_cond H rfl ?_ ?_
 ·intro h78
  try have p78:=of_decide_eq_true h78
  have hk2:k < h.marks.dels.length:=by omega
  have hd2:=hh.dels.mono hgm;obtain ⟨xb,xo,rfl,hrow⟩:=del_at hd2 hk2
  have hk1:k - 1 < h.marks.dels.length:=by omega
  obtain ⟨b',o',he',hrow'⟩:=del_at hd2 hk1
  injection he' with he'
  injection he' with e1 e2
  subst e1;subst e2
  have hde:delE (ckP st li rv) h.marks.dels k=delE0 (ckP st li rv) k h.marks.dels[k] h.marks.dels[k - 1].rev:=by unfold delE;rw [List.getElem?_eq_getElem hk2,List.getElem?_eq_getElem hk1];rfl
  have hX:∀ v,delE0 (ckP st li rv) k h.marks.dels[k] h.marks.dels[k - 1].rev=v→v≠0→headE (ckP st li rv) e h=v:=fun v h1 h2=>by
   have h4:allE (delE (ckP st li rv) h.marks.dels) h.marks.dels.length=v:=by rw [← heq,allE_at hk2,hde,h1,if_pos h2]
   exact (headE_4 e1 e2 e3 (by rw [h4];exact h2)).trans h4
  have hp:=hrow' 0 _ rfl;have g3':=gcell_mono hgm g3;have hc2':=gcell_mono hgm hc2;have q2':=gcell_mono hgm q2;refine c_skip ?_;refine K35 _ _ ?_;clear K35;refine c_seq (fun _ K36=>?_);refine c_block ?_;refine c_seqR (fun _ K37=>?_);refine kH H (Rm rfl ?_);clear H;intro a H;refine s_index un26run ty214run _ H wn rfl rfl rfl (by first|assumption|omega) rfl ?_;clear H;intro a H;refine s_loada ty214run (cs:=h.marks.dels[k].cells) H wn rfl rfl (fun j v hj=>H.hp.gcell (hrow j v hj)) rfl ?_;clear H;intro a H;refine s_alloc ty214run H wn rfl ?_;clear H;intro b13 a w hb13 H;refine kH H (Ra rfl ?_);clear H;intro a H;refine s_store ty214run 0 (vs:=[_,_]) _ H wn rfl rfl rfl rfl rfl rfl rfl rfl ?_;clear H;intro w H;dsimp only [List.set,setRow] at H;refine K37 _ _ ?_;clear K37;refine c_block ?_;refine c_seq (fun _ K38=>?_);refine c_drawI (hmx) [[],[0],[0,1],[0,1,2],[],[4],[0,1,2,3,4,5],(List.range 7),(List.range 8)] [8] (by kernel_rfl) (by kernel_rfl) (fun (ix_:Nat) (v:Value) (G:GH)=>match ix_ with|0=>v=.pointer (some ⟨b,0,none⟩)|1=>v=.pointer (some ⟨b,0,none⟩)|2=>v=.pointer (some ⟨b,2,none⟩)|3=>v=.map (some mr)|4=>v=.pointer (some ⟨b13,0,none⟩)|5=>v=vi h.marks.dels[k].rev|6=>v=.bool (decide (h.marks.dels[k].rev∈rv.map RvD.id))|7=>v=.bool (!decide (h.marks.dels[k].rev∈rv.map RvD.id))|_=>True) (fun _ _ _ _ _ h=>h) H ?_ ?_
  ·clear H;refine al4 ?_ ?_ ?_ ?_ (al4 ?_ ?_ ?_ ?_ (allI_cons ?_ allI_nil))
   ·refine Op0 rfl fun _ a w G1 hG HT H fin=>?_;refine s_load ty130hea H wn rfl (H.hp.gcell (gcell_mono hG g3')) rfl ?_;clear H;intro a H;exact fin H iJ rfl
   ·exact Op1 0 83 rfl rfl fun _ _ _ _ _ _ H fin=>kH H (Rk rfl fun _ H=>fin H iJ rfl)
   ·exact Op1 1 84 rfl rfl fun _ _ _ _ _ _ H fin=>kH H (Rf fd140_2nck rfl fun _ H=>fin H iJ rfl)
   ·refine Op1 2 85 rfl rfl fun _ a w G1 hG HT H fin=>?_;refine s_load ty138nck H wn rfl (H.hp.gcell (gcell_mono hG hc2')) rfl ?_;clear H;intro a H;exact fin H iJ rfl
   ·exact Op0 rfl fun _ _ _ _ _ _ H fin=>kH H (Rf fd214_0hea rfl fun _ H=>fin H iJ rfl)
   ·exact Op1 4 87 rfl rfl fun _ _ _ _ _ _ H fin=>kH H (Ro ty3run 0 rfl rfl fun _ H=>fin H iJ rfl)
   ·refine Op2 3 86 5 88 rfl rfl fun _ a w G1 hG HT H fin=>?_;refine s_lookupK (zv:=.bool false) un138nck un3cp (by kernel_rfl) H wn rfl rfl (H.hp.ro _ _ (hG _ _ (hgm _ _ hck.rev))) rfl ?_;clear H;intro a H;rw [lk_set] at H;exact fin H iJ rfl
   ·exact Op1 6 89 rfl rfl fun _ _ _ _ _ _ H fin=>kH H (Rn rfl fun _ H=>fin H iJ rfl)
   exact opB rfl
  clear H;intro a w G hGm21 H hv;obtain ⟨u90,hu90,hp90⟩:=hv 7 90 (by decide) rfl;obtain rfl:u90=.bool (!decide (h.marks.dels[k].rev∈rv.map RvD.id)):=hp90;have H:=H.addS hu90;clear hv;refine kH H (Ra rfl ?_);clear H;intro a H;refine wl_nil ⟨rfl,?_⟩;refine K38 _ _ ?_;clear K38;refine c_cond H rfl ?_ ?_
  ·intro h82
   try have p82:=of_decide_eq_true h82
   refine c_seq (fun _ K39=>?_);have hE:=hX 22 (by unfold delE0;rw [if_pos (by simpa using h82)]) (by decide);refine c_region ?_;refine kH H (Ra rfl ?_);clear H;intro a H;refine wl_nil ?_;refine K39 _ _ ?_;clear K39;refine c_ret ?_;refine lv H Tryz.results64 rfl ?_;exact H.hp.ret (by rw [hE])
  intro h82
  try have p82:=of_decide_eq_false h82
  have hm82:¬ (h.marks.dels[k].rev∉(ckP st li rv).rvs):=by simpa using h82
  refine c_seq (fun _ K40=>?_);replace hp:=gcell_mono hGm21 hp;replace q2':=gcell_mono hGm21 q2'
  by_cases c3:0 < (k:Int)
  ·skip
   by_cases c4:h.marks.dels[k].rev≤h.marks.dels[k - 1].rev
   ·skip;refine c_drawI (hmx) [[],[0],[0,1],[0,1,2],[0,1,2,3],[0,1,2],[0,1,2,5],[0,1,2],[0,1,2,7],[0,1,2,5,6,7,8],[0,1,2,5,6,7,8,9],[0,1,2,5,6,7,8,9,10],(List.range 12),(List.range 13),(List.range 14)] [14] (by kernel_rfl) (by kernel_rfl) (fun (ix_:Nat) (v:Value) (G:GH)=>match ix_ with|0=>v=vi k|1=>v=.bool (decide (0 < (k:Int)))|2=>v=.bool (decide (0 < (k:Int)))|3=>v=.pointer (some ⟨b13,0,none⟩)|4=>v=vi h.marks.dels[k].rev|5=>v=.pointer (some ⟨b11,2,none⟩)|6=>v=.slice (some ⟨xb,xo,none⟩) h.marks.dels.length dc|7=>v=vi k|8=>v=vi ((k - 1:Nat):Int)|9=>v=.pointer (some ⟨xb,xo+(k - 1)*2,none⟩)|10=>v=.pointer (some ⟨xb,xo+(k - 1)*2+0,none⟩)|11=>v=vi h.marks.dels[k - 1].rev|12=>v=.bool (decide (h.marks.dels[k].rev≤h.marks.dels[k - 1].rev))|13=>v=.bool (decide (h.marks.dels[k].rev≤h.marks.dels[k - 1].rev))|_=>True) (fun _ _ _ _ _ h=>h) H ?_ ?_
    ·clear H;refine al4 ?_ ?_ ?_ ?_ (al4 ?_ ?_ ?_ ?_ (al4 ?_ ?_ ?_ ?_ (allI_cons ?_ (allI_cons ?_ (allI_cons ?_ allI_nil)))))
     ·exact Op0 rfl fun _ _ _ _ _ _ H fin=>kH H (Rm rfl fun _ H=>fin H iJ rfl)
     ·exact Op1 0 92 rfl rfl fun _ _ _ _ _ _ H fin=>kH H (Rc rfl fun _ H=>fin H iJ rfl)
     ·exact Op1 1 93 rfl rfl fun _ _ _ _ _ _ H fin=>kH H (Rm rfl fun _ H=>fin H iJ rfl)
     ·refine Op1 2 94 rfl rfl fun _ a w G1 hG HT H fin=>?_;refine s_field fd214_0hea H (wg H rfl rfl (decide_eq_true c3)) rfl rfl ?_;clear H;intro a H;exact fin H iJ rfl
     ·refine Op2 3 95 2 94 rfl rfl fun _ a w G1 hG HT H fin=>?_;refine s_load ty3run H (wg H rfl rfl (decide_eq_true c3)) rfl (H.hp.ocell 0 rfl rfl) rfl ?_;clear H;intro a H;exact fin H iJ rfl
     ·refine Op1 2 94 rfl rfl fun _ a w G1 hG HT H fin=>?_;refine s_field fd29_2run H (wg H rfl rfl (decide_eq_true c3)) rfl rfl ?_;clear H;intro a H;exact fin H iJ rfl
     ·refine Op2 5 97 2 94 rfl rfl fun _ a w G1 hG HT H fin=>?_;refine s_load ty26run H (wg H rfl rfl (decide_eq_true c3)) rfl (H.hp.gcell (gcell_mono hG q2')) rfl ?_;clear H;intro a H;exact fin H iJ rfl
     ·refine Op1 2 94 rfl rfl fun _ a w G1 hG HT H fin=>?_;refine s_move H (wg H rfl rfl (decide_eq_true c3)) rfl rfl ?_;clear H;intro a H;exact fin H iJ rfl
     ·refine Op2 7 99 2 94 rfl rfl fun _ a w G1 hG HT H fin=>?_;refine s_sub _ H (wg H rfl rfl (decide_eq_true c3)) rfl rfl rfl (by omega) (by omega) rfl ?_;clear H;intro a H;exact fin H iJ (by first|rfl|exact congrArg vi (by omega))
     ·refine Op3 6 98 8 100 2 94 rfl rfl fun _ a w G1 hG HT H fin=>?_;refine s_index un26run ty214run _ H (wg H rfl rfl (decide_eq_true c3)) rfl rfl rfl (by first|assumption|omega) rfl ?_;clear H;intro a H;exact fin H iJ rfl
     ·refine Op2 9 101 2 94 rfl rfl fun _ a w G1 hG HT H fin=>?_;refine s_field fd214_0hea H (wg H rfl rfl (decide_eq_true c3)) rfl rfl ?_;clear H;intro a H;exact fin H iJ rfl
     ·refine Op2 10 102 2 94 rfl rfl fun _ a w G1 hG HT H fin=>?_;refine s_load ty3run H (wg H rfl rfl (decide_eq_true c3)) rfl (H.hp.gcell (gcell_mono hG hp)) rfl ?_;clear H;intro a H;exact fin H iJ rfl
     ·refine Op3 4 96 11 103 2 94 rfl rfl fun _ a w G1 hG HT H fin=>?_;refine s_cmp H (wg H rfl rfl (decide_eq_true c3)) rfl rfl rfl rfl ?_;clear H;intro a H;exact fin H iJ rfl
     ·refine Op2 2 94 12 104 rfl rfl fun _ a w G1 hG HT H fin=>?_;refine s_pick_t H wn rfl (decide_eq_true c3) rfl rfl ?_;clear H;intro a H;exact fin H iJ rfl
     exact opB rfl
    clear H;intro a w G hGm23 H hv;obtain ⟨u105,hu105,hp105⟩:=hv 13 105 (by decide) rfl;obtain rfl:u105=.bool (decide (h.marks.dels[k].rev≤h.marks.dels[k - 1].rev)):=hp105;have H:=H.addS hu105;clear hv;refine kH H (Ra rfl ?_);clear H;intro a H;refine wl_nil ⟨rfl,?_⟩;refine K40 _ _ ?_;clear K40;refine c_cond_t H rfl (decide_eq_true c4) ?_;refine c_seq (fun _ K41=>?_);have hz:0 < k∧h.marks.dels[k].rev≤h.marks.dels[k - 1].rev:=⟨by omega,c4⟩;have hE:=hX 6 (by unfold delE0;rw [if_neg hm82,if_pos hz]) (by decide);refine c_region ?_;refine kH H (Ra rfl ?_);clear H;intro a H;refine wl_nil ?_;refine K41 _ _ ?_;clear K41;refine c_ret ?_;refine lv H Tryz.results64 rfl ?_;exact H.hp.ret (by rw [hE])
   skip;refine c_drawI (hmx) [[],[0],[0,1],[0,1,2],[0,1,2,3],[0,1,2],[0,1,2,5],[0,1,2],[0,1,2,7],[0,1,2,5,6,7,8],[0,1,2,5,6,7,8,9],[0,1,2,5,6,7,8,9,10],(List.range 12),(List.range 13),(List.range 14)] [14] (by kernel_rfl) (by kernel_rfl) (fun (ix_:Nat) (v:Value) (G:GH)=>match ix_ with|0=>v=vi k|1=>v=.bool (decide (0 < (k:Int)))|2=>v=.bool (decide (0 < (k:Int)))|3=>v=.pointer (some ⟨b13,0,none⟩)|4=>v=vi h.marks.dels[k].rev|5=>v=.pointer (some ⟨b11,2,none⟩)|6=>v=.slice (some ⟨xb,xo,none⟩) h.marks.dels.length dc|7=>v=vi k|8=>v=vi ((k - 1:Nat):Int)|9=>v=.pointer (some ⟨xb,xo+(k - 1)*2,none⟩)|10=>v=.pointer (some ⟨xb,xo+(k - 1)*2+0,none⟩)|11=>v=vi h.marks.dels[k - 1].rev|12=>v=.bool (decide (h.marks.dels[k].rev≤h.marks.dels[k - 1].rev))|13=>v=.bool (decide (h.marks.dels[k].rev≤h.marks.dels[k - 1].rev))|_=>True) (fun _ _ _ _ _ h=>h) H ?_ ?_
   ·clear H;refine al4 ?_ ?_ ?_ ?_ (al4 ?_ ?_ ?_ ?_ (al4 ?_ ?_ ?_ ?_ (allI_cons ?_ (allI_cons ?_ (allI_cons ?_ allI_nil)))))
    ·exact Op0 rfl fun _ _ _ _ _ _ H fin=>kH H (Rm rfl fun _ H=>fin H iJ rfl)
    ·exact Op1 0 92 rfl rfl fun _ _ _ _ _ _ H fin=>kH H (Rc rfl fun _ H=>fin H iJ rfl)
    ·exact Op1 1 93 rfl rfl fun _ _ _ _ _ _ H fin=>kH H (Rm rfl fun _ H=>fin H iJ rfl)
    ·refine Op1 2 94 rfl rfl fun _ a w G1 hG HT H fin=>?_;refine s_field fd214_0hea H (wg H rfl rfl (decide_eq_true c3)) rfl rfl ?_;clear H;intro a H;exact fin H iJ rfl
    ·refine Op2 3 95 2 94 rfl rfl fun _ a w G1 hG HT H fin=>?_;refine s_load ty3run H (wg H rfl rfl (decide_eq_true c3)) rfl (H.hp.ocell 0 rfl rfl) rfl ?_;clear H;intro a H;exact fin H iJ rfl
    ·refine Op1 2 94 rfl rfl fun _ a w G1 hG HT H fin=>?_;refine s_field fd29_2run H (wg H rfl rfl (decide_eq_true c3)) rfl rfl ?_;clear H;intro a H;exact fin H iJ rfl
    ·refine Op2 5 97 2 94 rfl rfl fun _ a w G1 hG HT H fin=>?_;refine s_load ty26run H (wg H rfl rfl (decide_eq_true c3)) rfl (H.hp.gcell (gcell_mono hG q2')) rfl ?_;clear H;intro a H;exact fin H iJ rfl
    ·refine Op1 2 94 rfl rfl fun _ a w G1 hG HT H fin=>?_;refine s_move H (wg H rfl rfl (decide_eq_true c3)) rfl rfl ?_;clear H;intro a H;exact fin H iJ rfl
    ·refine Op2 7 99 2 94 rfl rfl fun _ a w G1 hG HT H fin=>?_;refine s_sub _ H (wg H rfl rfl (decide_eq_true c3)) rfl rfl rfl (by omega) (by omega) rfl ?_;clear H;intro a H;exact fin H iJ (by first|rfl|exact congrArg vi (by omega))
    ·refine Op3 6 98 8 100 2 94 rfl rfl fun _ a w G1 hG HT H fin=>?_;refine s_index un26run ty214run _ H (wg H rfl rfl (decide_eq_true c3)) rfl rfl rfl (by first|assumption|omega) rfl ?_;clear H;intro a H;exact fin H iJ rfl
    ·refine Op2 9 101 2 94 rfl rfl fun _ a w G1 hG HT H fin=>?_;refine s_field fd214_0hea H (wg H rfl rfl (decide_eq_true c3)) rfl rfl ?_;clear H;intro a H;exact fin H iJ rfl
    ·refine Op2 10 102 2 94 rfl rfl fun _ a w G1 hG HT H fin=>?_;refine s_load ty3run H (wg H rfl rfl (decide_eq_true c3)) rfl (H.hp.gcell (gcell_mono hG hp)) rfl ?_;clear H;intro a H;exact fin H iJ rfl
    ·refine Op3 4 96 11 103 2 94 rfl rfl fun _ a w G1 hG HT H fin=>?_;refine s_cmp H (wg H rfl rfl (decide_eq_true c3)) rfl rfl rfl rfl ?_;clear H;intro a H;exact fin H iJ rfl
    ·refine Op2 2 94 12 104 rfl rfl fun _ a w G1 hG HT H fin=>?_;refine s_pick_t H wn rfl (decide_eq_true c3) rfl rfl ?_;clear H;intro a H;exact fin H iJ rfl
    exact opB rfl
   clear H;intro a w G hGm23 H hv;obtain ⟨u105,hu105,hp105⟩:=hv 13 105 (by decide) rfl;obtain rfl:u105=.bool (decide (h.marks.dels[k].rev≤h.marks.dels[k - 1].rev)):=hp105;have H:=H.addS hu105;clear hv;refine kH H (Ra rfl ?_);clear H;intro a H;refine wl_nil ⟨rfl,?_⟩;refine K40 _ _ ?_;clear K40;refine c_cond_f H rfl (decide_eq_false c4) ?_;refine c_seq (fun _ K42=>?_)
   have hz:¬ (0 < k∧h.marks.dels[k].rev≤h.marks.dels[k - 1].rev):=by first|exact fun h=>c4 h.2|exact fun h=>c3 (by omega)
   refine c_region ?_;refine kH H (Rf fd214_1hea rfl (Ro ty3run 0 rfl rfl ?_));clear H;intro a H;refine s_call en128fst H wn rfl (in_spec _ _ H.hp.ro h.marks.dels[k].move 0 1073741824) rfl ?_;clear H;rintro v109 _ a w ⟨rfl,rfl⟩ - H;refine kH H (Rn rfl (Ra rfl ?_));clear H;intro a H;refine wl_nil ?_;refine K42 _ _ ?_;clear K42;refine c_cond H rfl ?_ ?_
   ·intro h106
    try have p106:=of_decide_eq_true h106
    refine c_seq (fun _ K43=>?_);have hE:=hX 21 (by unfold delE0;rw [if_neg hm82,if_neg hz,if_pos (by have h0:=h106;simp at h0;omega)]) (by decide);refine c_region ?_;refine kH H (Ra rfl ?_);clear H;intro a H;refine wl_nil ?_;refine K43 _ _ ?_;clear K43;refine c_ret ?_;refine lv H Tryz.results64 rfl ?_;exact H.hp.ret (by rw [hE])
   intro h106
   try have p106:=of_decide_eq_false h106
   have hde0:delE0 (ckP st li rv) k h.marks.dels[k] h.marks.dels[k - 1].rev=0:=by unfold delE0;rw [if_neg hm82,if_neg hz,if_neg (by have h0:=h106;simp at h0;omega)]
   have hGk:=fun b o h=>hGm23 b o (hGm21 b o (hgm b o h));refine c_skip ?_;refine K36 _ _ ?_;clear K36;refine c_region ?_;refine s_add _ H wn rfl rfl rfl (by omega) (by omega) rfl ?_;clear H;intro a H;refine kH H (Rm rfl ?_);clear H;intro a H;refine wl_nil ?_;refine loop_end ((k+1,G)) (by exact (H.pickT (Pl:=[_]) (Pl':=[]) [] (by decide) rfl).sub ⟨rfl,rfl,rfl,rfl,rfl,rfl,trivial⟩) ?_ ?_
   ·(try dsimp only);exact ⟨by omega,by rw [allE_at hk2,if_neg (by rw [hde];simpa using hde0)] at heq;exact heq,hGk⟩
   first|omega|(dsimp only;omega)
  skip;refine c_drawI (hmx) [[],[0],[0,1],[0,1,2],[0,1,2,3],[0,1,2],[0,1,2,5],[0,1,2],[0,1,2,7],[0,1,2,5,6,7,8],[0,1,2,5,6,7,8,9],[0,1,2,5,6,7,8,9,10],(List.range 12),(List.range 13),(List.range 14)] [14] (by kernel_rfl) (by kernel_rfl) (fun (ix_:Nat) (v:Value) (G:GH)=>match ix_ with|0=>v=vi k|1=>v=.bool (decide (0 < (k:Int)))|2=>v=.bool (decide (0 < (k:Int)))|3=>v=undef|4=>v=undef|5=>v=undef|6=>v=undef|7=>v=undef|8=>v=undef|9=>v=undef|10=>v=undef|11=>v=undef|12=>v=undef|13=>v=.bool false|_=>True) (fun _ _ _ _ _ h=>h) H ?_ ?_
  ·clear H;refine al4 ?_ ?_ ?_ ?_ (al4 ?_ ?_ ?_ ?_ (al4 ?_ ?_ ?_ ?_ (allI_cons ?_ (allI_cons ?_ (allI_cons ?_ allI_nil)))))
   ·exact Op0 rfl fun _ _ _ _ _ _ H fin=>kH H (Rm rfl fun _ H=>fin H iJ rfl)
   ·exact Op1 0 92 rfl rfl fun _ _ _ _ _ _ H fin=>kH H (Rc rfl fun _ H=>fin H iJ rfl)
   ·exact Op1 1 93 rfl rfl fun _ _ _ _ _ _ H fin=>kH H (Rm rfl fun _ H=>fin H iJ rfl)
   ·exact skI 2 (decide_eq_false c3) rfl rfl
   ·exact skI 2 (decide_eq_false c3) rfl rfl
   ·exact skI 2 (decide_eq_false c3) rfl rfl
   ·exact skI 2 (decide_eq_false c3) rfl rfl
   ·exact skI 2 (decide_eq_false c3) rfl rfl
   ·exact skI 2 (decide_eq_false c3) rfl rfl
   ·exact skI 2 (decide_eq_false c3) rfl rfl
   ·exact skI 2 (decide_eq_false c3) rfl rfl
   ·exact skI 2 (decide_eq_false c3) rfl rfl
   ·exact skI 2 (decide_eq_false c3) rfl rfl
   ·refine Op2 2 94 12 104 rfl rfl fun _ a w G1 hG HT H fin=>?_;refine s_pick_f H wn rfl (decide_eq_false c3) rfl rfl ?_;clear H;intro a H;exact fin H iJ rfl
   exact opB rfl
  clear H;intro a w G hGm23 H hv;obtain ⟨u105,hu105,hp105⟩:=hv 13 105 (by decide) rfl;obtain rfl:u105=.bool false:=hp105;have H:=H.addS hu105;clear hv;refine kH H (Ra rfl ?_);clear H;intro a H;refine wl_nil ⟨rfl,?_⟩;refine K40 _ _ ?_;clear K40;refine c_cond_f H rfl rfl ?_;refine c_seq (fun _ K44=>?_)
  have hz:¬ (0 < k∧h.marks.dels[k].rev≤h.marks.dels[k - 1].rev):=by first|exact fun h=>c4 h.2|exact fun h=>c3 (by omega)
  refine c_region ?_;refine kH H (Rf fd214_1hea rfl (Ro ty3run 0 rfl rfl ?_));clear H;intro a H;refine s_call en128fst H wn rfl (in_spec _ _ H.hp.ro h.marks.dels[k].move 0 1073741824) rfl ?_;clear H;rintro v109 _ a w ⟨rfl,rfl⟩ - H;refine kH H (Rn rfl (Ra rfl ?_));clear H;intro a H;refine wl_nil ?_;refine K44 _ _ ?_;clear K44;refine c_cond H rfl ?_ ?_
  ·intro h106
   try have p106:=of_decide_eq_true h106
   refine c_seq (fun _ K45=>?_);have hE:=hX 21 (by unfold delE0;rw [if_neg hm82,if_neg hz,if_pos (by have h0:=h106;simp at h0;omega)]) (by decide);refine c_region ?_;refine kH H (Ra rfl ?_);clear H;intro a H;refine wl_nil ?_;refine K45 _ _ ?_;clear K45;refine c_ret ?_;refine lv H Tryz.results64 rfl ?_;exact H.hp.ret (by rw [hE])
  intro h106
  try have p106:=of_decide_eq_false h106
  have hde0:delE0 (ckP st li rv) k h.marks.dels[k] h.marks.dels[k - 1].rev=0:=by unfold delE0;rw [if_neg hm82,if_neg hz,if_neg (by have h0:=h106;simp at h0;omega)]
  have hGk:=fun b o h=>hGm23 b o (hGm21 b o (hgm b o h));refine c_skip ?_;refine K36 _ _ ?_;clear K36;refine c_region ?_;refine s_add _ H wn rfl rfl rfl (by omega) (by omega) rfl ?_;clear H;intro a H;refine kH H (Rm rfl ?_);clear H;intro a H;refine wl_nil ?_;refine loop_end ((k+1,G)) (by exact (H.pickT (Pl:=[_]) (Pl':=[]) [] (by decide) rfl).sub ⟨rfl,rfl,rfl,rfl,rfl,rfl,trivial⟩) ?_ ?_
  ·(try dsimp only);exact ⟨by omega,by rw [allE_at hk2,if_neg (by rw [hde];simpa using hde0)] at heq;exact heq,hGk⟩
  first|omega|(dsimp only;omega)
 intro h78
 try have p78:=of_decide_eq_false h78
 refine c_exit ?_;refine K32 _ _ ?_;clear K32;refine c_seq (fun _ K46=>?_);refine c_seq (fun _ K47=>?_)
 have e4:allE (delE (ckP st li rv) h.marks.dels) h.marks.dels.length=0:=by rw [← heq,List.drop_of_length_le (by simp;omega)];rfl
 replace q3:=gcell_mono hgm q3;refine c_region ?_;refine kH H (Rf fd29_3run rfl ?_);clear H;intro a H;refine s_load ty27run H wn rfl (H.hp.gcell (by assumption)) rfl ?_;clear H;intro a H;refine kH H (Rl un27run rfl (Rc rfl ?_));clear H;intro a H;refine wl_nil ?_;refine K47 _ _ ?_;clear K47;refine c_cond H rfl ?_ ?_
 ·intro h115
  try have p115:=of_decide_eq_true h115
  refine c_seq (fun _ K48=>?_);have hE:=headE_5 (C:=ckP st li rv) (e:=e) (h:=h) e1 e2 e3 e4 p115;refine c_region ?_;refine kH H (Ra rfl ?_);clear H;intro a H;refine wl_nil ?_;refine K48 _ _ ?_;clear K48;refine c_ret ?_;refine lv H Tryz.results64 rfl ?_;exact H.hp.ret (by rw [hE])
 intro h115
 try have p115:=of_decide_eq_false h115
 refine c_skip ?_;refine K46 _ _ ?_;clear K46;refine c_seq (fun _ K49=>?_);have hE:=headE_6 (C:=ckP st li rv) (e:=e) (h:=h) e1 e2 e3 e4 p115;refine c_region ?_;refine kH H (Rf fd29_3run rfl ?_);clear H;intro a H;refine s_load ty27run H wn rfl (H.hp.gcell (by assumption)) rfl ?_;clear H;intro a H;refine kH H (Rl un27run rfl ?_);clear H;intro a H;refine s_makeFunc H wn rfl rfl ?_;clear H;intro a H;refine s_call en119dst H wn rfl (all_spec _ _ H.hp.ro h.marks.layers.length (layE (ckP st li rv) e h.marks.layers) _ (by omega) (hcb.mono hgm)) rfl ?_;clear H;rintro v120 G120 a w rfl hGm120 H;refine kH H (Ra rfl ?_);clear H;intro a H;refine wl_nil ?_;refine K49 _ _ ?_;clear K49;refine c_ret ?_;refine lv H Tryz.results64 rfl ?_;exact H.hp.ret (by rw [hE])
end
section
open Go.RowKit
theorem fd35_1frm:Fld Tryz.prog 35 1 1:=⟨by kernel_rfl⟩
def codeOk (x:ItemD):Bool:=if x.kind=4 then decide (1≤x.code∧x.code≤3) else if x.kind=6 then decide (1≤x.code∧x.code≤2) else if x.kind=8 then decide (1≤x.code∧x.code≤4) else true
def startB (x:ItemD):Bool:=decide (x.kind=8∧x.code=1)
def wordB (x:ItemD):Bool:=decide (x.kind=1∨x.kind=5) || startB x
def namedB (x:ItemD):Bool:=decide (x.kind=6∨x.kind=7∨x.kind=8)
def codedB (x:ItemD):Bool:=decide (x.kind=4∨x.kind=6∨x.kind=8)
def emptyB (s:ByteArray):Bool:=s.toList == (⟨#[]⟩:ByteArray).toList
def fmtB (x:ItemD):Bool:=!codedB x && decide (x.code≠0) || !namedB x && decide (x.id≠0) || !wordB x && !emptyB x.text || decide (x.kind≠6) && decide (0 < (x.flow.length:Int)) || decide (x.kind≠7) && decide (0 < (x.rows.length:Int))
/-- The first error of an item's kind and fields. -/
def formE (x:ItemD):Int :=
 if (!decide (1≤x.kind∧x.kind≤8) || !codeOk x)=true then 3 else if fmtB x=true then 15 else if validS x.text=false then 12 else if (decide (x.kind=1∨x.kind=5) && emptyB x.text)=true then 11
 else if (decide (x.kind=5) && decide (1024 < (x.text.size:Int)))=true then 10 else if (startB x && !cpNm x.text)=true then 13 else 0
theorem form_spec (G:GH) (w0:World) (hG:Hold G w0) (x:ItemD) (p d l:Value) (fA rA:Option Addr) (fc rc:Nat) (hs:x.text.size < 4611686018427387904) :
  Calls Tryz.prog 197 #[.agg #[vi x.kind,vi x.code,vi x.id,.string x.text,p,vi x.head.marks.ins,vi x.head.marks.move,d,l,.slice fA x.flow.length fc,.slice rA x.rows.length rc]] w0 (Ret w0 G fun u G'=>u=vi (formE x)∧G=G'):=by
 refine eN [(0,_)] Tryz.func197 rfl Tryz.ntmps197 rfl rfl hG ?_;intro a H;refine c_seqR (fun _ K1=>?_);refine s_box (cs:=[_,_,_,_,_,_,_,_,_,_,_]) H wn rfl rfl rfl ?_;clear H;intro b1 a w hb1 H;refine kH H (Ra rfl ?_);clear H;intro a H;refine K1 _ _ ?_;clear K1;refine c_seqJ (ι:=Bool) (Tc:=[(1,_)]) (Lc:=[(_,_)]) (fun (gh:Bool)=>[(3,.bool gh)]) (fun (gh:Bool)=>[]) (fun (gh:Bool)=>G) (fun (gh:Bool)=>gh=startB x) (by exact (H).sub ⟨rfl,trivial⟩) ?_ ?_
 ·skip;refine c_region ?_;refine kH H (Rf fd35_0run rfl (Ro ty3run 0 rfl rfl (Rc rfl (Rm rfl ?_))));clear H;intro a H;refine s_split H 11 rfl ?_ ?_
  ·intro h11
   try have p11:=of_decide_eq_true h11
   refine s_field fd35_1frm H (wg H rfl rfl h11) rfl rfl ?_;clear H;intro a H;refine s_load ty3run H (wg H rfl rfl h11) rfl (H.hp.ocell 0 rfl rfl) rfl ?_;clear H;intro a H;refine s_cmp H (wg H rfl rfl h11) rfl rfl rfl rfl ?_;clear H;intro a H;refine s_pick_t H wn rfl h11 rfl rfl ?_;clear H;intro a H;refine kH H (Ra rfl ?_);clear H;intro a H;refine wl_nil ?_;refine ⟨_,by exact (H).sub ⟨rfl,rfl,trivial⟩,?_⟩
   unfold startB;first|(simp_all;done)
  intro h11
  try have p11:=of_decide_eq_false h11
  (iterate 3 refine s_skip H rfl rfl h11 rfl ?_;clear H;intro a H);refine s_pick_f H wn rfl h11 rfl rfl ?_;clear H;intro a H;refine kH H (Ra rfl ?_);clear H;intro a H;refine wl_nil ?_;refine ⟨_,by exact (H).sub ⟨rfl,rfl,trivial⟩,?_⟩
  unfold startB;first|(simp_all;done)
 clear H;intro gh a w hI H;obtain ⟨st,hgh⟩:∃ x,x=gh:=⟨_,rfl⟩;subst hgh;have hst:=hI;dsimp only [List.cons_append,List.nil_append,List.append_nil] at H;refine c_seqJ (ι:=Bool) (Tc:=[(1,_),(3,_)]) (Lc:=[(_,_)]) (fun (gh:Bool)=>[(4,.bool gh)]) (fun (gh:Bool)=>[]) (fun (gh:Bool)=>G) (fun (gh:Bool)=>gh=wordB x) (by exact (H).sub ⟨rfl,rfl,trivial⟩) ?_ ?_
 ·skip;refine c_region ?_;refine kH H (Rf fd35_0run rfl (Ro ty3run 0 rfl rfl (Rc rfl (Rm rfl ?_))));clear H;intro a H;refine s_split H 19 rfl ?_ ?_
  ·intro h19
   try have p19:=of_decide_eq_true h19
   (iterate 3 refine s_skip H rfl rfl h19 rfl ?_;clear H;intro a H);refine s_pick_t H wn rfl h19 rfl rfl ?_;clear H;intro a H;refine kH H (Rm rfl ?_);clear H;intro a H;refine s_skip H rfl rfl rfl rfl ?_;clear H;intro a H;refine s_pick_t H wn rfl rfl rfl rfl ?_;clear H;intro a H;refine kH H (Ra rfl ?_);clear H;intro a H;refine wl_nil ?_;refine ⟨_,by exact (H).sub ⟨rfl,rfl,rfl,trivial⟩,?_⟩
   unfold wordB;first|(simp_all;done)
  intro h19
  try have p19:=of_decide_eq_false h19
  refine s_field fd35_0run H (wg H rfl rfl h19) rfl rfl ?_;clear H;intro a H;refine s_load ty3run H (wg H rfl rfl h19) rfl (H.hp.ocell 0 rfl rfl) rfl ?_;clear H;intro a H;refine s_cmp H (wg H rfl rfl h19) rfl rfl rfl rfl ?_;clear H;intro a H;refine s_pick_f H wn rfl h19 rfl rfl ?_;clear H;intro a H;refine kH H (Rm rfl ?_);clear H;intro a H;refine s_split H 24 rfl ?_ ?_
  ·intro h24
   try have p24:=of_decide_eq_true h24
   refine s_skip H rfl rfl h24 rfl ?_;clear H;intro a H;refine s_pick_t H wn rfl h24 rfl rfl ?_;clear H;intro a H;refine kH H (Ra rfl ?_);clear H;intro a H;refine wl_nil ?_;refine ⟨_,by exact (H).sub ⟨rfl,rfl,rfl,trivial⟩,?_⟩
   unfold wordB;first|(simp_all;done)
  intro h24
  try have p24:=of_decide_eq_false h24
  refine s_move H (wg H rfl rfl h24) rfl rfl ?_;clear H;intro a H;refine s_pick_f H wn rfl h24 rfl rfl ?_;clear H;intro a H;refine kH H (Ra rfl ?_);clear H;intro a H;refine wl_nil ?_;refine ⟨_,by exact (H).sub ⟨rfl,rfl,rfl,trivial⟩,?_⟩
  unfold wordB;first|(simp_all;done)
 clear H;intro gh a w hI H;obtain ⟨wd,hgh⟩:∃ x,x=gh:=⟨_,rfl⟩;subst hgh;have hwd:=hI;dsimp only [List.cons_append,List.nil_append,List.append_nil] at H;refine c_seqJ (ι:=Bool) (Tc:=[(1,_),(3,_),(4,_)]) (Lc:=[(_,_)]) (fun (gh:Bool)=>[(5,.bool gh)]) (fun (gh:Bool)=>[]) (fun (gh:Bool)=>G) (fun (gh:Bool)=>gh=namedB x) (by exact (H).sub ⟨rfl,rfl,rfl,trivial⟩) ?_ ?_
 ·skip;refine c_region ?_;refine kH H (Rf fd35_0run rfl (Ro ty3run 0 rfl rfl (Rc rfl (Rm rfl ?_))));clear H;intro a H;refine s_split H 30 rfl ?_ ?_
  ·intro h30
   try have p30:=of_decide_eq_true h30
   (iterate 3 refine s_skip H rfl rfl h30 rfl ?_;clear H;intro a H);refine s_pick_t H wn rfl h30 rfl rfl ?_;clear H;intro a H;refine kH H (Rm rfl ?_);clear H;intro a H;(iterate 3 refine s_skip H rfl rfl rfl rfl ?_;clear H;intro a H);refine s_pick_t H wn rfl rfl rfl rfl ?_;clear H;intro a H;refine kH H (Ra rfl ?_);clear H;intro a H;refine wl_nil ?_;refine ⟨_,by exact (H).sub ⟨rfl,rfl,rfl,rfl,trivial⟩,?_⟩
   unfold namedB;first|(simp_all;done)
  intro h30
  try have p30:=of_decide_eq_false h30
  refine s_field fd35_0run H (wg H rfl rfl h30) rfl rfl ?_;clear H;intro a H;refine s_load ty3run H (wg H rfl rfl h30) rfl (H.hp.ocell 0 rfl rfl) rfl ?_;clear H;intro a H;refine s_cmp H (wg H rfl rfl h30) rfl rfl rfl rfl ?_;clear H;intro a H;refine s_pick_f H wn rfl h30 rfl rfl ?_;clear H;intro a H;refine kH H (Rm rfl ?_);clear H;intro a H;refine s_split H 35 rfl ?_ ?_
  ·intro h35
   try have p35:=of_decide_eq_true h35
   (iterate 3 refine s_skip H rfl rfl h35 rfl ?_;clear H;intro a H);refine s_pick_t H wn rfl h35 rfl rfl ?_;clear H;intro a H;refine kH H (Ra rfl ?_);clear H;intro a H;refine wl_nil ?_;refine ⟨_,by exact (H).sub ⟨rfl,rfl,rfl,rfl,trivial⟩,?_⟩
   unfold namedB;first|(simp_all;done)
  intro h35
  try have p35:=of_decide_eq_false h35
  refine s_field fd35_0run H (wg H rfl rfl h35) rfl rfl ?_;clear H;intro a H;refine s_load ty3run H (wg H rfl rfl h35) rfl (H.hp.ocell 0 rfl rfl) rfl ?_;clear H;intro a H;refine s_cmp H (wg H rfl rfl h35) rfl rfl rfl rfl ?_;clear H;intro a H;refine s_pick_f H wn rfl h35 rfl rfl ?_;clear H;intro a H;refine kH H (Ra rfl ?_);clear H;intro a H;refine wl_nil ?_;refine ⟨_,by exact (H).sub ⟨rfl,rfl,rfl,rfl,trivial⟩,?_⟩
  unfold namedB;first|(simp_all;done)
 clear H;intro gh a w hI H;obtain ⟨nm,hgh⟩:∃ x,x=gh:=⟨_,rfl⟩;subst hgh;have hnm:=hI;dsimp only [List.cons_append,List.nil_append,List.append_nil] at H;refine c_seqR (fun _ K2=>?_);refine kH H (Ra rfl ?_);clear H;intro a H;refine K2 _ _ ?_;clear K2;refine c_seqJ (ι:=Bool) (Tc:=[(1,_),(3,_),(4,_),(5,_)]) (Lc:=[(_,_)]) (fun (gh:Bool)=>[(6,.bool gh)]) (fun (gh:Bool)=>[]) (fun (gh:Bool)=>G) (fun (gh:Bool)=>gh=codeOk x) (by exact (H).sub ⟨rfl,rfl,rfl,rfl,trivial⟩) ?_ ?_
 ·skip;refine c_seqR (fun _ K3=>?_);refine kH H (Rf fd35_0run rfl (Ro ty3run 0 rfl rfl ?_));clear H;intro a H;refine K3 _ _ ?_;clear K3;refine c_block ?_;refine c_seqR (fun _ K4=>?_);refine kH H (Rc rfl (Ra rfl ?_));clear H;intro a H;refine K4 _ _ ?_;clear K4;refine c_cond H rfl ?_ ?_
  ·intro h42
   try have p42:=of_decide_eq_true h42
   refine c_region ?_;refine kH H (Rf fd35_1frm rfl (Ro ty3run 0 rfl rfl ?_));clear H;intro a H;refine s_call en128fst H wn rfl (in_spec _ _ H.hp.ro x.code 1 3) rfl ?_;clear H;rintro v46 _ a w ⟨rfl,rfl⟩ - H;refine kH H (Ra rfl ?_);clear H;intro a H;refine wl_nil ?_;refine ⟨_,by exact (H).sub ⟨rfl,rfl,rfl,rfl,rfl,trivial⟩,?_⟩
   unfold codeOk;first|(simp_all;done)
  intro h42
  try have p42:=of_decide_eq_false h42
  refine c_seqR (fun _ K5=>?_);refine kH H (Rc rfl (Ra rfl ?_));clear H;intro a H;refine K5 _ _ ?_;clear K5;refine c_cond H rfl ?_ ?_
  ·intro h47
   try have p47:=of_decide_eq_true h47
   refine c_region ?_;refine kH H (Rf fd35_1frm rfl (Ro ty3run 0 rfl rfl ?_));clear H;intro a H;refine s_call en128fst H wn rfl (in_spec _ _ H.hp.ro x.code 1 2) rfl ?_;clear H;rintro v51 _ a w ⟨rfl,rfl⟩ - H;refine kH H (Ra rfl ?_);clear H;intro a H;refine wl_nil ?_;refine ⟨_,by exact (H).sub ⟨rfl,rfl,rfl,rfl,rfl,trivial⟩,?_⟩
   unfold codeOk;first|(simp_all;done)
  intro h47
  try have p47:=of_decide_eq_false h47
  refine c_seqR (fun _ K6=>?_);refine kH H (Rc rfl (Ra rfl ?_));clear H;intro a H;refine K6 _ _ ?_;clear K6;refine c_cond H rfl ?_ ?_
  ·intro h52
   try have p52:=of_decide_eq_true h52
   refine c_region ?_;refine kH H (Rf fd35_1frm rfl (Ro ty3run 0 rfl rfl ?_));clear H;intro a H;refine s_call en128fst H wn rfl (in_spec _ _ H.hp.ro x.code 1 4) rfl ?_;clear H;rintro v56 _ a w ⟨rfl,rfl⟩ - H;refine kH H (Ra rfl ?_);clear H;intro a H;refine wl_nil ?_;refine ⟨_,by exact (H).sub ⟨rfl,rfl,rfl,rfl,rfl,trivial⟩,?_⟩
   unfold codeOk;first|(simp_all;done)
  intro h52
  try have p52:=of_decide_eq_false h52
  refine c_skip ?_;refine ⟨_,by exact (H).sub ⟨rfl,rfl,rfl,rfl,rfl,trivial⟩,?_⟩
  unfold codeOk;first|(simp_all;done)
 clear H;intro gh a w hI H;obtain ⟨ck,hgh⟩:∃ x,x=gh:=⟨_,rfl⟩;subst hgh;have hck:=hI;dsimp only [List.cons_append,List.nil_append,List.append_nil] at H;refine c_seqJ (ι:=Bool) (Tc:=[(1,_),(3,_),(4,_),(5,_),(6,_)]) (Lc:=[(_,_)]) (fun (gh:Bool)=>[(7,.bool gh)]) (fun (gh:Bool)=>[]) (fun (gh:Bool)=>G) (fun (gh:Bool)=>gh=codedB x) (by exact (H).sub ⟨rfl,rfl,rfl,rfl,rfl,trivial⟩) ?_ ?_
 ·skip;refine c_region ?_;refine kH H (Rf fd35_0run rfl (Ro ty3run 0 rfl rfl (Rc rfl (Rm rfl ?_))));clear H;intro a H;refine s_split H 60 rfl ?_ ?_
  ·intro h60
   try have p60:=of_decide_eq_true h60
   (iterate 3 refine s_skip H rfl rfl h60 rfl ?_;clear H;intro a H);refine s_pick_t H wn rfl h60 rfl rfl ?_;clear H;intro a H;refine kH H (Rm rfl ?_);clear H;intro a H;(iterate 3 refine s_skip H rfl rfl rfl rfl ?_;clear H;intro a H);refine s_pick_t H wn rfl rfl rfl rfl ?_;clear H;intro a H;refine kH H (Ra rfl ?_);clear H;intro a H;refine wl_nil ?_;refine ⟨_,by exact (H).sub ⟨rfl,rfl,rfl,rfl,rfl,rfl,trivial⟩,?_⟩
   unfold codedB;first|(simp_all;done)
  intro h60
  try have p60:=of_decide_eq_false h60
  refine s_field fd35_0run H (wg H rfl rfl h60) rfl rfl ?_;clear H;intro a H;refine s_load ty3run H (wg H rfl rfl h60) rfl (H.hp.ocell 0 rfl rfl) rfl ?_;clear H;intro a H;refine s_cmp H (wg H rfl rfl h60) rfl rfl rfl rfl ?_;clear H;intro a H;refine s_pick_f H wn rfl h60 rfl rfl ?_;clear H;intro a H;refine kH H (Rm rfl ?_);clear H;intro a H;refine s_split H 65 rfl ?_ ?_
  ·intro h65
   try have p65:=of_decide_eq_true h65
   (iterate 3 refine s_skip H rfl rfl h65 rfl ?_;clear H;intro a H);refine s_pick_t H wn rfl h65 rfl rfl ?_;clear H;intro a H;refine kH H (Ra rfl ?_);clear H;intro a H;refine wl_nil ?_;refine ⟨_,by exact (H).sub ⟨rfl,rfl,rfl,rfl,rfl,rfl,trivial⟩,?_⟩
   unfold codedB;first|(simp_all;done)
  intro h65
  try have p65:=of_decide_eq_false h65
  refine s_field fd35_0run H (wg H rfl rfl h65) rfl rfl ?_;clear H;intro a H;refine s_load ty3run H (wg H rfl rfl h65) rfl (H.hp.ocell 0 rfl rfl) rfl ?_;clear H;intro a H;refine s_cmp H (wg H rfl rfl h65) rfl rfl rfl rfl ?_;clear H;intro a H;refine s_pick_f H wn rfl h65 rfl rfl ?_;clear H;intro a H;refine kH H (Ra rfl ?_);clear H;intro a H;refine wl_nil ?_;refine ⟨_,by exact (H).sub ⟨rfl,rfl,rfl,rfl,rfl,rfl,trivial⟩,?_⟩
  unfold codedB;first|(simp_all;done)
 clear H;intro gh a w hI H;obtain ⟨cd,hgh⟩:∃ x,x=gh:=⟨_,rfl⟩;subst hgh;have hcd:=hI;dsimp only [List.cons_append,List.nil_append,List.append_nil] at H;refine c_seq (fun _ K7=>?_);refine c_block ?_;refine c_seqR (fun _ K8=>?_);refine wl_meet (ι:=Bool) (Tc:=[(1,_),(3,_),(4,_),(5,_),(7,_)]) 8 (fun (q0:Bool)=>[(78,.bool q0)]) (fun (q0:Bool)=>q0=(!decide (1≤x.kind∧x.kind≤8) || !codeOk x)) (by exact H.sub ⟨rfl,rfl,rfl,rfl,rfl,trivial⟩) ?_ ?_
 ·intro hM13_0;refine kH H (Rf fd35_0run rfl (Ro ty3run 0 rfl rfl ?_));clear H;intro a H;refine s_call en128fst H wn rfl (in_spec _ _ H.hp.ro x.kind 1 8) rfl ?_;clear H;rintro v73 _ a w ⟨rfl,rfl⟩ - H;refine kH H (Rn rfl (Rm rfl ?_));clear H;intro a H;refine s_split H 75 rfl ?_ ?_
  ·intro h75
   try have p75:=of_decide_eq_true h75
   (iterate 2 refine s_skip H rfl rfl h75 rfl ?_;clear H;intro a H);refine s_pick_t H wn rfl h75 rfl rfl ?_;clear H;intro a H;refine hM13_0 (_) _ _ ?_ (by exact H.sub ⟨rfl,rfl,rfl,rfl,rfl,rfl,trivial⟩);rw [← hck];clear hst hwd hnm hck hcd;(try clear hq1);(try clear hq2);(try clear hq3);(try clear hq0);(try clear hq4);(try clear hq5);(try clear hq6);(try clear hq7);simp_all
  intro h75
  try have p75:=of_decide_eq_false h75
  refine s_move H (wg H rfl rfl h75) rfl rfl ?_;clear H;intro a H;refine s_not H (wg H rfl rfl h75) rfl rfl ?_;clear H;intro a H;refine s_pick_f H wn rfl h75 rfl rfl ?_;clear H;intro a H;refine hM13_0 (_) _ _ ?_ (by exact H.sub ⟨rfl,rfl,rfl,rfl,rfl,rfl,trivial⟩);rw [← hck];clear hst hwd hnm hck hcd;(try clear hq1);(try clear hq2);(try clear hq3);(try clear hq0);(try clear hq4);(try clear hq5);(try clear hq6);(try clear hq7);simp_all
 clear H;intro q0 a w hI H;dsimp only [List.cons_append,List.nil_append] at H;simp only [List.drop_succ_cons,List.drop_zero];have hq0:=hI;refine kH H (Ra rfl ?_);clear H;intro a H;refine K8 _ _ ?_;clear K8;refine c_cond H rfl ?_ ?_
 ·intro h70
  try have p70:=of_decide_eq_true h70
  refine c_seq (fun _ K9=>?_)
  have e:formE x=3:=by unfold formE;rw [if_pos (by rw [← hq0];exact h70)]
  refine c_region ?_;refine kH H (Ra rfl ?_);clear H;intro a H;refine wl_nil ?_;refine K9 _ _ ?_;clear K9;refine c_ret ?_;refine lv H Tryz.results197 rfl ?_;exact H.hp.ret ⟨by rw [e],rfl⟩
 intro h70
 try have p70:=of_decide_eq_false h70
 have f0:¬ (!decide (1≤x.kind∧x.kind≤8) || !codeOk x)=true:=by rw [← hq0,h70];decide
 refine c_seqR (fun _ K10=>?_);refine wl_meet (ι:=Bool) (Tc:=[(1,_),(3,_),(4,_),(5,_)]) 7 (fun (q1:Bool)=>[(86,.bool q1)]) (fun (q1:Bool)=>q1=(!codedB x && decide (x.code≠0))) (by exact H.sub ⟨rfl,rfl,rfl,rfl,trivial⟩) ?_ ?_
 ·intro hM15_0;refine kH H (Rm rfl (Rn rfl (Rm rfl ?_)));clear H;intro a H;refine s_split H 82 rfl ?_ ?_
  ·intro h82
   try have p82:=of_decide_eq_true h82
   refine s_field fd35_1frm H (wg H rfl rfl h82) rfl rfl ?_;clear H;intro a H;refine s_load ty3run H (wg H rfl rfl h82) rfl (H.hp.ocell 0 rfl rfl) rfl ?_;clear H;intro a H;refine s_cmp H (wg H rfl rfl h82) rfl rfl rfl rfl ?_;clear H;intro a H;refine s_pick_t H wn rfl h82 rfl rfl ?_;clear H;intro a H;refine hM15_0 (_) _ _ ?_ (by exact H.sub ⟨rfl,rfl,rfl,rfl,rfl,trivial⟩);rw [← hcd];clear hst hwd hnm hck hcd;(try clear hq1);(try clear hq2);(try clear hq3);(try clear hq0);(try clear hq4);(try clear hq5);(try clear hq6);(try clear hq7);simp_all
  intro h82
  try have p82:=of_decide_eq_false h82
  (iterate 3 refine s_skip H rfl rfl h82 rfl ?_;clear H;intro a H);refine s_pick_f H wn rfl h82 rfl rfl ?_;clear H;intro a H;refine hM15_0 (_) _ _ ?_ (by exact H.sub ⟨rfl,rfl,rfl,rfl,rfl,trivial⟩);rw [← hcd];clear hst hwd hnm hck hcd;(try clear hq1);(try clear hq2);(try clear hq3);(try clear hq0);(try clear hq4);(try clear hq5);(try clear hq6);(try clear hq7);simp_all
 clear H;intro q1 a w hI H;dsimp only [List.cons_append,List.nil_append] at H;simp only [List.drop_succ_cons,List.drop_zero];have hq1:=hI;refine wl_meet (ι:=Bool) (Tc:=[(1,_),(3,_),(4,_)]) 9 (fun (q2:Bool)=>[(95,.bool q2)]) (fun (q2:Bool)=>q2=(q1 || !namedB x && decide (x.id≠0))) (by exact H.sub ⟨rfl,rfl,rfl,trivial⟩) ?_ ?_
 ·intro hM15_7;refine kH H (Rm rfl ?_);clear H;intro a H;refine s_split H 87 rfl ?_ ?_
  ·intro h87
   try have p87:=of_decide_eq_true h87
   (iterate 3 refine s_skip H rfl rfl h87 rfl ?_;clear H;intro a H);(iterate 3 refine s_skipU H rfl rfl rfl ?_;clear H;intro a H);refine s_skip H rfl rfl h87 rfl ?_;clear H;intro a H;refine s_pick_t H wn rfl h87 rfl rfl ?_;clear H;intro a H;refine hM15_7 (_) _ _ ?_ (by exact H.sub ⟨rfl,rfl,rfl,rfl,trivial⟩);rw [← hnm];clear hst hwd hnm hck hcd;(try clear hq1);(try clear hq2);(try clear hq3);(try clear hq0);(try clear hq4);(try clear hq5);(try clear hq6);(try clear hq7);simp_all
  intro h87
  try have p87:=of_decide_eq_false h87
  refine s_move H (wg H rfl rfl h87) rfl rfl ?_;clear H;intro a H;refine s_not H (wg H rfl rfl h87) rfl rfl ?_;clear H;intro a H;refine s_move H (wg H rfl rfl h87) rfl rfl ?_;clear H;intro a H;refine s_split H 90 rfl ?_ ?_
  ·intro h90
   try have p90:=of_decide_eq_true h90
   refine s_field fd35_2doc H (wg H rfl rfl h90) rfl rfl ?_;clear H;intro a H;refine s_load ty3run H (wg H rfl rfl h90) rfl (H.hp.ocell 0 rfl rfl) rfl ?_;clear H;intro a H;refine s_cmp H (wg H rfl rfl h90) rfl rfl rfl rfl ?_;clear H;intro a H;refine s_pick_t H (wg H rfl rfl h87) rfl h90 rfl rfl ?_;clear H;intro a H;refine s_pick_f H wn rfl h87 rfl rfl ?_;clear H;intro a H;refine hM15_7 (_) _ _ ?_ (by exact H.sub ⟨rfl,rfl,rfl,rfl,trivial⟩);rw [← hnm];clear hst hwd hnm hck hcd;(try clear hq1);(try clear hq2);(try clear hq3);(try clear hq0);(try clear hq4);(try clear hq5);(try clear hq6);(try clear hq7);simp_all
  intro h90
  try have p90:=of_decide_eq_false h90
  (iterate 3 refine s_skip H rfl rfl h90 rfl ?_;clear H;intro a H);refine s_pick_f H (wg H rfl rfl h87) rfl h90 rfl rfl ?_;clear H;intro a H;refine s_pick_f H wn rfl h87 rfl rfl ?_;clear H;intro a H;refine hM15_7 (_) _ _ ?_ (by exact H.sub ⟨rfl,rfl,rfl,rfl,trivial⟩);rw [← hnm];clear hst hwd hnm hck hcd;(try clear hq1);(try clear hq2);(try clear hq3);(try clear hq0);(try clear hq4);(try clear hq5);(try clear hq6);(try clear hq7);simp_all
 clear H;intro q2 a w hI H;dsimp only [List.cons_append,List.nil_append] at H;simp only [List.drop_succ_cons,List.drop_zero];have hq2:=hI;refine wl_meet (ι:=Bool) (Tc:=[(1,_),(3,_)]) 9 (fun (q3:Bool)=>[(104,.bool q3)]) (fun (q3:Bool)=>q3=(q2 || !wordB x && !emptyB x.text)) (by exact H.sub ⟨rfl,rfl,trivial⟩) ?_ ?_
 ·intro hM15_16;refine kH H (Rm rfl ?_);clear H;intro a H;refine s_split H 96 rfl ?_ ?_
  ·intro h96
   try have p96:=of_decide_eq_true h96
   (iterate 3 refine s_skip H rfl rfl h96 rfl ?_;clear H;intro a H);(iterate 3 refine s_skipU H rfl rfl rfl ?_;clear H;intro a H);refine s_skip H rfl rfl h96 rfl ?_;clear H;intro a H;refine s_pick_t H wn rfl h96 rfl rfl ?_;clear H;intro a H;refine hM15_16 (_) _ _ ?_ (by exact H.sub ⟨rfl,rfl,rfl,trivial⟩);rw [← hwd];clear hst hwd hnm hck hcd;(try clear hq1);(try clear hq2);(try clear hq3);(try clear hq0);(try clear hq4);(try clear hq5);(try clear hq6);(try clear hq7);simp_all [emptyB]
  intro h96
  try have p96:=of_decide_eq_false h96
  refine s_move H (wg H rfl rfl h96) rfl rfl ?_;clear H;intro a H;refine s_not H (wg H rfl rfl h96) rfl rfl ?_;clear H;intro a H;refine s_move H (wg H rfl rfl h96) rfl rfl ?_;clear H;intro a H;refine s_split H 99 rfl ?_ ?_
  ·intro h99
   try have p99:=of_decide_eq_true h99
   refine s_field fd35_3run H (wg H rfl rfl h99) rfl rfl ?_;clear H;intro a H;refine s_load ty9run H (wg H rfl rfl h99) rfl (H.hp.ocell 0 rfl rfl) rfl ?_;clear H;intro a H;refine s_neqstr H (wg H rfl rfl h99) rfl rfl rfl ?_;clear H;intro a H;refine s_pick_t H (wg H rfl rfl h96) rfl h99 rfl rfl ?_;clear H;intro a H;refine s_pick_f H wn rfl h96 rfl rfl ?_;clear H;intro a H;refine hM15_16 (_) _ _ ?_ (by exact H.sub ⟨rfl,rfl,rfl,trivial⟩);rw [← hwd];clear hst hwd hnm hck hcd;(try clear hq1);(try clear hq2);(try clear hq3);(try clear hq0);(try clear hq4);(try clear hq5);(try clear hq6);(try clear hq7);simp_all [emptyB]
  intro h99
  try have p99:=of_decide_eq_false h99
  (iterate 3 refine s_skip H rfl rfl h99 rfl ?_;clear H;intro a H);refine s_pick_f H (wg H rfl rfl h96) rfl h99 rfl rfl ?_;clear H;intro a H;refine s_pick_f H wn rfl h96 rfl rfl ?_;clear H;intro a H;refine hM15_16 (_) _ _ ?_ (by exact H.sub ⟨rfl,rfl,rfl,trivial⟩);rw [← hwd];clear hst hwd hnm hck hcd;(try clear hq1);(try clear hq2);(try clear hq3);(try clear hq0);(try clear hq4);(try clear hq5);(try clear hq6);(try clear hq7);simp_all [emptyB]
 clear H;intro q3 a w hI H;dsimp only [List.cons_append,List.nil_append] at H;simp only [List.drop_succ_cons,List.drop_zero];have hq3:=hI;refine wl_meet (ι:=Bool) (Tc:=[(1,_),(3,_)]) 11 (fun (q4:Bool)=>[(115,.bool q4)]) (fun (q4:Bool)=>q4=(q3 || decide (x.kind≠6) && decide (0 < (x.flow.length:Int)))) (by exact H.sub ⟨rfl,rfl,trivial⟩) ?_ ?_
 ·intro hM15_25;refine kH H (Rm rfl ?_);clear H;intro a H;refine s_split H 105 rfl ?_ ?_
  ·intro h105
   try have p105:=of_decide_eq_true h105
   (iterate 4 refine s_skip H rfl rfl h105 rfl ?_;clear H;intro a H);(iterate 4 refine s_skipU H rfl rfl rfl ?_;clear H;intro a H);refine s_skip H rfl rfl h105 rfl ?_;clear H;intro a H;refine s_pick_t H wn rfl h105 rfl rfl ?_;clear H;intro a H;refine hM15_25 (_) _ _ ?_ (by exact H.sub ⟨rfl,rfl,rfl,trivial⟩);clear hst hwd hnm hck hcd;(try clear hq1);(try clear hq2);(try clear hq3);(try clear hq0);(try clear hq4);(try clear hq5);(try clear hq6);(try clear hq7);simp_all
  intro h105
  try have p105:=of_decide_eq_false h105
  refine s_field fd35_0run H (wg H rfl rfl h105) rfl rfl ?_;clear H;intro a H;refine s_load ty3run H (wg H rfl rfl h105) rfl (H.hp.ocell 0 rfl rfl) rfl ?_;clear H;intro a H;refine s_cmp H (wg H rfl rfl h105) rfl rfl rfl rfl ?_;clear H;intro a H;refine s_move H (wg H rfl rfl h105) rfl rfl ?_;clear H;intro a H;refine s_split H 109 rfl ?_ ?_
  ·intro h109
   try have p109:=of_decide_eq_true h109
   refine s_field fd35_5run H (wg H rfl rfl h109) rfl rfl ?_;clear H;intro a H;refine s_load ty32run H (wg H rfl rfl h109) rfl (H.hp.ocell 0 rfl rfl) rfl ?_;clear H;intro a H;refine s_len un32run H (wg H rfl rfl h109) rfl rfl ?_;clear H;intro a H;refine s_cmp H (wg H rfl rfl h109) rfl rfl rfl rfl ?_;clear H;intro a H;refine s_pick_t H (wg H rfl rfl h105) rfl h109 rfl rfl ?_;clear H;intro a H;refine s_pick_f H wn rfl h105 rfl rfl ?_;clear H;intro a H;refine hM15_25 (_) _ _ ?_ (by exact H.sub ⟨rfl,rfl,rfl,trivial⟩);clear hst hwd hnm hck hcd;(try clear hq1);(try clear hq2);(try clear hq3);(try clear hq0);(try clear hq4);(try clear hq5);(try clear hq6);(try clear hq7);simp_all
  intro h109
  try have p109:=of_decide_eq_false h109
  (iterate 4 refine s_skip H rfl rfl h109 rfl ?_;clear H;intro a H);refine s_pick_f H (wg H rfl rfl h105) rfl h109 rfl rfl ?_;clear H;intro a H;refine s_pick_f H wn rfl h105 rfl rfl ?_;clear H;intro a H;refine hM15_25 (_) _ _ ?_ (by exact H.sub ⟨rfl,rfl,rfl,trivial⟩);clear hst hwd hnm hck hcd;(try clear hq1);(try clear hq2);(try clear hq3);(try clear hq0);(try clear hq4);(try clear hq5);(try clear hq6);(try clear hq7);simp_all
 clear H;intro q4 a w hI H;dsimp only [List.cons_append,List.nil_append] at H;simp only [List.drop_succ_cons,List.drop_zero];have hq4:=hI;refine wl_meet (ι:=Bool) (Tc:=[(1,_),(3,_)]) 11 (fun (q5:Bool)=>[(126,.bool q5)]) (fun (q5:Bool)=>q5=fmtB x) (by exact H.sub ⟨rfl,rfl,trivial⟩) ?_ ?_
 ·intro hM15_36;refine kH H (Rm rfl ?_);clear H;intro a H;refine s_split H 116 rfl ?_ ?_
  ·intro h116
   try have p116:=of_decide_eq_true h116
   (iterate 4 refine s_skip H rfl rfl h116 rfl ?_;clear H;intro a H);(iterate 4 refine s_skipU H rfl rfl rfl ?_;clear H;intro a H);refine s_skip H rfl rfl h116 rfl ?_;clear H;intro a H;refine s_pick_t H wn rfl h116 rfl rfl ?_;clear H;intro a H;refine hM15_36 (_) _ _ ?_ (by exact H.sub ⟨rfl,rfl,rfl,trivial⟩);rw [show fmtB x=(q4 || decide (x.kind≠7) && decide (0 < (x.rows.length:Int))) by rw [hq4,hq3,hq2,hq1];rfl];clear hq4;clear hst hwd hnm hck hcd;(try clear hq1);(try clear hq2);(try clear hq3);(try clear hq0);(try clear hq4);(try clear hq5);(try clear hq6);(try clear hq7);simp_all
  intro h116
  try have p116:=of_decide_eq_false h116
  refine s_field fd35_0run H (wg H rfl rfl h116) rfl rfl ?_;clear H;intro a H;refine s_load ty3run H (wg H rfl rfl h116) rfl (H.hp.ocell 0 rfl rfl) rfl ?_;clear H;intro a H;refine s_cmp H (wg H rfl rfl h116) rfl rfl rfl rfl ?_;clear H;intro a H;refine s_move H (wg H rfl rfl h116) rfl rfl ?_;clear H;intro a H;refine s_split H 120 rfl ?_ ?_
  ·intro h120
   try have p120:=of_decide_eq_true h120
   refine s_field fd35_6run H (wg H rfl rfl h120) rfl rfl ?_;clear H;intro a H;refine s_load ty33run H (wg H rfl rfl h120) rfl (H.hp.ocell 0 rfl rfl) rfl ?_;clear H;intro a H;refine s_len un33run H (wg H rfl rfl h120) rfl rfl ?_;clear H;intro a H;refine s_cmp H (wg H rfl rfl h120) rfl rfl rfl rfl ?_;clear H;intro a H;refine s_pick_t H (wg H rfl rfl h116) rfl h120 rfl rfl ?_;clear H;intro a H;refine s_pick_f H wn rfl h116 rfl rfl ?_;clear H;intro a H;refine hM15_36 (_) _ _ ?_ (by exact H.sub ⟨rfl,rfl,rfl,trivial⟩);rw [show fmtB x=(q4 || decide (x.kind≠7) && decide (0 < (x.rows.length:Int))) by rw [hq4,hq3,hq2,hq1];rfl];clear hq4;clear hst hwd hnm hck hcd;(try clear hq1);(try clear hq2);(try clear hq3);(try clear hq0);(try clear hq4);(try clear hq5);(try clear hq6);(try clear hq7);simp_all
  intro h120
  try have p120:=of_decide_eq_false h120
  (iterate 4 refine s_skip H rfl rfl h120 rfl ?_;clear H;intro a H);refine s_pick_f H (wg H rfl rfl h116) rfl h120 rfl rfl ?_;clear H;intro a H;refine s_pick_f H wn rfl h116 rfl rfl ?_;clear H;intro a H;refine hM15_36 (_) _ _ ?_ (by exact H.sub ⟨rfl,rfl,rfl,trivial⟩);rw [show fmtB x=(q4 || decide (x.kind≠7) && decide (0 < (x.rows.length:Int))) by rw [hq4,hq3,hq2,hq1];rfl];clear hq4;clear hst hwd hnm hck hcd;(try clear hq1);(try clear hq2);(try clear hq3);(try clear hq0);(try clear hq4);(try clear hq5);(try clear hq6);(try clear hq7);simp_all
 clear H;intro q5 a w hI H;dsimp only [List.cons_append,List.nil_append] at H;simp only [List.drop_succ_cons,List.drop_zero];have hq5:=hI;refine kH H (Ra rfl ?_);clear H;intro a H;refine K10 _ _ ?_;clear K10;refine c_cond H rfl ?_ ?_
 ·intro h79
  try have p79:=of_decide_eq_true h79
  refine c_seq (fun _ K11=>?_)
  have e:formE x=15:=by unfold formE;rw [if_neg f0,if_pos (by rw [← hq5];exact h79)]
  refine c_region ?_;refine kH H (Ra rfl ?_);clear H;intro a H;refine wl_nil ?_;refine K11 _ _ ?_;clear K11;refine c_ret ?_;refine lv H Tryz.results197 rfl ?_;exact H.hp.ret ⟨by rw [e],rfl⟩
 intro h79
 try have p79:=of_decide_eq_false h79
 have f1:¬ fmtB x=true:=by rw [← hq5,h79];decide
 refine c_seqR (fun _ K12=>?_);refine kH H (Rf fd35_3run rfl (Ro ty9run 0 rfl rfl ?_));clear H;intro a H;refine s_call en132cp H wn rfl (valid_spec _ _ H.hp.ro x.text hs) rfl ?_;clear H;rintro v130 _ a w ⟨rfl,rfl⟩ - H;refine kH H (Rn rfl (Ra rfl ?_));clear H;intro a H;refine K12 _ _ ?_;clear K12;refine c_cond H rfl ?_ ?_
 ·intro h127
  try have p127:=of_decide_eq_true h127
  refine c_seq (fun _ K13=>?_)
  have e:formE x=12:=by unfold formE;rw [if_neg f0,if_neg f1,if_pos (by simpa using h127)]
  refine c_region ?_;refine kH H (Ra rfl ?_);clear H;intro a H;refine wl_nil ?_;refine K13 _ _ ?_;clear K13;refine c_ret ?_;refine lv H Tryz.results197 rfl ?_;exact H.hp.ret ⟨by rw [e],rfl⟩
 intro h127
 try have p127:=of_decide_eq_false h127
 have f2:¬ validS x.text=false:=by simpa using h127
 refine c_seqR (fun _ K14=>?_);refine wl_meet (ι:=Bool) (Tc:=[(1,_),(3,_)]) 13 (fun (q6:Bool)=>[(145,.bool q6)]) (fun (q6:Bool)=>q6=(decide (x.kind=1∨x.kind=5) && emptyB x.text)) (by exact H.sub ⟨rfl,rfl,trivial⟩) ?_ ?_
 ·intro hM19_0;refine kH H (Rf fd35_0run rfl (Ro ty3run 0 rfl rfl (Rc rfl (Rm rfl ?_))));clear H;intro a H;refine s_split H 136 rfl ?_ ?_
  ·intro h136
   try have p136:=of_decide_eq_true h136
   (iterate 3 refine s_skip H rfl rfl h136 rfl ?_;clear H;intro a H);refine s_pick_t H wn rfl h136 rfl rfl ?_;clear H;intro a H;refine kH H (Rm rfl ?_);clear H;intro a H;refine s_field fd35_3run H (wg H rfl rfl rfl) rfl rfl ?_;clear H;intro a H;refine s_load ty9run H (wg H rfl rfl rfl) rfl (H.hp.ocell 0 rfl rfl) rfl ?_;clear H;intro a H;refine s_eqstr H (wg H rfl rfl rfl) rfl rfl rfl ?_;clear H;intro a H;refine s_pick_t H wn rfl rfl rfl rfl ?_;clear H;intro a H;refine hM19_0 (_) _ _ ?_ (by exact H.sub ⟨rfl,rfl,rfl,trivial⟩);clear hst hwd hnm hck hcd;(try clear hq1);(try clear hq2);(try clear hq3);(try clear hq0);(try clear hq4);(try clear hq5);(try clear hq6);(try clear hq7);simp_all [emptyB]
  intro h136
  try have p136:=of_decide_eq_false h136
  refine s_field fd35_0run H (wg H rfl rfl h136) rfl rfl ?_;clear H;intro a H;refine s_load ty3run H (wg H rfl rfl h136) rfl (H.hp.ocell 0 rfl rfl) rfl ?_;clear H;intro a H;refine s_cmp H (wg H rfl rfl h136) rfl rfl rfl rfl ?_;clear H;intro a H;refine s_pick_f H wn rfl h136 rfl rfl ?_;clear H;intro a H;refine kH H (Rm rfl ?_);clear H;intro a H;refine s_split H 141 rfl ?_ ?_
  ·intro h141
   try have p141:=of_decide_eq_true h141
   refine s_field fd35_3run H (wg H rfl rfl h141) rfl rfl ?_;clear H;intro a H;refine s_load ty9run H (wg H rfl rfl h141) rfl (H.hp.ocell 0 rfl rfl) rfl ?_;clear H;intro a H;refine s_eqstr H (wg H rfl rfl h141) rfl rfl rfl ?_;clear H;intro a H;refine s_pick_t H wn rfl h141 rfl rfl ?_;clear H;intro a H;refine hM19_0 (_) _ _ ?_ (by exact H.sub ⟨rfl,rfl,rfl,trivial⟩);clear hst hwd hnm hck hcd;(try clear hq1);(try clear hq2);(try clear hq3);(try clear hq0);(try clear hq4);(try clear hq5);(try clear hq6);(try clear hq7);simp_all [emptyB]
  intro h141
  try have p141:=of_decide_eq_false h141
  (iterate 3 refine s_skip H rfl rfl h141 rfl ?_;clear H;intro a H);refine s_pick_f H wn rfl h141 rfl rfl ?_;clear H;intro a H;refine hM19_0 (_) _ _ ?_ (by exact H.sub ⟨rfl,rfl,rfl,trivial⟩);clear hst hwd hnm hck hcd;(try clear hq1);(try clear hq2);(try clear hq3);(try clear hq0);(try clear hq4);(try clear hq5);(try clear hq6);(try clear hq7);simp_all [emptyB]
 clear H;intro q6 a w hI H;dsimp only [List.cons_append,List.nil_append] at H;simp only [List.drop_succ_cons,List.drop_zero];have hq6:=hI;refine kH H (Ra rfl ?_);clear H;intro a H;refine K14 _ _ ?_;clear K14;refine c_cond H rfl ?_ ?_
 ·intro h132
  try have p132:=of_decide_eq_true h132
  refine c_seq (fun _ K15=>?_)
  have e:formE x=11:=by unfold formE;rw [if_neg f0,if_neg f1,if_neg f2,if_pos (by rw [← hq6];exact h132)]
  refine c_region ?_;refine kH H (Ra rfl ?_);clear H;intro a H;refine wl_nil ?_;refine K15 _ _ ?_;clear K15;refine c_ret ?_;refine lv H Tryz.results197 rfl ?_;exact H.hp.ret ⟨by rw [e],rfl⟩
 intro h132
 try have p132:=of_decide_eq_false h132
 have f3:¬ (decide (x.kind=1∨x.kind=5) && emptyB x.text)=true:=by rw [← hq6,h132];decide
 refine c_seqR (fun _ K16=>?_);refine wl_meet (ι:=Bool) (Tc:=[(1,_),(3,_)]) 9 (fun (q7:Bool)=>[(155,.bool q7)]) (fun (q7:Bool)=>q7=(decide (x.kind=5) && decide (1024 < (x.text.size:Int)))) (by exact H.sub ⟨rfl,rfl,trivial⟩) ?_ ?_
 ·intro hM21_0;refine kH H (Rf fd35_0run rfl (Ro ty3run 0 rfl rfl (Rc rfl (Rm rfl ?_))));clear H;intro a H;refine s_split H 150 rfl ?_ ?_
  ·intro h150
   try have p150:=of_decide_eq_true h150
   refine s_field fd35_3run H (wg H rfl rfl h150) rfl rfl ?_;clear H;intro a H;refine s_load ty9run H (wg H rfl rfl h150) rfl (H.hp.ocell 0 rfl rfl) rfl ?_;clear H;intro a H;refine s_lens un9cp H (wg H rfl rfl h150) rfl rfl ?_;clear H;intro a H;refine s_cmp H (wg H rfl rfl h150) rfl rfl rfl rfl ?_;clear H;intro a H;refine s_pick_t H wn rfl h150 rfl rfl ?_;clear H;intro a H;refine hM21_0 (_) _ _ ?_ (by exact H.sub ⟨rfl,rfl,rfl,trivial⟩);clear hst hwd hnm hck hcd;(try clear hq1);(try clear hq2);(try clear hq3);(try clear hq0);(try clear hq4);(try clear hq5);(try clear hq6);(try clear hq7);simp_all
  intro h150
  try have p150:=of_decide_eq_false h150
  (iterate 4 refine s_skip H rfl rfl h150 rfl ?_;clear H;intro a H);refine s_pick_f H wn rfl h150 rfl rfl ?_;clear H;intro a H;refine hM21_0 (_) _ _ ?_ (by exact H.sub ⟨rfl,rfl,rfl,trivial⟩);clear hst hwd hnm hck hcd;(try clear hq1);(try clear hq2);(try clear hq3);(try clear hq0);(try clear hq4);(try clear hq5);(try clear hq6);(try clear hq7);simp_all
 clear H;intro q7 a w hI H;dsimp only [List.cons_append,List.nil_append] at H;simp only [List.drop_succ_cons,List.drop_zero];have hq7:=hI;refine kH H (Ra rfl ?_);clear H;intro a H;refine K16 _ _ ?_;clear K16;refine c_cond H rfl ?_ ?_
 ·intro h146
  try have p146:=of_decide_eq_true h146
  refine c_seq (fun _ K17=>?_)
  have e:formE x=10:=by unfold formE;rw [if_neg f0,if_neg f1,if_neg f2,if_neg f3,if_pos (by rw [← hq7];exact h146)]
  refine c_region ?_;refine kH H (Ra rfl ?_);clear H;intro a H;refine wl_nil ?_;refine K17 _ _ ?_;clear K17;refine c_ret ?_;refine lv H Tryz.results197 rfl ?_;exact H.hp.ret ⟨by rw [e],rfl⟩
 intro h146
 try have p146:=of_decide_eq_false h146
 have f4:¬ (decide (x.kind=5) && decide (1024 < (x.text.size:Int)))=true:=by rw [← hq7,h146];decide
 refine c_seqR (fun _ K18=>?_);refine wl_meet (ι:=Bool) (Tc:=[]) 7 (fun (q8:Bool)=>[(163,.bool q8)]) (fun (q8:Bool)=>q8=(startB x && !cpNm x.text)) (by exact H.sub trivial) ?_ ?_
 ·intro hM23_0;refine kH H (Rm rfl (Rm rfl ?_));clear H;intro a H;refine s_split H 158 rfl ?_ ?_
  ·intro h158
   try have p158:=of_decide_eq_true h158
   refine s_field fd35_3run H (wg H rfl rfl h158) rfl rfl ?_;clear H;intro a H;refine s_load ty9run H (wg H rfl rfl h158) rfl (H.hp.ocell 0 rfl rfl) rfl ?_;clear H;intro a H;refine s_call en60dsv H (wg H rfl rfl h158) rfl (cpNm_spec _ _ H.hp.ro x.text hs) rfl ?_;clear H;rintro v161 _ a w ⟨rfl,rfl⟩ - H;refine s_not H (wg H rfl rfl h158) rfl rfl ?_;clear H;intro a H;refine s_pick_t H wn rfl h158 rfl rfl ?_;clear H;intro a H;refine hM23_0 (_) _ _ ?_ (by exact H.sub ⟨rfl,trivial⟩);rw [← hst];clear hst hwd hnm hck hcd;(try clear hq1);(try clear hq2);(try clear hq3);(try clear hq0);(try clear hq4);(try clear hq5);(try clear hq6);(try clear hq7);simp_all
  intro h158
  try have p158:=of_decide_eq_false h158
  (iterate 4 refine s_skip H rfl rfl h158 rfl ?_;clear H;intro a H);refine s_pick_f H wn rfl h158 rfl rfl ?_;clear H;intro a H;refine hM23_0 (_) _ _ ?_ (by exact H.sub ⟨rfl,trivial⟩);rw [← hst];clear hst hwd hnm hck hcd;(try clear hq1);(try clear hq2);(try clear hq3);(try clear hq0);(try clear hq4);(try clear hq5);(try clear hq6);(try clear hq7);simp_all
 clear H;intro q8 a w hI H;dsimp only [List.cons_append,List.nil_append] at H;simp only [List.drop_succ_cons,List.drop_zero];have hq8:=hI;refine kH H (Ra rfl ?_);clear H;intro a H;refine K18 _ _ ?_;clear K18;refine c_cond H rfl ?_ ?_
 ·intro h156
  try have p156:=of_decide_eq_true h156
  refine c_seq (fun _ K19=>?_)
  have e:formE x=13:=by unfold formE;rw [if_neg f0,if_neg f1,if_neg f2,if_neg f3,if_neg f4,if_pos (by rw [← hq8];exact h156)]
  refine c_region ?_;refine kH H (Ra rfl ?_);clear H;intro a H;refine wl_nil ?_;refine K19 _ _ ?_;clear K19;refine c_ret ?_;refine lv H Tryz.results197 rfl ?_;exact H.hp.ret ⟨by rw [e],rfl⟩
 intro h156
 try have p156:=of_decide_eq_false h156
 refine c_skip ?_;refine K7 _ _ ?_;clear K7;refine c_seq (fun _ K20=>?_)
 have e:formE x=0:=by unfold formE;rw [if_neg f0,if_neg f1,if_neg f2,if_neg f3,if_neg f4,if_neg (by rw [← hq8,h156];decide)]
 refine c_region ?_;refine kH H (Ra rfl ?_);clear H;intro a H;refine wl_nil ?_;refine K20 _ _ ?_;clear K20;refine c_ret ?_;refine lv H Tryz.results197 rfl ?_;exact H.hp.ret ⟨by rw [e],rfl⟩
end
section
open Go.RowKit
/-- Where a checker stands: how many units, which ids came before. -/
structure CS where
 n:Int
 bef:List Int
abbrev CR:=Int × CS
def andT (r:CR) (f:CS→CR):CR:=if r.1≠0 then r else f r.2
theorem andT_ok {r:CR} {f:CS→CR} (h:r.1=0):andT r f=f r.2:=by rw [andT,if_neg (fun h'=>h' h)]
theorem andT_err {r:CR} {f:CS→CR} (h:r.1≠0):andT r f=r:=by rw [andT,if_pos h]
def idC (s:CS) (x:Int):CR:=(idE s.bef x,⟨s.n,idB s.bef x⟩)
/-- Behind an item's form: what its kind asks for where it stands. -/
def preC (body note:Bool) (t k i:Int) (s:CS):CR :=
 if k=3 then (whenE (!body) 19,s) else if k=6 then andT (whenE note 19,s) fun s=>idC s i else if k=7 then andT (whenE (decide (4≤t)) 17,s) fun s=>idC s i else if k=8 then (whenE (!decide (1≤i∧i≤1073741824)) 18,s) else (0,s)
def rowE (C:CkP) (h:HeadD) (n:Nat):Int:=firstE [headE C 9 h,whenE (decide ((n:Int)=0)) 11,whenE (decide (32 < (n:Int))) 9]
def rowsC0 (n:Nat) (f:CS→CR) (s:CS):CR:=if n=0 then (11,s) else if 256 < n then (9,s) else f s
mutual
def itemC (C:CkP) (body note:Bool) (t:Int):ItemD→CS→CR
 | .mk k c i tx h f r,s =>
  andT (formE (.mk k c i tx h f r),s) fun s=>andT (preC body note t k i ⟨s.n+(if k=1 then cntS tx else 1:Nat),s.bef⟩) fun s=>andT (headE C k h,s) fun s =>
   if k=6 then itemsC C false true t f s else if k=7 then rowsC0 r.length (fun s=>rowsC C note (t+1) r s) s else (0,s)
def rowC (C:CkP) (note:Bool) (t:Int):RowD→CS→CR
 | .mk h cs,s=>andT (rowE C h cs.length,s) fun s=>cellsC C note t cs s
def cellC (C:CkP) (note:Bool) (t:Int):CellD→CS→CR
 | .mk i h f,s=>andT (idC s i) fun s=>andT (headE C 10 h,s) fun s=>itemsC C false note t f s
def itemsC (C:CkP) (body note:Bool) (t:Int):List ItemD→CS→CR
 | [],s=>(0,s)
 | x :: r,s=>andT (itemC C body note t x s) fun s=>itemsC C body note t r s
def rowsC (C:CkP) (note:Bool) (t:Int):List RowD→CS→CR
 | [],s=>(0,s)
 | x :: r,s=>andT (rowC C note t x s) fun s=>rowsC C note t r s
def cellsC (C:CkP) (note:Bool) (t:Int):List CellD→CS→CR
 | [],s=>(0,s)
 | x :: r,s=>andT (cellC C note t x s) fun s=>cellsC C note t r s
end
theorem itemC_eq (C:CkP) (body note:Bool) (t:Int) (x:ItemD) (s:CS):itemC C body note t x s=andT (formE x,s) fun s=>andT (preC body note t x.kind x.id ⟨s.n+(unitsS x:Nat),s.bef⟩) fun s=>andT (headE C x.kind x.head,s) fun s =>
  if x.kind=6 then itemsC C false true t x.flow s else if x.kind=7 then rowsC0 x.rows.length (fun s=>rowsC C note (t+1) x.rows s) s else (0,s):=by cases x;rw [itemC];rfl
theorem rowC_eq (C:CkP) (note:Bool) (t:Int) (x:RowD) (s:CS):rowC C note t x s=andT (rowE C x.head x.cells.length,s) fun s=>cellsC C note t x.cells s:=by cases x;rw [rowC];rfl
theorem cellC_eq (C:CkP) (note:Bool) (t:Int) (x:CellD) (s:CS):cellC C note t x s=andT (idC s x.id) fun s=>andT (headE C 10 x.head,s) fun s=>itemsC C false note t x.flow s:=by cases x;rw [cellC];rfl
/-! ## How many units -/
/-- From s to r no more than z units come to it. -/
def Up (s:CS) (z:Nat) (r:CR):Prop:=s.n≤r.2.n∧r.2.n≤s.n+z
theorem Up.and {s:CS} {z y q:Nat} {r:CR} {f:CS→CR} (h:Up s z r) (hq:z+y≤q) (hf:∀ s,Up s y (f s)):Up s q (andT r f):=by
 obtain ⟨h1,h2⟩:=h
 unfold andT
 split
 ·exact ⟨h1,by omega⟩
 obtain ⟨h3,h4⟩:=hf r.2;exact ⟨by omega,by omega⟩
theorem Up.zero (s:CS) (e:Int) (q:Nat):Up s q (e,s):=⟨Int.le_refl _,by dsimp only;omega⟩
theorem Up.le {s:CS} {z y:Nat} {r:CR} (h:Up s z r) (hq:z≤y):Up s y r:=⟨h.1,by have:=h.2;omega⟩
theorem up_id (s:CS) (x:Int) (q:Nat):Up s q (idC s x):=⟨Int.le_refl _,by dsimp only [idC];omega⟩
theorem up_pre (body note:Bool) (t k i:Int) (s:CS) (q:Nat):Up s q (preC body note t k i s):=by
 unfold preC
 (repeat' split) <;> first|exact Up.zero _ _ _|exact (Up.zero _ _ 0).and (y:=0) (by omega) fun s=>up_id _ _ _
mutual
theorem up_item (C:CkP) (body note:Bool) (t:Int):∀ (x:ItemD) (s:CS),Up s (szR x.dat) (itemC C body note t x s)
 | .mk k c i tx h f r,s=>by
  have hz:=zItem_eq (.mk k c i tx h f r);have hf:=up_items C false true t f;have hr:=up_rows C note (t+1) r;rw [itemC];obtain ⟨u,hu'⟩:∃ u,u=(if k=1 then cntS tx else 1:Nat):=⟨_,rfl⟩
  have hu:u≤tx.size+1:=by
   have:=cntS_le tx
   rw [hu'];split <;> omega
  rw [← hu'];dsimp only [ItemD.text,ItemD.flow,ItemD.rows,ItemD.head] at hz;refine (Up.zero s _ 0).and (Nat.le_of_eq (Nat.zero_add _)) fun s=>?_
  have h2:Up s (u) (preC body note t k i ⟨s.n+(u:Nat),s.bef⟩):=by
   obtain ⟨h3,h4⟩:=up_pre body note t k i ⟨s.n+(u:Nat),s.bef⟩ 0;dsimp only at h3 h4;exact ⟨by omega,by omega⟩
  refine h2.and (y:=zItems f+zRows r) (by omega) fun s=>(Up.zero s _ 0).and (Nat.le_of_eq (Nat.zero_add _)) fun s=>?_
  by_cases h6:k=6
  ·rw [if_pos h6];exact (hf s).le (by omega)
  rw [if_neg h6]
  by_cases h7:k=7
  ·rw [if_pos h7]
   unfold rowsC0
   by_cases c1:r.length=0
   ·rw [if_pos c1];exact Up.zero _ _ _
   rw [if_neg c1]
   by_cases c2:256 < r.length
   ·rw [if_pos c2];exact Up.zero _ _ _
   rw [if_neg c2];exact (hr s).le (by omega)
  rw [if_neg h7];exact Up.zero _ _ _
theorem up_row (C:CkP) (note:Bool) (t:Int):∀ (x:RowD) (s:CS),Up s (szR x.dat) (rowC C note t x s)
 | .mk h cs,s=>by
  have hz:=zRow_eq (.mk h cs);have hc:=up_cells C note t cs;rw [rowC_eq];dsimp only [RowD.cells,RowD.head] at hz ⊢;exact (Up.zero s _ 0).and (y:=zCells cs) (by omega) fun s=>hc s
theorem up_cell (C:CkP) (note:Bool) (t:Int):∀ (x:CellD) (s:CS),Up s (szR x.dat) (cellC C note t x s)
 | .mk i h f,s=>by
  have hz:=zCell_eq (.mk i h f);have hf:=up_items C false note t f;rw [cellC_eq];dsimp only [CellD.flow,CellD.head,CellD.id] at hz ⊢;exact (up_id s _ 0).and (y:=zItems f) (by omega) fun s=>(Up.zero s _ 0).and (Nat.le_of_eq (Nat.zero_add _)) fun s=>hf s
theorem up_items (C:CkP) (body note:Bool) (t:Int):∀ (l:List ItemD) (s:CS),Up s (zItems l) (itemsC C body note t l s)
 | [],s=>by rw [itemsC];exact Up.zero _ _ _
 | x :: r,s=>by
  rw [itemsC];exact (up_item C body note t x s).and (y:=zItems r) (by simp only [zItems,List.map_cons,szRs];omega) fun s=>up_items C body note t r s
theorem up_rows (C:CkP) (note:Bool) (t:Int):∀ (l:List RowD) (s:CS),Up s (zRows l) (rowsC C note t l s)
 | [],s=>by rw [rowsC];exact Up.zero _ _ _
 | x :: r,s=>by
  rw [rowsC];exact (up_row C note t x s).and (y:=zRows r) (by simp only [zRows,List.map_cons,szRs];omega) fun s=>up_rows C note t r s
theorem up_cells (C:CkP) (note:Bool) (t:Int):∀ (l:List CellD) (s:CS),Up s (zCells l) (cellsC C note t l s)
 | [],s=>by rw [cellsC];exact Up.zero _ _ _
 | x :: r,s=>by
  rw [cellsC];exact (up_cell C note t x s).and (y:=zCells r) (by simp only [zCells,List.map_cons,szRs];omega) fun s=>up_cells C note t r s
end
/-! ## Item by item -/
/-- The state ahead of the item with an index. -/
def stC {α:Type} (f:α→CS→CR) (l:List α) (s:CS):Nat→CS
 | 0=>s
 | i+1=>match l[i]? with|some x=>(f x (stC f l s i)).2|none=>stC f l s i
def erC {α:Type} (f:α→CS→CR) (l:List α) (s:CS) (i:Nat):Int:=match l[i]? with|some x=>(f x (stC f l s i)).1|none=>0
theorem stC_cons {α:Type} (f:α→CS→CR) (x:α) (l:List α) (s:CS):∀ i,stC f (x :: l) s (i+1)=stC f l (f x s).2 i
 | 0=>rfl
 | i+1=>by
  have ih:=stC_cons f x l s i
  simp only [stC,List.getElem?_cons_succ] at ih ⊢
  rw [ih]
theorem erC_cons {α:Type} (f:α→CS→CR) (x:α) (l:List α) (s:CS) (i:Nat):erC f (x :: l) s (i+1)=erC f l (f x s).2 i:=by
 unfold erC
 simp only [List.getElem?_cons_succ,stC_cons]
theorem allE_succ (E:Nat→Int) (n:Nat):allE E (n+1)=if E 0≠0 then E 0 else allE (fun i=>E (i+1)) n:=by
 unfold allE
 rw [List.range_succ_eq_map,List.map_cons,firstE,List.map_map]
 rfl
theorem items_all (C:CkP) (body note:Bool) (t:Int):∀ (l:List ItemD) (s:CS),(itemsC C body note t l s).1=allE (erC (itemC C body note t) l s) l.length∧((itemsC C body note t l s).1=0→(itemsC C body note t l s).2=stC (itemC C body note t) l s l.length)
 | [],s=>by rw [itemsC];exact ⟨rfl,fun _=>rfl⟩
 | x :: r,s=>by
  obtain ⟨h1,h2⟩:=items_all C body note t r (itemC C body note t x s).2;have e0:erC (itemC C body note t) (x :: r) s 0=(itemC C body note t x s).1:=rfl;rw [itemsC,List.length_cons,allE_succ,e0,stC_cons]
  simp only [erC_cons]
  unfold andT
  split
  ·next h=>exact ⟨rfl,fun h0=>absurd h0 h⟩
  exact ⟨h1,h2⟩
theorem up_st (C:CkP) (body note:Bool) (t:Int) (l:List ItemD) (s:CS):∀ i,i≤l.length→s.n≤(stC (itemC C body note t) l s i).n∧(stC (itemC C body note t) l s i).n+(zItems (l.drop i):Nat)≤s.n+(zItems l:Nat)
 | 0,_=>⟨Int.le_refl _,Int.le_refl _⟩
 | i+1,hi=>by
  have hi':i < l.length:=hi;obtain ⟨h1,h2⟩:=up_st C body note t l s i (by omega)
  have hs:stC (itemC C body note t) l s (i+1)=(itemC C body note t l[i] (stC (itemC C body note t) l s i)).2:=by rw [stC,List.getElem?_eq_getElem hi']
  have hd:zItems (l.drop i)=1+szR l[i].dat+zItems (l.drop (i+1)):=by
   simp only [zItems];rw [List.drop_eq_getElem_cons hi',List.map_cons,szRs]
  obtain ⟨h3,h4⟩:=up_item C body note t l[i] (stC (itemC C body note t) l s i);rw [hs];exact ⟨by omega,by omega⟩
end
section
open Go.RowKit
theorem en64rws:∀ args w,(callFunc 64 args).run Tryz.prog w=.ok (.enter 64 args) w:=enters Tryz.func64 rfl (by kernel_rfl)
theorem en198rws:∀ args w,(callFunc 198 args).run Tryz.prog w=.ok (.enter 198 args) w:=enters Tryz.func198 rfl (by kernel_rfl)
theorem en66rws:∀ args w,(callFunc 66 args).run Tryz.prog w=.ok (.enter 66 args) w:=enters Tryz.func66 rfl (by kernel_rfl)
theorem headL_spec (G:GH) (L:OL) (w0:World) (st:List StyleD) (li:List LiD) (rv:List RvD) (b ms ml mr mb mu:Nat) (n:Int) (hck:CkG G st li rv ms ml mr mu) (hO:Owns G (ckB b ms ml mr mb mu n :: L) w0)
  (e:Int) (h:HeadD) (p d l:Value) (hh:HeadR G h p d l) (hz:zHead h≤4294967296) :
  Calls Tryz.prog 64 #[.pointer (some ⟨b,0,none⟩),vi e,hdV h p d l] w0 (RetL w0 G (ckB b ms ml mr mb mu n :: L) fun v G' L'=>G=G'∧L'=ckB b ms ml mr mb mu n :: L∧v=vi (headE (ckP st li rv) e h)):=by
 have hm:=GH.add_mono G (o:=(ckB b ms ml mr mb mu n).2) (hO.sep _ List.mem_cons_self);exact (head_spec (G.add b (ckB b ms ml mr mb mu n).2) w0 hO.add st li rv b ms ml mr mb mu n (hck.mono hm) (GH.add_self _ _ _) e h p d l (hh.mono hm) hz).mono fun _ _=>ret_lend (b:=b) (o:=(ckB b ms ml mr mb mu n).2) (R':=fun v=>v=vi (headE (ckP st li rv) e h)) hO fun _ _ h=>h
/-- What a call of the checker leaves. -/
abbrev CkR (b ms ml mr mb mu:Nat) (L:OL) (r:CR):Value→OL→Prop:=fun u L'=>∃ s:CS,u=vi r.1∧L'=ckB b ms ml mr mb mu s.n :: (mb,mpK (mSet s.bef)) :: L∧(r.1=0→s=r.2)
def ItemsOk (m:Nat):Prop:=∀ (G:GH) (L:OL) (w0:World) (st:List StyleD) (li:List LiD) (rv:List RvD) (b ms ml mr mb mu:Nat) (s:CS) (l:List ItemD) (v:Value) (body note:Bool) (t:Int),
 CkG G st li rv ms ml mr mu→Owns G (ckB b ms ml mr mb mu s.n :: (mb,mpK (mSet s.bef)) :: L) w0→RepV G (.sl 11 (l.map ItemD.dat)) v→zItems l < m→0≤t→t≤4→0≤s.n→s.n+(zItems l:Nat)≤1099511627776 →
 Calls Tryz.prog 66 #[.pointer (some ⟨b,0,none⟩),v,.agg #[.bool body,.bool note,vi t]] w0 (RetL w0 G (ckB b ms ml mr mb mu s.n :: (mb,mpK (mSet s.bef)) :: L) fun u G' L'=>G=G'∧CkR b ms ml mr mb mu L (itemsC (ckP st li rv) body note t l s) u L')
theorem rows_ok {m:Nat} (ih:ItemsOk m) (hm:m≤4294967296) (Gt:GH) (L:OL) (w0:World) (st:List StyleD) (li:List LiD) (rv:List RvD) (b ms ml mr mb mu:Nat) (s:CS) (l:List RowD) (v:Value) (note:Bool) (t:Int)
  (hck:CkG Gt st li rv ms ml mr mu) (hO:Owns Gt (ckB b ms ml mr mb mu s.n :: (mb,mpK (mSet s.bef)) :: L) w0) (hv:RepV Gt (.sl 6 (l.map RowD.dat)) v) (hz:zRows l < m) (ht0:0≤t) (ht4:t≤4) (hs0:0≤s.n) (hs1:s.n+(zRows l:Nat)≤1099511627776) :
  Calls Tryz.prog 199 #[.pointer (some ⟨b,0,none⟩),v,.agg #[.bool false,.bool note,vi t]] w0 (RetL w0 Gt (ckB b ms ml mr mb mu s.n :: (mb,mpK (mSet s.bef)) :: L) fun u G' L'=>CkR b ms ml mr mb mu L (rowsC0 l.length (fun s=>rowsC (ckP st li rv) note t l s) s) u L'):=by
 obtain ⟨A,c,rfl,hc1,hc2,hg⟩:=hv.slice;rw [List.length_map] at *;have hll:=zRows_length l;refine enterL (N:=77) (T:=[(0,_),(1,_),(2,_)]) Tryz.func199 rfl Tryz.ntmps199 rfl rfl hO ?_;intro a H;refine c_seqR (fun _ K1=>?_);refine s_box (cs:=[_,_,_]) H wn rfl rfl rfl ?_;clear H;intro b5 a w hb5 H;refine kH H (Ra rfl ?_);clear H;intro a H;refine K1 _ _ ?_;clear K1;refine c_seq (fun _ K2=>?_);refine c_seqR (fun _ K3=>?_);refine kH H (Rm rfl (Rl un33run rfl (Rc rfl ?_)));clear H;intro a H;refine K3 _ _ ?_;clear K3;refine c_cond H rfl ?_ ?_
 ·intro h17
  try have p17:=of_decide_eq_true h17
  refine c_seq (fun _ K4=>?_);have hE:rowsC0 l.length (fun s=>rowsC (ckP st li rv) note t l s) s=(11,s):=if_pos (by omega);refine c_region ?_;refine kH H (Ra rfl ?_);clear H;intro a H;refine wl_nil ?_;refine K4 _ _ ?_;clear K4;refine c_ret ?_;refine lv H Tryz.results199 rfl ?_;exact H.hp.retD (L':=ckB b ms ml mr mb mu s.n :: (mb,mpK (mSet s.bef)) :: L) (by repeat (first|exact List.Sublist.refl _|apply List.Sublist.cons)) ⟨s,by rw [hE],rfl,fun h=>by rw [hE]⟩
 intro h17
 try have p17:=of_decide_eq_false h17
 refine c_skip ?_;refine K2 _ _ ?_;clear K2;refine c_seq (fun _ K5=>?_);refine c_seqR (fun _ K6=>?_);refine kH H (Rm rfl (Rl un33run rfl (Rc rfl ?_)));clear H;intro a H;refine K6 _ _ ?_;clear K6;refine c_cond H rfl ?_ ?_
 ·intro h20
  try have p20:=of_decide_eq_true h20
  refine c_seq (fun _ K7=>?_)
  have hE:rowsC0 l.length (fun s=>rowsC (ckP st li rv) note t l s) s=(9,s):=by rw [rowsC0,if_neg (by omega),if_pos (by omega)]
  refine c_region ?_;refine kH H (Ra rfl ?_);clear H;intro a H;refine wl_nil ?_;refine K7 _ _ ?_;clear K7;refine c_ret ?_;refine lv H Tryz.results199 rfl ?_;exact H.hp.retD (L':=ckB b ms ml mr mb mu s.n :: (mb,mpK (mSet s.bef)) :: L) (by repeat (first|exact List.Sublist.refl _|apply List.Sublist.cons)) ⟨s,by rw [hE],rfl,fun h=>by rw [hE]⟩
 intro h20
 try have p20:=of_decide_eq_false h20
 refine c_skip ?_;refine K5 _ _ ?_;clear K5;refine c_seq (fun _ K8=>?_);refine c_seq (fun _ K9=>?_)
 have hE:rowsC0 l.length (fun s=>rowsC (ckP st li rv) note t l s) s=rowsC (ckP st li rv) note t l s:=by rw [rowsC0,if_neg (by omega),if_neg (by omega)]
 refine c_region ?_;refine kH H (Rm rfl (Rl un33run rfl (Rm rfl ?_)));clear H;intro a H;refine wl_nil ?_;refine K9 _ _ ?_;clear K9;refine c_block ?_;skip;refine c_loopS (ι:=Nat × CS × GH) (Tc:=[(0,_),(5,_),(21,_),(22,_)]) (Lc:=[(_,_)]) (fun (gh:Nat × CS × GH)=>[(23,vi gh.1)]) (fun (gh:Nat × CS × GH)=>[ckB b ms ml mr mb mu gh.2.1.n,(mb,mpK (mSet gh.2.1.bef))]++L) (fun (gh:Nat × CS × GH)=>gh.2.2) (fun (gh:Nat × CS × GH)=>gh.1≤l.length∧(∀ b o,Gt b=some o→gh.2.2 b=some o)∧rowsC (ckP st li rv) note t l s=rowsC (ckP st li rv) note t (l.drop gh.1) gh.2.1∧0≤gh.2.1.n∧gh.2.1.n+(zRows (l.drop gh.1):Nat)≤1099511627776) (fun (gh:Nat × CS × GH)=>l.length - gh.1) ((0,s,Gt)) (by exact (H).sub ⟨rfl,rfl,rfl,rfl,rfl,trivial⟩) ?_ ?_
 ·exact ⟨Nat.zero_le _,fun _ _ h=>h,rfl,hs0,hs1⟩
 clear H;intro gh a w hI H;obtain ⟨k,s1,g⟩:=gh;dsimp only at hI H;obtain ⟨hk,hgm,hR,hn0,hn1⟩:=hI;dsimp only [List.cons_append,List.nil_append,List.append_nil] at H;refine c_seqR (fun _ K10=>?_);refine kH H (Rc rfl ?_);clear H;intro a H;refine K10 _ _ ?_;clear K10;refine c_seq (fun _ K11=>?_);refine c_cond H rfl ?_ ?_
 ·intro h24
  try have p24:=of_decide_eq_true h24
  have hk2:k < l.length:=by omega
  have hsz:=zRows_get hk2;have hcs:=zCells_length l[k].cells
  have hdz:zRows (l.drop k)=1+szR l[k].dat+zRows (l.drop (k+1)):=by simp only [zRows];rw [List.drop_eq_getElem_cons hk2,List.map_cons,szRs]
  have hrz:=zRow_eq l[k];obtain ⟨xb,xo,qA,qn,qc,eA,en,ec,zA,zn,zc,cA,cn,cc,rfl,hrow,hrh,hcl⟩:=row_get hk2 hg;replace hrow:=fun j u hj=>gcell_mono hgm (hrow j u hj);replace hrh:=hrh.mono hgm;replace hcl:=hcl.mono hgm;have hcn:=hcl.len;rw [List.length_map] at hcn;subst hcn;have hckg:=hck.mono hgm;rw [List.drop_eq_getElem_cons hk2,rowsC,rowC_eq] at hR;refine c_skip ?_;refine K11 _ _ ?_;clear K11;refine c_seq (fun _ K12=>?_);refine c_block ?_;refine c_seqR (fun _ K13=>?_);refine s_index un33run ty171run _ H wn rfl rfl rfl (by first|assumption|omega) rfl ?_;clear H;intro a H;refine s_loada ty171run (cs:=[_,_,_,_,_,_]) H wn rfl rfl (fun j v hj=>H.hp.gcell (hrow j v hj)) rfl ?_;clear H;intro a H;refine s_alloc ty171run H wn rfl ?_;clear H;intro b8 a w hb8 H;refine s_store ty171run 0 (vs:=[_,_,_,_,_,_]) _ H wn rfl rfl rfl rfl rfl rfl rfl rfl ?_;clear H;intro w H;dsimp only [List.set,setRow] at H;refine K13 _ _ ?_;clear K13;refine c_seq (fun _ K14=>?_);refine c_seq (fun _ K15=>?_);refine c_drawI (hmx) [[],[],[1],[0,1,2],[],[4],[4,5],[4,5,6],(List.range 8),[],[9],[9,10],[9,10,11],(List.range 13),(List.range 14),(List.range 15),(List.range 16)] [14,15,16] (by kernel_rfl) (by kernel_rfl) (fun (ix_:Nat) (v:Value) (G:GH)=>match ix_ with|0=>v=.pointer (some ⟨b,0,none⟩)|1=>v=.pointer (some ⟨b8,0,none⟩)|2=>v=hdV l[k].head (.slice qA qn qc) (.slice eA en ec) (.slice zA zn zc)|3=>v=vi (headE (ckP st li rv) 9 l[k].head)|4=>v=.pointer (some ⟨b8,5,none⟩)|5=>v=.slice cA l[k].cells.length cc|6=>v=vi l[k].cells.length|7=>v=.bool (decide ((l[k].cells.length:Int)=0))|8=>v=vi (whenE (decide ((l[k].cells.length:Int)=0)) 11)|9=>v=.pointer (some ⟨b8,5,none⟩)|10=>v=.slice cA l[k].cells.length cc|11=>v=vi l[k].cells.length|12=>v=.bool (decide (32 < (l[k].cells.length:Int)))|13=>v=vi (whenE (decide (32 < (l[k].cells.length:Int))) 9)|_=>True) (fun _ _ _ _ _ h=>h) H ?_ ?_
  ·clear H;refine al4 ?_ ?_ ?_ ?_ (al4 ?_ ?_ ?_ ?_ (al4 ?_ ?_ ?_ ?_ (al4 ?_ ?_ ?_ ?_ (allI_cons ?_ allI_nil))))
   ·exact Op0 rfl fun _ _ _ _ _ _ H fin=>kH H (Rm rfl fun _ H=>fin H iJ rfl)
   ·exact Op0 rfl fun _ _ _ _ _ _ H fin=>kH H (Rf fd171_0run rfl fun _ H=>fin H iJ rfl)
   ·refine Op1 1 28 rfl rfl fun _ a w G1 hG HT H fin=>?_;refine s_loada ty31run (cs:=[_,_,_,_,_]) H wn rfl rfl (H.hp.ocells 0 rfl rfl) rfl ?_;clear H;intro a H;exact fin H iJ rfl
   ·refine Op2 0 27 2 29 rfl rfl fun _ a w G1 hG HT H fin=>?_;refine s_callL en64rws (Li:=[_,_]) (L:=ckB b ms ml mr mb mu s1.n :: (mb,mpK (mSet s1.bef)) :: L) H wn rfl (headL_spec _ _ _ st li rv b ms ml mr mb mu _ (hckg.mono hG) (Hp.owns (Li:=[_,_]) H.hp) 9 l[k].head _ _ _ (hrh.mono hG) (by omega)) rfl ?_;clear H;rintro v30 _ _ a w ⟨rfl,rfl,rfl⟩ hGm30 H;dsimp only [List.cons_append,List.nil_append] at H;exact fin H hGm30 (rfl)
   ·exact Op0 rfl fun _ _ _ _ _ _ H fin=>kH H (Rf fd171_1run rfl fun _ H=>fin H iJ rfl)
   ·exact Op1 4 31 rfl rfl fun _ _ _ _ _ _ H fin=>kH H (Ro ty169run 0 rfl rfl fun _ H=>fin H iJ rfl)
   ·exact Op1 5 32 rfl rfl fun _ _ _ _ _ _ H fin=>kH H (Rl un169run rfl fun _ H=>fin H iJ rfl)
   ·exact Op1 6 33 rfl rfl fun _ _ _ _ _ _ H fin=>kH H (Rc rfl fun _ H=>fin H iJ rfl)
   ·refine Op1 7 34 rfl rfl fun _ a w G1 hG HT H fin=>?_;refine s_call en65nam H wn rfl (when_spec _ _ H.hp.ro _ 11) rfl ?_;clear H;rintro v35 G35 a w ⟨rfl,-⟩ hGm35 H;exact fin H hGm35 (rfl)
   ·exact Op0 rfl fun _ _ _ _ _ _ H fin=>kH H (Rf fd171_1run rfl fun _ H=>fin H iJ rfl)
   ·exact Op1 9 36 rfl rfl fun _ _ _ _ _ _ H fin=>kH H (Ro ty169run 0 rfl rfl fun _ H=>fin H iJ rfl)
   ·exact Op1 10 37 rfl rfl fun _ _ _ _ _ _ H fin=>kH H (Rl un169run rfl fun _ H=>fin H iJ rfl)
   ·exact Op1 11 38 rfl rfl fun _ _ _ _ _ _ H fin=>kH H (Rc rfl fun _ H=>fin H iJ rfl)
   ·refine Op1 12 39 rfl rfl fun _ a w G1 hG HT H fin=>?_;refine s_call en65nam H wn rfl (when_spec _ _ H.hp.ro _ 9) rfl ?_;clear H;rintro v40 G40 a w ⟨rfl,-⟩ hGm40 H;exact fin H hGm40 (rfl)
   ·exact opB rfl
   ·exact opB rfl
   exact opB rfl
  clear H;intro a w G hGm8 H hv;obtain ⟨u30,hu30,hp30⟩:=hv 3 30 (by decide) rfl;obtain rfl:u30=vi (headE (ckP st li rv) 9 l[k].head):=hp30;have H:=H.addS hu30;obtain ⟨u35,hu35,hp35⟩:=hv 8 35 (by decide) rfl;obtain rfl:u35=vi (whenE (decide ((l[k].cells.length:Int)=0)) 11):=hp35;have H:=H.addS hu35;obtain ⟨u40,hu40,hp40⟩:=hv 13 40 (by decide) rfl;obtain rfl:u40=vi (whenE (decide (32 < (l[k].cells.length:Int))) 9):=hp40;have H:=H.addS hu40;clear hv;refine s_buildSlice un221fst ty22fst [_,_,_] [_,_,_] H wn rfl rfl rfl rfl rfl (by intro i q h;match i,h with|0,h=>exact h|1,h=>exact h|2,h=>exact h|n+3,h=>simp at h) rfl rfl ?_;clear H;intro b41 a w hb41 H;obtain ⟨G41,hm41,hb41',H⟩:=H.giveBox;have hgm1:∀ b o,Gt b=some o→G41 b=some o:=fun b o h=>hm41 _ _ (hGm8 _ _ (hgm _ _ h));refine s_call en52nam H wn rfl (first_spec1 _ _ H.hp.ro _ _ (ints_rep [headE (ckP st li rv) 9 l[k].head,whenE (decide ((l[k].cells.length:Int)=0)) 11,whenE (decide (32 < (l[k].cells.length:Int))) 9] hb41' (show 3≤maxLen by decide))) rfl ?_;clear H;rintro v42 _ a w ⟨rfl,rfl⟩ - H;refine kH H (Ra rfl ?_);clear H;intro a H;refine wl_nil ⟨rfl,?_⟩;refine K15 _ _ ?_;clear K15;refine c_seqR (fun _ K16=>?_);refine kH H (Rm rfl (Rc rfl ?_));clear H;intro a H;refine K16 _ _ ?_;clear K16;refine c_cond H rfl ?_ ?_
  ·intro h44
   try have p44:=of_decide_eq_true h44
   have e44:rowE (ckP st li rv) l[k].head l[k].cells.length≠0:=p44
   have hF1:(rowsC0 l.length (fun s=>rowsC (ckP st li rv) note t l s) s).1=rowE (ckP st li rv) l[k].head l[k].cells.length:=by rw [hE,hR,andT_err (r:=(rowE (ckP st li rv) l[k].head l[k].cells.length,s1)) e44,andT_err e44]
   have hF2:(rowsC0 l.length (fun s=>rowsC (ckP st li rv) note t l s) s).1=0→s1=(rowsC0 l.length (fun s=>rowsC (ckP st li rv) note t l s) s).2:=fun h=>absurd (hF1.symm.trans h) e44;refine c_seqR (fun _ K17=>?_);refine kH H (Rm rfl (Ra rfl ?_));clear H;intro a H;refine K17 _ _ ?_;clear K17;refine c_ret ?_;refine lv H Tryz.results199 rfl ?_;exact H.hp.retD (L':=ckB b ms ml mr mb mu s1.n :: (mb,mpK (mSet s1.bef)) :: L) (by repeat (first|exact List.Sublist.refl _|apply List.Sublist.cons)) ⟨s1,congrArg vi hF1.symm,rfl,hF2⟩
  intro h44
  try have p44:=of_decide_eq_false h44
  have e44:rowE (ckP st li rv) l[k].head l[k].cells.length=0:=Decidable.not_not.1 p44;rw [andT_ok (r:=(rowE (ckP st li rv) l[k].head l[k].cells.length,s1)) e44] at hR;dsimp only at hR;have hckg1:=hck.mono hgm1;replace hcl:=hcl.mono (fun b o h=>hm41 _ _ (hGm8 b o h));refine c_skip ?_;refine K14 _ _ ?_;clear K14;refine c_seqR (fun _ K18=>?_);refine kH H (Rf fd171_1run rfl (Ro ty169run 0 rfl rfl (Rl un169run rfl (Rm rfl ?_))));clear H;intro a H;refine K18 _ _ ?_;clear K18;refine c_block ?_;skip;refine c_loopS (ι:=Nat × CS × GH) (Tc:=[(0,_),(5,_),(21,_),(22,_),(23,_),(47,_),(48,_)]) (Lc:=[(_,_),(_,_)]) (fun (gh:Nat × CS × GH)=>[(49,vi gh.1)]) (fun (gh:Nat × CS × GH)=>[ckB b ms ml mr mb mu gh.2.1.n,(mb,mpK (mSet gh.2.1.bef))]++L) (fun (gh:Nat × CS × GH)=>gh.2.2) (fun (gh:Nat × CS × GH)=>gh.1≤l[k].cells.length∧(∀ b o,G41 b=some o→gh.2.2 b=some o)∧rowsC (ckP st li rv) note t l s=andT (cellsC (ckP st li rv) note t (l[k].cells.drop gh.1) gh.2.1) (fun s=>rowsC (ckP st li rv) note t (l.drop (k+1)) s)∧0≤gh.2.1.n∧gh.2.1.n+(zCells (l[k].cells.drop gh.1):Nat)+(zRows (l.drop (k+1)):Nat)≤1099511627776) (fun (gh:Nat × CS × GH)=>l[k].cells.length - gh.1) ((0,s1,G41)) (by exact (H).sub ⟨rfl,rfl,rfl,rfl,rfl,rfl,rfl,rfl,trivial⟩) ?_ ?_
  ·exact ⟨Nat.zero_le _,fun _ _ h=>h,hR,hn0,by dsimp only;rw [List.drop_zero];omega⟩
  clear H;intro gh a w hI H;obtain ⟨c,s2,g2⟩:=gh;dsimp only at hI H;obtain ⟨hc,hgm2',hR2,hm0,hm1⟩:=hI;have hgm2:=fun b o h=>hgm2' b o (hgm1 b o h);dsimp only [List.cons_append,List.nil_append,List.append_nil] at H;refine c_seqR (fun _ K19=>?_);refine kH H (Rc rfl ?_);clear H;intro a H;refine K19 _ _ ?_;clear K19;refine c_seq (fun _ K20=>?_);refine c_cond H rfl ?_ ?_
  ·intro h50
   try have p50:=of_decide_eq_true h50
   have hk4:c < l[k].cells.length:=by omega
   have hsz4:=zCells_get hk4
   have hdz4:zCells (l[k].cells.drop c)=1+szR l[k].cells[c].dat+zCells (l[k].cells.drop (c+1)):=by simp only [zCells];rw [List.drop_eq_getElem_cons hk4,List.map_cons,szRs]
   have hcz:=zCell_eq l[k].cells[c];obtain ⟨b3',o3,sA,sn,sc,tA,tn,tc,uA,un,uc,gA,gn,gc,rfl,hrow,hch,hcf⟩:=cell_get hk4 (hcl.mono hgm2').at_;have hckg2:=hckg1.mono hgm2';rw [List.drop_eq_getElem_cons hk4,cellsC,cellC_eq] at hR2;obtain ⟨y,hy⟩:∃ y,y=l[k].cells[c]:=⟨_,rfl⟩;rw [← hy] at hR2 hrow hch hcf hcz hsz4 hdz4;refine c_skip ?_;refine K20 _ _ ?_;clear K20;refine c_seq (fun _ K21=>?_);refine c_block ?_;refine c_seqR (fun _ K22=>?_);refine s_index un169run ty174run _ H wn rfl rfl rfl (by first|assumption|omega) rfl ?_;clear H;intro a H;refine s_loada ty174run (cs:=[_,_,_,_,_,_,_]) H wn rfl rfl (fun j v hj=>H.hp.gcell (hrow j v hj)) rfl ?_;clear H;intro a H;refine s_alloc ty174run H wn rfl ?_;clear H;intro b11 a w hb11 H;refine s_store ty174run 0 (vs:=[_,_,_,_,_,_,_]) _ H wn rfl rfl rfl rfl rfl rfl rfl rfl ?_;clear H;intro w H;dsimp only [List.set,setRow] at H;refine K22 _ _ ?_;clear K22;refine c_seq (fun _ K23=>?_);refine c_seqR (fun _ K24=>?_);refine kH H (Rm rfl (Rf fd174_0run rfl (Ro ty3run 0 rfl rfl ?_)));clear H;intro a H;refine s_callL en198rws (Li:=[_,_,_]) (L:=ckB b ms ml mr mb mu s2.n :: (mb,mpK (mSet s2.bef)) :: L) H wn rfl (ckId_spec _ _ _ st li rv b ms ml mr mb mu _ s2.bef y.id hckg2 (Hp.owns (Li:=[_,_,_]) H.hp)) rfl ?_;clear H;rintro v56 _ _ a w ⟨rfl,rfl,rfl⟩ - H;dsimp only [List.cons_append,List.nil_append] at H;refine kH H (Ra rfl ?_);clear H;intro a H;refine K24 _ _ ?_;clear K24;refine c_seqR (fun _ K25=>?_);refine kH H (Rm rfl (Rc rfl ?_));clear H;intro a H;refine K25 _ _ ?_;clear K25;refine c_cond H rfl ?_ ?_
   ·intro h58
    try have p58:=of_decide_eq_true h58
    have hF1:(rowsC0 l.length (fun s=>rowsC (ckP st li rv) note t l s) s).1=idE s2.bef y.id:=by rw [hE,hR2];simp [andT,idC,p58]
    have hF2:(rowsC0 l.length (fun s=>rowsC (ckP st li rv) note t l s) s).1=0→(⟨s2.n,idB s2.bef y.id⟩:CS)=(rowsC0 l.length (fun s=>rowsC (ckP st li rv) note t l s) s).2:=fun h=>absurd (hF1.symm.trans h) p58;refine c_seqR (fun _ K26=>?_);refine kH H (Rm rfl (Ra rfl ?_));clear H;intro a H;refine K26 _ _ ?_;clear K26;refine c_ret ?_;refine lv H Tryz.results199 rfl ?_;exact H.hp.retD (L':=ckB b ms ml mr mb mu s2.n :: (mb,mpK (mSet (idB s2.bef y.id))) :: L) (by repeat (first|exact List.Sublist.refl _|apply List.Sublist.cons)) ⟨⟨s2.n,idB s2.bef y.id⟩,congrArg vi hF1.symm,rfl,hF2⟩
   intro h58
   try have p58:=of_decide_eq_false h58
   have e58:idE s2.bef y.id=0:=Decidable.not_not.1 p58;refine c_skip ?_;refine K23 _ _ ?_;clear K23;refine c_seq (fun _ K27=>?_);refine c_seqR (fun _ K28=>?_);refine kH H (Rm rfl (Rf fd174_1run rfl ?_));clear H;intro a H;refine s_loada ty31run (cs:=[_,_,_,_,_]) H wn rfl rfl (H.hp.ocells 0 rfl rfl) rfl ?_;clear H;intro a H;refine s_callL en64rws (Li:=[_,_,_]) (L:=ckB b ms ml mr mb mu s2.n :: (mb,mpK (mSet (idB s2.bef y.id))) :: L) H wn rfl (headL_spec _ _ _ st li rv b ms ml mr mb mu _ hckg2 (Hp.owns (Li:=[_,_,_]) H.hp) 10 y.head _ _ _ hch (by omega)) rfl ?_;clear H;rintro v63 _ _ a w ⟨rfl,rfl,rfl⟩ - H;dsimp only [List.cons_append,List.nil_append] at H;refine kH H (Ra rfl ?_);clear H;intro a H;refine K28 _ _ ?_;clear K28;refine c_seqR (fun _ K29=>?_);refine kH H (Rm rfl (Rc rfl ?_));clear H;intro a H;refine K29 _ _ ?_;clear K29;refine c_cond H rfl ?_ ?_
   ·intro h65
    try have p65:=of_decide_eq_true h65
    have hF1:(rowsC0 l.length (fun s=>rowsC (ckP st li rv) note t l s) s).1=headE (ckP st li rv) 10 y.head:=by rw [hE,hR2];simp [andT,idC,e58,p65]
    have hF2:(rowsC0 l.length (fun s=>rowsC (ckP st li rv) note t l s) s).1=0→(⟨s2.n,idB s2.bef y.id⟩:CS)=(rowsC0 l.length (fun s=>rowsC (ckP st li rv) note t l s) s).2:=fun h=>absurd (hF1.symm.trans h) p65;refine c_seqR (fun _ K30=>?_);refine kH H (Rm rfl (Ra rfl ?_));clear H;intro a H;refine K30 _ _ ?_;clear K30;refine c_ret ?_;refine lv H Tryz.results199 rfl ?_;exact H.hp.retD (L':=ckB b ms ml mr mb mu s2.n :: (mb,mpK (mSet (idB s2.bef y.id))) :: L) (by repeat (first|exact List.Sublist.refl _|apply List.Sublist.cons)) ⟨⟨s2.n,idB s2.bef y.id⟩,congrArg vi hF1.symm,rfl,hF2⟩
   intro h65
   try have p65:=of_decide_eq_false h65
   have e65:headE (ckP st li rv) 10 y.head=0:=Decidable.not_not.1 p65;refine c_skip ?_;refine K27 _ _ ?_;clear K27;refine c_seqR (fun _ K31=>?_);refine kH H (Rm rfl (Rf fd174_2run rfl (Ro ty32run 0 rfl rfl ?_)));clear H;intro a H;refine s_loada ty136doc (cs:=[_,_,_]) H wn rfl rfl (H.hp.ocells 2 rfl rfl) rfl ?_;clear H;intro a H;refine s_callL en66rws (Li:=[_,_,_]) (L:=ckB b ms ml mr mb mu s2.n :: (mb,mpK (mSet (idB s2.bef y.id))) :: L) H wn rfl (ih _ _ _ st li rv b ms ml mr mb mu ⟨s2.n,idB s2.bef y.id⟩ y.flow _ false note t hckg2 (Hp.owns (Li:=[_,_,_]) H.hp) hcf (by omega) ht0 ht4 hm0 (by dsimp only;omega)) rfl ?_;clear H;rintro v71 _ _ a w ⟨rfl,s3,rfl,rfl,h3⟩ - H;dsimp only [List.cons_append,List.nil_append] at H;refine kH H (Ra rfl ?_);clear H;intro a H;refine K31 _ _ ?_;clear K31;refine c_seqR (fun _ K32=>?_);refine kH H (Rm rfl (Rc rfl ?_));clear H;intro a H;refine K32 _ _ ?_;clear K32;refine c_cond H rfl ?_ ?_
   ·intro h73
    try have p73:=of_decide_eq_true h73
    have hF1:(rowsC0 l.length (fun s=>rowsC (ckP st li rv) note t l s) s).1=(itemsC (ckP st li rv) false note t y.flow ⟨s2.n,idB s2.bef y.id⟩).1:=by rw [hE,hR2];simp [andT,idC,e58,e65,p73]
    have hF2:(rowsC0 l.length (fun s=>rowsC (ckP st li rv) note t l s) s).1=0→s3=(rowsC0 l.length (fun s=>rowsC (ckP st li rv) note t l s) s).2:=fun h=>absurd (hF1.symm.trans h) p73;refine c_seqR (fun _ K33=>?_);refine kH H (Rm rfl (Ra rfl ?_));clear H;intro a H;refine K33 _ _ ?_;clear K33;refine c_ret ?_;refine lv H Tryz.results199 rfl ?_;exact H.hp.retD (L':=ckB b ms ml mr mb mu s3.n :: (mb,mpK (mSet s3.bef)) :: L) (by repeat (first|exact List.Sublist.refl _|apply List.Sublist.cons)) ⟨s3,congrArg vi hF1.symm,rfl,hF2⟩
   intro h73
   try have p73:=of_decide_eq_false h73
   have e73:(itemsC (ckP st li rv) false note t y.flow ⟨s2.n,idB s2.bef y.id⟩).1=0:=Decidable.not_not.1 p73;obtain ⟨hu1,hu2⟩:=up_items (ckP st li rv) false note t y.flow ⟨s2.n,idB s2.bef y.id⟩;rw [← h3 e73] at hu1 hu2;dsimp only at hu1 hu2
   have hS:andT (andT (andT (idC s2 y.id) fun s=>andT (headE (ckP st li rv) 10 y.head,s) fun s=>itemsC (ckP st li rv) false note t y.flow s) fun s=>cellsC (ckP st li rv) note t (l[k].cells.drop (c+1)) s) (fun s=>rowsC (ckP st li rv) note t (l.drop (k+1)) s)=andT (cellsC (ckP st li rv) note t (l[k].cells.drop (c+1)) s3) (fun s=>rowsC (ckP st li rv) note t (l.drop (k+1)) s):=by
    rw [h3 e73];simp [andT,idC,e58,e65,e73]
   refine c_skip ?_;refine K21 _ _ ?_;clear K21;refine c_region ?_;refine s_add _ H wn rfl rfl rfl (by omega) (by omega) rfl ?_;clear H;intro a H;refine kH H (Rm rfl ?_);clear H;intro a H;refine wl_nil ?_;refine loop_end ((c+1,s3,g2)) (by exact (H.pickT (Pl:=[_,_,_,_,_]) (Pl':=[_,_,_,_]) [1,2,3,4] (by decide) rfl).sub ⟨rfl,rfl,rfl,rfl,rfl,rfl,rfl,rfl,trivial⟩) ?_ ?_
   ·(try dsimp only);exact ⟨by omega,hgm2',hR2.trans hS,by omega,by omega⟩
   first|omega|(dsimp only;omega)
  intro h50
  try have p50:=of_decide_eq_false h50
  refine c_exit ?_;refine K12 _ _ ?_;clear K12;refine c_region ?_;refine s_add _ H wn rfl rfl rfl (by omega) (by omega) rfl ?_;clear H;intro a H;refine kH H (Rm rfl ?_);clear H;intro a H;refine wl_nil ?_;refine loop_end ((k+1,s2,g2)) (by exact (H.pickT (Pl:=[_,_,_,_]) (Pl':=[_,_,_]) [1,2,3] (by decide) rfl).sub ⟨rfl,rfl,rfl,rfl,rfl,trivial⟩) ?_ ?_
  ·(try dsimp only);exact ⟨by omega,hgm2,by rw [hR2,List.drop_of_length_le (by omega),cellsC,andT_ok rfl],hm0,by omega⟩
  first|omega|(dsimp only;omega)
 intro h24
 try have p24:=of_decide_eq_false h24
 refine c_exit ?_;refine K8 _ _ ?_;clear K8;refine c_seq (fun _ K34=>?_)
 have hF1:(rowsC0 l.length (fun s=>rowsC (ckP st li rv) note t l s) s).1=0:=by rw [hE,hR,List.drop_of_length_le (by omega),rowsC]
 have hF2:(rowsC0 l.length (fun s=>rowsC (ckP st li rv) note t l s) s).1=0→s1=(rowsC0 l.length (fun s=>rowsC (ckP st li rv) note t l s) s).2:=fun h=>by rw [hE,hR,List.drop_of_length_le (by omega),rowsC]
 refine c_region ?_;refine kH H (Ra rfl ?_);clear H;intro a H;refine wl_nil ?_;refine K34 _ _ ?_;clear K34;refine c_ret ?_;refine lv H Tryz.results199 rfl ?_;exact H.hp.retD (L':=ckB b ms ml mr mb mu s1.n :: (mb,mpK (mSet s1.bef)) :: L) (by repeat (first|exact List.Sublist.refl _|apply List.Sublist.cons)) ⟨s1,congrArg vi hF1.symm,rfl,hF2⟩
end
section
open Go.RowKit
theorem en199itm:∀ args w,(callFunc 199 args).run Tryz.prog w=.ok (.enter 199 args) w:=enters Tryz.func199 rfl (by kernel_rfl)
theorem en197itm:∀ args w,(callFunc 197 args).run Tryz.prog w=.ok (.enter 197 args) w:=enters Tryz.func197 rfl (by kernel_rfl)
theorem fd140_5itm:Fld Tryz.prog 140 5 5:=⟨by kernel_rfl⟩
theorem fd136_0itm:Fld Tryz.prog 136 0 0:=⟨by kernel_rfl⟩
theorem one_rep {G:GH} {b:Nat} {x:Int} (h:G b=some (.cells #[vi x] 22 (0,0))):RepV G (.sl 1 ([x].map fun k=>[li k])) (.slice (some ⟨b,0,none⟩) 1 1):=ints_rep [x] h (show 1≤maxLen by decide)
theorem item_ok {m:Nat} (ih:ItemsOk m) (hm:m≤4294967296) (Gt:GH) (L:OL) (w0:World) (st:List StyleD) (li:List LiD) (rv:List RvD) (b ms ml mr mb mu:Nat) (s:CS) (x:ItemD) (p d y f r:Value) (body note:Bool) (t:Int)
  (hck:CkG Gt st li rv ms ml mr mu) (hO:Owns Gt (ckB b ms ml mr mb mu s.n :: (mb,mpK (mSet s.bef)) :: L) w0) (hh:HeadR Gt x.head p d y) (hf:RepV Gt (.sl 11 (x.flow.map ItemD.dat)) f) (hr:RepV Gt (.sl 6 (x.rows.map RowD.dat)) r) (hz:szR x.dat≤m) (ht0:0≤t) (ht4:t≤4) (hs0:0≤s.n) (hs1:s.n+(szR x.dat:Nat)≤1099511627776) :
  Calls Tryz.prog 140 #[.pointer (some ⟨b,0,none⟩),.agg #[vi x.kind,vi x.code,vi x.id,.string x.text,p,vi x.head.marks.ins,vi x.head.marks.move,d,y,f,r],.agg #[.bool body,.bool note,vi t]] w0 (RetL w0 Gt (ckB b ms ml mr mb mu s.n :: (mb,mpK (mSet s.bef)) :: L) fun u G' L'=>CkR b ms ml mr mb mu L (itemC (ckP st li rv) body note t x s) u L'):=by
 obtain ⟨pA,pn,pc,rfl⟩:=hh.props.form;obtain ⟨dA,dn,dc,rfl⟩:=hh.dels.form;obtain ⟨lA,ln,lc,rfl⟩:=hh.layers.form;obtain ⟨fA,fc,rfl,-⟩:=hf.slice;obtain ⟨rA,rc,rfl,-⟩:=hr.slice;(iterate 2 rw [List.length_map] at *);have hxz:=zItem_eq x;have hcl:=cntS_le x.text
 have hus:unitsS x≤x.text.size+1:=by unfold unitsS;split <;> omega
 have hE:=itemC_eq (ckP st li rv) body note t x s;refine enterL (N:=117) (T:=[(0,_),(1,_),(2,_)]) Tryz.func140 rfl Tryz.ntmps140 rfl rfl hO ?_;intro a H;refine c_seqR (fun _ K1=>?_);refine s_box (cs:=[_,_,_,_,_,_,_,_,_,_,_]) H wn rfl rfl rfl ?_;clear H;intro b4 a w hb4 H;refine s_box (cs:=[_,_,_]) H wn rfl rfl rfl ?_;clear H;intro b5 a w hb5 H;refine kH H (Ra rfl ?_);clear H;intro a H;refine K1 _ _ ?_;clear K1;refine c_seq (fun _ K2=>?_);refine c_seqR (fun _ K3=>?_);refine s_loada ty35run (cs:=[_,_,_,_,_,_,_,_,_,_,_]) H wn rfl rfl (H.hp.ocells 1 rfl rfl) rfl ?_;clear H;intro a H;refine s_call en197itm H wn rfl (form_spec _ _ H.hp.ro x _ _ _ _ _ _ _ (by omega)) rfl ?_;clear H;rintro v15 _ a w ⟨rfl,rfl⟩ - H;refine kH H (Ra rfl ?_);clear H;intro a H;refine K3 _ _ ?_;clear K3;refine c_seqR (fun _ K4=>?_);refine kH H (Rm rfl (Rc rfl ?_));clear H;intro a H;refine K4 _ _ ?_;clear K4;refine c_cond H rfl ?_ ?_
 ·intro h17
  try have p17:=of_decide_eq_true h17
  rw [andT_err (r:=(formE x,s)) p17] at hE;refine c_seqR (fun _ K5=>?_);refine kH H (Rm rfl (Ra rfl ?_));clear H;intro a H;refine K5 _ _ ?_;clear K5;refine c_ret ?_;refine lv H Tryz.results140 rfl ?_;exact H.hp.retD (L':=ckB b ms ml mr mb mu s.n :: (mb,mpK (mSet s.bef)) :: L) (by repeat (first|exact List.Sublist.refl _|apply List.Sublist.cons)) ⟨s,by rw [hE],rfl,fun h=>by rw [hE]⟩
 intro h17
 try have p17:=of_decide_eq_false h17
 rw [andT_ok (r:=(formE x,s)) (Decidable.not_not.1 p17)] at hE;dsimp only at hE;refine c_skip ?_;refine K2 _ _ ?_;clear K2;refine c_seqR (fun _ K6=>?_);refine kH H (Rm rfl (Rk rfl (Rf fd140_5itm rfl (Ro ty3run 2 rfl rfl ?_))));clear H;intro a H;refine s_add _ H wn rfl rfl rfl (by omega) (by omega) rfl ?_;clear H;intro a H;refine kH H (Rk rfl (Rf fd140_5itm rfl ?_));clear H;intro a H;refine s_store ty3run 2 (vs:=[_]) _ H wn rfl rfl rfl rfl rfl rfl rfl rfl ?_;clear H;intro w H;dsimp only [List.set,setRow] at H;refine K6 _ _ ?_;clear K6;refine c_seqJ (ι:=CS × GH) (Tc:=[(0,_),(4,_),(5,_)]) (Lc:=[(_,_),(_,_)]) (fun (gh:CS × GH)=>[]) (fun (gh:CS × GH)=>[ckB b ms ml mr mb mu gh.1.n,(mb,mpK (mSet gh.1.bef))]++L) (fun (gh:CS × GH)=>gh.2) (fun (gh:CS × GH)=>preC body note t x.kind x.id ⟨s.n+(unitsS x:Nat),s.bef⟩=(0,gh.1)∧(∀ b o,Gt b=some o→gh.2 b=some o)∧gh.1.n=s.n+(unitsS x:Nat)∧(x.kind=7→t < 4)) (by exact (H).sub ⟨rfl,rfl,rfl,trivial⟩) ?_ ?_
 ·skip;refine c_seqR (fun _ K7=>?_);refine kH H (Rf fd35_0run rfl (Ro ty3run 1 rfl rfl ?_));clear H;intro a H;refine K7 _ _ ?_;clear K7;refine c_block ?_;refine c_seqR (fun _ K8=>?_);refine kH H (Rc rfl (Ra rfl ?_));clear H;intro a H;refine K8 _ _ ?_;clear K8;refine c_cond H rfl ?_ ?_
  ·intro h28
   try have p28:=of_decide_eq_true h28
   have hu:((unitsS x:Nat):Int)=cntS x.text:=by rw [unitsS,if_pos p28]
   refine c_seqR (fun _ K9=>?_);refine kH H (Rf fd35_3run rfl (Ro ty9run 1 rfl rfl ?_));clear H;intro a H;refine s_call en93run H wn rfl (count_spec _ _ H.hp.ro x.text (by omega)) rfl ?_;clear H;rintro v33 _ a w ⟨rfl,rfl⟩ - H;refine kH H (Rm rfl ?_);clear H;intro a H;(iterate 2 refine s_extract H wn rfl rfl rfl ?_;clear H;intro a H);refine kH H (Ra rfl (Ra rfl ?_));clear H;intro a H;refine K9 _ _ ?_;clear K9;refine c_region ?_;refine kH H (Rm rfl (Rk rfl (Rf fd140_5itm rfl (Ro ty3run 2 rfl rfl (Rm rfl ?_)))));clear H;intro a H;refine s_sub _ H wn rfl rfl rfl (by omega) (by omega) rfl ?_;clear H;intro a H;refine s_add _ H wn rfl rfl rfl (by omega) (by omega) rfl ?_;clear H;intro a H;rw [show s.n+1+((cntS x.text:Int) - 1)=s.n+(unitsS x:Nat) by omega] at H;refine kH H (Rk rfl (Rf fd140_5itm rfl ?_));clear H;intro a H;refine s_store ty3run 2 (vs:=[_]) _ H wn rfl rfl rfl rfl rfl rfl rfl rfl ?_;clear H;intro w H;dsimp only [List.set,setRow] at H;refine wl_nil ?_;refine ⟨(⟨s.n+(unitsS x:Nat),s.bef⟩,Gt),by exact (H).sub ⟨rfl,rfl,rfl,trivial⟩,?_⟩;(try dsimp only)
   first
   | exact ⟨by simp_all [preC,whenE,andT,idC],fun _ _ h=>h,rfl,fun h7=>by first|omega|(exfalso;simp_all)⟩
   | exact ⟨by simp_all [preC,whenE,andT,idC],hm55,rfl,fun h7=>by first|omega|(exfalso;simp_all)⟩
  intro h28
  try have p28:=of_decide_eq_false h28
  have hu:((unitsS x:Nat):Int)=1:=by rw [unitsS,if_neg p28];rfl
  rw [show s.n+1=s.n+((unitsS x:Nat):Int) by omega] at H;refine c_seqR (fun _ K10=>?_);refine kH H (Rc rfl (Ra rfl ?_));clear H;intro a H;refine K10 _ _ ?_;clear K10;refine c_cond H rfl ?_ ?_
  ·intro h45
   try have p45:=of_decide_eq_true h45
   refine c_seqR (fun _ K11=>?_);refine kH H (Rf fd136_0itm rfl (Ro ty4doc 0 rfl rfl (Rn rfl ?_)));clear H;intro a H;refine K11 _ _ ?_;clear K11;refine c_cond H rfl ?_ ?_
   ·intro h49
    try have p49:=of_decide_eq_true h49
    refine c_seq (fun _ K12=>?_)
    have hF1:(itemC (ckP st li rv) body note t x s).1=19:=by rw [hE];simp [andT,preC,p45,whenE,h49]
    have hF2:(itemC (ckP st li rv) body note t x s).1=0→(⟨s.n+(unitsS x:Nat),s.bef⟩:CS)=(itemC (ckP st li rv) body note t x s).2:=fun h=>absurd (hF1.symm.trans h) (by decide);refine c_region ?_;refine kH H (Ra rfl ?_);clear H;intro a H;refine wl_nil ?_;refine K12 _ _ ?_;clear K12;refine c_ret ?_;refine lv H Tryz.results140 rfl ?_;exact H.hp.retD (L':=ckB b ms ml mr mb mu (s.n+(unitsS x:Nat)) :: (mb,mpK (mSet (s.bef))) :: L) (by repeat (first|exact List.Sublist.refl _|apply List.Sublist.cons)) ⟨⟨s.n+(unitsS x:Nat),s.bef⟩,congrArg vi hF1.symm,rfl,hF2⟩
   intro h49
   try have p49:=of_decide_eq_false h49
   refine c_skip ?_;refine ⟨(⟨s.n+(unitsS x:Nat),s.bef⟩,Gt),by exact (H).sub ⟨rfl,rfl,rfl,trivial⟩,?_⟩;(try dsimp only)
   first
   | exact ⟨by simp_all [preC,whenE,andT,idC],fun _ _ h=>h,rfl,fun h7=>by first|omega|(exfalso;simp_all)⟩
   | exact ⟨by simp_all [preC,whenE,andT,idC],hm55,rfl,fun h7=>by first|omega|(exfalso;simp_all)⟩
  intro h45
  try have p45:=of_decide_eq_false h45
  refine c_seqR (fun _ K13=>?_);refine kH H (Rc rfl (Ra rfl ?_));clear H;intro a H;refine K13 _ _ ?_;clear K13;refine c_cond H rfl ?_ ?_
  ·intro h50
   try have p50:=of_decide_eq_true h50
   refine c_seq (fun _ K14=>?_);refine c_seqR (fun _ K15=>?_);refine kH H (Rf fd136_1doc rfl (Ro ty4doc 0 rfl rfl ?_));clear H;intro a H;refine s_call en65nam H wn rfl (when_spec _ _ H.hp.ro _ 19) rfl ?_;clear H;rintro v54 _ a w ⟨rfl,rfl⟩ - H;refine s_buildSlice un221fst ty22fst [_] [_] H wn rfl rfl rfl rfl rfl (by intro i q h;match i,h with|0,h=>exact h|n+1,h=>simp at h) rfl rfl ?_;clear H;intro b55 a w hb55 H;obtain ⟨G55,hm55,hb55',H⟩:=H.giveBox;refine s_call en52nam H wn rfl (first_spec1 _ _ H.hp.ro _ _ (one_rep hb55')) rfl ?_;clear H;rintro v56 _ a w ⟨rfl,rfl⟩ - H;refine kH H (Ra rfl ?_);clear H;intro a H;refine K15 _ _ ?_;clear K15;refine c_seqR (fun _ K16=>?_);refine kH H (Rm rfl (Rc rfl ?_));clear H;intro a H;refine K16 _ _ ?_;clear K16;refine c_cond H rfl ?_ ?_
   ·intro h58
    try have p58:=of_decide_eq_true h58
    have e58:whenE note 19≠0:=fun h=>p58 (by rw [h];rfl)
    have hv58:firstE [whenE note 19]=whenE note 19:=by simp [firstE,e58]
    rw [hv58] at H
    have hF1:(itemC (ckP st li rv) body note t x s).1=whenE note 19:=by rw [hE];simp [andT,preC,p50,e58]
    have hF2:(itemC (ckP st li rv) body note t x s).1=0→(⟨s.n+(unitsS x:Nat),s.bef⟩:CS)=(itemC (ckP st li rv) body note t x s).2:=fun h=>absurd (hF1.symm.trans h) (e58);refine c_seqR (fun _ K17=>?_);refine kH H (Rm rfl (Ra rfl ?_));clear H;intro a H;refine K17 _ _ ?_;clear K17;refine c_ret ?_;refine lv H Tryz.results140 rfl ?_;exact H.hp.retD (L':=ckB b ms ml mr mb mu (s.n+(unitsS x:Nat)) :: (mb,mpK (mSet (s.bef))) :: L) (by repeat (first|exact List.Sublist.refl _|apply List.Sublist.cons)) ⟨⟨s.n+(unitsS x:Nat),s.bef⟩,congrArg vi hF1.symm,rfl,hF2⟩
   intro h58
   try have p58:=of_decide_eq_false h58
   have e58:whenE note 19=0:=Decidable.byContradiction fun h=>p58 (by simp [firstE,h]);refine c_skip ?_;refine K14 _ _ ?_;clear K14;refine c_seqR (fun _ K18=>?_);refine kH H (Rm rfl (Rf fd35_2doc rfl (Ro ty3run 1 rfl rfl ?_)));clear H;intro a H;refine s_callL en198rws (Li:=[_,_]) (L:=ckB b ms ml mr mb mu _ :: (mb,mpK (mSet s.bef)) :: L) H wn rfl (ckId_spec _ _ _ st li rv b ms ml mr mb mu _ s.bef x.id (hck.mono hm55) (Hp.owns (Li:=[_,_]) H.hp)) rfl ?_;clear H;rintro v63 _ _ a w ⟨rfl,rfl,rfl⟩ - H;dsimp only [List.cons_append,List.nil_append] at H;refine kH H (Ra rfl ?_);clear H;intro a H;refine K18 _ _ ?_;clear K18;refine c_seqR (fun _ K19=>?_);refine kH H (Rm rfl (Rc rfl ?_));clear H;intro a H;refine K19 _ _ ?_;clear K19;refine c_cond H rfl ?_ ?_
   ·intro h65
    try have p65:=of_decide_eq_true h65
    have hF1:(itemC (ckP st li rv) body note t x s).1=idE s.bef x.id:=by rw [hE];simp [andT,preC,p50,e58,idC,p65]
    have hF2:(itemC (ckP st li rv) body note t x s).1=0→(⟨s.n+(unitsS x:Nat),idB s.bef x.id⟩:CS)=(itemC (ckP st li rv) body note t x s).2:=fun h=>absurd (hF1.symm.trans h) (p65);refine c_seqR (fun _ K20=>?_);refine kH H (Rm rfl (Ra rfl ?_));clear H;intro a H;refine K20 _ _ ?_;clear K20;refine c_ret ?_;refine lv H Tryz.results140 rfl ?_;exact H.hp.retD (L':=ckB b ms ml mr mb mu (s.n+(unitsS x:Nat)) :: (mb,mpK (mSet (idB s.bef x.id))) :: L) (by repeat (first|exact List.Sublist.refl _|apply List.Sublist.cons)) ⟨⟨s.n+(unitsS x:Nat),idB s.bef x.id⟩,congrArg vi hF1.symm,rfl,hF2⟩
   intro h65
   try have p65:=of_decide_eq_false h65
   have e65:idE s.bef x.id=0:=Decidable.not_not.1 p65;refine c_skip ?_;refine ⟨(⟨s.n+(unitsS x:Nat),idB s.bef x.id⟩,G55),by exact (H).sub ⟨rfl,rfl,rfl,trivial⟩,?_⟩;(try dsimp only)
   first
   | exact ⟨by simp_all [preC,whenE,andT,idC],fun _ _ h=>h,rfl,fun h7=>by first|omega|(exfalso;simp_all)⟩
   | exact ⟨by simp_all [preC,whenE,andT,idC],hm55,rfl,fun h7=>by first|omega|(exfalso;simp_all)⟩
  intro h50
  try have p50:=of_decide_eq_false h50
  refine c_seqR (fun _ K21=>?_);refine kH H (Rc rfl (Ra rfl ?_));clear H;intro a H;refine K21 _ _ ?_;clear K21;refine c_cond H rfl ?_ ?_
  ·intro h67
   try have p67:=of_decide_eq_true h67
   refine c_seq (fun _ K22=>?_);refine c_seqR (fun _ K23=>?_);refine kH H (Rf fd136_2doc rfl (Ro ty3run 0 rfl rfl (Rc rfl ?_)));clear H;intro a H;refine K23 _ _ ?_;clear K23;refine c_cond H rfl ?_ ?_
   ·intro h71
    try have p71:=of_decide_eq_true h71
    refine c_seq (fun _ K24=>?_)
    have hF1:(itemC (ckP st li rv) body note t x s).1=17:=by rw [hE];simp [andT,preC,p67,whenE,p71]
    have hF2:(itemC (ckP st li rv) body note t x s).1=0→(⟨s.n+(unitsS x:Nat),s.bef⟩:CS)=(itemC (ckP st li rv) body note t x s).2:=fun h=>absurd (hF1.symm.trans h) (by decide);refine c_region ?_;refine kH H (Ra rfl ?_);clear H;intro a H;refine wl_nil ?_;refine K24 _ _ ?_;clear K24;refine c_ret ?_;refine lv H Tryz.results140 rfl ?_;exact H.hp.retD (L':=ckB b ms ml mr mb mu (s.n+(unitsS x:Nat)) :: (mb,mpK (mSet (s.bef))) :: L) (by repeat (first|exact List.Sublist.refl _|apply List.Sublist.cons)) ⟨⟨s.n+(unitsS x:Nat),s.bef⟩,congrArg vi hF1.symm,rfl,hF2⟩
   intro h71
   try have p71:=of_decide_eq_false h71
   have e71:¬ 4≤t:=by omega
   refine c_skip ?_;refine K22 _ _ ?_;clear K22;refine c_seqR (fun _ K25=>?_);refine kH H (Rm rfl (Rf fd35_2doc rfl (Ro ty3run 1 rfl rfl ?_)));clear H;intro a H;refine s_callL en198rws (Li:=[_,_]) (L:=ckB b ms ml mr mb mu _ :: (mb,mpK (mSet s.bef)) :: L) H wn rfl (ckId_spec _ _ _ st li rv b ms ml mr mb mu _ s.bef x.id hck (Hp.owns (Li:=[_,_]) H.hp)) rfl ?_;clear H;rintro v75 _ _ a w ⟨rfl,rfl,rfl⟩ - H;dsimp only [List.cons_append,List.nil_append] at H;refine kH H (Ra rfl ?_);clear H;intro a H;refine K25 _ _ ?_;clear K25;refine c_seqR (fun _ K26=>?_);refine kH H (Rm rfl (Rc rfl ?_));clear H;intro a H;refine K26 _ _ ?_;clear K26;refine c_cond H rfl ?_ ?_
   ·intro h77
    try have p77:=of_decide_eq_true h77
    have hF1:(itemC (ckP st li rv) body note t x s).1=idE s.bef x.id:=by rw [hE];simp [andT,preC,p67,whenE,e71,idC,p77]
    have hF2:(itemC (ckP st li rv) body note t x s).1=0→(⟨s.n+(unitsS x:Nat),idB s.bef x.id⟩:CS)=(itemC (ckP st li rv) body note t x s).2:=fun h=>absurd (hF1.symm.trans h) (p77);refine c_seqR (fun _ K27=>?_);refine kH H (Rm rfl (Ra rfl ?_));clear H;intro a H;refine K27 _ _ ?_;clear K27;refine c_ret ?_;refine lv H Tryz.results140 rfl ?_;exact H.hp.retD (L':=ckB b ms ml mr mb mu (s.n+(unitsS x:Nat)) :: (mb,mpK (mSet (idB s.bef x.id))) :: L) (by repeat (first|exact List.Sublist.refl _|apply List.Sublist.cons)) ⟨⟨s.n+(unitsS x:Nat),idB s.bef x.id⟩,congrArg vi hF1.symm,rfl,hF2⟩
   intro h77
   try have p77:=of_decide_eq_false h77
   have e77:idE s.bef x.id=0:=Decidable.not_not.1 p77;refine c_skip ?_;refine ⟨(⟨s.n+(unitsS x:Nat),idB s.bef x.id⟩,Gt),by exact (H).sub ⟨rfl,rfl,rfl,trivial⟩,?_⟩;(try dsimp only)
   first
   | exact ⟨by simp_all [preC,whenE,andT,idC],fun _ _ h=>h,rfl,fun h7=>by first|omega|(exfalso;simp_all)⟩
   | exact ⟨by simp_all [preC,whenE,andT,idC],hm55,rfl,fun h7=>by first|omega|(exfalso;simp_all)⟩
  intro h67
  try have p67:=of_decide_eq_false h67
  refine c_seqR (fun _ K28=>?_);refine kH H (Rc rfl (Ra rfl ?_));clear H;intro a H;refine K28 _ _ ?_;clear K28;refine c_cond H rfl ?_ ?_
  ·intro h79
   try have p79:=of_decide_eq_true h79
   refine c_seqR (fun _ K29=>?_);refine kH H (Rf fd35_2doc rfl (Ro ty3run 1 rfl rfl ?_));clear H;intro a H;refine s_call en128fst H wn rfl (in_spec _ _ H.hp.ro x.id 1 1073741824) rfl ?_;clear H;rintro v83 _ a w ⟨rfl,rfl⟩ - H;refine kH H (Rn rfl ?_);clear H;intro a H;refine K29 _ _ ?_;clear K29;refine c_cond H rfl ?_ ?_
   ·intro h84
    try have p84:=of_decide_eq_true h84
    refine c_seq (fun _ K30=>?_)
    have e84:¬ (1≤x.id∧x.id≤1073741824):=by have h0:=h84;simp at h0;omega
    have hF1:(itemC (ckP st li rv) body note t x s).1=18:=by rw [hE];simp [andT,preC,p79,whenE,e84]
    have hF2:(itemC (ckP st li rv) body note t x s).1=0→(⟨s.n+(unitsS x:Nat),s.bef⟩:CS)=(itemC (ckP st li rv) body note t x s).2:=fun h=>absurd (hF1.symm.trans h) (by decide);refine c_region ?_;refine kH H (Ra rfl ?_);clear H;intro a H;refine wl_nil ?_;refine K30 _ _ ?_;clear K30;refine c_ret ?_;refine lv H Tryz.results140 rfl ?_;exact H.hp.retD (L':=ckB b ms ml mr mb mu (s.n+(unitsS x:Nat)) :: (mb,mpK (mSet (s.bef))) :: L) (by repeat (first|exact List.Sublist.refl _|apply List.Sublist.cons)) ⟨⟨s.n+(unitsS x:Nat),s.bef⟩,congrArg vi hF1.symm,rfl,hF2⟩
   intro h84
   try have p84:=of_decide_eq_false h84
   refine c_skip ?_;refine ⟨(⟨s.n+(unitsS x:Nat),s.bef⟩,Gt),by exact (H).sub ⟨rfl,rfl,rfl,trivial⟩,?_⟩;(try dsimp only)
   first
   | exact ⟨by simp_all [preC,whenE,andT,idC],fun _ _ h=>h,rfl,fun h7=>by first|omega|(exfalso;simp_all)⟩
   | exact ⟨by simp_all [preC,whenE,andT,idC],hm55,rfl,fun h7=>by first|omega|(exfalso;simp_all)⟩
  intro h79
  try have p79:=of_decide_eq_false h79
  refine c_skip ?_;refine ⟨(⟨s.n+(unitsS x:Nat),s.bef⟩,Gt),by exact (H).sub ⟨rfl,rfl,rfl,trivial⟩,?_⟩;(try dsimp only)
  first
  | exact ⟨by simp_all [preC,whenE,andT,idC],fun _ _ h=>h,rfl,fun h7=>by first|omega|(exfalso;simp_all)⟩
  | exact ⟨by simp_all [preC,whenE,andT,idC],hm55,rfl,fun h7=>by first|omega|(exfalso;simp_all)⟩
 clear H;intro gh a w hI H;obtain ⟨s1,g⟩:=gh;dsimp only at hI H;obtain ⟨hP,hmg,hs1n,ht7⟩:=hI;rw [hP,andT_ok rfl] at hE;dsimp only at hE;replace hck:=hck.mono hmg;replace hh:=hh.mono hmg;replace hf:=hf.mono hmg;replace hr:=hr.mono hmg;dsimp only [List.cons_append,List.nil_append,List.append_nil] at H;refine c_seq (fun _ K31=>?_);refine c_seqR (fun _ K32=>?_);refine kH H (Rm rfl (Rf fd35_0run rfl (Ro ty3run 1 rfl rfl (Rf fd35_4run rfl ?_))));clear H;intro a H;refine s_loada ty31run (cs:=[_,_,_,_,_]) H wn rfl rfl (H.hp.ocells 1 rfl rfl) rfl ?_;clear H;intro a H;refine s_callL en64rws (Li:=[_,_]) (L:=ckB b ms ml mr mb mu s1.n :: (mb,mpK (mSet s1.bef)) :: L) H wn rfl (headL_spec _ _ _ st li rv b ms ml mr mb mu _ hck (Hp.owns (Li:=[_,_]) H.hp) x.kind x.head _ _ _ hh (by omega)) rfl ?_;clear H;rintro v90 _ _ a w ⟨rfl,rfl,rfl⟩ - H;dsimp only [List.cons_append,List.nil_append] at H;refine kH H (Ra rfl ?_);clear H;intro a H;refine K32 _ _ ?_;clear K32;refine c_seqR (fun _ K33=>?_);refine kH H (Rm rfl (Rc rfl ?_));clear H;intro a H;refine K33 _ _ ?_;clear K33;refine c_cond H rfl ?_ ?_
 ·intro h92
  try have p92:=of_decide_eq_true h92
  have hF1:(itemC (ckP st li rv) body note t x s).1=headE (ckP st li rv) x.kind x.head:=by rw [hE,andT_err (r:=(headE (ckP st li rv) x.kind x.head,s1)) p92]
  have hF2:(itemC (ckP st li rv) body note t x s).1=0→s1=(itemC (ckP st li rv) body note t x s).2:=fun h=>absurd (hF1.symm.trans h) p92;refine c_seqR (fun _ K34=>?_);refine kH H (Rm rfl (Ra rfl ?_));clear H;intro a H;refine K34 _ _ ?_;clear K34;refine c_ret ?_;refine lv H Tryz.results140 rfl ?_;exact H.hp.retD (L':=ckB b ms ml mr mb mu (s1.n) :: (mb,mpK (mSet (s1.bef))) :: L) (by repeat (first|exact List.Sublist.refl _|apply List.Sublist.cons)) ⟨s1,congrArg vi hF1.symm,rfl,hF2⟩
 intro h92
 try have p92:=of_decide_eq_false h92
 rw [andT_ok (r:=(headE (ckP st li rv) x.kind x.head,s1)) (Decidable.not_not.1 p92)] at hE;dsimp only at hE;refine c_skip ?_;refine K31 _ _ ?_;clear K31;refine c_seq (fun _ K35=>?_);refine c_seqR (fun _ K36=>?_);refine kH H (Rf fd35_0run rfl (Ro ty3run 1 rfl rfl ?_));clear H;intro a H;refine K36 _ _ ?_;clear K36;refine c_block ?_;refine c_seqR (fun _ K37=>?_);refine kH H (Rc rfl (Ra rfl ?_));clear H;intro a H;refine K37 _ _ ?_;clear K37;refine c_cond H rfl ?_ ?_
 ·intro h96
  try have p96:=of_decide_eq_true h96
  rw [if_pos p96] at hE;refine c_seqR (fun _ K38=>?_);refine kH H (Rm rfl (Rf fd35_5run rfl (Ro ty32run 1 rfl rfl (Rf fd136_2doc rfl (Ro ty3run 0 rfl rfl ?_)))));clear H;intro a H;refine s_build sr136doc [_,_,_] H wn rfl rfl rfl rfl ?_;clear H;intro a H;refine s_callL en66rws (Li:=[_,_]) (L:=ckB b ms ml mr mb mu s1.n :: (mb,mpK (mSet s1.bef)) :: L) H wn rfl (ih _ _ _ st li rv b ms ml mr mb mu s1 x.flow _ false true t hck (Hp.owns (Li:=[_,_]) H.hp) hf (by omega) ht0 ht4 (by omega) (by omega)) rfl ?_;clear H;rintro v104 _ _ a w ⟨rfl,s3,rfl,rfl,h3⟩ - H;dsimp only [List.cons_append,List.nil_append] at H
  have hF1:(itemC (ckP st li rv) body note t x s).1=(itemsC (ckP st li rv) false true t x.flow s1).1:=by rw [hE]
  have hF2:(itemC (ckP st li rv) body note t x s).1=0→s3=(itemC (ckP st li rv) body note t x s).2:=by rw [hE];exact h3
  refine kH H (Ra rfl ?_);clear H;intro a H;refine K38 _ _ ?_;clear K38;refine c_ret ?_;refine lv H Tryz.results140 rfl ?_;exact H.hp.retD (L':=ckB b ms ml mr mb mu (s3.n) :: (mb,mpK (mSet (s3.bef))) :: L) (by repeat (first|exact List.Sublist.refl _|apply List.Sublist.cons)) ⟨s3,congrArg vi hF1.symm,rfl,hF2⟩
 intro h96
 try have p96:=of_decide_eq_false h96
 rw [if_neg p96] at hE;refine c_seqR (fun _ K39=>?_);refine kH H (Rc rfl (Ra rfl ?_));clear H;intro a H;refine K39 _ _ ?_;clear K39;refine c_cond H rfl ?_ ?_
 ·intro h105
  try have p105:=of_decide_eq_true h105
  rw [if_pos p105] at hE;refine c_seqR (fun _ K40=>?_);refine kH H (Rm rfl (Rf fd35_6run rfl (Ro ty33run 1 rfl rfl (Rf fd136_1doc rfl (Ro ty4doc 0 rfl rfl (Rf fd136_2doc rfl (Ro ty3run 0 rfl rfl ?_)))))));clear H;intro a H;refine s_add _ H wn rfl rfl rfl (by omega) (by omega) rfl ?_;clear H;intro a H;refine s_build sr136doc [_,_,_] H wn rfl rfl rfl rfl ?_;clear H;intro a H;refine s_callL en199itm (Li:=[_,_]) (L:=ckB b ms ml mr mb mu s1.n :: (mb,mpK (mSet s1.bef)) :: L) H wn rfl (rows_ok ih hm _ _ _ st li rv b ms ml mr mb mu s1 x.rows _ note (t+1) hck (Hp.owns (Li:=[_,_]) H.hp) hr (by omega) (by omega) (by have:=ht7 p105;omega) (by omega) (by omega)) rfl ?_;clear H;rintro v116 _ _ a w ⟨s3,rfl,rfl,h3⟩ - H;dsimp only [List.cons_append,List.nil_append] at H
  have hF1:(itemC (ckP st li rv) body note t x s).1=(rowsC0 x.rows.length (fun s=>rowsC (ckP st li rv) note (t+1) x.rows s) s1).1:=by rw [hE]
  have hF2:(itemC (ckP st li rv) body note t x s).1=0→s3=(itemC (ckP st li rv) body note t x s).2:=by rw [hE];exact h3
  refine kH H (Ra rfl ?_);clear H;intro a H;refine K40 _ _ ?_;clear K40;refine c_ret ?_;refine lv H Tryz.results140 rfl ?_;exact H.hp.retD (L':=ckB b ms ml mr mb mu (s3.n) :: (mb,mpK (mSet (s3.bef))) :: L) (by repeat (first|exact List.Sublist.refl _|apply List.Sublist.cons)) ⟨s3,congrArg vi hF1.symm,rfl,hF2⟩
 intro h105
 try have p105:=of_decide_eq_false h105
 rw [if_neg p105] at hE
 have hF1:(itemC (ckP st li rv) body note t x s).1=0:=by rw [hE]
 have hF2:(itemC (ckP st li rv) body note t x s).1=0→s1=(itemC (ckP st li rv) body note t x s).2:=fun h=>by rw [hE]
 refine c_skip ?_;refine K35 _ _ ?_;clear K35;refine c_seqR (fun _ K41=>?_);refine kH H (Ra rfl ?_);clear H;intro a H;refine K41 _ _ ?_;clear K41;refine c_ret ?_;refine lv H Tryz.results140 rfl ?_;exact H.hp.retD (L':=ckB b ms ml mr mb mu (s1.n) :: (mb,mpK (mSet (s1.bef))) :: L) (by repeat (first|exact List.Sublist.refl _|apply List.Sublist.cons)) ⟨s1,congrArg vi hF1.symm,rfl,hF2⟩
end
section
open Go.RowKit
theorem en140its:∀ args w,(callFunc 140 args).run Tryz.prog w=.ok (.enter 140 args) w:=enters Tryz.func140 rfl (by kernel_rfl)
theorem en139its:∀ args w,(callFunc 139 args).run Tryz.prog w=.ok (.enter 139 args) w:=enters Tryz.func139 rfl (by kernel_rfl)
/-- A function of an index that gives an error and turns blocks: ahead of the call at i they are B i. -/
def IxL (fv:Value) (Gi:GH) (n:Nat) (E:Nat→Int) {σ:Type} (B:σ→OL) (S:Nat→σ):Prop:=∀ i,i < n→∀ (G1:GH) (w1:World),(∀ b o,Gi b=some o→G1 b=some o)→Owns G1 (B (S i)) w1 →
 CallV Tryz.prog fv [vi i] w1 (RetL w1 G1 (B (S i)) fun u G' L'=>∃ s,u=vi (E i)∧L'=B s∧(E i=0→s=S (i+1)))
theorem allL_spec (G:GH) (w0:World) {σ:Type} (B:σ→OL) (S:Nat→σ) (n:Nat) (E:Nat→Int) (fv:Value) (hO:Owns G (B (S 0)) w0) (hn:n≤4611686018427387904) (hf:IxL fv G n E B S) :
  Calls Tryz.prog 119 #[vi n,fv] w0 (RetL w0 G (B (S 0)) fun u G' L'=>∃ s,u=vi (allE E n)∧L'=B s∧(allE E n=0→s=S n)):=by
 refine enterL (N:=18) (T:=[(0,_),(1,_)]) Tryz.func119 rfl Tryz.ntmps119 rfl rfl hO ?_;intro a H;refine c_seqR (fun _ K1=>?_);refine kH H (Ra rfl ?_);clear H;intro a H;refine K1 _ _ ?_;clear K1;refine c_seq (fun _ K2=>?_);refine c_seqR (fun _ K3=>?_);refine kH H (Rm rfl (Rm rfl ?_));clear H;intro a H;refine K3 _ _ ?_;clear K3;refine c_block ?_;skip;refine c_loopS (ι:=Nat × GH) (Tc:=[(1,_),(7,_)]) (Lc:=[]) (fun (gh:Nat × GH)=>[(8,vi gh.1)]) (fun (gh:Nat × GH)=>[]++B (S gh.1)) (fun (gh:Nat × GH)=>gh.2) (fun (gh:Nat × GH)=>gh.1≤n∧firstE (((List.range n).map E).drop gh.1)=allE E n∧(∀ b o,G b=some o→gh.2 b=some o)) (fun (gh:Nat × GH)=>n - gh.1) ((0,G)) (by exact (H).sub ⟨rfl,rfl,rfl,trivial⟩) ?_ ?_
 ·exact ⟨Nat.zero_le _,rfl,fun _ _ h=>h⟩
 clear H;intro gh a w hI H;obtain ⟨k,g⟩:=gh;dsimp only at hI H;obtain ⟨hk,he,hgm⟩:=hI;dsimp only [List.cons_append,List.nil_append,List.append_nil] at H;refine c_seqR (fun _ K4=>?_);refine kH H (Rc rfl ?_);clear H;intro a H;refine K4 _ _ ?_;clear K4;refine c_seq (fun _ K5=>?_);refine c_cond H rfl ?_ ?_
 ·intro h9
  try have p9:=of_decide_eq_true h9
  have hk2:k < n:=by omega
  refine c_skip ?_;refine K5 _ _ ?_;clear K5;refine c_seq (fun _ K6=>?_);refine c_block ?_;refine c_seqR (fun _ K7=>?_);refine kH H (Rm rfl (Ra rfl ?_));clear H;intro a H;refine K7 _ _ ?_;clear K7;refine c_seqR (fun _ K8=>?_);refine kH H (Rm rfl (Rm rfl ?_));clear H;intro a H;refine s_callv (Li:=[]) (L:=B (S k)) H wn rfl rfl (hf k hk2 _ _ hgm (Hp.owns (Li:=[]) H.hp)) rfl ?_;clear H;rintro v13 G13 L13 a w ⟨s3,rfl,rfl,h3⟩ hm13 H;refine kH H (Ra rfl ?_);clear H;intro a H;refine K8 _ _ ?_;clear K8;refine c_seqR (fun _ K9=>?_);refine kH H (Rm rfl (Rc rfl ?_));clear H;intro a H;refine K9 _ _ ?_;clear K9;refine c_cond H rfl ?_ ?_
  ·intro h15
   try have p15:=of_decide_eq_true h15
   have hE:allE E n=E k:=by rw [allE_at hk2,if_pos p15] at he;exact he.symm
   refine c_seqR (fun _ K10=>?_);refine kH H (Rm rfl (Ra rfl ?_));clear H;intro a H;refine K10 _ _ ?_;clear K10;refine c_ret ?_;refine lv H Tryz.results119 rfl ?_;exact H.hp.retL ⟨s3,by rw [hE],rfl,fun h=>absurd (hE.symm.trans h) p15⟩
  intro h15
  try have p15:=of_decide_eq_false h15
  have hS:=h3 (Decidable.not_not.1 p15);subst hS;refine c_skip ?_;refine K6 _ _ ?_;clear K6;refine c_region ?_;refine s_add _ H wn rfl rfl rfl (by omega) (by omega) rfl ?_;clear H;intro a H;refine kH H (Rm rfl ?_);clear H;intro a H;refine wl_nil ?_;refine loop_end ((k+1,G13)) (by exact (H).sub ⟨rfl,rfl,rfl,trivial⟩) ?_ ?_
  ·(try dsimp only);exact ⟨by omega,by rw [allE_at hk2,if_neg p15] at he;exact he,fun b o h=>hm13 b o (hgm b o h)⟩
  first|omega|(dsimp only;omega)
 intro h9
 try have p9:=of_decide_eq_false h9
 refine c_exit ?_;refine K2 _ _ ?_;clear K2;refine c_seqR (fun _ K11=>?_);refine kH H (Ra rfl ?_);clear H;intro a H;refine K11 _ _ ?_;clear K11;refine c_ret ?_;refine lv H Tryz.results119 rfl ?_;exact H.hp.retL ⟨S n,congrArg vi (by rw [List.drop_of_length_le (by simp;omega)] at he;exact he),by rw [show k=n by omega],fun _=>rfl⟩
abbrev ckS (b ms ml mr mb mu:Nat) (L:OL) (s:CS):OL:=ckB b ms ml mr mb mu s.n :: (mb,mpK (mSet s.bef)) :: L
theorem item_cb {m:Nat} (ih:ItemsOk m) (hm:m≤4294967296) {G:GH} {L:OL} {st:List StyleD} {li:List LiD} {rv:List RvD} {b ms ml mr mb mu:Nat} {s:CS} {l:List ItemD} {v:Value} {body note:Bool} {t:Int} {x3 x4 x5:Nat}
  (hck:CkG G st li rv ms ml mr mu) (h3:gcell G x3 0=some (.pointer (some ⟨b,0,none⟩))) (h4:gcell G x4 0=some v) (h5:∀ (j:Nat) (u:Value),[.bool body,.bool note,vi t][j]?=some u→gcell G x5 (0+j)=some u)
  (hv:RepV G (.sl 11 (l.map ItemD.dat)) v) (hz:zItems l≤m) (ht0:0≤t) (ht4:t≤4) (hs0:0≤s.n) (hs1:s.n+(zItems l:Nat)≤1099511627776) :
  IxL (.func (.func 139) #[] #[.pointer (some ⟨x3,0,none⟩),.pointer (some ⟨x4,0,none⟩),.pointer (some ⟨x5,0,none⟩)]) G l.length (erC (itemC (ckP st li rv) body note t) l s) (ckS b ms ml mr mb mu L) (stC (itemC (ckP st li rv) body note t) l s):=by
 intro k hk G1 w0 hmG hO;refine callV_func (caps:=[.pointer (some ⟨x3,0,none⟩),.pointer (some ⟨x4,0,none⟩),.pointer (some ⟨x5,0,none⟩)]) en139its ?_;replace h3:=gcell_mono hmG h3;replace h4:=gcell_mono hmG h4;replace h5:=fun j u hj=>gcell_mono hmG (h5 j u hj);replace hck:=hck.mono hmG;replace hv:=hv.mono hmG;obtain ⟨A,c,rfl,hc1,hc2,hg⟩:=hv.slice;rw [List.length_map] at *;obtain ⟨o,xo,pA,pn,pc,dA,dn,dc,yA,yn,yc,fA,fn,fc,rA,rn,rc,rfl,hrow,hhd,hfl,hrw⟩:=flow_get hk hg;obtain ⟨hn0,hn1⟩:=up_st (ckP st li rv) body note t l s k (by omega)
 have hdz:zItems (l.drop k)=1+szR l[k].dat+zItems (l.drop (k+1)):=by
  simp only [zItems];rw [List.drop_eq_getElem_cons hk,List.map_cons,szRs]
 have hzm:=zItems_mem (List.getElem_mem hk)
 have hE:erC (itemC (ckP st li rv) body note t) l s k=(itemC (ckP st li rv) body note t l[k] (stC (itemC (ckP st li rv) body note t) l s k)).1:=by unfold erC;rw [List.getElem?_eq_getElem hk]
 have hS:stC (itemC (ckP st li rv) body note t) l s (k+1)=(itemC (ckP st li rv) body note t l[k] (stC (itemC (ckP st li rv) body note t) l s k)).2:=by rw [stC,List.getElem?_eq_getElem hk]
 rw [hE,hS]
 generalize stC (itemC (ckP st li rv) body note t) l s k=s1 at *
 refine enterL (N:=13) (T:=[(0,_),(1,_),(2,_),(3,_)]) Tryz.func139 rfl Tryz.ntmps139 rfl rfl hO ?_;intro a H;refine c_seqR (fun _ K1=>?_);refine kH H (Ra rfl ?_);clear H;intro a H;refine K1 _ _ ?_;clear K1;refine c_seq (fun _ K2=>?_);refine c_drawI (hmx) [[],[],[],[1,2],[1,2,3],[],[0,1,2,3,4,5],(List.range 7)] [6,7] (by kernel_rfl) (by kernel_rfl) (fun (ix_:Nat) (v:Value) (G:GH)=>match ix_ with|0=>v=.pointer (some ⟨b,0,none⟩)|1=>v=.slice (some ⟨o,xo,none⟩) l.length c|2=>v=vi k|3=>v=.pointer (some ⟨o,xo+k*11,none⟩)|4=>v=.agg #[vi l[k].kind,vi l[k].code,vi l[k].id,.string l[k].text,.slice pA pn pc,vi l[k].head.marks.ins,vi l[k].head.marks.move,.slice dA dn dc,.slice yA yn yc,.slice fA fn fc,.slice rA rn rc]|5=>v=.agg #[.bool body,.bool note,vi t]|_=>True) (fun _ _ _ _ _ h=>h) H ?_ ?_
 ·clear H;refine al4 ?_ ?_ ?_ ?_ (al4 ?_ ?_ ?_ ?_ allI_nil)
  ·refine Op0 rfl fun _ a w G1 hG HT H fin=>?_;refine s_load ty130hea H wn rfl (H.hp.gcell (gcell_mono hG h3)) rfl ?_;clear H;intro a H;exact fin H iJ rfl
  ·refine Op0 rfl fun _ a w G1 hG HT H fin=>?_;refine s_load ty32run H wn rfl (H.hp.gcell (gcell_mono hG h4)) rfl ?_;clear H;intro a H;exact fin H iJ rfl
  ·exact Op0 rfl fun _ _ _ _ _ _ H fin=>kH H (Rm rfl fun _ H=>fin H iJ rfl)
  ·refine Op2 1 7 2 8 rfl rfl fun _ a w G1 hG HT H fin=>?_;refine s_index un32run ty35run _ H wn rfl rfl rfl (by first|assumption|omega) rfl ?_;clear H;intro a H;exact fin H iJ rfl
  ·refine Op1 3 9 rfl rfl fun _ a w G1 hG HT H fin=>?_;refine s_loada ty35run (cs:=[_,_,_,_,_,_,_,_,_,_,_]) H wn rfl rfl (fun j v hj=>H.hp.gcell (gcell_mono hG (hrow j v hj))) rfl ?_;clear H;intro a H;exact fin H iJ rfl
  ·refine Op0 rfl fun _ a w G1 hG HT H fin=>?_;refine s_loada ty136doc (cs:=[.bool body,.bool note,vi t]) H wn rfl rfl (fun j v hj=>H.hp.gcell (gcell_mono hG (h5 j v hj))) rfl ?_;clear H;intro a H;exact fin H iJ rfl
  ·exact opB rfl
  exact opB rfl
 clear H;intro a w G hGm1 H hv;obtain ⟨u6,hu6,hp6⟩:=hv 0 6 (by decide) rfl;obtain rfl:u6=.pointer (some ⟨b,0,none⟩):=hp6;have H:=H.addS hu6;obtain ⟨u10,hu10,hp10⟩:=hv 4 10 (by decide) rfl;obtain rfl:u10=.agg #[vi l[k].kind,vi l[k].code,vi l[k].id,.string l[k].text,.slice pA pn pc,vi l[k].head.marks.ins,vi l[k].head.marks.move,.slice dA dn dc,.slice yA yn yc,.slice fA fn fc,.slice rA rn rc]:=hp10;have H:=H.addS hu10;obtain ⟨u11,hu11,hp11⟩:=hv 5 11 (by decide) rfl;obtain rfl:u11=.agg #[.bool body,.bool note,vi t]:=hp11;have H:=H.addS hu11;clear hv;refine s_callL en140its (Li:=[]) (L:=ckS b ms ml mr mb mu L s1) H wn rfl (item_ok ih hm _ _ _ st li rv b ms ml mr mb mu s1 l[k] _ _ _ _ _ body note t (hck.mono hGm1) (Hp.owns (Li:=[]) H.hp) (hhd.mono hGm1) (hfl.mono hGm1) (hrw.mono hGm1) (by omega) ht0 ht4 (by omega) (by omega)) rfl ?_;clear H;rintro v12 _ _ a w ⟨s3,rfl,rfl,h12⟩ - H;dsimp only [List.nil_append] at H;refine kH H (Ra rfl ?_);clear H;intro a H;refine wl_nil ⟨rfl,?_⟩;refine K2 _ _ ?_;clear K2;refine c_ret ?_;refine lv H Tryz.results139 rfl ?_;exact H.hp.retL ⟨s3,rfl,rfl,h12⟩
theorem items_step {m:Nat} (ih:ItemsOk m) (hm:m≤4294967296):ItemsOk (m+1):=by
 intro G L w0 st li rv b ms ml mr mb mu s l v body note t hck hO hv hz ht0 ht4 hs0 hs1;obtain ⟨hA1,hA2⟩:=items_all (ckP st li rv) body note t l s;refine Calls.backL (R:=fun u G' L'=>CkR b ms ml mr mb mu L (itemsC (ckP st li rv) body note t l s) u L') ?_ fun _ _ _ h=>h;obtain ⟨A,c,rfl,hc1,hc2,-⟩:=hv.slice;rw [List.length_map] at *;have hll:=zItems_length l;refine enterL (N:=11) (T:=[(0,_),(1,_),(2,_)]) Tryz.func66 rfl Tryz.ntmps66 rfl rfl hO ?_;intro a H;refine c_seqR (fun _ K1=>?_);refine s_box (cs:=[_]) H wn rfl rfl rfl ?_;clear H;intro b3 a w hb3 H;refine s_box (cs:=[_]) H wn rfl rfl rfl ?_;clear H;intro b4 a w hb4 H;refine s_box (cs:=[_,_,_]) H wn rfl rfl rfl ?_;clear H;intro b5 a w hb5 H;refine kH H (Ra rfl ?_);clear H;intro a H;refine K1 _ _ ?_;clear K1;refine c_seq (fun _ K2=>?_);obtain ⟨Ga5,hma5,hb5',H⟩:=H.giveBox;obtain ⟨Ga4,hma4,hb4',H⟩:=H.giveBox;obtain ⟨Ga,hma3,hb3',H⟩:=H.giveBox;replace hb5':=hma3 _ _ (hma4 _ _ hb5');replace hb4':=hma3 _ _ hb4';have hma:∀ b o,G b=some o→Ga b=some o:=fun b o h=>hma3 _ _ (hma4 _ _ (hma5 _ _ h))
 have g3:gcell Ga b3 0=some (.pointer (some ⟨b,0,none⟩)):=by unfold gcell;rw [hb3'];rfl
 have g4:gcell Ga b4 0=some (.slice A l.length c):=by unfold gcell;rw [hb4'];rfl
 have g5:∀ (j:Nat) (u:Value),[.bool body,.bool note,vi t][j]?=some u→gcell Ga b5 (0+j)=some u:=by
  intro j u hj;unfold gcell;rw [hb5'];simpa using hj
 have hcb:=item_cb (mb:=mb) (L:=L) (s:=s) ih hm (hck.mono hma) g3 g4 g5 (hv.mono hma) (by omega) ht0 ht4 hs0 hs1;refine c_region ?_;refine s_load ty32run H wn rfl (H.hp.gcell (by assumption)) rfl ?_;clear H;intro a H;refine kH H (Rl un32run rfl ?_);clear H;intro a H;refine s_makeFunc H wn rfl rfl ?_;clear H;intro a H;refine s_callL en119dst (Li:=[]) (L:=ckS b ms ml mr mb mu L s) H wn rfl (allL_spec _ _ (ckS b ms ml mr mb mu L) (stC (itemC (ckP st li rv) body note t) l s) l.length (erC (itemC (ckP st li rv) body note t) l s) _ (Hp.owns (Li:=[]) H.hp) (by omega) hcb) rfl ?_;clear H;rintro v10 _ _ a w ⟨s3,rfl,rfl,h10⟩ - H;dsimp only [List.nil_append] at H;refine kH H (Ra rfl ?_);clear H;intro a H;refine wl_nil ?_;refine K2 _ _ ?_;clear K2;refine c_ret ?_;refine lv H Tryz.results66 rfl ?_;exact H.hp.retL ⟨s3,by rw [hA1],rfl,fun h=>by rw [hA1] at h;exact (h10 h).trans (hA2 (hA1.trans h)).symm⟩
theorem items_ok:∀ m:Nat,m≤4294967297→ItemsOk m
 | 0,_=>fun _ _ _ _ _ _ _ _ _ _ _ _ _ _ _ _ _ _ _ _ _ h=>absurd h (by omega)
 | m+1,hm=>items_step (items_ok m (by omega)) (by omega)
end
end Go.Proofs.YtlnhhlighgaapaaGreat
