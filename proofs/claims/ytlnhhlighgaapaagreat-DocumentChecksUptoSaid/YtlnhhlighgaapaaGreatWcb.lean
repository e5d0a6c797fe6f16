/-
  What the claim stands on, part 2: Package document: the flows of a document. Package document: Flow; package position: length, CheckRange, Check. Equality of values that are made of ints. Package position: Index and Of. Package paragraph: the blocks of a flow. Package run: items. Package run: divide, where no item is cut. Package document: notes and tables with their positions. Package document: Place. Halving: the least place at which a test holds; the place of a number in a list. Remainders, fields of struct values, ranges over strings, runes. Package property: the table of keys; halving. Package run: EqualHead; slices.Equal of properties, deletions, layers. Maps that a call owns. make of slices, max of three. The builtin clear; rows of a call's own that are read. Rows that a call builds: their cells, one at a time. Package run: Normal of at most one item that has neither rows nor a flow. Package paragraph: Blocks, At. The model of layer 14: at. The model of layer 14: sameBlocks. The model of layer 14: kinds. The model of layer 14: blocks, and what it gives. The model's blocks are the blocks; they tile the flow. Packages run and paragraph: check, Slice, parts. Package strings: the builder, as run.Text uses it. Package property: find, Group, Fits, CheckValue, Get. Package property: find, Group, groups, Fits, CheckValue, Get. Package property: Check, Get, Clone. Package document: in, when, first, all, increasing. Packages codepoint, document and obeluslaw13: names, authors, texts, ids. Pointers that may be nil. Regions that draw the order of their operations, in which each operation has its own part of what is owned: the layout is told by what is done. Regions that draw the order of their operations, in which one operation among the others makes what is owned more. Drawn regions in which one operation makes what is owned more, and others look into what is owned. Drawn regions in which one operation, not the last, stores into what is owned. Package leveltext: the scanner's builder. Drawn regions in which two operations make what is owned more.
-/
import Derived.Test.YtlnhhlighgaapaaGreatWca
import Derived.Laws.StructEq
import Derived.ChangeKeysEq
import Derived.Lib.OthersKept
import Derived.Laws.IdiomStrings
import Derived.Laws.Cover4
import Derived.Laws.Slices
import Derived.Laws.Strings2
import Derived.MapKept
import Derived.Laws.MakeOwn
namespace Go.Proofs.YtlnhhlighgaapaaGreat
section
open Go.RowKit
theorem en204doc:∀ args w,(callFunc 204 args).run Tryz.prog w=.ok (.enter 204 args) w:=enters Tryz.func204 rfl (by kernel_rfl)
theorem ty136doc:Ty Tryz.prog 136 3 16 [.bool false,.bool false,.int .i64 0] true:=⟨by kernel_rfl,by kernel_rfl⟩
theorem sr166doc:Srt Tryz.prog 166 [(0,1),(1,3)] [.slice none 0 0,.bool false,.bool false,.int .i64 0]:=⟨by kernel_rfl,by kernel_rfl⟩
theorem fd35_2doc:Fld Tryz.prog 35 2 2:=⟨by kernel_rfl⟩
theorem fd136_2doc:Fld Tryz.prog 136 2 2:=⟨by kernel_rfl⟩
theorem sr136doc:Srt Tryz.prog 136 [(0,1),(1,1),(2,1)] [.bool false,.bool false,.int .i64 0]:=⟨by kernel_rfl,by kernel_rfl⟩
theorem fd136_1doc:Fld Tryz.prog 136 1 1:=⟨by kernel_rfl⟩
theorem ty4doc:Ty Tryz.prog 4 1 1 [.bool false] false:=⟨by kernel_rfl,by kernel_rfl⟩
theorem fd50_0doc:Fld Tryz.prog 50 0 0:=⟨by kernel_rfl⟩
theorem en160doc:∀ args w,(callFunc 160 args).run Tryz.prog w=.ok (.enter 160 args) w:=enters Tryz.func160 rfl (by kernel_rfl)
theorem en203doc:∀ args w,(callFunc 203 args).run Tryz.prog w=.ok (.enter 203 args) w:=enters Tryz.func203 rfl (by kernel_rfl)
/-- A flow and its place. -/
structure FlowD where
 id:Int
 items:List ItemD
 body:Bool
 note:Bool
 tables:Int
mutual
def wItem (note:Bool) (t:Int):ItemD→List FlowD
 | .mk k _ i _ _ f r=>if k=6 then ⟨i,f,false,true,t⟩ :: wItems true t f else if k=7 then wRows note t r else []
def wItems (note:Bool) (t:Int):List ItemD→List FlowD
 | []=>[]
 | x :: l=>wItem note t x++wItems note t l
def wRows (note:Bool) (t:Int):List RowD→List FlowD
 | []=>[]
 | r :: l=>wRow note t r++wRows note t l
def wRow (note:Bool) (t:Int):RowD→List FlowD
 | .mk _ cs=>wCells note t cs
def wCells (note:Bool) (t:Int):List CellD→List FlowD
 | []=>[]
 | c :: l=>wCell note t c++wCells note t l
def wCell (note:Bool) (t:Int):CellD→List FlowD
 | .mk i _ f=>⟨i,f,false,note,t+1⟩ :: wItems note (t+1) f
end
theorem wItem_eq (note:Bool) (t:Int) (x:ItemD):wItem note t x=if x.kind=6 then ⟨x.id,x.flow,false,true,t⟩ :: wItems true t x.flow else if x.kind=7 then wRows note t x.rows else []:=by cases x;rw [wItem];rfl
theorem wRow_eq (note:Bool) (t:Int) (x:RowD):wRow note t x=wCells note t x.cells:=by cases x;rw [wRow];rfl
theorem wCell_eq (note:Bool) (t:Int) (x:CellD):wCell note t x=⟨x.id,x.flow,false,note,t+1⟩ :: wItems note (t+1) x.flow:=by cases x;rw [wCell];rfl
/-- What is called at a flow. -/
def flP (a:FlowD):AP:=fun args g=>∃ v,args=[vi a.id,.agg #[v,.bool a.body,.bool a.note,vi a.tables]]∧RepV g (.sl 11 (a.items.map ItemD.dat)) v
def WalkOk (n:Nat):Prop:=∀ (fv:Value) (Gi:GH) (xs:List AP) (J:Nat→GH→OL→Prop) (Jx:GH→OL→Prop) (G:GH) (L:OL) (w0:World) (j:Nat) (l:List ItemD) (id:Int) (body note:Bool) (t:Int) (v:Value),
 (∀ b o,Gi b=some o→G b=some o)→Cback Tryz.prog fv Gi xs J Jx→JMono J→XMono Jx→J j G L→Owns G L w0→RepV G (.sl 11 (l.map ItemD.dat)) v→zItems l < n→0≤t→t+zItems l≤4294967296→(∀ i a,(⟨id,l,body,note,t⟩ :: wItems note t l)[i]?=some a→xs[j+i]?=some (flP a)) →
 Calls Tryz.prog 204 #[vi id,v,.agg #[.bool body,.bool note,vi t],fv] w0 (RetL w0 G L fun u G' L'=>∃ b,u=.bool b∧(b=true→J (j+((wItems note t l).length+1)) G' L')∧(b=false→Jx G' L'))
set_option maxHeartbeats 1000000 in
theorem walk_step {n:Nat} (ih:WalkOk n) (hn:n≤4294967296):WalkOk (n+1):=by
 intro fv Gi xs J Jx G L w0 j0 l id body note t v hGi hcb hJm hJx hJ0 hO hv hz ht0 ht1 hx0;obtain ⟨A,c,rfl,hc1,hc2,hg⟩:=hv.slice;rw [List.length_map] at *;have hll:=zItems_length l;have hnow0:Now xs flP J (j0+((wItems note t l).length+1)) j0 (⟨id,l,body,note,t⟩ :: wItems note t l) G L:=⟨hJ0,hx0,rfl⟩;refine enterL (N:=74) (T:=[(0,_),(1,_),(2,_),(3,_)]) Tryz.func204 rfl Tryz.ntmps204 rfl rfl hO ?_;intro a H;refine c_seqR (fun _ K1=>?_);refine s_box (cs:=[_,_,_]) H wn rfl rfl rfl ?_;clear H;intro b6 a w hb6 H;refine kH H (Ra rfl (Kz K1 (SQ fun _ K2=>SR fun _ K3=>Rm rfl (Rm rfl (Rm rfl ?_)))));clear H K1;intro a H;refine s_loada ty136doc (cs:=[_,_,_]) H wn rfl rfl (H.hp.ocells 0 rfl rfl) rfl ?_;clear H;intro a H;refine s_build sr166doc [_,_,_,_] H wn rfl rfl rfl rfl ?_;clear H;intro a H;refine s_callv (Li:=[_]) (L:=L) H wn rfl rfl (hcb _ _ _ _ _ ⟨_,hnow0.head,_,rfl,hv⟩ hGi hnow0.now (Hp.owns (Li:=[_]) H.hp)) rfl ?_;clear H;rintro v20 G20 Lt20 a w ⟨b20,rfl,hb1,hb2⟩ hm20 H;refine kH H (Rn rfl (Kz K3 ?_));clear H K3;intro a H;refine c_cond H rfl ?_ ?_
 ·intro h21
  try have p21:=dT h21
  refine kP H (SR fun _ K4=>Ra rfl (Kz K4 ?_));clear H K4;intro a H;refine lr H Tryz.results204 rfl ?_
  first
   | exact H.hp.retD (L':=Lt20) (by repeat (first|exact List.Sublist.refl _|apply List.Sublist.cons)) ⟨_,rfl,fun e=>(by cases e),fun _=>hb2 (by simpa using h21)⟩
   | exact H.hp.retD (L':=Lt40) (by repeat (first|exact List.Sublist.refl _|apply List.Sublist.cons)) ⟨_,rfl,fun e=>(by cases e),fun _=>hb4 (by simpa using h41)⟩
   | exact H.hp.retD (L':=Lt69) (by repeat (first|exact List.Sublist.refl _|apply List.Sublist.cons)) ⟨_,rfl,fun e=>(by cases e),fun _=>hb6 (by simpa using h70)⟩
   | exact H.hp.retD (L':=Lt) (by repeat (first|exact List.Sublist.refl _|apply List.Sublist.cons)) ⟨_,rfl,fun _=>(by rw [List.drop_of_length_le (by omega),wItems] at hnow;have:=hnow.len;simp only [List.length_nil,Nat.add_zero] at this;rw [← this];exact hnow.now),fun e=>(by cases e)⟩
 intro h21
 try have p21:=dF h21
 refine kP H (Kc K2 (SQ fun _ K5=>SR fun _ K6=>Rm rfl (Rl un32run rfl (Rm rfl (Kz K6 (SB ?_))))));clear H K2 K6;intro a H;skip;refine c_loopS (ι:=Nat × Nat × OL × GH) (Tc:=[(3,_),(6,_),(22,_),(23,_)]) (Lc:=[(_,_)]) (fun (gh:Nat × Nat × OL × GH)=>[(24,vi gh.1)]) (fun (gh:Nat × Nat × OL × GH)=>[]++gh.2.2.1) (fun (gh:Nat × Nat × OL × GH)=>gh.2.2.2) (fun (gh:Nat × Nat × OL × GH)=>gh.1≤l.length∧(∀ b o,G b=some o→gh.2.2.2 b=some o)∧Now xs flP J (j0+((wItems note t l).length+1)) gh.2.1 (wItems note t (l.drop gh.1)) gh.2.2.2 gh.2.2.1) (fun (gh:Nat × Nat × OL × GH)=>l.length - gh.1) ((0,j0+1,Lt20,G20)) (by exact (H).sub ⟨rfl,rfl,rfl,rfl,rfl,trivial⟩) ?_ ?_
 ·exact ⟨by omega,hm20,hnow0.step (hb1 (by simpa using h21))⟩
 clear H;intro gh a w hI H;obtain ⟨k,j1,Lt,g⟩:=gh;dsimp only at hI H;obtain ⟨hk,hgm,hnow⟩:=hI;dsimp only [List.cons_append,List.nil_append,List.append_nil] at H;refine kP H (SR fun _ K7=>Rc rfl (Kz K7 (SQ fun _ K8=>?_)));clear H K7;intro a H;refine c_cond H rfl ?_ ?_
 ·intro h25
  try have p25:=dT h25
  have hk2:k < l.length:=by omega
  obtain ⟨b,o,pA,pn,pc,dA,dn,dc,yA,yn,yc,fA,fn,fc,rA,rn,rc,rfl,hrow,hhd,hfl,hrw⟩:=flow_get hk2 hg;replace hrow:=fun j u hj=>gcell_mono hgm (hrow j u hj);have hrn:=hrw.len;rw [List.length_map] at hrn;subst hrn;have hrs:=zRows_length l[k].rows;have hsz1:=zItems_get hk2;rw [List.drop_eq_getElem_cons hk2] at hnow
  simp only [wItems,wItem_eq] at hnow
  refine kP H (Kc K8 (SQ fun _ K9=>SB (SR fun _ K10=>Ri un32run ty35run rfl rfl ?_)));clear H K8;intro a H;refine s_loada ty35run (cs:=[_,_,_,_,_,_,_,_,_,_,_]) H wn rfl rfl (fun j v hj=>H.hp.gcell (hrow j v hj)) rfl ?_;clear H;intro a H;refine s_alloc ty35run H wn rfl ?_;clear H;intro b10 a w hb10 H;refine s_store ty35run 0 (vs:=[_,_,_,_,_,_,_,_,_,_,_]) _ H wn rfl rfl rfl rfl rfl rfl rfl rfl ?_;clear H;intro w H;dsimp only [List.set,setRow] at H;refine K10 _ _ ?_;clear K10;refine kP H (SR fun _ K11=>Rf fd35_0run rfl (Ro ty3run 0 rfl rfl (Kz K11 (SB (SR fun _ K12=>Rc rfl (Ra rfl (Kz K12 ?_)))))));clear H K11 K12;intro a H;refine c_cond H rfl ?_ ?_
  ·intro h30
   try have p30:=dT h30
   rw [if_pos p30] at hnow;refine kP H (SR fun _ K13=>Rf fd35_2doc rfl (Ro ty3run 0 rfl rfl (Rf fd35_5run rfl (Ro ty32run 0 rfl rfl (Rf fd136_2doc rfl (Ro ty3run 1 rfl rfl ?_))))));clear H;intro a H;refine s_build sr136doc [_,_,_] H wn rfl rfl rfl rfl ?_;clear H;intro a H;refine kH H (Rm rfl ?_);clear H;intro a H;refine s_callL en204doc (Li:=[_,_]) (L:=Lt) H wn rfl (ih fv Gi xs J Jx _ _ _ j1 l[k].flow l[k].id false true t _ (fun b o h=>hgm b o (hGi b o h)) hcb hJm hJx hnow.now (Hp.owns (Li:=[_,_]) H.hp) (hfl.mono hgm) (by omega) ht0 (by omega) hnow.part) rfl ?_;clear H;rintro v40 G40 Lt40 a w ⟨b40,rfl,hb3,hb4⟩ hm40 H;refine kH H (Rn rfl (Kz K13 ?_));clear H K13;intro a H;refine c_cond H rfl ?_ ?_
   ·intro h41
    try have p41:=dT h41
    refine kP H (SR fun _ K14=>Ra rfl (Kz K14 ?_));clear H K14;intro a H;refine lr H Tryz.results204 rfl ?_
    first
     | exact H.hp.retD (L':=Lt20) (by repeat (first|exact List.Sublist.refl _|apply List.Sublist.cons)) ⟨_,rfl,fun e=>(by cases e),fun _=>hb2 (by simpa using h21)⟩
     | exact H.hp.retD (L':=Lt40) (by repeat (first|exact List.Sublist.refl _|apply List.Sublist.cons)) ⟨_,rfl,fun e=>(by cases e),fun _=>hb4 (by simpa using h41)⟩
     | exact H.hp.retD (L':=Lt69) (by repeat (first|exact List.Sublist.refl _|apply List.Sublist.cons)) ⟨_,rfl,fun e=>(by cases e),fun _=>hb6 (by simpa using h70)⟩
     | exact H.hp.retD (L':=Lt) (by repeat (first|exact List.Sublist.refl _|apply List.Sublist.cons)) ⟨_,rfl,fun _=>(by rw [List.drop_of_length_le (by omega),wItems] at hnow;have:=hnow.len;simp only [List.length_nil,Nat.add_zero] at this;rw [← this];exact hnow.now),fun e=>(by cases e)⟩
   intro h41
   try have p41:=dF h41
   refine kP H (Kc K9 (SC (Rd rfl (Rm rfl ?_))));clear H K9;intro a H;refine wl_nil ?_;refine loop_end ((k+1,j1+((wItems true t l[k].flow).length+1),Lt40,G40)) (by exact (H.pickT (Pl:=[_,_]) (Pl':=[_]) [1] (by decide) rfl).sub ⟨rfl,rfl,rfl,rfl,rfl,trivial⟩) ?_ ?_
   ·(try dsimp only);exact ⟨by omega,fun b o h=>hm40 b o (hgm b o h),hnow.jump (hb3 (by simpa using h41))⟩
   first|omega|(dsimp only;omega)
  intro h30
  try have p30:=dF h30
  refine kP H (SR fun _ K15=>Rc rfl (Ra rfl (Kz K15 ?_)));clear H K15;intro a H;refine c_cond H rfl ?_ ?_
  ·intro h42
   try have p42:=dT h42
   rw [if_neg p30,if_pos p42] at hnow;refine kP H (SR fun _ K16=>Rf fd35_6run rfl (Ro ty33run 0 rfl rfl (Rl un33run rfl (Rm rfl (Kz K16 (SB ?_))))));clear H K16;intro a H;skip;refine c_loopS (ι:=Nat × Nat × OL × GH) (Tc:=[(3,_),(6,_),(22,_),(23,_),(24,_),(45,_),(46,_)]) (Lc:=[(_,_),(_,_)]) (fun (gh:Nat × Nat × OL × GH)=>[(47,vi gh.1)]) (fun (gh:Nat × Nat × OL × GH)=>[]++gh.2.2.1) (fun (gh:Nat × Nat × OL × GH)=>gh.2.2.2) (fun (gh:Nat × Nat × OL × GH)=>gh.1≤l[k].rows.length∧(∀ b o,G b=some o→gh.2.2.2 b=some o)∧Now xs flP J (j0+((wItems note t l).length+1)) gh.2.1 (wRows note t (l[k].rows.drop gh.1)++wItems note t (l.drop (k+1))) gh.2.2.2 gh.2.2.1) (fun (gh:Nat × Nat × OL × GH)=>l[k].rows.length - gh.1) ((0,j1,Lt,g)) (by exact (H).sub ⟨rfl,rfl,rfl,rfl,rfl,rfl,rfl,rfl,trivial⟩) ?_ ?_
   ·exact ⟨by omega,hgm,hnow⟩
   clear H;intro gh a w hI H;obtain ⟨rk,j3,Lt3,g3⟩:=gh;dsimp only at hI H;obtain ⟨hrk,hgm3,hnow3⟩:=hI;dsimp only [List.cons_append,List.nil_append,List.append_nil] at H;refine kP H (SR fun _ K17=>Rc rfl (Kz K17 (SQ fun _ K18=>?_)));clear H K17;intro a H;refine c_cond H rfl ?_ ?_
   ·intro h48
    try have p48:=dT h48
    have hk3:rk < l[k].rows.length:=by omega
    obtain ⟨b2,o2,qA,qn,qc,eA,en,ec,zA,zn,zc,cA,cn,cc,rfl,hrow,hrh,hcl⟩:=row_get hk3 hrw.at_;replace hrow:=fun j u hj=>gcell_mono hgm3 (hrow j u hj);have hcn:=hcl.len;rw [List.length_map] at hcn;subst hcn;have hsz2:=zRows_get hk3;have hcs:=zCells_length l[k].rows[rk].cells;rw [List.drop_eq_getElem_cons hk3] at hnow3
    simp only [wRows,wRow_eq,List.append_assoc] at hnow3
    refine kP H (Kc K18 (SQ fun _ K19=>SB (SR fun _ K20=>Ri un33run ty171run rfl rfl ?_)));clear H K18;intro a H;refine s_loada ty171run (cs:=[_,_,_,_,_,_]) H wn rfl rfl (fun j v hj=>H.hp.gcell (hrow j v hj)) rfl ?_;clear H;intro a H;refine s_alloc ty171run H wn rfl ?_;clear H;intro b12 a w hb12 H;refine s_store ty171run 0 (vs:=[_,_,_,_,_,_]) _ H wn rfl rfl rfl rfl rfl rfl rfl rfl ?_;clear H;intro w H;dsimp only [List.set,setRow] at H;refine K20 _ _ ?_;clear K20;refine kP H (SR fun _ K21=>Rf fd171_1run rfl (Ro ty169run 0 rfl rfl (Rl un169run rfl (Rm rfl (Kz K21 (SB ?_))))));clear H K21;intro a H;skip;refine c_loopS (ι:=Nat × Nat × OL × GH) (Tc:=[(3,_),(6,_),(22,_),(23,_),(24,_),(45,_),(46,_),(47,_),(52,_),(53,_)]) (Lc:=[(_,_),(_,_),(_,_)]) (fun (gh:Nat × Nat × OL × GH)=>[(54,vi gh.1)]) (fun (gh:Nat × Nat × OL × GH)=>[]++gh.2.2.1) (fun (gh:Nat × Nat × OL × GH)=>gh.2.2.2) (fun (gh:Nat × Nat × OL × GH)=>gh.1≤l[k].rows[rk].cells.length∧(∀ b o,G b=some o→gh.2.2.2 b=some o)∧Now xs flP J (j0+((wItems note t l).length+1)) gh.2.1 (wCells note t (l[k].rows[rk].cells.drop gh.1)++(wRows note t (l[k].rows.drop (rk+1))++wItems note t (l.drop (k+1)))) gh.2.2.2 gh.2.2.1) (fun (gh:Nat × Nat × OL × GH)=>l[k].rows[rk].cells.length - gh.1) ((0,j3,Lt3,g3)) (by exact (H).sub ⟨rfl,rfl,rfl,rfl,rfl,rfl,rfl,rfl,rfl,rfl,rfl,trivial⟩) ?_ ?_
    ·exact ⟨by omega,hgm3,hnow3⟩
    clear H;intro gh a w hI H;obtain ⟨ck,j4,Lt4,g4⟩:=gh;dsimp only at hI H;obtain ⟨hck,hgm4,hnow4⟩:=hI;dsimp only [List.cons_append,List.nil_append,List.append_nil] at H;refine kP H (SR fun _ K22=>Rc rfl (Kz K22 (SQ fun _ K23=>?_)));clear H K22;intro a H;refine c_cond H rfl ?_ ?_
    ·intro h55
     try have p55:=dT h55
     have hk4:ck < l[k].rows[rk].cells.length:=by omega
     obtain ⟨b3,o3,sA,sn,sc,tA,tn,tc,uA,un,uc,gA,gn,gc,rfl,hrow,hch,hcf⟩:=cell_get hk4 hcl.at_;replace hrow:=fun j u hj=>gcell_mono hgm4 (hrow j u hj);have hsz3:=zCells_get hk4;rw [List.drop_eq_getElem_cons hk4] at hnow4
     simp only [wCells,wCell_eq,List.append_assoc] at hnow4
     refine kP H (Kc K23 (SQ fun _ K24=>SB (SR fun _ K25=>Ri un169run ty174run rfl rfl ?_)));clear H K23;intro a H;refine s_loada ty174run (cs:=[_,_,_,_,_,_,_]) H wn rfl rfl (fun j v hj=>H.hp.gcell (hrow j v hj)) rfl ?_;clear H;intro a H;refine s_alloc ty174run H wn rfl ?_;clear H;intro b14 a w hb14 H;refine s_store ty174run 0 (vs:=[_,_,_,_,_,_,_]) _ H wn rfl rfl rfl rfl rfl rfl rfl rfl ?_;clear H;intro w H;dsimp only [List.set,setRow] at H;refine K25 _ _ ?_;clear K25;refine kP H (SR fun _ K26=>Rf fd174_0run rfl (Ro ty3run 0 rfl rfl (Rf fd174_2run rfl (Ro ty32run 0 rfl rfl (Rf fd136_1doc rfl (Ro ty4doc 3 rfl rfl (Rf fd136_2doc rfl (Ro ty3run 3 rfl rfl (Rd rfl ?_)))))))));clear H;intro a H;refine s_build sr136doc [_,_,_] H wn rfl rfl rfl rfl ?_;clear H;intro a H;refine kH H (Rm rfl ?_);clear H;intro a H;refine s_callL en204doc (Li:=[_,_,_,_]) (L:=Lt4) H wn rfl (ih fv Gi xs J Jx _ _ _ j4 l[k].rows[rk].cells[ck].flow l[k].rows[rk].cells[ck].id false note (t+1) _ (fun b o h=>hgm4 b o (hGi b o h)) hcb hJm hJx hnow4.now (Hp.owns (Li:=[_,_,_,_]) H.hp) (hcf.mono hgm4) (by omega) (by omega) (by omega) hnow4.part) rfl ?_;clear H;rintro v69 G69 Lt69 a w ⟨b69,rfl,hb5,hb6⟩ hm69 H;refine kH H (Rn rfl (Kz K26 ?_));clear H K26;intro a H;refine c_cond H rfl ?_ ?_
     ·intro h70
      try have p70:=dT h70
      refine kP H (SR fun _ K27=>Ra rfl (Kz K27 ?_));clear H K27;intro a H;refine lr H Tryz.results204 rfl ?_
      first
       | exact H.hp.retD (L':=Lt20) (by repeat (first|exact List.Sublist.refl _|apply List.Sublist.cons)) ⟨_,rfl,fun e=>(by cases e),fun _=>hb2 (by simpa using h21)⟩
       | exact H.hp.retD (L':=Lt40) (by repeat (first|exact List.Sublist.refl _|apply List.Sublist.cons)) ⟨_,rfl,fun e=>(by cases e),fun _=>hb4 (by simpa using h41)⟩
       | exact H.hp.retD (L':=Lt69) (by repeat (first|exact List.Sublist.refl _|apply List.Sublist.cons)) ⟨_,rfl,fun e=>(by cases e),fun _=>hb6 (by simpa using h70)⟩
       | exact H.hp.retD (L':=Lt) (by repeat (first|exact List.Sublist.refl _|apply List.Sublist.cons)) ⟨_,rfl,fun _=>(by rw [List.drop_of_length_le (by omega),wItems] at hnow;have:=hnow.len;simp only [List.length_nil,Nat.add_zero] at this;rw [← this];exact hnow.now),fun e=>(by cases e)⟩
     intro h70
     try have p70:=dF h70
     refine kP H (Kc K24 (SC (Rd rfl (Rm rfl ?_))));clear H K24;intro a H;refine wl_nil ?_;refine loop_end ((ck+1,j4+((wItems note (t+1) l[k].rows[rk].cells[ck].flow).length+1),Lt69,G69)) (by exact (H.pickT (Pl:=[_,_,_,_]) (Pl':=[_,_,_]) [1,2,3] (by decide) rfl).sub ⟨rfl,rfl,rfl,rfl,rfl,rfl,rfl,rfl,rfl,rfl,rfl,trivial⟩) ?_ ?_
     ·(try dsimp only);exact ⟨by omega,fun b o h=>hm69 b o (hgm4 b o h),hnow4.jump (hb5 (by simpa using h70))⟩
     first|omega|(dsimp only;omega)
    intro h55
    try have p55:=dF h55
    refine c_exit ?_;refine K19 _ _ ?_;clear K19;refine kP H (SC (Rd rfl (Rm rfl ?_)));clear H;intro a H;refine wl_nil ?_;refine loop_end ((rk+1,j4,Lt4,g4)) (by exact (H.pickT (Pl:=[_,_,_]) (Pl':=[_,_]) [1,2] (by decide) rfl).sub ⟨rfl,rfl,rfl,rfl,rfl,rfl,rfl,rfl,trivial⟩) ?_ ?_
    ·(try dsimp only);exact ⟨by omega,hgm4,by rw [List.drop_of_length_le (by omega),wCells,List.nil_append] at hnow4;exact hnow4⟩
    first|omega|(dsimp only;omega)
   intro h48
   try have p48:=dF h48
   refine c_exit ?_;refine K9 _ _ ?_;clear K9;refine kP H (SC (Rd rfl (Rm rfl ?_)));clear H;intro a H;refine wl_nil ?_;refine loop_end ((k+1,j3,Lt3,g3)) (by exact (H.pickT (Pl:=[_,_]) (Pl':=[_]) [1] (by decide) rfl).sub ⟨rfl,rfl,rfl,rfl,rfl,trivial⟩) ?_ ?_
   ·(try dsimp only);exact ⟨by omega,hgm3,by rw [List.drop_of_length_le (by omega),wRows,List.nil_append] at hnow3;exact hnow3⟩
   first|omega|(dsimp only;omega)
  intro h42
  try have p42:=dF h42
  refine kP H (Kc K9 (SC (Rd rfl (Rm rfl ?_))));clear H K9;intro a H;refine wl_nil ?_;refine loop_end ((k+1,j1,Lt,g)) (by exact (H.pickT (Pl:=[_,_]) (Pl':=[_]) [1] (by decide) rfl).sub ⟨rfl,rfl,rfl,rfl,rfl,trivial⟩) ?_ ?_
  ·(try dsimp only);exact ⟨by omega,hgm,by rw [if_neg p30,if_neg p42,List.nil_append] at hnow;exact hnow⟩
  first|omega|(dsimp only;omega)
 intro h25
 try have p25:=dF h25
 refine c_exit ?_;refine K5 _ _ ?_;clear K5;refine kP H (SR fun _ K28=>Ra rfl (Kz K28 ?_));clear H K28;intro a H;refine lr H Tryz.results204 rfl ?_
 first
  | exact H.hp.retD (L':=Lt20) (by repeat (first|exact List.Sublist.refl _|apply List.Sublist.cons)) ⟨_,rfl,fun e=>(by cases e),fun _=>hb2 (by simpa using h21)⟩
  | exact H.hp.retD (L':=Lt40) (by repeat (first|exact List.Sublist.refl _|apply List.Sublist.cons)) ⟨_,rfl,fun e=>(by cases e),fun _=>hb4 (by simpa using h41)⟩
  | exact H.hp.retD (L':=Lt69) (by repeat (first|exact List.Sublist.refl _|apply List.Sublist.cons)) ⟨_,rfl,fun e=>(by cases e),fun _=>hb6 (by simpa using h70)⟩
  | exact H.hp.retD (L':=Lt) (by repeat (first|exact List.Sublist.refl _|apply List.Sublist.cons)) ⟨_,rfl,fun _=>(by rw [List.drop_of_length_le (by omega),wItems] at hnow;have:=hnow.len;simp only [List.length_nil,Nat.add_zero] at this;rw [← this];exact hnow.now),fun e=>(by cases e)⟩
theorem walk_ok:∀ n:Nat,n≤4294967297→WalkOk n
 | 0,_=>fun _ _ _ _ _ _ _ _ _ _ _ _ _ _ _ _ _ _ _ _ _ _ h=>absurd h (by omega)
 | n+1,hn=>walk_step (walk_ok n (by omega)) (by omega)
/-- All flows of a document. -/
def flowsD (l:List ItemD):List FlowD:=⟨0,l,true,false,0⟩ :: wItems false 0 l
theorem flows1_iter {G:GH} {ba bl bp:Nat} {l:List ItemD} {v:Value} {id t:Int} {body note:Bool} (h1:gcell G ba 0=some (vi id)) (h2:gcell G bl 0=some v) (h3:G bp=some (.cells #[.bool body,.bool note,vi t] 136 (0,0))) (hv:RepV G (.sl 11 (l.map ItemD.dat)) v) (hz:zItems l≤4294967296) (ht0:0≤t) (ht1:t+zItems l≤4294967296) :
  Iter Tryz.prog G (.func (.func 203) #[] #[.pointer (some ⟨ba,0,none⟩),.pointer (some ⟨bl,0,none⟩),.pointer (some ⟨bp,0,none⟩)]) ((⟨id,l,body,note,t⟩ :: wItems note t l).map flP):=by
 intro J Jx fv G1 L w0 hfv hGi hJm hJx hJ hO hcb;refine callV_func (caps:=[.pointer (some ⟨ba,0,none⟩),.pointer (some ⟨bl,0,none⟩),.pointer (some ⟨bp,0,none⟩)]) en203doc ?_;replace h1:=gcell_mono hGi h1;replace h2:=gcell_mono hGi h2
 have hrow:∀ j u,[.bool body,.bool note,vi t][j]?=some u→gcell G1 bp (0+j)=some u:=by
  intro j u hj;refine gcell_mono hGi ?_
  unfold gcell;rw [h3];simpa using hj
 refine enterL (N:=10) (T:=[(0,_),(1,_),(2,_),(3,_)]) Tryz.func203 rfl Tryz.ntmps203 rfl rfl hO ?_;intro a H;refine kP H (SC (Rg ty3run rfl (by assumption) ?_));clear H;intro a H;refine kH H (Rg ty32run rfl (by assumption) ?_);clear H;intro a H;refine s_loada ty136doc (cs:=[_,_,_]) H wn rfl rfl (fun j v hj=>H.hp.gcell (hrow j v hj)) rfl ?_;clear H;intro a H;refine kH H (Rm rfl ?_);clear H;intro a H;refine s_callL en204doc (Li:=[]) (L:=L) H wn rfl (walk_ok 4294967297 (by omega) _ G1 _ J Jx G1 _ _ 0 l id body note t _ (fun _ _ h=>h) hcb hJm hJx hJ (Hp.owns (Li:=[]) H.hp) (hv.mono hGi) (by omega) ht0 ht1 (fun i a h=>by rw [Nat.zero_add,List.getElem?_map,h];rfl)) rfl ?_;clear H;rintro v9 G9 L9 a w ⟨b9,rfl,h1,h2⟩ hm9 H;refine wl_nil ?_;refine (leave0 H Tryz.results203 ?_).2
 cases b9
 ·exact H.hp.retL (.inr (h2 rfl))
 exact H.hp.retL (.inl (by simpa using h1 rfl))
theorem flows_spec (G:GH) (w0:World) (hG:Hold G w0) (l:List ItemD) (v:Value) (id t:Int) (body note:Bool) (hv:RepV G (.sl 11 (l.map ItemD.dat)) v) (hz:zItems l≤4294967296) (ht0:0≤t) (ht1:t+zItems l≤4294967296) :
  Calls Tryz.prog 160 #[vi id,v,.agg #[.bool body,.bool note,vi t]] w0 (Ret w0 G fun u G'=>∃ ba bl bp,u=.func (.func 203) #[] #[.pointer (some ⟨ba,0,none⟩),.pointer (some ⟨bl,0,none⟩),.pointer (some ⟨bp,0,none⟩)]∧Iter Tryz.prog G' u ((⟨id,l,body,note,t⟩ :: wItems note t l).map flP)):=by
 obtain ⟨A,c,rfl,hc1,hc2,hg⟩:=hv.slice;refine eN [(0,_),(1,_),(2,_)] Tryz.func160 rfl Tryz.ntmps160 rfl rfl hG ?_;intro a H;refine c_seqR (fun _ K1=>?_);refine s_box (cs:=[_]) H wn rfl rfl rfl ?_;clear H;intro b3 a w hb3 H;refine s_box (cs:=[_]) H wn rfl rfl rfl ?_;clear H;intro b4 a w hb4 H;refine s_box (cs:=[_,_,_]) H wn rfl rfl rfl ?_;clear H;intro b5 a w hb5 H;refine kH H (Ra rfl (Kz K1 (SR fun _ K2=>?_)));clear H K1;intro a H;refine s_makeFunc H wn rfl rfl ?_;clear H;intro a H;refine kH H (Ra rfl (Kz K2 ?_));clear H K2;intro a H;refine c_ret ?_;obtain ⟨G2,hm2,hb5,H⟩:=H.giveBox;obtain ⟨G3,hm3,hb4,H⟩:=H.giveBox;obtain ⟨G4,hm4,hb3,H⟩:=H.giveBox;refine lv H Tryz.results160 rfl ?_;exact H.hp.ret ⟨b3,b4,b5,rfl,flows1_iter (by unfold gcell;rw [hb3];rfl) (gcell_mono hm4 (by unfold gcell;rw [hb4];rfl)) (hm4 _ _ (hm3 _ _ hb5)) (hv.mono fun b o h=>hm4 _ _ (hm3 _ _ (hm2 _ _ h))) hz ht0 ht1⟩
theorem of_spec (G:GH) (w0:World) (hG:Hold G w0) (D:DocV) (l:List ItemD) (hv:RepV G (.sl 11 (l.map ItemD.dat)) (sl3 D.f)) (hz:zItems l≤4294967296) :
  Calls Tryz.prog 81 #[D.val] w0 (Ret w0 G fun u G'=>∃ ba bl bp,u=.func (.func 203) #[] #[.pointer (some ⟨ba,0,none⟩),.pointer (some ⟨bl,0,none⟩),.pointer (some ⟨bp,0,none⟩)]∧Iter Tryz.prog G' u ((flowsD l).map flP)):=by
 refine eN [(0,_)] Tryz.func81 rfl Tryz.ntmps81 rfl rfl hG ?_;intro a H;refine c_seqR (fun _ K1=>?_);refine s_box (cs:=[_,_,_,_,_,_,_,_,_,_,_]) H wn rfl rfl rfl ?_;clear H;intro b1 a w hb1 H;refine kH H (Ra rfl (Kz K1 (SR fun _ K2=>Rf fd50_0doc rfl (Ro ty32run 0 rfl rfl ?_))));clear H K1;intro a H;refine s_build sr136doc [_,_,_] H wn rfl rfl rfl rfl ?_;clear H;intro a H;refine s_call en160doc H wn rfl (flows_spec _ _ H.hp.ro l _ 0 0 true false hv hz (by omega) (by omega)) rfl ?_;clear H;rintro v6 G6 a w ⟨ba,bl,bp,rfl,hit⟩ hm6 H;refine kH H (Ra rfl (Kz K2 ?_));clear H K2;intro a H;refine lr H Tryz.results81 rfl ?_;exact H.hp.ret ⟨ba,bl,bp,rfl,hit⟩
end
section
open Go.RowKit
theorem ty50dq:Ty Tryz.prog 50 11 232 [.slice none 0 0,.slice none 0 0,.int .i64 0,.int .i64 0,.slice none 0 0,.slice none 0 0,.slice none 0 0,.slice none 0 0,.slice none 0 0,.slice none 0 0,.slice none 0 0] true:=⟨by kernel_rfl,by kernel_rfl⟩
theorem en81dq:∀ args w,(callFunc 81 args).run Tryz.prog w=.ok (.enter 81 args) w:=enters Tryz.func81 rfl (by kernel_rfl)
theorem ty166dq:Ty Tryz.prog 166 4 40 [.slice none 0 0,.bool false,.bool false,.int .i64 0] true:=⟨by kernel_rfl,by kernel_rfl⟩
theorem fd166_0dq:Fld Tryz.prog 166 0 0:=⟨by kernel_rfl⟩
mutual
theorem wItem_sz {note:Bool} {t:Int} {f:FlowD}:∀ {x:ItemD},f∈wItem note t x→zItems f.items < szR x.dat
 | .mk k c i tx h fl r,hf=>by
  have h4:=zItem_eq (.mk k c i tx h fl r)
  simp only [ItemD.text,ItemD.head,ItemD.flow,ItemD.rows] at h4
  rw [wItem] at hf
  split at hf
  ·rcases List.mem_cons.1 hf with rfl|hf
   ·show zItems fl < _;omega
   have:=wItems_sz hf;omega
  split at hf
  ·have:=wRows_sz hf;omega
  cases hf
theorem wItems_sz {note:Bool} {t:Int} {f:FlowD}:∀ {l:List ItemD},f∈wItems note t l→zItems f.items≤zItems l
 | [],hf=>by simp [wItems] at hf
 | x :: l,hf=>by
  rw [wItems] at hf
  simp only [zItems,List.map_cons,szRs]
  rcases List.mem_append.1 hf with hf|hf
  ·have:=wItem_sz hf;simp only [zItems] at this;omega
  have:=wItems_sz hf;simp only [zItems] at this;omega
theorem wRows_sz {note:Bool} {t:Int} {f:FlowD}:∀ {l:List RowD},f∈wRows note t l→zItems f.items≤zRows l
 | [],hf=>by simp [wRows] at hf
 | x :: l,hf=>by
  rw [wRows] at hf
  simp only [zRows,List.map_cons,szRs]
  rcases List.mem_append.1 hf with hf|hf
  ·have:=wRow_sz hf;simp only [zItems] at *;omega
  have:=wRows_sz hf;simp only [zItems,zRows] at *;omega
theorem wRow_sz {note:Bool} {t:Int} {f:FlowD}:∀ {x:RowD},f∈wRow note t x→zItems f.items≤szR x.dat
 | .mk h cs,hf=>by
  have h4:=zRow_eq (.mk h cs)
  simp only [RowD.head,RowD.cells] at h4
  rw [wRow] at hf;have:=wCells_sz hf;omega
theorem wCells_sz {note:Bool} {t:Int} {f:FlowD}:∀ {l:List CellD},f∈wCells note t l→zItems f.items≤zCells l
 | [],hf=>by simp [wCells] at hf
 | x :: l,hf=>by
  rw [wCells] at hf
  simp only [zCells,List.map_cons,szRs]
  rcases List.mem_append.1 hf with hf|hf
  ·have:=wCell_sz hf;simp only [zItems] at *;omega
  have:=wCells_sz hf;simp only [zItems,zCells] at *;omega
theorem wCell_sz {note:Bool} {t:Int} {f:FlowD}:∀ {x:CellD},f∈wCell note t x→zItems f.items≤szR x.dat
 | .mk i h fl,hf=>by
  have h4:=zCell_eq (.mk i h fl)
  simp only [CellD.head,CellD.flow] at h4
  rw [wCell] at hf
  rcases List.mem_cons.1 hf with rfl|hf
  ·show zItems fl≤_;omega
  have:=wItems_sz hf;omega
end
theorem flowsD_sz {f:FlowD} {l:List ItemD} (h:f∈flowsD l):zItems f.items≤zItems l:=by
 rcases List.mem_cons.1 h with rfl|h
 ·exact Nat.le_refl _
 exact wItems_sz h
theorem find_next {α:Type} {p:α→Bool} {A:List α} {k:Nat} (hk:k < A.length) (h:(A.take k).find? p=none) (hp:p A[k]=false):(A.take (k+1)).find? p=none:=by
 rw [List.take_succ_eq_append_getElem hk,List.find?_append,h]
 simp [hp]
theorem find_stop {α:Type} {p:α→Bool} {A:List α} {k:Nat} (hk:k < A.length) (h:(A.take k).find? p=none) (hp:p A[k]=true):A.find? p=some A[k]:=by
 have e:A.find? p=(A.take k++A.drop k).find? p:=by rw [List.take_append_drop]
 rw [e,List.find?_append,h,List.drop_eq_getElem_cons hk,List.find?_cons,hp]
 rfl
theorem find_done {α:Type} {p:α→Bool} {A:List α} (h:(A.take A.length).find? p=none):A.find? p=none:=by rwa [List.take_length] at h
theorem fl_at {A:List FlowD} {k:Nat} {args:List Value} {g:GH} (h:AtAP (A.map flP) k args g):∃ (hk:k < A.length) (a:Option Addr) (n c:Nat),args=[vi A[k].id,.agg #[.slice a n c,.bool A[k].body,.bool A[k].note,vi A[k].tables]]∧RepV g (.sl 11 (A[k].items.map ItemD.dat)) (.slice a n c):=by
 obtain ⟨p,hp,hargs⟩:=h;rw [List.getElem?_map] at hp;obtain ⟨q,hq,rfl⟩:=Option.map_eq_some_iff.1 hp;obtain ⟨hk,rfl⟩:=List.getElem?_eq_some_iff.1 hq;obtain ⟨v,h1,h2⟩:=hargs;obtain ⟨a,n,c,rfl⟩:=h2.form;exact ⟨hk,a,n,c,h1,h2⟩
end
section
open Go.RowKit
def getI (xs:Array Value) (o:Nat):Option Int:=match xs[o]? with|some (.int .i64 n)=>some n|_=>none
def isI (u:Option TypeDesc):Bool:=match u with|some (.int .i64)=>true|_=>false
structure EqI (P:Program) (t:TypeId) (offs:List Nat):Prop where
 und:P.underlying t=some (.struct (P.fieldsOf t))
 held:P.stoodInHeld t=false
 guard:P.eqGuardType P.depth t=false
 flds:(P.fieldsOf t).toList.map (·.offset)=offs
 ok:(P.fieldsOf t).toList.all (fun f=>decide (f.name ≠ "_") && P.plainKey f.type && isI (P.underlying f.type))=true
theorem run_eqFields_int {P:Program} {w:World} {d:Nat} {xs ys:Array Value}:∀ fs:List Field,fs.all (fun f=>decide (f.name ≠ "_") && P.plainKey f.type && isI (P.underlying f.type))=true →
  (fs.map (·.offset)).all (fun o=>(getI xs o).isSome && (getI ys o).isSome)=true→(Op.eqFields (d+1) xs ys fs).run P w=.ok ((fs.map (·.offset)).all fun o=>getI xs o == getI ys o) w
 | [],_,_=>by simp [Op.eqFields]
 | f :: fs,h1,h2=>by
  simp only [List.all_cons,Bool.and_eq_true,decide_eq_true_eq,List.map_cons] at h1 h2
  obtain ⟨⟨⟨hn,hp⟩,hi⟩,h1⟩:=h1
  obtain ⟨⟨hx,hy⟩,h2⟩:=h2
  have ih:=run_eqFields_int (w:=w) (d:=d) fs (by simpa using h1) h2
  unfold isI at hi
  split at hi
  ·rename_i hu
   unfold getI at hx hy
   split at hx
   ·rename_i m hxm
    split at hy
    ·rename_i m2 hym
     have e1:getI xs f.offset=some m:=by unfold getI;rw [hxm]
     have e2:getI ys f.offset=some m2:=by unfold getI;rw [hym]
     simp only [Op.eqFields,hn,ne_eq,not_false_eq_true,if_true,Sem.run_bind,run_part_plain w hp hxm,run_part_plain w hp hym,Result.andThen_ok,run_equalIn_int w d f.type .i64 .i64 m m2 hu,List.map_cons,List.all_cons,e1,e2]
     by_cases e:m=m2
     ·subst e;simp [ih,List.all_map]
     ·simp [e]
    ·simp at hy
   ·simp at hx
  ·simp at hi
section
variable {N:Nat} {D:List Deferred} {w0:World} {F:Nat→Prop} {G0 G:GH} {L:List (Nat × Obj)} {T:List (Nat × Value)}
variable {r:Option Nat} {P:Program} {ops:Array Oper} {Q:Exit→Act→World→Prop} {rest:List Oper} {a:Act} {w:World}
variable {d:Nat} {ty:TypeId} {pos:String} {aft:Array Edge} {g:Option (Nat × Bool)}
theorem s_eqagg {t yt:TypeId} {offs:List Nat} (he:EqI P t offs) {x y:Operand} {xs ys:Array Value} (H:St N D w0 F G0 G L T a w) (hw:Region.wanted ⟨some d,.binOp .eql t x y yt,ty,pos,aft,g⟩ (yielded ops a.tmps)=true) (hx:ev T x=some (.agg xs)) (hy:ev T y=some (.agg ys))
  (hi:offs.all (fun o=>(getI xs o).isSome && (getI ys o).isSome)=true) (hd:Nat.blt d N=true)
  (k:∀ a',St N D w0 F G0 G L ((d,.bool (offs.all fun o=>getI xs o == getI ys o)) :: T) a' w→WL r P ops Q rest a' w):WL r P ops Q (⟨some d,.binOp .eql t x y yt,ty,pos,aft,g⟩ :: rest) a w:=by
 refine wl_value (v:=.bool (offs.all fun o=>getI xs o == getI ys o)) (w':=w) hw rfl ?_ (k _ (H.put hd _ H.hp))
 have h1:=run_eqFields_int (P:=P) (w:=w) (d:=9998) (xs:=xs) (ys:=ys) _ he.ok (by rw [he.flds];exact hi)
 rw [he.flds] at h1
 simp only [execOp,H.ev hx,H.ev hy,Sem.run_bind,run_eqGuard_agg w .eql t x y xs ys he.guard,Result.andThen_ok,run_eql_struct,run_equalIn_struct w 9999 t xs ys he.und he.held,h1]
 rfl
theorem s_eqstr {t yt:TypeId} {x y:Operand} {p q:ByteArray} (H:St N D w0 F G0 G L T a w) (hw:Region.wanted ⟨some d,.binOp .eql t x y yt,ty,pos,aft,g⟩ (yielded ops a.tmps)=true) (hx:ev T x=some (.string p)) (hy:ev T y=some (.string q)) (hd:Nat.blt d N=true)
  (k:∀ a',St N D w0 F G0 G L ((d,.bool (p.toList == q.toList)) :: T) a' w→WL r P ops Q rest a' w):WL r P ops Q (⟨some d,.binOp .eql t x y yt,ty,pos,aft,g⟩ :: rest) a w:=by
 refine wl_value (v:=.bool (p.toList == q.toList)) (w':=w) hw rfl ?_ (k _ (H.put hd _ H.hp))
 simp [execOp,H.ev hx,H.ev hy,Sem.run_bind,eqGuard,binOp,Op.stringOp]
theorem s_quo {t yt:TypeId} {x y:Operand} {p q:Int} (z:Int) (H:St N D w0 F G0 G L T a w) (hw:Region.wanted ⟨some d,.binOp .quo t x y yt,ty,pos,aft,g⟩ (yielded ops a.tmps)=true) (hx:ev T x=some (.int .i64 p)) (hy:ev T y=some (.int .i64 q)) (hq:¬ q=0) (hz:p.tdiv q=z) (h1:-9223372036854775808≤z) (h2:z < 9223372036854775808) (hd:Nat.blt d N=true)
  (k:∀ a',St N D w0 F G0 G L ((d,.int .i64 z) :: T) a' w→WL r P ops Q rest a' w):WL r P ops Q (⟨some d,.binOp .quo t x y yt,ty,pos,aft,g⟩ :: rest) a w:=by
 subst hz
 refine wl_value (v:=.int .i64 (p.tdiv q)) (w':=w) hw rfl ?_ (k _ (H.put hd _ H.hp))
 simp [execOp,H.ev hx,H.ev hy,Sem.run_bind,eqGuard,binOp,Op.intDiv,hq,i64_wrap h1 h2]
end
end
section
open Go.RowKit
theorem idx_next {α:Type} {p:α→Bool} {A:List α} {k:Nat} (hk:k < A.length) (h:(A.take k).findIdx? p=none) (hp:p A[k]=false):(A.take (k+1)).findIdx? p=none:=by
 rw [List.findIdx?_eq_none_iff] at h ⊢;rw [List.take_succ_eq_append_getElem hk];intro x hx
 rcases List.mem_append.1 hx with hx|hx
 ·exact h x hx
 rw [List.mem_singleton.1 hx];exact hp
theorem idx_stop {α:Type} {p:α→Bool} {A:List α} {k:Nat} (hk:k < A.length) (h:(A.take k).findIdx? p=none) (hp:p A[k]=true):A.findIdx? p=some k:=by
 have e:A.findIdx? p=(A.take k++A.drop k).findIdx? p:=by rw [List.take_append_drop]
 rw [e,List.findIdx?_append,h,List.drop_eq_getElem_cons hk,List.findIdx?_cons,hp]
 simp;omega
end
section
open Go.RowKit
theorem en8par:∀ args w,(callFunc 8 args).run Tryz.prog w=.ok (.enter 8 args) w:=enters Tryz.func8 rfl (by kernel_rfl)
structure BlkD where
 kind:Int
 from_:Int
 to:Int
 mark:Bool
theorem BlkD.eq_iff (a b:BlkD):(a.kind=b.kind∧a.from_=b.from_∧a.to=b.to∧a.mark=b.mark)↔a=b:=by
 cases a;cases b;simp
instance:DecidableEq BlkD:=fun a b=>decidable_of_iff _ (BlkD.eq_iff a b)
def restL (fr at_:Int) (lo:Bool):List BlkD:=if fr=at_ then [] else [⟨if lo then 4 else 1,fr,at_,false⟩]
/-- The blocks of a flow from an item on. -/
def blkS:Int→Int→Bool→List ItemD→List BlkD
 | fr,at_,lo,[]=>restL fr at_ lo
 | fr,at_,lo,x :: l =>
  if x.kind=2 then ⟨1,fr,at_+1,true⟩ :: blkS (at_+1) (at_+n1 x) true l
  else if x.kind=7∨x.kind=3 then restL fr at_ lo++⟨if x.kind=3 then 3 else 2,at_,at_+1,false⟩ :: blkS (at_+1) (at_+n1 x) true l
  else blkS fr (at_+n1 x) (lo && (decide (x.kind=8) || decide (n1 x=0))) l
theorem Now.up {α:Type} {xs:List AP} {P:α→AP} {J:Nat→GH→OL→Prop} {je j:Nat} {A:List α} {g g':GH} {L:OL} (h:Now xs P J je j A g L) (hJm:JMono J) (hm:∀ b o,g b=some o→g' b=some o):Now xs P J je j A g' L:=⟨hJm _ _ _ _ hm h.now,h.rem,h.len⟩
end
section
open Go.RowKit
/-- The items with their offsets. -/
def offs:Nat→List ItemD→List (Nat × ItemD)
 | _,[]=>[]
 | o,x :: l=>(o,x) :: offs (o+unitsS x) l
end
section
open Go.RowKit
def fitA (t:Int) (a:Nat × ItemD):Bool:=decide ((a.1:Int)+unitsS a.2≤t)
def lA (t:Int) (A:List (Nat × ItemD)):List ItemD:=(A.filter (fitA t)).map (·.2)
def rA (t:Int) (A:List (Nat × ItemD)):List ItemD:=(A.filter fun a=>!fitA t a).map (·.2)
def leftS (t:Int) (l:List ItemD):List ItemD:=lA t (offs 0 l)
end
section
open Go.RowKit
theorem en85plc:∀ args w,(callFunc 85 args).run Tryz.prog w=.ok (.enter 85 args) w:=enters Tryz.func85 rfl (by kernel_rfl)
theorem en162plc:∀ args w,(callFunc 162 args).run Tryz.prog w=.ok (.enter 162 args) w:=enters Tryz.func162 rfl (by kernel_rfl)
theorem ty54plc:Ty Tryz.prog 54 2 16 [.int .i64 0,.int .i64 0] true:=⟨by kernel_rfl,by kernel_rfl⟩
theorem ty251plc:Ty Tryz.prog 251 1 8 [.nilFunc] false:=⟨by kernel_rfl,by kernel_rfl⟩
theorem sr54plc:Srt Tryz.prog 54 [(0,1),(1,1)] [.int .i64 0,.int .i64 0]:=⟨by kernel_rfl,by kernel_rfl⟩
theorem en163plc:∀ args w,(callFunc 163 args).run Tryz.prog w=.ok (.enter 163 args) w:=enters Tryz.func163 rfl (by kernel_rfl)
theorem en205plc:∀ args w,(callFunc 205 args).run Tryz.prog w=.ok (.enter 205 args) w:=enters Tryz.func205 rfl (by kernel_rfl)
/-- How far an item moves the positions on. -/
def adv (x:ItemD):Nat:=if x.kind=1 then cntS x.text else 1
mutual
def pItem (flow at_:Int):ItemD→List ((Int × Int) × ItemD)
 | .mk k c i t h f r=>if k=6 then ((flow,at_),.mk k c i t h f r) :: pItems i 0 f else if k=7 then ((flow,at_),.mk k c i t h f r) :: pRows r else []
/-- The notes and tables of a flow, and those in them, with their positions. -/
def pItems (flow:Int):Int→List ItemD→List ((Int × Int) × ItemD)
 | _,[]=>[]
 | at_,x :: l=>pItem flow at_ x++pItems flow (at_+adv x) l
def pRows:List RowD→List ((Int × Int) × ItemD)
 | []=>[]
 | r :: l=>pRow r++pRows l
def pRow:RowD→List ((Int × Int) × ItemD)
 | .mk _ cs=>pCells cs
def pCells:List CellD→List ((Int × Int) × ItemD)
 | []=>[]
 | c :: l=>pCell c++pCells l
def pCell:CellD→List ((Int × Int) × ItemD)
 | .mk i _ f=>pItems i 0 f
end
def innerC (x:ItemD):List CellD:=if x.kind=7 then x.rows.flatMap RowD.cells else [.mk x.id ⟨[],⟨0,0,[],[]⟩⟩ x.flow]
theorem pCell_eq (x:CellD):pCell x=pItems x.id 0 x.flow:=by cases x;simp [pCell,CellD.id,CellD.flow]
theorem pRow_eq (x:RowD):pRow x=pCells x.cells:=by cases x;simp [pRow,RowD.cells]
theorem pCells_append:∀ a b:List CellD,pCells (a++b)=pCells a++pCells b
 | [],b=>by simp [pCells]
 | x :: a,b=>by simp [pCells,pCells_append a b]
theorem pRows_flat:∀ l:List RowD,pRows l=pCells (l.flatMap RowD.cells)
 | []=>by simp [pRows,pCells]
 | x :: l=>by simp [pRows,pRow_eq,pCells_append,pRows_flat l]
theorem pItem_eq (flow at_:Int) (x:ItemD):pItem flow at_ x=if x.kind=6∨x.kind=7 then ((flow,at_),x) :: pCells (innerC x) else []:=by
 obtain ⟨k,c,i,t,h,f,r⟩:=x
 simp only [pItem,innerC,ItemD.kind,ItemD.rows,ItemD.id,ItemD.flow]
 by_cases h6:k=6
 ·subst h6;simp [pCells,pCell]
 by_cases h7:k=7
 ·subst h7;simp [pRows_flat]
 simp [h6,h7]
theorem innerC_sz {x:ItemD} {c:CellD} (h:c∈innerC x):zItems c.flow < szR x.dat:=by
 have h4:=zItem_eq x
 unfold innerC at h
 split at h
 ·obtain ⟨r,hr,hc⟩:=List.mem_flatMap.1 h;have h1:=zRows_mem hr;have h2:=zCells_mem hc;have h3:=zRow_eq r;have h5:=zCell_eq c
  omega
 rw [List.mem_singleton.1 h];show zItems x.flow < _;omega
/-- What is called at a note or table. -/
def plP (a:(Int × Int) × ItemD):AP:=fun args g=>∃ cs,args=[.agg #[vi a.1.1,vi a.1.2],.agg cs.toArray]∧RepRow g a.2.dat cs
theorem pl_at {A:List ((Int × Int) × ItemD)} {k:Nat} {args:List Value} {g:GH} (h:AtAP (A.map plP) k args g):∃ (hk:k < A.length) (cs:List Value),args=[.agg #[vi A[k].1.1,vi A[k].1.2],.agg cs.toArray]∧RepRow g A[k].2.dat cs:=by
 obtain ⟨p,hp,hargs⟩:=h;rw [List.getElem?_map] at hp;obtain ⟨q,hq,rfl⟩:=Option.map_eq_some_iff.1 hp;obtain ⟨hk,rfl⟩:=List.getElem?_eq_some_iff.1 hq;exact ⟨hk,hargs⟩
def PlacedOk (n:Nat):Prop:=∀ (G:GH) (l:List ItemD) (id:Int) (bl bi:Nat) (v:Value),zItems l < n→gcell G bl 0=some v→gcell G bi 0=some (vi id)→RepV G (.sl 11 (l.map ItemD.dat)) v →
 Iter Tryz.prog G (.func (.func 162) #[] #[.pointer (some ⟨bl,0,none⟩),.pointer (some ⟨bi,0,none⟩)]) ((pItems id 0 l).map plP)
theorem placed_spec' {n:Nat} (ih:PlacedOk n) (G:GH) (w0:World) (hG:Hold G w0) (l:List ItemD) (id:Int) (v:Value) (hz:zItems l < n) (hv:RepV G (.sl 11 (l.map ItemD.dat)) v) :
  Calls Tryz.prog 85 #[vi id,v] w0 (Ret w0 G fun u G'=>∃ bl bi,u=.func (.func 162) #[] #[.pointer (some ⟨bl,0,none⟩),.pointer (some ⟨bi,0,none⟩)]∧Iter Tryz.prog G' u ((pItems id 0 l).map plP)):=by
 obtain ⟨A,c,rfl,hc1,hc2,hg⟩:=hv.slice;refine eN [(0,_),(1,_)] Tryz.func85 rfl Tryz.ntmps85 rfl rfl hG ?_;intro a H;refine c_seqR (fun _ K1=>?_);refine s_box (cs:=[_]) H wn rfl rfl rfl ?_;clear H;intro b2 a w hb2 H;refine s_box (cs:=[_]) H wn rfl rfl rfl ?_;clear H;intro b3 a w hb3 H;refine kH H (Ra rfl (Kz K1 (SR fun _ K2=>?_)));clear H K1;intro a H;refine s_makeFunc H wn rfl rfl ?_;clear H;intro a H;refine kH H (Ra rfl (Kz K2 ?_));clear H K2;intro a H;refine c_ret ?_;obtain ⟨G2,hm2,hb3,H⟩:=H.giveBox;obtain ⟨G3,hm3,hb2,H⟩:=H.giveBox;refine lv H Tryz.results85 rfl ?_;exact H.hp.ret ⟨b3,b2,rfl,ih _ _ _ _ _ _ hz (gcell_mono hm3 (by unfold gcell;rw [hb3];rfl)) (by unfold gcell;rw [hb2];rfl) (hv.mono fun b o h=>hm3 _ _ (hm2 _ _ h))⟩
theorem flat_len:∀ l:List RowD,(l.flatMap RowD.cells).length≤zRows l
 | []=>Nat.le_refl _
 | x :: l=>by
  have h1:=flat_len l;have h2:=zCells_length x.cells;have h3:=zRow_eq x
  simp only [List.flatMap_cons,List.length_append,zRows,List.map_cons,szRs] at *;omega
theorem zRows_take (l:List RowD) (k:Nat):zRows (l.take k)≤zRows l:=by
 have h:zRows l=zRows (l.take k++l.drop k):=by rw [List.take_append_drop]
 rw [h];simp only [zRows,List.map_append,szRs_append];omega
theorem pCells_cons (c:CellD) (l:List CellD):pCells (c :: l)=pItems c.id 0 c.flow++pCells l:=by rw [pCells,pCell_eq]
set_option maxHeartbeats 1000000 in
theorem within1_iter {n:Nat} (ih:PlacedOk n) (hn:n≤4294967296) {G:GH} {x:ItemD} {bx:Nat} {cs:List Value} (hsz:szR x.dat≤n) (hb:G bx=some (.cells cs.toArray 35 (0,0))) (hv:RepRow G x.dat cs) :
  Iter Tryz.prog G (.func (.func 205) #[] #[.pointer (some ⟨bx,0,none⟩)]) ((pCells (innerC x)).map plP):=by
 intro J Jx fv G1 L w0 hfv hGi hJm hJx hJ hO hcb;refine callV_func (caps:=[.pointer (some ⟨bx,0,none⟩)]) en205plc ?_;obtain ⟨pA,pn,pc,dA,dn,dc,yA,yn,yc,fA,fn,fc,rA,rn,rc,rfl,hh,hf,hr⟩:=hv.item;have hsz1:=zItem_eq x;have hrn:=hr.len;rw [List.length_map] at hrn;subst hrn;have hrs:=zRows_length x.rows
 have hrow:∀ j u,[vi x.kind,vi x.code,vi x.id,.string x.text,.slice pA pn pc,vi x.head.marks.ins,vi x.head.marks.move,.slice dA dn dc,.slice yA yn yc,.slice fA fn fc,.slice rA x.rows.length rc][j]?=some u→gcell G1 bx (0+j)=some u:=by
  intro j u hj;refine gcell_mono hGi ?_
  unfold gcell;rw [hb];simpa using hj
 have hfc:gcell G1 bx 0=some (vi x.kind)∧gcell G1 bx 2=some (vi x.id)∧gcell G1 bx 9=some (.slice fA fn fc)∧gcell G1 bx 10=some (.slice rA x.rows.length rc):=⟨hrow 0 _ rfl,hrow 2 _ rfl,hrow 9 _ rfl,hrow 10 _ rfl⟩;obtain ⟨hc0,hc2,hc9,hc10⟩:=hfc
 have hml:4294967297≤maxLen:=by decide
 refine enterL (N:=50) (T:=[(0,_),(1,_)]) Tryz.func205 rfl Tryz.ntmps205 rfl rfl hO ?_;intro a H;refine c_seqR (fun _ K1=>?_);refine s_box (cs:=[fv]) H wn rfl hfv rfl ?_;clear H;intro b2 a w hb2 H;refine K1 _ _ ?_;clear K1;refine kP H (SR fun _ K2=>Rf fd35_2doc rfl (Rg ty3run rfl (by assumption) ?_));clear H;intro a H;refine kH H (Rf fd35_5run rfl (Rg ty32run rfl (by assumption) ?_));clear H;intro a H;refine s_build sr174run [_,_,_,_,_,_,_] H wn rfl rfl rfl rfl ?_;clear H;intro a H;refine s_buildSlice un169run ty174run [_,_,_,_,_,_,_] [_,_,_,_,_,_,_] H wn rfl rfl rfl rfl rfl (by intro i q h;match i,h with|0,h=>exact h|n+1,h=>simp at h) rfl rfl ?_;clear H;intro b15 a w hb15 H;refine kH H (Ra rfl (Kz K2 (SQ fun _ K3=>SR fun _ K4=>Rf fd35_0run rfl (Rg ty3run rfl (by assumption) ?_))));clear H K2;intro a H;refine kH H (Rc rfl (Kz K4 ?_));clear H K4;intro a H;refine c_cond H rfl ?_ ?_
 ·intro h18
  try have p18:=dT h18
  refine kP H (SR fun _ K5=>Ra rfl (Kz K5 (SR fun _ K6=>Rf fd35_6run rfl (Rg ty33run rfl (by assumption) ?_))));clear H K5;intro a H;refine kH H (Rl un33run rfl (Rm rfl (Kz K6 (SB ?_))));clear H K6;intro a H;skip;refine c_loopS (ι:=Nat × Value × List Value × OL) (Tc:=[(2,_),(20,_),(21,_)]) (Lc:=[(_,_)]) (fun (gh:Nat × Value × List Value × OL)=>[(3,gh.2.1),(22,vi gh.1)]) (fun (gh:Nat × Value × List Value × OL)=>[]++(L++gh.2.2.2)) (fun (gh:Nat × Value × List Value × OL)=>G1) (fun (gh:Nat × Value × List Value × OL)=>gh.1≤x.rows.length∧IsRow 174 7 gh.2.1 ((x.rows.take gh.1).flatMap RowD.cells).length gh.2.2.1 gh.2.2.2∧RepCat G1 7 (((x.rows.take gh.1).flatMap RowD.cells).map CellD.dat) gh.2.2.1) (fun (gh:Nat × Value × List Value × OL)=>x.rows.length - gh.1) ((0,.slice none 0 0,[],[])) (by exact (St.nilT (A:=[_]) (H.pickT (Pl:=[_,_]) (Pl':=[_]) [1] (by decide) rfl)).sub ⟨rfl,rfl,rfl,rfl,rfl,trivial⟩) ?_ ?_
  ·exact ⟨by omega,IsRow.nil,by simpa using RepCat.nil⟩
  clear H;intro gh a w hI H;obtain ⟨rk,v3,xs,Lo⟩:=gh;dsimp only at hI H;obtain ⟨hrk,hrw3,hcat⟩:=hI;dsimp only [List.cons_append,List.nil_append,List.append_nil] at H;refine kP H (SR fun _ K7=>Rc rfl (Kz K7 (SQ fun _ K8=>?_)));clear H K7;intro a H;refine c_cond H rfl ?_ ?_
  ·intro h23
   try have p23:=dT h23
   have hk2:rk < x.rows.length:=by omega
   obtain ⟨b,o,qA,qn,qc,eA,en,ec,zA,zn,zc,cA,cn,cc,rfl,hrow,hrh,hcl⟩:=row_get hk2 hr.at_;replace hrow:=fun j u hj=>gcell_mono hGi (hrow j u hj);have hcn2:=hcl.len;rw [List.length_map] at hcn2;subst hcn2;have hsz2:=flat_len (x.rows.take (rk+1));have hsz3:=zRows_take x.rows (rk+1);rw [List.take_succ_eq_append_getElem hk2,List.flatMap_append,List.length_append,List.flatMap_singleton] at hsz2;rw [List.take_succ_eq_append_getElem hk2] at hsz3;refine kP H (Kc K8 (SQ fun _ K9=>SB (SR fun _ K10=>Ri un33run ty171run rfl rfl ?_)));clear H K8;intro a H;refine s_loada ty171run (cs:=[_,_,_,_,_,_]) H wn rfl rfl (fun j v hj=>H.hp.gcell (hrow j v hj)) rfl ?_;clear H;intro a H;refine s_alloc ty171run H wn rfl ?_;clear H;intro b5 a w hb5 H;refine s_store ty171run 0 (vs:=[_,_,_,_,_,_]) _ H wn rfl rfl rfl rfl rfl rfl rfl rfl ?_;clear H;intro w H;dsimp only [List.set,setRow] at H;refine K10 _ _ ?_;clear K10;refine kP H (SC (Rm rfl (Rf fd171_1run rfl (Ro ty169run 0 rfl rfl ?_))));clear H;intro a H;refine s_appendG (Li:=[_,_]++L) (Lo:=Lo) un169run ty174run rfl rfl (St.un (A:=[_,_]) H) wn rfl rfl hrw3 (hcl.mono hGi) (by omega) (by omega) rfl ?_;clear H;intro v29 Lo29 news a w hrw29 hcn H;refine kH H (Ra rfl ?_);clear H;intro a H;refine wl_nil ?_;replace H:=H.assoc.pickT (Pl:=[_,_]) (Pl':=[_]) [1] (by decide) rfl;refine K9 _ _ ?_;clear K9;refine kP H (SC (Rd rfl (Rm rfl ?_)));clear H;intro a H;refine wl_nil ?_;refine loop_end ((rk+1,v29,xs++news,Lo29)) (by exact H.sub ⟨rfl,rfl,rfl,rfl,rfl,trivial⟩) ?_ ?_
   ·(try dsimp only);exact ⟨by omega,by rw [List.take_succ_eq_append_getElem hk2,List.flatMap_append,List.length_append,List.flatMap_singleton];exact hrw29,by rw [List.take_succ_eq_append_getElem hk2,List.flatMap_append,List.map_append,List.flatMap_singleton];exact hcat.append hcn⟩
   first|omega|(dsimp only;omega)
  intro h23
  try have p23:=dF h23
  have hrk2:rk=x.rows.length:=by omega
  subst hrk2;rw [List.take_length] at hrw3 hcat;obtain ⟨G3,hm3,hin,H⟩:=(St.un (A:=[_]) H).giveRow (rows:=((x.rows.flatMap RowD.cells)).map CellD.dat) hrw3 (by simp) hcat
  replace hin:RepV G3 (.sl 7 ((innerC x).map CellD.dat)) v3:=by rw [innerC,if_pos p18];exact hin
  obtain ⟨iA,ni,ic,rfl⟩:=hin.form;have hni2:=hin.len;rw [List.length_map] at hni2
  have hisz:(innerC x).length≤4294967296:=by
   have h1:=flat_len x.rows;rw [innerC,if_pos p18];omega
  refine c_exit ?_;refine K3 _ _ ?_;clear K3;refine kP H (SR fun _ K11=>Rm rfl (Rl un169run rfl (Rm rfl (Kz K11 (SB ?_)))));clear H K11;intro a H;skip;refine c_loopD (ι:=Nat × Nat × OL × GH × List Nat) (Tc:=[(2,_),(31,_),(32,_)]) (Lc:=[(_,_)]) (fun (gh:Nat × Nat × OL × GH × List Nat)=>mkD gh.2.2.2.2) (fun (gh:Nat × Nat × OL × GH × List Nat)=>[(33,vi gh.1)]) (fun (gh:Nat × Nat × OL × GH × List Nat)=>[]++(mkL gh.2.2.2.2++gh.2.2.1)) (fun (gh:Nat × Nat × OL × GH × List Nat)=>gh.2.2.2.1) (fun (gh:Nat × Nat × OL × GH × List Nat)=>gh.1≤(innerC x).length∧(∀ b o,G3 b=some o→gh.2.2.2.1 b=some o)∧Now ((pCells (innerC x)).map plP) plP J (pCells (innerC x)).length gh.2.1 (pCells ((innerC x).drop gh.1)) gh.2.2.2.1 gh.2.2.1) (fun (gh:Nat × Nat × OL × GH × List Nat)=>(innerC x).length - gh.1) ((0,0,L,G3,[])) (by exact (H).sub ⟨rfl,rfl,rfl,rfl,trivial⟩) ?_ ?_
  ·exact ⟨by omega,fun _ _ h=>h,⟨hJm _ _ _ _ hm3 hJ,fun i a h=>by rw [Nat.zero_add,List.getElem?_map];rw [List.drop_zero] at h;rw [h];rfl,by simp⟩⟩
  clear H;intro gh a w hI H;obtain ⟨ck,j1,Lt,g,ds⟩:=gh;dsimp only at hI H;obtain ⟨hck,hgm,hnow⟩:=hI;dsimp only [List.cons_append,List.nil_append,List.append_nil] at H;refine kP H (SR fun _ K12=>Rc rfl (Kz K12 (SQ fun _ K13=>?_)));clear H K12;intro a H;refine c_cond H rfl ?_ ?_
  ·intro h34
   try have p34:=dT h34
   have hk3:ck < (innerC x).length:=by omega
   obtain ⟨b,o,sA,sn,sc,tA,tn,tc,uA,un,uc,gA,gn,gc,hiA2,hrow,hch,hcf⟩:=cell_get hk3 hin.at_;subst hiA2;replace hrow:=fun j u hj=>gcell_mono hgm (hrow j u hj);rw [List.drop_eq_getElem_cons hk3,pCells_cons] at hnow;refine kP H (Kc K13 (SQ fun _ K14=>SB (SR fun _ K15=>Ri un169run ty174run rfl rfl ?_)));clear H K13;intro a H;refine s_loada ty174run (cs:=[_,_,_,_,_,_,_]) H wn rfl rfl (fun j v hj=>H.hp.gcell (hrow j v hj)) rfl ?_;clear H;intro a H;refine s_alloc ty174run H wn rfl ?_;clear H;intro b7 a w hb7 H;refine s_store ty174run 0 (vs:=[_,_,_,_,_,_,_]) _ H wn rfl rfl rfl rfl rfl rfl rfl rfl ?_;clear H;intro w H;dsimp only [List.set,setRow] at H;refine K15 _ _ ?_;clear K15;refine kP H (SR fun _ K16=>Rf fd174_0run rfl (Ro ty3run 0 rfl rfl (Rf fd174_2run rfl (Ro ty32run 0 rfl rfl ?_))));clear H;intro a H;refine s_call en85plc H wn rfl (placed_spec' ih _ _ H.hp.ro (innerC x)[ck].flow (innerC x)[ck].id _ (by have:=innerC_sz (List.getElem_mem hk3);omega) (hcf.mono hgm)) rfl ?_;clear H;rintro v41 G41 a w ⟨bl,bi,rfl,hit⟩ hm41 H;refine K16 _ _ ?_;clear K16;refine c_block ?_;skip;refine c_rangeJ (ι:=OL) (κ:=OL) (Lc:=[(_,_),(_,_)]) (fun (k:Nat) (gh:OL)=>[]) (fun (k:Nat) (gh:OL)=>(mkL ds++gh)) (fun (k:Nat) (gh:OL) (g:GH)=>J (j1+k) g gh) (fun (gx:OL)=>Code.ret) (fun (gx:OL)=>[]) (fun (gx:OL)=>(mkL ds++gx)) (fun (gx:OL) (g:GH)=>Jx g gx) (Lt) (by exact H) rfl en162plc (hit) (fun _ _ h=>h) rfl (fun k args g h=>by obtain ⟨_,_,rfl,_⟩:=pl_at h;rfl) (fun k i G G' hm h=>hJm _ _ _ _ hm h) (fun x G G' hm h=>hJx _ _ _ hm h) (hJm _ _ _ _ hm41 hnow.now) ?_ ?_ ?_
   ·clear H;intro l13 rdy bsy bk k args gh G13 w13 F13 B13 a hk13 hm13 hI hbeg13 hnext13 hstop13 H;obtain ⟨Lt1,hgh⟩:∃ x,x=gh:=⟨_,rfl⟩;subst hgh;obtain ⟨hk,cs8,rfl,hrep8⟩:=pl_at hk13;obtain ⟨aA,an,ac,bA,bn,bc,dA8,dn8,dc8,eA8,en8,ec8,iA8,in8,ic8,rfl,-⟩:=hrep8.item;dsimp only [asg,List.cons_append,List.nil_append] at H;refine c_seqR (fun _ K17=>?_);refine s_alloc ty54plc H wn rfl ?_;clear H;intro b8 a w hb8 H;refine s_store ty54plc 0 (vs:=[_,_]) _ H wn rfl rfl rfl rfl rfl rfl rfl rfl ?_;clear H;intro w H;dsimp only [List.set,setRow] at H;refine K17 _ _ ?_;clear K17;refine c_region ?_;refine s_alloc ty35run H wn rfl ?_;clear H;intro b9 a w hb9 H;refine s_store ty35run 0 (vs:=[_,_,_,_,_,_,_,_,_,_,_]) _ H wn rfl rfl rfl rfl rfl rfl rfl rfl ?_;clear H;intro w H;dsimp only [List.set,setRow] at H;refine wl_nil ?_;refine hbeg13 _ _ _ _ _ _ (by exact H.pickT (Pl:=[_,_,_,_,_]) (Pl':=[_,_,_,_,_]) [2,0,1,3,4] (by decide) rfl) ?_;clear H;intro w H;refine kP H (SB (SR fun _ K18=>Ro ty251plc 4 rfl rfl ?_));clear H;intro a H;refine s_loada ty54plc (cs:=[_,_]) H wn rfl rfl (H.hp.ocells 2 rfl rfl) rfl ?_;clear H;intro a H;refine s_loada ty35run (cs:=[_,_,_,_,_,_,_,_,_,_,_]) H wn rfl rfl (H.hp.ocells 1 rfl rfl) rfl ?_;clear H;intro a H;refine s_callv (Li:=([_,_,_,_,_]++bk)++mkL ds) (L:=Lt1) (St.un (A:=[_,_,_,_,_]++bk) (St.un (A:=[_,_,_,_,_]) H)) wn rfl rfl (hcb (j1+k) _ _ _ _ ⟨_,hnow.part k _ (List.getElem?_eq_getElem hk),_,rfl,hrep8⟩ (fun b o h=>hm13 b o (hm41 b o (hgm b o (hm3 b o h)))) hI (Hp.owns (Li:=([_,_,_,_,_]++bk)++mkL ds) (St.un (A:=[_,_,_,_,_]++bk) (St.un (A:=[_,_,_,_,_]) H)).hp)) rfl ?_;clear H;rintro v47 G47 Lt47 a w ⟨b47,rfl,hb1,hb2⟩ hm47 H
    simp only [List.append_assoc,List.cons_append,List.nil_append] at H
    refine kH H (Rn rfl (Kz K18 ?_));clear H K18;intro a H;refine c_cond H rfl ?_ ?_
    ·intro h48
     try have p48:=dT h48
     refine c_ret ?_;refine (hstop13 (Lt47) _ _ _ _ _ (by exact H.pickT (Pl:=[_,_,_,_,_]) (Pl':=[_,_,_]) [0,3,4] (by decide) rfl) ?_).1 rfl;exact hb2 (by simpa using h48)
    intro h48
    try have p48:=dF h48
    refine c_skip ?_;refine hnext13 (Lt47) _ _ _ _ _ (by exact H.pickT (Pl:=[_,_,_,_,_]) (Pl':=[_,_,_]) [0,3,4] (by decide) rfl) ?_;exact hb1 (by simpa using h48)
   ·clear H;intro Dk13 gh Gd13 a w hm13 hI H;obtain ⟨Lt1,hgh⟩:∃ x,x=gh:=⟨_,rfl⟩;subst hgh;dsimp only [List.cons_append,List.nil_append,List.append_nil] at H;refine K14 _ _ ?_;clear K14;refine kP H (SC (Rd rfl (Rm rfl ?_)));clear H;intro a H;refine wl_nil ?_;refine loopD_end ((ck+1,j1+(pItems (innerC x)[ck].id 0 (innerC x)[ck].flow).length,Lt1,Gd13,Dk13 :: ds)) (by exact (H.pickT (Pl:=[_,_,_]) (Pl':=[_,_]) [2,0] (by decide) rfl).sub ⟨rfl,rfl,rfl,rfl,trivial⟩) ?_ ?_
    ·(try dsimp only);exact ⟨by omega,fun b o h=>hm13 b o (hm41 b o (hgm b o h)),hnow.jump (by simpa using hI)⟩
    first|omega|(dsimp only;omega)
   clear H;intro Dk13 gx Gd13 a w hm13 hI H;obtain ⟨Lx,hgh⟩:∃ x,x=gx:=⟨_,rfl⟩;subst hgh;dsimp only [List.cons_append,List.nil_append,List.append_nil] at H;refine c_ret ?_;refine (leaveM H 0 rfl ?_).1;clear H;intro a w H;dsimp only [List.eraseIdx_cons_succ,List.eraseIdx_cons_zero] at H;refine (leaveMs (Lh:=[_,_]) _ H ?_).1;clear H;intro a w H;dsimp only [List.cons_append,List.nil_append] at H;refine (leave0 H Tryz.results205 ?_).1
   first
    | exact H.hp.retD (L':=Lx) (by repeat (first|exact List.Sublist.refl _|apply List.Sublist.cons)) (.inr hI)
    | exact H.hp.retD (L':=Lt) (by repeat (first|exact List.Sublist.refl _|apply List.Sublist.cons)) (.inl (by rw [List.drop_of_length_le (by omega),pCells] at hnow;have:=hnow.len;simp only [List.length_nil,Nat.add_zero] at this;rw [List.length_map,← this];exact hnow.now))
  intro h34
  try have p34:=dF h34
  refine c_exit ?_;refine (leaveMs (Lh:=[_]) _ H ?_).2;clear H;intro a w H;dsimp only [List.cons_append,List.nil_append] at H;refine (leave0 H Tryz.results205 ?_).1
  first
   | exact H.hp.retD (L':=Lx) (by repeat (first|exact List.Sublist.refl _|apply List.Sublist.cons)) (.inr hI)
   | exact H.hp.retD (L':=Lt) (by repeat (first|exact List.Sublist.refl _|apply List.Sublist.cons)) (.inl (by rw [List.drop_of_length_le (by omega),pCells] at hnow;have:=hnow.len;simp only [List.length_nil,Nat.add_zero] at this;rw [List.length_map,← this];exact hnow.now))
 intro h18
 try have p18:=dF h18
 obtain ⟨G3,hm3,hin,H⟩:=H.giveOne (sz:=7) (d:=(CellD.mk x.id ⟨[],⟨0,0,[],[]⟩⟩ x.flow).dat) rfl (RepRow.mkCell (x:=CellD.mk x.id ⟨[],⟨0,0,[],[]⟩⟩ x.flow) ⟨RepV.nil_ rfl (by decide),RepV.nil_ rfl (by decide),RepV.nil_ rfl (by decide)⟩ (hf.mono hGi))
 replace hin:RepV G3 (.sl 7 ((innerC x).map CellD.dat)) (.slice (some ⟨b15,0,none⟩) 1 1):=by rw [innerC,if_neg p18];exact hin
 obtain ⟨iA,hiA⟩:∃ z,z=some (Addr.mk b15 0 none):=⟨_,rfl⟩;obtain ⟨ni,hni⟩:∃ z,z=1:=⟨_,rfl⟩;obtain ⟨ic,hic⟩:∃ z,z=1:=⟨_,rfl⟩;rw [← hiA] at hin H;have hni2:=hin.len;rw [List.length_map] at hni2
 have hisz:(innerC x).length≤4294967296:=by omega
 refine kP H (Kc K3 (SR fun _ K19=>Rm rfl (Rl un169run rfl (Rm rfl (Kz K19 (SB ?_))))));clear H K3 K19;intro a H;skip;refine c_loopD (ι:=Nat × Nat × OL × GH × List Nat) (Tc:=[(2,_),(31,_),(32,_)]) (Lc:=[(_,_)]) (fun (gh:Nat × Nat × OL × GH × List Nat)=>mkD gh.2.2.2.2) (fun (gh:Nat × Nat × OL × GH × List Nat)=>[(33,vi gh.1)]) (fun (gh:Nat × Nat × OL × GH × List Nat)=>[]++(mkL gh.2.2.2.2++gh.2.2.1)) (fun (gh:Nat × Nat × OL × GH × List Nat)=>gh.2.2.2.1) (fun (gh:Nat × Nat × OL × GH × List Nat)=>gh.1≤(innerC x).length∧(∀ b o,G3 b=some o→gh.2.2.2.1 b=some o)∧Now ((pCells (innerC x)).map plP) plP J (pCells (innerC x)).length gh.2.1 (pCells ((innerC x).drop gh.1)) gh.2.2.2.1 gh.2.2.1) (fun (gh:Nat × Nat × OL × GH × List Nat)=>(innerC x).length - gh.1) ((0,0,L,G3,[])) (by exact (H).sub ⟨rfl,rfl,rfl,rfl,trivial⟩) ?_ ?_
 ·exact ⟨by omega,fun _ _ h=>h,⟨hJm _ _ _ _ hm3 hJ,fun i a h=>by rw [Nat.zero_add,List.getElem?_map];rw [List.drop_zero] at h;rw [h];rfl,by simp⟩⟩
 clear H;intro gh a w hI H;obtain ⟨ck,j1,Lt,g,ds⟩:=gh;dsimp only at hI H;obtain ⟨hck,hgm,hnow⟩:=hI;dsimp only [List.cons_append,List.nil_append,List.append_nil] at H;refine kP H (SR fun _ K20=>Rc rfl (Kz K20 (SQ fun _ K21=>?_)));clear H K20;intro a H;refine c_cond H rfl ?_ ?_
 ·intro h34
  try have p34:=dT h34
  have hk3:ck < (innerC x).length:=by omega
  obtain ⟨b,o,sA,sn,sc,tA,tn,tc,uA,un,uc,gA,gn,gc,hiA2,hrow,hch,hcf⟩:=cell_get hk3 hin.at_;subst hiA2;replace hrow:=fun j u hj=>gcell_mono hgm (hrow j u hj);rw [List.drop_eq_getElem_cons hk3,pCells_cons] at hnow;refine kP H (Kc K21 (SQ fun _ K22=>SB (SR fun _ K23=>Ri un169run ty174run rfl rfl ?_)));clear H K21;intro a H;refine s_loada ty174run (cs:=[_,_,_,_,_,_,_]) H wn rfl rfl (fun j v hj=>H.hp.gcell (hrow j v hj)) rfl ?_;clear H;intro a H;refine s_alloc ty174run H wn rfl ?_;clear H;intro b7 a w hb7 H;refine s_store ty174run 0 (vs:=[_,_,_,_,_,_,_]) _ H wn rfl rfl rfl rfl rfl rfl rfl rfl ?_;clear H;intro w H;dsimp only [List.set,setRow] at H;refine K23 _ _ ?_;clear K23;refine kP H (SR fun _ K24=>Rf fd174_0run rfl (Ro ty3run 0 rfl rfl (Rf fd174_2run rfl (Ro ty32run 0 rfl rfl ?_))));clear H;intro a H;refine s_call en85plc H wn rfl (placed_spec' ih _ _ H.hp.ro (innerC x)[ck].flow (innerC x)[ck].id _ (by have:=innerC_sz (List.getElem_mem hk3);omega) (hcf.mono hgm)) rfl ?_;clear H;rintro v41 G41 a w ⟨bl,bi,rfl,hit⟩ hm41 H;refine K24 _ _ ?_;clear K24;refine c_block ?_;skip;refine c_rangeJ (ι:=OL) (κ:=OL) (Lc:=[(_,_),(_,_)]) (fun (k:Nat) (gh:OL)=>[]) (fun (k:Nat) (gh:OL)=>(mkL ds++gh)) (fun (k:Nat) (gh:OL) (g:GH)=>J (j1+k) g gh) (fun (gx:OL)=>Code.ret) (fun (gx:OL)=>[]) (fun (gx:OL)=>(mkL ds++gx)) (fun (gx:OL) (g:GH)=>Jx g gx) (Lt) (by exact H) rfl en162plc (hit) (fun _ _ h=>h) rfl (fun k args g h=>by obtain ⟨_,_,rfl,_⟩:=pl_at h;rfl) (fun k i G G' hm h=>hJm _ _ _ _ hm h) (fun x G G' hm h=>hJx _ _ _ hm h) (hJm _ _ _ _ hm41 hnow.now) ?_ ?_ ?_
  ·clear H;intro l13 rdy bsy bk k args gh G13 w13 F13 B13 a hk13 hm13 hI hbeg13 hnext13 hstop13 H;obtain ⟨Lt1,hgh⟩:∃ x,x=gh:=⟨_,rfl⟩;subst hgh;obtain ⟨hk,cs8,rfl,hrep8⟩:=pl_at hk13;obtain ⟨aA,an,ac,bA,bn,bc,dA8,dn8,dc8,eA8,en8,ec8,iA8,in8,ic8,rfl,-⟩:=hrep8.item;dsimp only [asg,List.cons_append,List.nil_append] at H;refine c_seqR (fun _ K25=>?_);refine s_alloc ty54plc H wn rfl ?_;clear H;intro b8 a w hb8 H;refine s_store ty54plc 0 (vs:=[_,_]) _ H wn rfl rfl rfl rfl rfl rfl rfl rfl ?_;clear H;intro w H;dsimp only [List.set,setRow] at H;refine K25 _ _ ?_;clear K25;refine c_region ?_;refine s_alloc ty35run H wn rfl ?_;clear H;intro b9 a w hb9 H;refine s_store ty35run 0 (vs:=[_,_,_,_,_,_,_,_,_,_,_]) _ H wn rfl rfl rfl rfl rfl rfl rfl rfl ?_;clear H;intro w H;dsimp only [List.set,setRow] at H;refine wl_nil ?_;refine hbeg13 _ _ _ _ _ _ (by exact H.pickT (Pl:=[_,_,_,_,_]) (Pl':=[_,_,_,_,_]) [2,0,1,3,4] (by decide) rfl) ?_;clear H;intro w H;refine kP H (SB (SR fun _ K26=>Ro ty251plc 4 rfl rfl ?_));clear H;intro a H;refine s_loada ty54plc (cs:=[_,_]) H wn rfl rfl (H.hp.ocells 2 rfl rfl) rfl ?_;clear H;intro a H;refine s_loada ty35run (cs:=[_,_,_,_,_,_,_,_,_,_,_]) H wn rfl rfl (H.hp.ocells 1 rfl rfl) rfl ?_;clear H;intro a H;refine s_callv (Li:=([_,_,_,_,_]++bk)++mkL ds) (L:=Lt1) (St.un (A:=[_,_,_,_,_]++bk) (St.un (A:=[_,_,_,_,_]) H)) wn rfl rfl (hcb (j1+k) _ _ _ _ ⟨_,hnow.part k _ (List.getElem?_eq_getElem hk),_,rfl,hrep8⟩ (fun b o h=>hm13 b o (hm41 b o (hgm b o (hm3 b o h)))) hI (Hp.owns (Li:=([_,_,_,_,_]++bk)++mkL ds) (St.un (A:=[_,_,_,_,_]++bk) (St.un (A:=[_,_,_,_,_]) H)).hp)) rfl ?_;clear H;rintro v47 G47 Lt47 a w ⟨b47,rfl,hb1,hb2⟩ hm47 H
   simp only [List.append_assoc,List.cons_append,List.nil_append] at H
   refine kH H (Rn rfl (Kz K26 ?_));clear H K26;intro a H;refine c_cond H rfl ?_ ?_
   ·intro h48
    try have p48:=dT h48
    refine c_ret ?_;refine (hstop13 (Lt47) _ _ _ _ _ (by exact H.pickT (Pl:=[_,_,_,_,_]) (Pl':=[_,_,_]) [0,3,4] (by decide) rfl) ?_).1 rfl;exact hb2 (by simpa using h48)
   intro h48
   try have p48:=dF h48
   refine c_skip ?_;refine hnext13 (Lt47) _ _ _ _ _ (by exact H.pickT (Pl:=[_,_,_,_,_]) (Pl':=[_,_,_]) [0,3,4] (by decide) rfl) ?_;exact hb1 (by simpa using h48)
  ·clear H;intro Dk13 gh Gd13 a w hm13 hI H;obtain ⟨Lt1,hgh⟩:∃ x,x=gh:=⟨_,rfl⟩;subst hgh;dsimp only [List.cons_append,List.nil_append,List.append_nil] at H;refine K22 _ _ ?_;clear K22;refine kP H (SC (Rd rfl (Rm rfl ?_)));clear H;intro a H;refine wl_nil ?_;refine loopD_end ((ck+1,j1+(pItems (innerC x)[ck].id 0 (innerC x)[ck].flow).length,Lt1,Gd13,Dk13 :: ds)) (by exact (H.pickT (Pl:=[_,_,_]) (Pl':=[_,_]) [2,0] (by decide) rfl).sub ⟨rfl,rfl,rfl,rfl,trivial⟩) ?_ ?_
   ·(try dsimp only);exact ⟨by omega,fun b o h=>hm13 b o (hm41 b o (hgm b o h)),hnow.jump (by simpa using hI)⟩
   first|omega|(dsimp only;omega)
  clear H;intro Dk13 gx Gd13 a w hm13 hI H;obtain ⟨Lx,hgh⟩:∃ x,x=gx:=⟨_,rfl⟩;subst hgh;dsimp only [List.cons_append,List.nil_append,List.append_nil] at H;refine c_ret ?_;refine (leaveM H 0 rfl ?_).1;clear H;intro a w H;dsimp only [List.eraseIdx_cons_succ,List.eraseIdx_cons_zero] at H;refine (leaveMs (Lh:=[_,_]) _ H ?_).1;clear H;intro a w H;dsimp only [List.cons_append,List.nil_append] at H;refine (leave0 H Tryz.results205 ?_).1
  first
   | exact H.hp.retD (L':=Lx) (by repeat (first|exact List.Sublist.refl _|apply List.Sublist.cons)) (.inr hI)
   | exact H.hp.retD (L':=Lt) (by repeat (first|exact List.Sublist.refl _|apply List.Sublist.cons)) (.inl (by rw [List.drop_of_length_le (by omega),pCells] at hnow;have:=hnow.len;simp only [List.length_nil,Nat.add_zero] at this;rw [List.length_map,← this];exact hnow.now))
 intro h34
 try have p34:=dF h34
 refine c_exit ?_;refine (leaveMs (Lh:=[_]) _ H ?_).2;clear H;intro a w H;dsimp only [List.cons_append,List.nil_append] at H;refine (leave0 H Tryz.results205 ?_).1
 first
  | exact H.hp.retD (L':=Lx) (by repeat (first|exact List.Sublist.refl _|apply List.Sublist.cons)) (.inr hI)
  | exact H.hp.retD (L':=Lt) (by repeat (first|exact List.Sublist.refl _|apply List.Sublist.cons)) (.inl (by rw [List.drop_of_length_le (by omega),pCells] at hnow;have:=hnow.len;simp only [List.length_nil,Nat.add_zero] at this;rw [List.length_map,← this];exact hnow.now))
theorem within_spec {n:Nat} (ih:PlacedOk n) (hn:n≤4294967296) (G:GH) (w0:World) (hG:Hold G w0) (x:ItemD) (cs:List Value) (hsz:szR x.dat≤n) (hv:RepRow G x.dat cs) :
  Calls Tryz.prog 163 #[.agg cs.toArray] w0 (Ret w0 G fun u G'=>∃ bx,u=.func (.func 205) #[] #[.pointer (some ⟨bx,0,none⟩)]∧Iter Tryz.prog G' u ((pCells (innerC x)).map plP)):=by
 obtain ⟨pA,pn,pc,dA,dn,dc,yA,yn,yc,fA,fn,fc,rA,rn,rc,hcs,-⟩:=hv.item;have hv2:=hv;rw [hcs] at hv2 ⊢;refine eN [(0,_)] Tryz.func163 rfl Tryz.ntmps163 rfl rfl hG ?_;intro a H;refine c_seqR (fun _ K1=>?_);refine s_box (cs:=[_,_,_,_,_,_,_,_,_,_,_]) H wn rfl rfl rfl ?_;clear H;intro b1 a w hb1 H;refine kH H (Ra rfl (Kz K1 (SR fun _ K2=>?_)));clear H K1;intro a H;refine s_makeFunc H wn rfl rfl ?_;clear H;intro a H;refine kH H (Ra rfl (Kz K2 ?_));clear H K2;intro a H;refine c_ret ?_;obtain ⟨G2,hm2,hb1,H⟩:=H.giveBox;refine lv H Tryz.results163 rfl ?_;exact H.hp.ret ⟨b1,rfl,within1_iter ih hn hsz hb1 (hv2.mono hm2)⟩
theorem adv_le (x:ItemD):adv x < szR x.dat:=by
 have h1:=zItem_eq x;have h2:=cntS_le x.text
 unfold adv;split <;> omega
set_option maxHeartbeats 1000000 in
theorem placed_step {n:Nat} (ih:PlacedOk n) (hn:n≤4294967296):PlacedOk (n+1):=by
 intro G l id bl bi v hz hbl hbi hv J Jx fv G1 L w0 hfv hGi hJm hJx hJ hO hcb;refine callV_func (caps:=[.pointer (some ⟨bl,0,none⟩),.pointer (some ⟨bi,0,none⟩)]) en162plc ?_;obtain ⟨A,c,rfl,hc1,hc2,hg⟩:=hv.slice;rw [List.length_map] at *;have hll:=zItems_length l;replace hbl:=gcell_mono hGi hbl;replace hbi:=gcell_mono hGi hbi;refine enterL (N:=55) (T:=[(0,_),(1,_),(2,_)]) Tryz.func162 rfl Tryz.ntmps162 rfl rfl hO ?_;intro a H;refine c_seqR (fun _ K1=>?_);refine s_box (cs:=[fv]) H wn rfl hfv rfl ?_;clear H;intro b3 a w hb3 H;refine K1 _ _ ?_;clear K1;refine kP H (SR fun _ K2=>Ra rfl (Kz K2 (SR fun _ K3=>Rg ty32run rfl (by assumption) ?_)));clear H K2;intro a H;refine kH H (Rl un32run rfl (Rm rfl (Kz K3 (SB ?_))));clear H K3;intro a H;skip;refine c_loopD (ι:=Nat × Int × Nat × OL × GH × List Nat) (Tc:=[(2,_),(3,_),(12,_),(13,_)]) (Lc:=[(_,_)]) (fun (gh:Nat × Int × Nat × OL × GH × List Nat)=>mkD gh.2.2.2.2.2) (fun (gh:Nat × Int × Nat × OL × GH × List Nat)=>[(4,vi gh.2.1),(14,vi gh.1)]) (fun (gh:Nat × Int × Nat × OL × GH × List Nat)=>[]++(mkL gh.2.2.2.2.2++gh.2.2.2.1)) (fun (gh:Nat × Int × Nat × OL × GH × List Nat)=>gh.2.2.2.2.1) (fun (gh:Nat × Int × Nat × OL × GH × List Nat)=>gh.1≤l.length∧(∀ b o,G1 b=some o→gh.2.2.2.2.1 b=some o)∧Now ((pItems id 0 l).map plP) plP J (pItems id 0 l).length gh.2.2.1 (pItems id gh.2.1 (l.drop gh.1)) gh.2.2.2.2.1 gh.2.2.2.1∧0≤gh.2.1∧gh.2.1+zItems (l.drop gh.1)≤n) (fun (gh:Nat × Int × Nat × OL × GH × List Nat)=>l.length - gh.1) ((0,0,0,L,G1,[])) (by exact (H).sub ⟨rfl,rfl,rfl,rfl,rfl,rfl,trivial⟩) ?_ ?_
 ·exact ⟨by omega,fun _ _ h=>h,⟨hJ,fun i a h=>by rw [Nat.zero_add,List.getElem?_map];rw [List.drop_zero] at h;rw [h];rfl,by simp⟩,Int.le_refl _,by simp;omega⟩
 clear H;intro gh a w hI H;obtain ⟨k,at_,j1,Lt,g,ds⟩:=gh;dsimp only at hI H;obtain ⟨hk,hgm,hnow,hat0,hat⟩:=hI;dsimp only [List.cons_append,List.nil_append,List.append_nil] at H;refine kP H (SR fun _ K4=>Rc rfl (Kz K4 (SQ fun _ K5=>?_)));clear H K4;intro a H;refine c_cond H rfl ?_ ?_
 ·intro h15
  try have p15:=dT h15
  have hk2:k < l.length:=by omega
  obtain ⟨b,o,pA,pn,pc,dA,dn,dc,yA,yn,yc,fA,fn,fc,rA,rn,rc,rfl,hrow,hhd,hfl,hrw⟩:=flow_get hk2 hg;have hgm0:∀ b o,G b=some o→g b=some o:=fun b o h=>hgm b o (hGi b o h);replace hrow:=fun j u hj=>gcell_mono hgm0 (hrow j u hj);have hbi2:=gcell_mono hgm hbi;have hsz1:=zItem_eq l[k];have hsz2:=zItems_mem (List.getElem_mem hk2);have hadv:=adv_le l[k];rw [List.drop_eq_getElem_cons hk2] at hnow hat;rw [zItems,List.map_cons,szRs] at hat;rw [pItems] at hnow;refine kP H (Kc K5 (SQ fun _ K6=>SB (SR fun _ K7=>Ri un32run ty35run rfl rfl ?_)));clear H K5;intro a H;refine s_loada ty35run (cs:=[_,_,_,_,_,_,_,_,_,_,_]) H wn rfl rfl (fun j v hj=>H.hp.gcell (hrow j v hj)) rfl ?_;clear H;intro a H;refine s_alloc ty35run H wn rfl ?_;clear H;intro b6 a w hb6 H;refine s_store ty35run 0 (vs:=[_,_,_,_,_,_,_,_,_,_,_]) _ H wn rfl rfl rfl rfl rfl rfl rfl rfl ?_;clear H;intro w H;dsimp only [List.set,setRow] at H;refine K7 _ _ ?_;clear K7;refine kP H (SR fun _ K8=>Rg ty3run rfl (by assumption) ?_);clear H;intro a H;refine kH H (Rm rfl ?_);clear H;intro a H;refine s_build sr54plc [_,_] H wn rfl rfl rfl rfl ?_;clear H;intro a H;refine s_alloc ty54plc H wn rfl ?_;clear H;intro b7 a w hb7 H;refine s_store ty54plc 0 (vs:=[_,_]) _ H wn rfl rfl rfl rfl rfl rfl rfl rfl ?_;clear H;intro w H;dsimp only [List.set,setRow] at H;refine K8 _ _ ?_;clear K8;refine kP H (SR fun _ K9=>Rm rfl (Rd rfl (Ra rfl (Kz K9 (SR fun _ K10=>Rf fd35_0run rfl (Ro ty3run 1 rfl rfl (Kz K10 (SB (SR fun _ K11=>Rc rfl (Ra rfl (Kz K11 ?_)))))))))));clear H K9 K10 K11;intro a H;refine c_cond H rfl ?_ ?_
  ·intro h25
   try have p25:=dT h25
   have hcl:=cntS_le l[k].text;refine kP H (SR fun _ K12=>Rf fd35_3run rfl (Ro ty9run 1 rfl rfl ?_));clear H;intro a H;refine s_call en93run H wn rfl (count_spec _ _ H.hp.ro _ (by omega)) rfl ?_;clear H;rintro v30 G30 a w ⟨rfl,rfl⟩ hm30 H;refine kH H (Rm rfl ?_);clear H;intro a H;(iterate 2 refine s_extract H wn rfl rfl rfl ?_;clear H;intro a H);refine kH H (Ra rfl (Ra rfl (Kz K12 (SC (Rm rfl (Rm rfl (Rs rfl (Rd rfl (Ra rfl ?_)))))))));clear H K12;intro a H
   have e:at_+1+((cntS l[k].text:Int) - 1)=at_+(adv l[k]:Int):=by rw [adv,if_pos p25];omega
   rw [e] at H;refine kH H (Kn K6 (SC (Rd rfl (Rm rfl ?_))));clear H K6;intro a H;refine wl_nil ?_;refine loopD_end ((k+1,at_+adv l[k],j1,Lt,g,ds)) (by exact (H.pickT (Pl:=[_,_,_]) (Pl':=[_]) [2] (by decide) rfl).sub ⟨rfl,rfl,rfl,rfl,rfl,rfl,trivial⟩) ?_ ?_
   ·(try dsimp only);exact ⟨by omega,hgm,by rw [pItem_eq,if_neg (by omega),List.nil_append] at hnow;exact hnow,by omega,by show at_+(adv l[k]:Int)+(szRs ((l.drop (k+1)).map ItemD.dat):Nat)≤n;omega⟩
   first|omega|(dsimp only;omega)
  intro h25
  try have p25:=dF h25
  have e:at_+1=at_+(adv l[k]:Int):=by rw [adv,if_neg p25];rfl
  rw [e] at H;refine kP H (SQ fun _ K13=>SR fun _ K14=>Rc rfl (Ra rfl (Kz K14 ?_)));clear H K14;intro a H;refine c_cond H rfl ?_ ?_
  ·intro h37
   try have p37:=dT h37
   have h67:l[k].kind=6∨l[k].kind=7:=by first|exact .inl p37|exact .inr p37
   rw [pItem_eq,if_pos h67] at hnow;refine c_skip ?_;refine K13 _ _ ?_;clear K13;refine c_cond_t H rfl h37 ?_;refine kP H (SQ fun _ K15=>SR fun _ K16=>Ro ty251plc 2 rfl rfl ?_);clear H;intro a H;refine s_loada ty54plc (cs:=[_,_]) H wn rfl rfl (H.hp.ocells 0 rfl rfl) rfl ?_;clear H;intro a H;refine s_loada ty35run (cs:=[_,_,_,_,_,_,_,_,_,_,_]) H wn rfl rfl (H.hp.ocells 1 rfl rfl) rfl ?_;clear H;intro a H;refine s_callv (Li:=[_,_,_]++mkL ds) (L:=Lt) (St.un (A:=[_,_,_]) H) wn rfl rfl (hcb j1 _ _ _ _ ⟨_,hnow.head,_,rfl,RepRow.mkItem (hhd.mono hgm0) (hfl.mono hgm0) (hrw.mono hgm0)⟩ hgm hnow.now (Hp.owns (Li:=[_,_,_]++mkL ds) (St.un (A:=[_,_,_]) H).hp)) rfl ?_;clear H;rintro v43 G43 Lt43 a w ⟨b43,rfl,hb1,hb2⟩ hm43 H
   simp only [List.append_assoc,List.cons_append,List.nil_append] at H
   refine kH H (Rn rfl (Kz K16 ?_));clear H K16;intro a H;refine c_cond H rfl ?_ ?_
   ·intro h44
    try have p44:=dT h44
    refine c_ret ?_;refine (leaveMs (Lh:=[_,_,_]) _ H ?_).1;clear H;intro a w H;dsimp only [List.cons_append,List.nil_append] at H;refine (leave0 H Tryz.results162 ?_).1
    first
     | exact H.hp.retD (L':=Lx) (by repeat (first|exact List.Sublist.refl _|apply List.Sublist.cons)) (.inr hI)
     | exact H.hp.retD (L':=Lt43) (by repeat (first|exact List.Sublist.refl _|apply List.Sublist.cons)) (.inr (hb2 (by simpa using h44)))
     | exact H.hp.retD (L':=Lt) (by repeat (first|exact List.Sublist.refl _|apply List.Sublist.cons)) (.inl (by rw [List.drop_of_length_le (by omega),pItems] at hnow;have:=hnow.len;simp only [List.length_nil,Nat.add_zero] at this;(try rw [List.length_map]);rw [← this];exact hnow.now))
   intro h44
   try have p44:=dF h44
   have hnow2:=hnow.step (hb1 (by simpa using h44));refine c_skip ?_;refine K15 _ _ ?_;clear K15;refine c_seqR (fun _ K17=>?_);refine s_loada ty35run (cs:=[_,_,_,_,_,_,_,_,_,_,_]) H wn rfl rfl (H.hp.ocells 1 rfl rfl) rfl ?_;clear H;intro a H;refine s_call en163plc H wn rfl (within_spec ih hn _ _ H.hp.ro l[k] _ (by omega) (RepRow.mkItem (hhd.mono fun b o h=>hm43 b o (hgm0 b o h)) (hfl.mono fun b o h=>hm43 b o (hgm0 b o h)) (hrw.mono fun b o h=>hm43 b o (hgm0 b o h)))) rfl ?_;clear H;rintro v46 G46 a w ⟨bx,rfl,hit⟩ hm46 H;refine K17 _ _ ?_;clear K17;refine c_block ?_;skip;refine c_rangeJ (ι:=OL) (κ:=OL) (Lc:=[(_,_),(_,_),(_,_)]) (fun (k:Nat) (gh:OL)=>[]) (fun (k:Nat) (gh:OL)=>(mkL ds++gh)) (fun (k:Nat) (gh:OL) (g:GH)=>J (j1+1+k) g gh) (fun (gx:OL)=>Code.ret) (fun (gx:OL)=>[]) (fun (gx:OL)=>(mkL ds++gx)) (fun (gx:OL) (g:GH)=>Jx g gx) (Lt43) (by exact H) rfl en205plc (hit) (fun _ _ h=>h) rfl (fun k args g h=>by obtain ⟨_,_,rfl,_⟩:=pl_at h;rfl) (fun k i G G' hm h=>hJm _ _ _ _ hm h) (fun x G G' hm h=>hJx _ _ _ hm h) (hJm _ _ _ _ hm46 hnow2.now) ?_ ?_ ?_
   ·clear H;intro l15 rdy bsy bk k args gh G15 w15 F15 B15 a hk15 hm15 hI hbeg15 hnext15 hstop15 H;obtain ⟨Lt1,hgh⟩:∃ x,x=gh:=⟨_,rfl⟩;subst hgh;obtain ⟨hk8,cs8,rfl,hrep8⟩:=pl_at hk15;obtain ⟨aA,an,ac,bA,bn,bc,dA8,dn8,dc8,eA8,en8,ec8,iA8,in8,ic8,rfl,-⟩:=hrep8.item;dsimp only [asg,List.cons_append,List.nil_append] at H;refine c_seqR (fun _ K18=>?_);refine s_alloc ty54plc H wn rfl ?_;clear H;intro b10 a w hb10 H;refine s_store ty54plc 0 (vs:=[_,_]) _ H wn rfl rfl rfl rfl rfl rfl rfl rfl ?_;clear H;intro w H;dsimp only [List.set,setRow] at H;refine K18 _ _ ?_;clear K18;refine c_region ?_;refine s_alloc ty35run H wn rfl ?_;clear H;intro b11 a w hb11 H;refine s_store ty35run 0 (vs:=[_,_,_,_,_,_,_,_,_,_,_]) _ H wn rfl rfl rfl rfl rfl rfl rfl rfl ?_;clear H;intro w H;dsimp only [List.set,setRow] at H;refine wl_nil ?_;refine hbeg15 _ _ _ _ _ _ (by exact H.pickT (Pl:=[_,_,_,_,_,_]) (Pl':=[_,_,_,_,_,_]) [2,0,1,3,4,5] (by decide) rfl) ?_;clear H;intro w H;refine kP H (SB (SR fun _ K19=>Ro ty251plc 5 rfl rfl ?_));clear H;intro a H;refine s_loada ty54plc (cs:=[_,_]) H wn rfl rfl (H.hp.ocells 2 rfl rfl) rfl ?_;clear H;intro a H;refine s_loada ty35run (cs:=[_,_,_,_,_,_,_,_,_,_,_]) H wn rfl rfl (H.hp.ocells 1 rfl rfl) rfl ?_;clear H;intro a H;refine s_callv (Li:=([_,_,_,_,_,_]++bk)++mkL ds) (L:=Lt1) (St.un (A:=[_,_,_,_,_,_]++bk) (St.un (A:=[_,_,_,_,_,_]) H)) wn rfl rfl (hcb (j1+1+k) _ _ _ _ ⟨_,hnow2.part k _ (List.getElem?_eq_getElem hk8),_,rfl,hrep8⟩ (fun b o h=>hm15 b o (hm46 b o (hm43 b o (hgm b o h)))) hI (Hp.owns (Li:=([_,_,_,_,_,_]++bk)++mkL ds) (St.un (A:=[_,_,_,_,_,_]++bk) (St.un (A:=[_,_,_,_,_,_]) H)).hp)) rfl ?_;clear H;rintro v52 G52 Lt52 a w ⟨b52,rfl,hb3,hb4⟩ hm52 H
    simp only [List.append_assoc,List.cons_append,List.nil_append] at H
    refine kH H (Rn rfl (Kz K19 ?_));clear H K19;intro a H;refine c_cond H rfl ?_ ?_
    ·intro h53
     try have p53:=dT h53
     refine c_ret ?_;refine (hstop15 (Lt52) _ _ _ _ _ (by exact H.pickT (Pl:=[_,_,_,_,_,_]) (Pl':=[_,_,_,_]) [0,3,4,5] (by decide) rfl) ?_).1 rfl;exact hb4 (by simpa using h53)
    intro h53
    try have p53:=dF h53
    refine c_skip ?_;refine hnext15 (Lt52) _ _ _ _ _ (by exact H.pickT (Pl:=[_,_,_,_,_,_]) (Pl':=[_,_,_,_]) [0,3,4,5] (by decide) rfl) ?_;exact hb3 (by simpa using h53)
   ·clear H;intro Dk15 gh Gd15 a w hm15 hI H;obtain ⟨Lt1,hgh⟩:∃ x,x=gh:=⟨_,rfl⟩;subst hgh;dsimp only [List.cons_append,List.nil_append,List.append_nil] at H;refine K6 _ _ ?_;clear K6;refine kP H (SC (Rd rfl (Rm rfl ?_)));clear H;intro a H;refine wl_nil ?_;refine loopD_end ((k+1,at_+adv l[k],j1+1+(pCells (innerC l[k])).length,Lt1,Gd15,Dk15 :: ds)) (by exact (H.pickT (Pl:=[_,_,_,_]) (Pl':=[_,_]) [3,0] (by decide) rfl).sub ⟨rfl,rfl,rfl,rfl,rfl,rfl,trivial⟩) ?_ ?_
    ·(try dsimp only);exact ⟨by omega,fun b o h=>hm15 b o (hm46 b o (hm43 b o (hgm b o h))),hnow2.jump (by simpa using hI),by omega,by show at_+(adv l[k]:Int)+(szRs ((l.drop (k+1)).map ItemD.dat):Nat)≤n;omega⟩
    first|omega|(dsimp only;omega)
   clear H;intro Dk15 gx Gd15 a w hm15 hI H;obtain ⟨Lx,hgh⟩:∃ x,x=gx:=⟨_,rfl⟩;subst hgh;dsimp only [List.cons_append,List.nil_append,List.append_nil] at H;refine c_ret ?_;refine (leaveM H 0 rfl ?_).1;clear H;intro a w H;dsimp only [List.eraseIdx_cons_succ,List.eraseIdx_cons_zero] at H;refine (leaveMs (Lh:=[_,_,_]) _ H ?_).1;clear H;intro a w H;dsimp only [List.cons_append,List.nil_append] at H;refine (leave0 H Tryz.results162 ?_).1
   first
    | exact H.hp.retD (L':=Lx) (by repeat (first|exact List.Sublist.refl _|apply List.Sublist.cons)) (.inr hI)
    | exact H.hp.retD (L':=Lt43) (by repeat (first|exact List.Sublist.refl _|apply List.Sublist.cons)) (.inr (hb2 (by simpa using h44)))
    | exact H.hp.retD (L':=Lt) (by repeat (first|exact List.Sublist.refl _|apply List.Sublist.cons)) (.inl (by rw [List.drop_of_length_le (by omega),pItems] at hnow;have:=hnow.len;simp only [List.length_nil,Nat.add_zero] at this;(try rw [List.length_map]);rw [← this];exact hnow.now))
  intro h37
  try have p37:=dF h37
  first
   | (have hn6:¬ l[k].kind=6:=p37)
   | (have hn7:¬ l[k].kind=7:=p37)
  refine kP H (SC (Rc rfl (Ra rfl (Kn K13 ?_))));clear H K13;intro a H;refine c_cond H rfl ?_ ?_
  ·intro h37
   try have p37:=dT h37
   have h67:l[k].kind=6∨l[k].kind=7:=by first|exact .inl p37|exact .inr p37
   rw [pItem_eq,if_pos h67] at hnow;refine kP H (SQ fun _ K20=>SR fun _ K21=>Ro ty251plc 2 rfl rfl ?_);clear H;intro a H;refine s_loada ty54plc (cs:=[_,_]) H wn rfl rfl (H.hp.ocells 0 rfl rfl) rfl ?_;clear H;intro a H;refine s_loada ty35run (cs:=[_,_,_,_,_,_,_,_,_,_,_]) H wn rfl rfl (H.hp.ocells 1 rfl rfl) rfl ?_;clear H;intro a H;refine s_callv (Li:=[_,_,_]++mkL ds) (L:=Lt) (St.un (A:=[_,_,_]) H) wn rfl rfl (hcb j1 _ _ _ _ ⟨_,hnow.head,_,rfl,RepRow.mkItem (hhd.mono hgm0) (hfl.mono hgm0) (hrw.mono hgm0)⟩ hgm hnow.now (Hp.owns (Li:=[_,_,_]++mkL ds) (St.un (A:=[_,_,_]) H).hp)) rfl ?_;clear H;rintro v43 G43 Lt43 a w ⟨b43,rfl,hb1,hb2⟩ hm43 H
   simp only [List.append_assoc,List.cons_append,List.nil_append] at H
   refine kH H (Rn rfl (Kz K21 ?_));clear H K21;intro a H;refine c_cond H rfl ?_ ?_
   ·intro h44
    try have p44:=dT h44
    refine c_ret ?_;refine (leaveMs (Lh:=[_,_,_]) _ H ?_).1;clear H;intro a w H;dsimp only [List.cons_append,List.nil_append] at H;refine (leave0 H Tryz.results162 ?_).1
    first
     | exact H.hp.retD (L':=Lx) (by repeat (first|exact List.Sublist.refl _|apply List.Sublist.cons)) (.inr hI)
     | exact H.hp.retD (L':=Lt43) (by repeat (first|exact List.Sublist.refl _|apply List.Sublist.cons)) (.inr (hb2 (by simpa using h44)))
     | exact H.hp.retD (L':=Lt) (by repeat (first|exact List.Sublist.refl _|apply List.Sublist.cons)) (.inl (by rw [List.drop_of_length_le (by omega),pItems] at hnow;have:=hnow.len;simp only [List.length_nil,Nat.add_zero] at this;(try rw [List.length_map]);rw [← this];exact hnow.now))
   intro h44
   try have p44:=dF h44
   have hnow2:=hnow.step (hb1 (by simpa using h44));refine c_skip ?_;refine K20 _ _ ?_;clear K20;refine c_seqR (fun _ K22=>?_);refine s_loada ty35run (cs:=[_,_,_,_,_,_,_,_,_,_,_]) H wn rfl rfl (H.hp.ocells 1 rfl rfl) rfl ?_;clear H;intro a H;refine s_call en163plc H wn rfl (within_spec ih hn _ _ H.hp.ro l[k] _ (by omega) (RepRow.mkItem (hhd.mono fun b o h=>hm43 b o (hgm0 b o h)) (hfl.mono fun b o h=>hm43 b o (hgm0 b o h)) (hrw.mono fun b o h=>hm43 b o (hgm0 b o h)))) rfl ?_;clear H;rintro v46 G46 a w ⟨bx,rfl,hit⟩ hm46 H;refine K22 _ _ ?_;clear K22;refine c_block ?_;skip;refine c_rangeJ (ι:=OL) (κ:=OL) (Lc:=[(_,_),(_,_),(_,_)]) (fun (k:Nat) (gh:OL)=>[]) (fun (k:Nat) (gh:OL)=>(mkL ds++gh)) (fun (k:Nat) (gh:OL) (g:GH)=>J (j1+1+k) g gh) (fun (gx:OL)=>Code.ret) (fun (gx:OL)=>[]) (fun (gx:OL)=>(mkL ds++gx)) (fun (gx:OL) (g:GH)=>Jx g gx) (Lt43) (by exact H) rfl en205plc (hit) (fun _ _ h=>h) rfl (fun k args g h=>by obtain ⟨_,_,rfl,_⟩:=pl_at h;rfl) (fun k i G G' hm h=>hJm _ _ _ _ hm h) (fun x G G' hm h=>hJx _ _ _ hm h) (hJm _ _ _ _ hm46 hnow2.now) ?_ ?_ ?_
   ·clear H;intro l15 rdy bsy bk k args gh G15 w15 F15 B15 a hk15 hm15 hI hbeg15 hnext15 hstop15 H;obtain ⟨Lt1,hgh⟩:∃ x,x=gh:=⟨_,rfl⟩;subst hgh;obtain ⟨hk8,cs8,rfl,hrep8⟩:=pl_at hk15;obtain ⟨aA,an,ac,bA,bn,bc,dA8,dn8,dc8,eA8,en8,ec8,iA8,in8,ic8,rfl,-⟩:=hrep8.item;dsimp only [asg,List.cons_append,List.nil_append] at H;refine c_seqR (fun _ K23=>?_);refine s_alloc ty54plc H wn rfl ?_;clear H;intro b10 a w hb10 H;refine s_store ty54plc 0 (vs:=[_,_]) _ H wn rfl rfl rfl rfl rfl rfl rfl rfl ?_;clear H;intro w H;dsimp only [List.set,setRow] at H;refine K23 _ _ ?_;clear K23;refine c_region ?_;refine s_alloc ty35run H wn rfl ?_;clear H;intro b11 a w hb11 H;refine s_store ty35run 0 (vs:=[_,_,_,_,_,_,_,_,_,_,_]) _ H wn rfl rfl rfl rfl rfl rfl rfl rfl ?_;clear H;intro w H;dsimp only [List.set,setRow] at H;refine wl_nil ?_;refine hbeg15 _ _ _ _ _ _ (by exact H.pickT (Pl:=[_,_,_,_,_,_]) (Pl':=[_,_,_,_,_,_]) [2,0,1,3,4,5] (by decide) rfl) ?_;clear H;intro w H;refine kP H (SB (SR fun _ K24=>Ro ty251plc 5 rfl rfl ?_));clear H;intro a H;refine s_loada ty54plc (cs:=[_,_]) H wn rfl rfl (H.hp.ocells 2 rfl rfl) rfl ?_;clear H;intro a H;refine s_loada ty35run (cs:=[_,_,_,_,_,_,_,_,_,_,_]) H wn rfl rfl (H.hp.ocells 1 rfl rfl) rfl ?_;clear H;intro a H;refine s_callv (Li:=([_,_,_,_,_,_]++bk)++mkL ds) (L:=Lt1) (St.un (A:=[_,_,_,_,_,_]++bk) (St.un (A:=[_,_,_,_,_,_]) H)) wn rfl rfl (hcb (j1+1+k) _ _ _ _ ⟨_,hnow2.part k _ (List.getElem?_eq_getElem hk8),_,rfl,hrep8⟩ (fun b o h=>hm15 b o (hm46 b o (hm43 b o (hgm b o h)))) hI (Hp.owns (Li:=([_,_,_,_,_,_]++bk)++mkL ds) (St.un (A:=[_,_,_,_,_,_]++bk) (St.un (A:=[_,_,_,_,_,_]) H)).hp)) rfl ?_;clear H;rintro v52 G52 Lt52 a w ⟨b52,rfl,hb3,hb4⟩ hm52 H
    simp only [List.append_assoc,List.cons_append,List.nil_append] at H
    refine kH H (Rn rfl (Kz K24 ?_));clear H K24;intro a H;refine c_cond H rfl ?_ ?_
    ·intro h53
     try have p53:=dT h53
     refine c_ret ?_;refine (hstop15 (Lt52) _ _ _ _ _ (by exact H.pickT (Pl:=[_,_,_,_,_,_]) (Pl':=[_,_,_,_]) [0,3,4,5] (by decide) rfl) ?_).1 rfl;exact hb4 (by simpa using h53)
    intro h53
    try have p53:=dF h53
    refine c_skip ?_;refine hnext15 (Lt52) _ _ _ _ _ (by exact H.pickT (Pl:=[_,_,_,_,_,_]) (Pl':=[_,_,_,_]) [0,3,4,5] (by decide) rfl) ?_;exact hb3 (by simpa using h53)
   ·clear H;intro Dk15 gh Gd15 a w hm15 hI H;obtain ⟨Lt1,hgh⟩:∃ x,x=gh:=⟨_,rfl⟩;subst hgh;dsimp only [List.cons_append,List.nil_append,List.append_nil] at H;refine K6 _ _ ?_;clear K6;refine kP H (SC (Rd rfl (Rm rfl ?_)));clear H;intro a H;refine wl_nil ?_;refine loopD_end ((k+1,at_+adv l[k],j1+1+(pCells (innerC l[k])).length,Lt1,Gd15,Dk15 :: ds)) (by exact (H.pickT (Pl:=[_,_,_,_]) (Pl':=[_,_]) [3,0] (by decide) rfl).sub ⟨rfl,rfl,rfl,rfl,rfl,rfl,trivial⟩) ?_ ?_
    ·(try dsimp only);exact ⟨by omega,fun b o h=>hm15 b o (hm46 b o (hm43 b o (hgm b o h))),hnow2.jump (by simpa using hI),by omega,by show at_+(adv l[k]:Int)+(szRs ((l.drop (k+1)).map ItemD.dat):Nat)≤n;omega⟩
    first|omega|(dsimp only;omega)
   clear H;intro Dk15 gx Gd15 a w hm15 hI H;obtain ⟨Lx,hgh⟩:∃ x,x=gx:=⟨_,rfl⟩;subst hgh;dsimp only [List.cons_append,List.nil_append,List.append_nil] at H;refine c_ret ?_;refine (leaveM H 0 rfl ?_).1;clear H;intro a w H;dsimp only [List.eraseIdx_cons_succ,List.eraseIdx_cons_zero] at H;refine (leaveMs (Lh:=[_,_,_]) _ H ?_).1;clear H;intro a w H;dsimp only [List.cons_append,List.nil_append] at H;refine (leave0 H Tryz.results162 ?_).1
   first
    | exact H.hp.retD (L':=Lx) (by repeat (first|exact List.Sublist.refl _|apply List.Sublist.cons)) (.inr hI)
    | exact H.hp.retD (L':=Lt43) (by repeat (first|exact List.Sublist.refl _|apply List.Sublist.cons)) (.inr (hb2 (by simpa using h44)))
    | exact H.hp.retD (L':=Lt) (by repeat (first|exact List.Sublist.refl _|apply List.Sublist.cons)) (.inl (by rw [List.drop_of_length_le (by omega),pItems] at hnow;have:=hnow.len;simp only [List.length_nil,Nat.add_zero] at this;(try rw [List.length_map]);rw [← this];exact hnow.now))
  intro h37
  try have p37:=dF h37
  first
   | (have hn6:¬ l[k].kind=6:=p37)
   | (have hn7:¬ l[k].kind=7:=p37)
  refine kP H (Kc K6 (SC (Rd rfl (Rm rfl ?_))));clear H K6;intro a H;refine wl_nil ?_;refine loopD_end ((k+1,at_+adv l[k],j1,Lt,g,ds)) (by exact (H.pickT (Pl:=[_,_,_]) (Pl':=[_]) [2] (by decide) rfl).sub ⟨rfl,rfl,rfl,rfl,rfl,rfl,trivial⟩) ?_ ?_
  ·(try dsimp only);exact ⟨by omega,hgm,by rw [pItem_eq,if_neg (by omega),List.nil_append] at hnow;exact hnow,by omega,by show at_+(adv l[k]:Int)+(szRs ((l.drop (k+1)).map ItemD.dat):Nat)≤n;omega⟩
  first|omega|(dsimp only;omega)
 intro h15
 try have p15:=dF h15
 refine c_exit ?_;refine (leaveMs (Lh:=[_]) _ H ?_).2;clear H;intro a w H;dsimp only [List.cons_append,List.nil_append] at H;refine (leave0 H Tryz.results162 ?_).1
 first
  | exact H.hp.retD (L':=Lx) (by repeat (first|exact List.Sublist.refl _|apply List.Sublist.cons)) (.inr hI)
  | exact H.hp.retD (L':=Lt43) (by repeat (first|exact List.Sublist.refl _|apply List.Sublist.cons)) (.inr (hb2 (by simpa using h44)))
  | exact H.hp.retD (L':=Lt) (by repeat (first|exact List.Sublist.refl _|apply List.Sublist.cons)) (.inl (by rw [List.drop_of_length_le (by omega),pItems] at hnow;have:=hnow.len;simp only [List.length_nil,Nat.add_zero] at this;(try rw [List.length_map]);rw [← this];exact hnow.now))
theorem placed_ok:∀ n:Nat,n≤4294967297→PlacedOk n
 | 0,_=>fun _ _ _ _ _ _ h=>absurd h (by omega)
 | n+1,hn=>placed_step (placed_ok n (by omega)) (by omega)
theorem placed_spec (G:GH) (w0:World) (hG:Hold G w0) (l:List ItemD) (id:Int) (v:Value) (hz:zItems l≤4294967296) (hv:RepV G (.sl 11 (l.map ItemD.dat)) v) :
  Calls Tryz.prog 85 #[vi id,v] w0 (Ret w0 G fun u G'=>∃ bl bi,u=.func (.func 162) #[] #[.pointer (some ⟨bl,0,none⟩),.pointer (some ⟨bi,0,none⟩)]∧Iter Tryz.prog G' u ((pItems id 0 l).map plP)) :=
 placed_spec' (placed_ok 4294967297 (by omega)) G w0 hG l id v (by omega) hv
end
section
open Go.RowKit
theorem en164plr:∀ args w,(callFunc 164 args).run Tryz.prog w=.ok (.enter 164 args) w:=enters Tryz.func164 rfl (by kernel_rfl)
theorem en165plr:∀ args w,(callFunc 165 args).run Tryz.prog w=.ok (.enter 165 args) w:=enters Tryz.func165 rfl (by kernel_rfl)
theorem en88plr:∀ args w,(callFunc 88 args).run Tryz.prog w=.ok (.enter 88 args) w:=enters Tryz.func88 rfl (by kernel_rfl)
theorem en86plr:∀ args w,(callFunc 86 args).run Tryz.prog w=.ok (.enter 86 args) w:=enters Tryz.func86 rfl (by kernel_rfl)
theorem en89plr:∀ args w,(callFunc 89 args).run Tryz.prog w=.ok (.enter 89 args) w:=enters Tryz.func89 rfl (by kernel_rfl)
theorem en87plr:∀ args w,(callFunc 87 args).run Tryz.prog w=.ok (.enter 87 args) w:=enters Tryz.func87 rfl (by kernel_rfl)
/-- What a test of elements owes. -/
def Tester (fv:Value) (G:GH) (d:List Dat) (b:Bool):Prop:=∀ (G1:GH) (w1:World) (cs:List Value),(∀ b o,G b=some o→G1 b=some o)→Hold G1 w1→RepRow G1 d cs →
 CallV Tryz.prog fv [.agg cs.toArray] w1 (Ret w1 G1 fun u G'=>u=.bool b)
def ixI (o:Option Nat):Int:=match o with|some i=>i|none=>-1
theorem indexFuncRow (G:GH) (w0:World) (hG:Hold G w0) (l:List RowD) (p:RowD→Bool) (v fv:Value) (hv:RepV G (.sl 6 (l.map RowD.dat)) v) (hf:∀ x∈l,Tester fv G x.dat (p x)) :
  Calls Tryz.prog 164 #[v,fv] w0 (Ret w0 G fun u G'=>u=vi (ixI (l.findIdx? p))):=by
 obtain ⟨A,c,rfl,hc1,hc2,hg⟩:=hv.slice;have hml:maxLen=9223372036854775807:=rfl;rw [List.length_map] at *;refine eN [(0,_),(1,_)] Tryz.func164 rfl Tryz.ntmps164 rfl rfl hG ?_;intro a H;refine kP H (SR fun _ K1=>Ra rfl (Kz K1 (SQ fun _ K2=>SR fun _ K3=>Rm rfl (Rl un33run rfl (Rm rfl (Kz K3 (SB ?_)))))));clear H K1 K3;intro a H;skip;refine c_loopS (ι:=Nat × GH) (Tc:=[(0,_),(1,_),(7,_)]) (Lc:=[]) (fun (gh:Nat × GH)=>[(8,vi gh.1)]) (fun (gh:Nat × GH)=>[]) (fun (gh:Nat × GH)=>gh.2) (fun (gh:Nat × GH)=>gh.1≤l.length∧(l.take gh.1).findIdx? p=none∧(∀ b o,G b=some o→gh.2 b=some o)) (fun (gh:Nat × GH)=>l.length - gh.1) ((0,G)) (by exact (H).sub ⟨rfl,rfl,rfl,rfl,trivial⟩) ?_ ?_
 ·exact ⟨by omega,rfl,fun _ _ h=>h⟩
 clear H;intro gh a w hI H;obtain ⟨k,g⟩:=gh;dsimp only at hI H;obtain ⟨hk,hno,hgm⟩:=hI;dsimp only [List.cons_append,List.nil_append,List.append_nil] at H;refine kP H (SR fun _ K4=>Rc rfl (Kz K4 (SQ fun _ K5=>?_)));clear H K4;intro a H;refine c_cond H rfl ?_ ?_
 ·intro h9
  try have p9:=dT h9
  have hk2:k < l.length:=by omega
  obtain ⟨b,o,cs,rfl,hcl,hrow,hrep⟩:=hg k l[k].dat (by simp [hk2]);obtain ⟨pA,pn,pc,dA,dn,dc,yA,yn,yc,fA,fn,fc,rfl,-⟩:=hrep.row;replace hrow:=fun j u hj=>gcell_mono hgm (hrow j u hj);refine kP H (Kc K5 (SQ fun _ K6=>SB (SR fun _ K7=>Rm rfl (Ra rfl (Kz K7 (SR fun _ K8=>Rm rfl (Rm rfl (Rm rfl (Ri un33run ty171run rfl rfl ?_)))))))));clear H K5 K7;intro a H;refine s_loada ty171run (cs:=[_,_,_,_,_,_]) H wn rfl rfl (fun j v hj=>H.hp.gcell (hrow j v hj)) rfl ?_;clear H;intro a H;refine s_callv0 H wn rfl rfl (hf _ (List.getElem_mem hk2) _ _ _ hgm H.hp.ro (hrep.mono hgm)) rfl ?_;clear H;rintro v16 G16 a w rfl hm16 H;refine K8 _ _ ?_;clear K8;refine c_cond H rfl ?_ ?_
  ·intro h16
   try have p16:=dT h16
   refine kP H (SR fun _ K9=>Rm rfl (Ra rfl (Kz K9 ?_)));clear H K9;intro a H;refine lr H Tryz.results164 rfl ?_
   first
    | exact H.hp.ret (by rw [idx_stop hk2 hno h16];rfl)
    | exact H.hp.ret (by rw [show l.take k=l from List.take_of_length_le (by omega)] at hno;rw [hno];rfl)
  intro h16
  try have p16:=dF h16
  refine kP H (Kc K6 (SC (Rd rfl (Rm rfl ?_))));clear H K6;intro a H;refine wl_nil ?_;refine loop_end ((k+1,G16)) (by exact (H).sub ⟨rfl,rfl,rfl,rfl,trivial⟩) ?_ ?_
  ·(try dsimp only);exact ⟨by omega,idx_next hk2 hno h16,fun b o h=>hm16 b o (hgm b o h)⟩
  first|omega|(dsimp only;omega)
 intro h9
 try have p9:=dF h9
 refine c_exit ?_;refine K2 _ _ ?_;clear K2;refine kP H (SR fun _ K10=>Ra rfl (Kz K10 ?_));clear H K10;intro a H;refine lr H Tryz.results164 rfl ?_
 first
  | exact H.hp.ret (by rw [idx_stop hk2 hno h16];rfl)
  | exact H.hp.ret (by rw [show l.take k=l from List.take_of_length_le (by omega)] at hno;rw [hno];rfl)
theorem containsFuncRow (G:GH) (w0:World) (hG:Hold G w0) (l:List RowD) (p:RowD→Bool) (v fv:Value) (hv:RepV G (.sl 6 (l.map RowD.dat)) v) (hf:∀ x∈l,Tester fv G x.dat (p x)) :
  Calls Tryz.prog 86 #[v,fv] w0 (Ret w0 G fun u G'=>u=.bool (l.findIdx? p).isSome):=by
 refine eN [(0,_),(1,_)] Tryz.func86 rfl Tryz.ntmps86 rfl rfl hG ?_;intro a H;refine kP H (SR fun _ K1=>Ra rfl (Kz K1 (SR fun _ K2=>Rm rfl (Rm rfl ?_))));clear H K1;intro a H;refine s_call en164plr H wn rfl (indexFuncRow _ _ H.hp.ro l p _ _ hv hf) rfl ?_;clear H;rintro v7 G7 a w rfl hm7 H;refine kH H (Rc rfl (Ra rfl (Kz K2 ?_)));clear H K2;intro a H;refine lr H Tryz.results86 rfl ?_
 exact H.hp.ret (by cases h:l.findIdx? p <;> simp [ixI])
theorem indexFuncCell (G:GH) (w0:World) (hG:Hold G w0) (l:List CellD) (p:CellD→Bool) (v fv:Value) (hv:RepV G (.sl 7 (l.map CellD.dat)) v) (hf:∀ x∈l,Tester fv G x.dat (p x)) :
  Calls Tryz.prog 165 #[v,fv] w0 (Ret w0 G fun u G'=>u=vi (ixI (l.findIdx? p))):=by
 obtain ⟨A,c,rfl,hc1,hc2,hg⟩:=hv.slice;have hml:maxLen=9223372036854775807:=rfl;rw [List.length_map] at *;refine eN [(0,_),(1,_)] Tryz.func165 rfl Tryz.ntmps165 rfl rfl hG ?_;intro a H;refine kP H (SR fun _ K1=>Ra rfl (Kz K1 (SQ fun _ K2=>SR fun _ K3=>Rm rfl (Rl un169run rfl (Rm rfl (Kz K3 (SB ?_)))))));clear H K1 K3;intro a H;skip;refine c_loopS (ι:=Nat × GH) (Tc:=[(0,_),(1,_),(7,_)]) (Lc:=[]) (fun (gh:Nat × GH)=>[(8,vi gh.1)]) (fun (gh:Nat × GH)=>[]) (fun (gh:Nat × GH)=>gh.2) (fun (gh:Nat × GH)=>gh.1≤l.length∧(l.take gh.1).findIdx? p=none∧(∀ b o,G b=some o→gh.2 b=some o)) (fun (gh:Nat × GH)=>l.length - gh.1) ((0,G)) (by exact (H).sub ⟨rfl,rfl,rfl,rfl,trivial⟩) ?_ ?_
 ·exact ⟨by omega,rfl,fun _ _ h=>h⟩
 clear H;intro gh a w hI H;obtain ⟨k,g⟩:=gh;dsimp only at hI H;obtain ⟨hk,hno,hgm⟩:=hI;dsimp only [List.cons_append,List.nil_append,List.append_nil] at H;refine kP H (SR fun _ K4=>Rc rfl (Kz K4 (SQ fun _ K5=>?_)));clear H K4;intro a H;refine c_cond H rfl ?_ ?_
 ·intro h9
  try have p9:=dT h9
  have hk2:k < l.length:=by omega
  obtain ⟨b,o,cs,rfl,hcl,hrow,hrep⟩:=hg k l[k].dat (by simp [hk2]);obtain ⟨pA,pn,pc,dA,dn,dc,yA,yn,yc,fA,fn,fc,rfl,-⟩:=hrep.cell;replace hrow:=fun j u hj=>gcell_mono hgm (hrow j u hj);refine kP H (Kc K5 (SQ fun _ K6=>SB (SR fun _ K7=>Rm rfl (Ra rfl (Kz K7 (SR fun _ K8=>Rm rfl (Rm rfl (Rm rfl (Ri un169run ty174run rfl rfl ?_)))))))));clear H K5 K7;intro a H;refine s_loada ty174run (cs:=[_,_,_,_,_,_,_]) H wn rfl rfl (fun j v hj=>H.hp.gcell (hrow j v hj)) rfl ?_;clear H;intro a H;refine s_callv0 H wn rfl rfl (hf _ (List.getElem_mem hk2) _ _ _ hgm H.hp.ro (hrep.mono hgm)) rfl ?_;clear H;rintro v16 G16 a w rfl hm16 H;refine K8 _ _ ?_;clear K8;refine c_cond H rfl ?_ ?_
  ·intro h16
   try have p16:=dT h16
   refine kP H (SR fun _ K9=>Rm rfl (Ra rfl (Kz K9 ?_)));clear H K9;intro a H;refine lr H Tryz.results165 rfl ?_
   first
    | exact H.hp.ret (by rw [idx_stop hk2 hno h16];rfl)
    | exact H.hp.ret (by rw [show l.take k=l from List.take_of_length_le (by omega)] at hno;rw [hno];rfl)
  intro h16
  try have p16:=dF h16
  refine kP H (Kc K6 (SC (Rd rfl (Rm rfl ?_))));clear H K6;intro a H;refine wl_nil ?_;refine loop_end ((k+1,G16)) (by exact (H).sub ⟨rfl,rfl,rfl,rfl,trivial⟩) ?_ ?_
  ·(try dsimp only);exact ⟨by omega,idx_next hk2 hno h16,fun b o h=>hm16 b o (hgm b o h)⟩
  first|omega|(dsimp only;omega)
 intro h9
 try have p9:=dF h9
 refine c_exit ?_;refine K2 _ _ ?_;clear K2;refine kP H (SR fun _ K10=>Ra rfl (Kz K10 ?_));clear H K10;intro a H;refine lr H Tryz.results165 rfl ?_
 first
  | exact H.hp.ret (by rw [idx_stop hk2 hno h16];rfl)
  | exact H.hp.ret (by rw [show l.take k=l from List.take_of_length_le (by omega)] at hno;rw [hno];rfl)
theorem containsFuncCell (G:GH) (w0:World) (hG:Hold G w0) (l:List CellD) (p:CellD→Bool) (v fv:Value) (hv:RepV G (.sl 7 (l.map CellD.dat)) v) (hf:∀ x∈l,Tester fv G x.dat (p x)) :
  Calls Tryz.prog 88 #[v,fv] w0 (Ret w0 G fun u G'=>u=.bool (l.findIdx? p).isSome):=by
 refine eN [(0,_),(1,_)] Tryz.func88 rfl Tryz.ntmps88 rfl rfl hG ?_;intro a H;refine kP H (SR fun _ K1=>Ra rfl (Kz K1 (SR fun _ K2=>Rm rfl (Rm rfl ?_))));clear H K1;intro a H;refine s_call en165plr H wn rfl (indexFuncCell _ _ H.hp.ro l p _ _ hv hf) rfl ?_;clear H;rintro v7 G7 a w rfl hm7 H;refine kH H (Rc rfl (Ra rfl (Kz K2 ?_)));clear H K2;intro a H;refine lr H Tryz.results88 rfl ?_
 exact H.hp.ret (by cases h:l.findIdx? p <;> simp [ixI])
def inRow (id:Int) (r:RowD):Bool:=(r.cells.findIdx? fun c=>decide (c.id=id)).isSome
def isAt (id:Int) (x:ItemD):Bool:=decide (x.id=id) || (x.rows.findIdx? (inRow id)).isSome
theorem place11 {G:GH} {bi:Nat} {id:Int} (hb:gcell G bi 0=some (vi id)) (c:CellD):Tester (.func (.func 89) #[] #[.pointer (some ⟨bi,0,none⟩)]) G c.dat (decide (c.id=id)):=by
 intro G1 w0 cs hm hG hr;refine callV_func (caps:=[.pointer (some ⟨bi,0,none⟩)]) en89plr ?_;obtain ⟨pA,pn,pc,dA,dn,dc,yA,yn,yc,fA,fn,fc,rfl,-⟩:=hr.cell;replace hb:=gcell_mono hm hb;refine eN [(0,_),(1,_)] Tryz.func89 rfl Tryz.ntmps89 rfl rfl hG ?_;intro a H;refine c_seqR (fun _ K1=>?_);refine s_box (cs:=[_,_,_,_,_,_,_]) H wn rfl rfl rfl ?_;clear H;intro b2 a w hb2 H;refine kH H (Ra rfl (Kz K1 (SR fun _ K2=>Rf fd174_0run rfl (Ro ty3run 0 rfl rfl (Rg ty3run rfl (by assumption) ?_)))));clear H K1;intro a H;refine kH H (Rc rfl (Ra rfl (Kz K2 ?_)));clear H K2;intro a H;refine lr H Tryz.results89 rfl ?_;exact H.hp.ret rfl
theorem place1 {G:GH} {bi:Nat} {id:Int} (hb:gcell G bi 0=some (vi id)) (r:RowD):Tester (.func (.func 87) #[] #[.pointer (some ⟨bi,0,none⟩)]) G r.dat (inRow id r):=by
 intro G1 w0 cs hm hG hr;refine callV_func (caps:=[.pointer (some ⟨bi,0,none⟩)]) en87plr ?_;obtain ⟨pA,pn,pc,dA,dn,dc,yA,yn,yc,fA,fn,fc,rfl,-,hcl⟩:=hr.row;replace hb:=gcell_mono hm hb;refine eN [(0,_),(1,_)] Tryz.func87 rfl Tryz.ntmps87 rfl rfl hG ?_;intro a H;refine c_seqR (fun _ K1=>?_);refine s_box (cs:=[_,_,_,_,_,_]) H wn rfl rfl rfl ?_;clear H;intro b2 a w hb2 H;refine kH H (Ra rfl (Kz K1 (SR fun _ K2=>Rf fd171_1run rfl (Ro ty169run 0 rfl rfl ?_))));clear H K1;intro a H;refine s_makeFunc H wn rfl rfl ?_;clear H;intro a H;refine s_call en88plr H wn rfl (containsFuncCell _ _ H.hp.ro r.cells (fun c=>decide (c.id=id)) _ _ hcl (fun c _=>place11 hb c)) rfl ?_;clear H;rintro v7 G7 a w rfl hm7 H;refine kH H (Ra rfl (Kz K2 ?_));clear H K2;intro a H;refine lr H Tryz.results87 rfl ?_;exact H.hp.ret rfl
/-- Where a flow stands. -/
def placeS (l:List ItemD) (id:Int):Option (Int × Int):=((pItems 0 0 l).find? fun a=>isAt id a.2).map (·.1)
theorem place_spec (G:GH) (w0:World) (hG:Hold G w0) (D:DocV) (l:List ItemD) (id:Int) (hv:RepV G (.sl 11 (l.map ItemD.dat)) (sl3 D.f)) (hz:zItems l≤4294967296) :
  Calls Tryz.prog 30 #[D.val,vi id] w0 (Ret w0 G fun u G'=>u=.tuple #[.agg #[vi ((placeS l id).getD (0,0)).1,vi ((placeS l id).getD (0,0)).2],.bool (placeS l id).isSome]):=by
 refine eN [(0,_),(1,_)] Tryz.func30 rfl Tryz.ntmps30 rfl rfl hG ?_;intro a H;refine c_seqR (fun _ K1=>?_);refine s_box (cs:=[_,_,_,_,_,_,_,_,_,_,_]) H wn rfl rfl rfl ?_;clear H;intro b2 a w hb2 H;refine s_box (cs:=[_]) H wn rfl rfl rfl ?_;clear H;intro b3 a w hb3 H;refine s_alloc ty54plc H wn rfl ?_;clear H;intro b4 a w hb4 H;refine s_alloc ty4doc H wn rfl ?_;clear H;intro b5 a w hb5 H;refine K1 _ _ ?_;clear K1;refine c_seq (fun _ K2=>?_);refine c_seq (fun _ K3=>?_);have H:=H.pickT (Pl:=[_,_,_,_]) (Pl':=[_,_,_,_]) [2,0,1,3] (by decide) rfl;obtain ⟨Ga,hma,hb3,H⟩:=H.giveBox
 have hbi:gcell Ga b3 0=some (vi id):=by unfold gcell;rw [hb3];rfl
 refine kP H (SC (Rf fd50_0doc rfl (Ro ty32run 2 rfl rfl ?_)));clear H;intro a H;refine s_call en85plc H wn rfl (placed_spec _ _ H.hp.ro l 0 _ hz (hv.mono hma)) rfl ?_;clear H;rintro v11 G11 a w ⟨bl,bi,rfl,hit⟩ hm11 H;refine wl_nil ?_;refine K3 _ _ ?_;clear K3;refine c_block ?_;skip;refine c_rangeJ (ι:=Unit) (κ:=Int × Int) (Lc:=[(_,_)]) (fun (k:Nat) (gh:Unit)=>[(b4,.cells #[vi 0,vi 0] 54 (0,0)),(b5,.cells #[.bool false] 4 (0,0))]) (fun (k:Nat) (gh:Unit)=>[]) (fun (k:Nat) (gh:Unit) (g:GH)=>((pItems 0 0 l).take k).find? (fun a=>isAt id a.2)=none) (fun (gx:Int × Int)=>Code.ret) (fun (gx:Int × Int)=>[(b4,.cells #[vi gx.1,vi gx.2] 54 (0,0)),(b5,.cells #[.bool true] 4 (0,0))]) (fun (gx:Int × Int)=>[]) (fun (gx:Int × Int) (g:GH)=>placeS l id=some gx) (()) (by exact H.pickT (Pl:=[_,_,_]) (Pl':=[_,_,_]) [2,1,0] (by decide) rfl) rfl en162plc (hit) (fun _ _ h=>h) rfl (fun k args g h=>by obtain ⟨_,_,rfl,_⟩:=pl_at h;rfl) (fun _ _ _ _ _ h=>h) (fun _ _ _ _ h=>h) (rfl) ?_ ?_ ?_
 ·clear H;intro l2 rdy bsy bk k args gh G2 w2 F2 B2 a hk2 hm2 hI hbeg2 hnext2 hstop2 H;obtain ⟨hk,cs8,rfl,hrep8⟩:=pl_at hk2;obtain ⟨aA,an,ac,bA,bn,bc,dA8,dn8,dc8,eA8,en8,ec8,iA8,in8,ic8,rfl,hh8,hf8,hr8⟩:=hrep8.item;dsimp only [asg,List.cons_append,List.nil_append] at H;replace hbi:=gcell_mono hm2 (gcell_mono hm11 hbi);refine c_seqR (fun _ K4=>?_);refine s_alloc ty54plc H wn rfl ?_;clear H;intro b6 a w hb6 H;refine s_store ty54plc 0 (vs:=[_,_]) _ H wn rfl rfl rfl rfl rfl rfl rfl rfl ?_;clear H;intro w H;dsimp only [List.set,setRow] at H;refine K4 _ _ ?_;clear K4;refine c_region ?_;refine s_alloc ty35run H wn rfl ?_;clear H;intro b7 a w hb7 H;refine s_store ty35run 0 (vs:=[_,_,_,_,_,_,_,_,_,_,_]) _ H wn rfl rfl rfl rfl rfl rfl rfl rfl ?_;clear H;intro w H;dsimp only [List.set,setRow] at H;refine wl_nil ?_;refine hbeg2 _ _ _ _ _ _ (by exact H.pickT (Pl:=[_,_,_,_,_,_]) (Pl':=[_,_,_,_,_,_]) [2,0,1,3,4,5] (by decide) rfl) ?_;clear H;intro w H;refine kP H (SB (SR fun _ K5=>Rf fd35_6run rfl (Ro ty33run 1 rfl rfl ?_)));clear H;intro a H;refine s_makeFunc H wn rfl rfl ?_;clear H;intro a H;refine s_call en86plr H wn rfl (containsFuncRow _ _ H.hp.ro _ (inRow id) _ _ hr8 (fun r _=>place1 hbi r)) rfl ?_;clear H;rintro v17 G17 a w rfl hm17 H;replace hbi:=gcell_mono hm17 hbi;refine kH H (Ra rfl (Kz K5 (SR fun _ K6=>Rf fd35_2doc rfl (Ro ty3run 1 rfl rfl (Rg ty3run rfl (by assumption) ?_)))));clear H K5;intro a H;refine kH H (Rc rfl (Rm rfl ?_));clear H;intro a H;refine s_split H 22 rfl ?_ ?_
  ·intro h22
   try have p22:=dT h22
   refine kH H (Ks h22 rfl (Pt h22 rfl (Kz K6 ?_)));clear H K6;intro a H;refine c_cond_t H rfl rfl ?_;refine c_seqR (fun _ K7=>?_);refine s_loada ty54plc (cs:=[_,_]) H wn rfl rfl (H.hp.ocells 2 rfl rfl) rfl ?_;clear H;intro a H;refine s_store ty54plc 4 (vs:=[_,_]) _ H wn rfl rfl rfl rfl rfl rfl rfl rfl ?_;clear H;intro w H;dsimp only [List.set,setRow] at H;refine s_store ty4doc 5 (vs:=[_]) _ H wn rfl rfl rfl rfl rfl rfl rfl rfl ?_;clear H;intro w H;dsimp only [List.set,setRow] at H;refine K7 _ _ ?_;clear K7;refine c_ret ?_;refine (hstop2 ((pItems 0 0 l)[k].1) _ _ _ _ _ (by exact H.pickT (Pl:=[_,_,_,_,_,_]) (Pl':=[_,_,_,_]) [0,3,4,5] (by decide) rfl) ?_).1 rfl;exact (by unfold placeS;rw [find_stop hk hI (by unfold isAt;simp_all)];rfl)
  intro h22
  try have p22:=dF h22
  refine kH H (YM h22 rfl (Pf h22 rfl (Kz K6 ?_)));clear H K6;intro a H;refine c_cond H rfl ?_ ?_
  ·intro h24
   try have p24:=dT h24
   refine c_seqR (fun _ K8=>?_);refine s_loada ty54plc (cs:=[_,_]) H wn rfl rfl (H.hp.ocells 2 rfl rfl) rfl ?_;clear H;intro a H;refine s_store ty54plc 4 (vs:=[_,_]) _ H wn rfl rfl rfl rfl rfl rfl rfl rfl ?_;clear H;intro w H;dsimp only [List.set,setRow] at H;refine s_store ty4doc 5 (vs:=[_]) _ H wn rfl rfl rfl rfl rfl rfl rfl rfl ?_;clear H;intro w H;dsimp only [List.set,setRow] at H;refine K8 _ _ ?_;clear K8;refine c_ret ?_;refine (hstop2 ((pItems 0 0 l)[k].1) _ _ _ _ _ (by exact H.pickT (Pl:=[_,_,_,_,_,_]) (Pl':=[_,_,_,_]) [0,3,4,5] (by decide) rfl) ?_).1 rfl;exact (by unfold placeS;rw [find_stop hk hI (by unfold isAt;simp_all)];rfl)
  intro h24
  try have p24:=dF h24
  refine c_skip ?_;refine hnext2 (()) _ _ _ _ _ (by exact H.pickT (Pl:=[_,_,_,_,_,_]) (Pl':=[_,_,_,_]) [0,3,4,5] (by decide) rfl) ?_;exact find_next hk hI (by unfold isAt;simp_all)
 ·clear H;intro Dk2 gh Gd2 a w hm2 hI H;dsimp only [List.cons_append,List.nil_append,List.append_nil] at H;refine K2 _ _ ?_;clear K2;refine c_seqR (fun _ K9=>?_);refine s_build sr54plc [_,_] H wn rfl rfl rfl rfl ?_;clear H;intro a H;refine s_store ty54plc 2 (vs:=[_,_]) _ H wn rfl rfl rfl rfl rfl rfl rfl rfl ?_;clear H;intro w H;dsimp only [List.set,setRow] at H;refine s_store ty4doc 3 (vs:=[_]) _ H wn rfl rfl rfl rfl rfl rfl rfl rfl ?_;clear H;intro w H;dsimp only [List.set,setRow] at H;refine K9 _ _ ?_;clear K9;refine c_ret ?_;refine (leaveM H 0 rfl ?_).1;clear H;intro a w H;dsimp only [List.eraseIdx_cons_succ,List.eraseIdx_cons_zero] at H;refine (leaveT H Tryz.results30 (.cons (rv_cella ty54plc (cs:=[_,_]) H rfl rfl (H.hp.ocells 1 rfl rfl)) (.cons (rv_cell ty4doc H rfl (H.hp.ocell 2 rfl rfl)) .nil)) ?_).1
  have h:placeS l id=none:=by unfold placeS;rw [find_done (by simpa using hI)];rfl
  exact H.hp.ret (by rw [h];rfl)
 clear H;intro Dk2 gx Gd2 a w hm2 hI H;obtain ⟨x,hgh⟩:∃ x,x=gx:=⟨_,rfl⟩;subst hgh;dsimp only [List.cons_append,List.nil_append,List.append_nil] at H;refine c_ret ?_;refine (leaveM H 0 rfl ?_).1;clear H;intro a w H;dsimp only [List.eraseIdx_cons_succ,List.eraseIdx_cons_zero] at H;refine (leaveT H Tryz.results30 (.cons (rv_cella ty54plc (cs:=[_,_]) H rfl rfl (H.hp.ocells 1 rfl rfl)) (.cons (rv_cell ty4doc H rfl (H.hp.ocell 2 rfl rfl)) .nil)) ?_).1;exact H.hp.ret (by rw [hI];rfl)
end
section
open Go.RowKit
/-- The least index from i on, below j, at which a test holds (halving). -/
def hvF (p:Nat→Bool):Nat→Nat→Nat→Nat
 | 0,i,_=>i
 | f+1,i,j=>if i < j then (if p ((i+j) / 2) then hvF p f i ((i+j) / 2) else hvF p f ((i+j) / 2+1) j) else i
theorem hv_step {p:Nat→Bool} {f i j:Nat} (hf:j - i≤f) (h:i < j):hvF p f i j=if p ((i+j) / 2) then hvF p (f - 1) i ((i+j) / 2) else hvF p (f - 1) ((i+j) / 2+1) j:=by
 match f,hf with
 | 0,hf=>omega
 | f+1,_=>rw [hvF,if_pos h];rfl
theorem hv_end {p:Nat→Bool} {f i j:Nat} (h:¬ i < j):hvF p f i j=i:=by
 match f with
 | 0=>rfl
 | f+1=>rw [hvF,if_neg h]
theorem hv_wrap {z:Int} (h1:0≤z) (h2:z < 18446744073709551616):IntKind.u64.wrap z=z:=by
 simp only [IntKind.wrap,IntKind.bits,IntKind.signed,Bool.false_and,Bool.false_eq_true,if_false]
 omega
theorem hv_shr (n:Nat):((n:Nat):Int).fdiv (2 ^ 1)=((n / 2:Nat):Int):=by
 rw [Int.fdiv_eq_ediv_of_nonneg _ (by decide)];omega
/-- How two numbers compare. -/
def cmp3 (a b:Int):Int:=if a < b then -1 else if b < a then 1 else 0
theorem cmp3_lt {a b:Int}:cmp3 a b < 0↔a < b:=by
 unfold cmp3
 split
 ·simp [*]
 ·split <;> simp_all
theorem cmp3_eq {a b:Int}:cmp3 a b=0↔a=b:=by
 unfold cmp3
 split
 ·omega
 ·split <;> omega
/-- The place that halving finds for a number, and whether the number is there. -/
def bsK (ks:List Int) (t:Int):Nat:=hvF (fun h=>decide (¬ ks.getD h 0 < t)) ks.length 0 ks.length
def hasK (ks:List Int) (t:Int):Bool:=decide (ks[bsK ks t]?=some t)
theorem hasK_lt {ks:List Int} {t:Int} (h:hasK ks t=true):bsK ks t < ks.length:=by
 have:=of_decide_eq_true h
 exact (List.getElem?_eq_some_iff.1 this).1
theorem hasK_in {ks:List Int} {t:Int} {n:Nat} (e:bsK ks t=n) (h:n < ks.length):hasK ks t=decide (cmp3 ks[n] t=0):=by
 unfold hasK
 rw [e,List.getElem?_eq_getElem h]
 simp [cmp3_eq]
theorem hasK_off {ks:List Int} {t:Int} {n:Nat} (e:bsK ks t=n) (h:¬ n < ks.length):hasK ks t=false:=by
 unfold hasK
 rw [e,List.getElem?_eq_none (by omega)]
 simp
theorem getD_map {α:Type} {f:α→Int} {l:List α} {n:Nat} (h:n < l.length):(l.map f).getD n 0=f l[n]:=by
 simp [List.getD,h]
end
section
open Go.RowKit
/-- A field of one cell in a struct. -/
structure VFld (P:Program) (s n off:Nat):Prop where
 h:(match P.underlying s with|some (.struct fs)=>(fs[n]?).bind fun f=>((P.underlying f.type).map (fun|.struct _=>true|.array _ _=>true|_=>false)).map fun g=>(f.offset,g)|_=>none)=some (off,false)
theorem VFld.parts {P:Program} {s n off:Nat} (h:VFld P s n off):∃ fs fl u,P.underlying s=some (.struct fs)∧fs[n]?=some fl∧P.underlying fl.type=some u∧(match u with|.struct _=>true|.array _ _=>true|_=>false)=false∧fl.offset=off:=by
 obtain ⟨h⟩:=h
 split at h
 ·rename_i fs hs
  obtain ⟨fl,hf,h2⟩:=Option.bind_eq_some_iff.1 h
  obtain ⟨b,hb,h3⟩:=Option.map_eq_some_iff.1 h2
  obtain ⟨u,hu,h4⟩:=Option.map_eq_some_iff.1 hb
  simp only [Prod.mk.injEq] at h3
  refine ⟨fs,fl,u,hs,hf,hu,?_,h3.1⟩
  rw [← h3.2,← h4]
  cases u <;> rfl
 ·cases h
section
variable {N:Nat} {D:List Deferred} {w0:World} {F:Nat→Prop} {G0 G:GH} {L Li Lo:OL} {T:List (Nat × Value)}
variable {r:Option Nat} {P:Program} {ops:Array Oper} {Q:Exit→Act→World→Prop} {rest:List Oper} {a:Act} {w:World}
variable {d:Nat} {ty:TypeId} {pos:String} {aft:Array Edge} {g:Option (Nat × Bool)}
/-- The rest of a string. -/
theorem s_strFrom {t:TypeId} {x y:Operand} {s:ByteArray} {ky:IntKind} {p:Int} (lo:Nat) (ht:P.underlying t=some .string) (H:St N D w0 F G0 G L T a w) (hw:Region.wanted ⟨some d,.slice t x (some y) none none,ty,pos,aft,g⟩ (yielded ops a.tmps)=true) (hx:ev T x=some (.string s)) (hy:ev T y=some (.int ky p)) (hp:p=(lo:Int)) (h1:lo≤s.size) (hd:Nat.blt d N=true)
  (k:∀ a',St N D w0 F G0 G L ((d,.string (s.extract lo s.size)) :: T) a' w→WL r P ops Q rest a' w):WL r P ops Q (⟨some d,.slice t x (some y) none none,ty,pos,aft,g⟩ :: rest) a w:=by
 subst hp
 have hr:=run_slice_string_l (P:=P) w t s ht ky (lo:Int) (by omega) (by omega)
 rw [Int.toNat_natCast] at hr
 refine wl_value (v:=.string (s.extract lo s.size)) (w':=w) hw rfl ?_ (k _ (H.put hd _ H.hp))
 simp only [execOp,H.ev hx,Option.map_some,Option.map_none,H.ev hy,Sem.run_bind,run_sliceAt_string w t _ _ _ _ ht,hr,Result.andThen_ok,Sem.run_pure]
end
end
section
open Go.RowKit
theorem un309prk:Tryz.prog.underlying 309=some (.slice 279):=by kernel_rfl
theorem ty279prk:Ty Tryz.prog 279 6 56 [.int .i64 0,.int .i64 0,.int .i64 0,.int .i64 0,.int .i64 0,.string ⟨#[]⟩] true:=⟨by kernel_rfl,by kernel_rfl⟩
theorem sr279prk:Srt Tryz.prog 279 [(0,1),(1,1),(2,1),(3,1),(4,1),(5,1)] [.int .i64 0,.int .i64 0,.int .i64 0,.int .i64 0,.int .i64 0,.string ⟨#[]⟩]:=⟨by kernel_rfl,by kernel_rfl⟩
theorem en232prk:∀ args w,(callFunc 232 args).run Tryz.prog w=.ok (.enter 232 args) w:=enters Tryz.func232 rfl (by kernel_rfl)
structure KeyD where
 num:Int
 grp:Int
 low:Int
 high:Int
 std:Int
 name:ByteArray
def KeyD.dat (x:KeyD):List Dat:=[li x.num,li x.grp,li x.low,li x.high,li x.std,.lf (.string x.name)]
def KeyD.cells (x:KeyD):List Value:=[vi x.num,vi x.grp,vi x.low,vi x.high,vi x.std,.string x.name]
def PropD.cells (x:PropD):List Value:=[vi x.key,vi x.value]
theorem key_row (G:GH) (x:KeyD):RepRow G x.dat x.cells:=by
 simp only [KeyD.dat,KeyD.cells,RepRow]
 exact ⟨_,_,rfl,by simp [RepV,Value.oneCell'],_,_,rfl,by simp [RepV,Value.oneCell'],_,_,rfl,by simp [RepV,Value.oneCell'],_,_,rfl,by simp [RepV,Value.oneCell'],_,_,rfl,by simp [RepV,Value.oneCell'],_,_,rfl,by simp [RepV,Value.oneCell'],rfl⟩
theorem key_of {G:GH} {x:KeyD} {cs:List Value} (h:RepRow G x.dat cs):cs=x.cells:=by
 simp only [KeyD.dat,RepRow,RepV] at h
 obtain ⟨v1,_,rfl,⟨rfl,-⟩,v2,_,rfl,⟨rfl,-⟩,v3,_,rfl,⟨rfl,-⟩,v4,_,rfl,⟨rfl,-⟩,v5,_,rfl,⟨rfl,-⟩,v6,_,rfl,⟨rfl,-⟩,rfl⟩:=h
 rfl
theorem prop_of {G:GH} {x:PropD} {cs:List Value} (h:RepRow G x.dat cs):cs=x.cells:=by
 simp only [PropD.dat,RepRow,RepV] at h
 obtain ⟨v1,_,rfl,⟨rfl,-⟩,v2,_,rfl,⟨rfl,-⟩,rfl⟩:=h
 rfl
theorem key_cat (G:GH):∀ (B A:List KeyD),RepCat G 6 (A.map KeyD.dat) (A.map KeyD.cells).flatten→RepCat G 6 ((A++B).map KeyD.dat) ((A++B).map KeyD.cells).flatten
 | [],A,h=>by rw [List.append_nil];exact h
 | x :: B,A,h=>by
  have h2:=h.snoc (key_row G x) rfl;have h3:=key_cat G B (A++[x]) (by simpa using h2)
  simpa using h3
theorem keys_cat (G:GH) (A:List KeyD):RepCat G 6 (A.map KeyD.dat) (A.map KeyD.cells).flatten:=key_cat G A [] RepCat.nil
theorem key_at {G:GH} {l:List KeyD} {A:Option Addr} {n c k:Nat} (hv:RepV G (.sl 6 (l.map KeyD.dat)) (.slice A n c)) (hk:k < l.length):∃ b o,A=some ⟨b,o,none⟩∧(∀ j u,[vi l[k].num,vi l[k].grp,vi l[k].low,vi l[k].high,vi l[k].std,.string l[k].name][j]?=some u→gcell G b (o+k*6+j)=some u):=by
 obtain ⟨A',c',he,_,_,hg⟩:=hv.slice
 injection he with e1 e2 e3
 subst e1;obtain ⟨b,o,cs,h1,h2,h3,h4⟩:=hg k l[k].dat (by simp [hk]);obtain rfl:=key_of h4;exact ⟨b,o,h1,h3⟩
theorem prop_at {G:GH} {l:List PropD} {A:Option Addr} {n c k:Nat} (hv:RepV G (.sl 2 (l.map PropD.dat)) (.slice A n c)) (hk:k < l.length):∃ b o,A=some ⟨b,o,none⟩∧(∀ j u,[vi l[k].key,vi l[k].value][j]?=some u→gcell G b (o+k*2+j)=some u):=by
 obtain ⟨A',c',he,_,_,hg⟩:=hv.slice
 injection he with e1 e2 e3
 subst e1;obtain ⟨b,o,cs,h1,h2,h3,h4⟩:=hg k l[k].dat (by simp [hk]);obtain rfl:=prop_of h4;exact ⟨b,o,h1,h3⟩
def keyT:List KeyD:=[⟨1,1,0,1073741824,0,⟨#[99,104,97,114,97,99,116,101,114,45,115,116,121,108,101]⟩⟩,⟨2,1,0,1,0,⟨#[98,111,108,100]⟩⟩,⟨3,1,0,1,0,⟨#[105,116,97,108,105,99]⟩⟩,⟨4,1,0,3,0,⟨#[117,110,100,101,114,108,105,110,101]⟩⟩,⟨5,1,2,1638,22,⟨#[115,105,122,101]⟩⟩,⟨6,1,0,16777215,0,⟨#[99,111,108,111,114]⟩⟩,⟨7,1,0,63,0,⟨#[102,111,110,116]⟩⟩,⟨8,1,0,255,0,⟨#[108,97,110,103,117,97,103,101]⟩⟩,⟨9,1,-400,400,0,⟨#[114,97,105,115,101]⟩⟩,⟨10,1,0,1,0,⟨#[104,105,100,100,101,110]⟩⟩,⟨20,2,0,1073741824,0,⟨#[112,97,114,97,103,114,97,112,104,45,115,116,121,108,101]⟩⟩,⟨21,2,0,3,0,⟨#[97,108,105,103,110]⟩⟩,⟨22,2,-31680,31680,0,⟨#[108,101,102,116]⟩⟩,⟨23,2,-31680,31680,0,⟨#[114,105,103,104,116]⟩⟩,⟨24,2,-31680,31680,0,⟨#[102,105,114,115,116]⟩⟩,⟨25,2,0,31680,0,⟨#[98,101,102,111,114,101]⟩⟩,⟨26,2,0,31680,0,⟨#[97,102,116,101,114]⟩⟩,⟨27,2,0,31680,0,⟨#[108,101,97,100,105,110,103]⟩⟩,⟨28,2,0,1,0,⟨#[107,101,101,112,45,110,101,120,116]⟩⟩,⟨29,2,0,1,0,⟨#[107,101,101,112,45,108,105,110,101,115]⟩⟩,⟨30,2,0,1,1,⟨#[119,105,100,111,119]⟩⟩,⟨31,2,0,1,0,⟨#[112,97,103,101,45,98,101,102,111,114,101]⟩⟩,⟨32,2,0,9,0,⟨#[111,117,116,108,105,110,101]⟩⟩,⟨33,2,0,1073741824,0,⟨#[108,105,115,116]⟩⟩,⟨34,2,1,9,1,⟨#[108,101,118,101,108]⟩⟩,⟨35,2,0,32767,0,⟨#[114,101,115,116,97,114,116]⟩⟩,⟨36,2,1,31680,720,⟨#[116,97,98,45,115,116,111,112]⟩⟩,⟨37,2,0,1,0,⟨#[104,121,112,104,101,110,97,116,101]⟩⟩,⟨40,3,720,31680,12240,⟨#[112,97,103,101,45,119,105,100,116,104]⟩⟩,⟨41,3,720,31680,15840,⟨#[112,97,103,101,45,104,101,105,103,104,116]⟩⟩,⟨42,3,0,31680,1440,⟨#[116,111,112]⟩⟩,⟨43,3,0,31680,1440,⟨#[98,111,116,116,111,109]⟩⟩,⟨44,3,0,31680,1440,⟨#[105,110,110,101,114]⟩⟩,⟨45,3,0,31680,1440,⟨#[111,117,116,101,114]⟩⟩,⟨46,3,0,32767,0,⟨#[102,105,114,115,116,45,112,97,103,101]⟩⟩,⟨47,3,1,6,1,⟨#[112,97,103,101,45,102,111,114,109,97,116]⟩⟩,⟨50,4,0,1,0,⟨#[104,101,97,100,101,114]⟩⟩,⟨51,4,0,1,0,⟨#[99,97,110,116,45,115,112,108,105,116]⟩⟩,⟨52,4,0,31680,0,⟨#[114,111,119,45,104,101,105,103,104,116]⟩⟩,⟨60,5,1,32,1,⟨#[99,111,108,117,109,110,45,115,112,97,110]⟩⟩,⟨61,5,0,2,0,⟨#[118,101,114,116,105,99,97,108,45,109,101,114,103,101]⟩⟩,⟨62,5,0,31680,0,⟨#[99,101,108,108,45,119,105,100,116,104]⟩⟩,⟨63,5,0,16777215,16777215,⟨#[115,104,97,100,101]⟩⟩,⟨70,6,0,31680,0,⟨#[116,97,98,108,101,45,119,105,100,116,104]⟩⟩,⟨71,6,0,2,0,⟨#[116,97,98,108,101,45,97,108,105,103,110]⟩⟩]
set_option maxRecDepth 20000 in
theorem ktable_spec (G:GH) (w0:World) (hG:Hold G w0):Calls Tryz.prog 215 #[] w0 (Ret w0 G fun u G'=>RepV G' (.sl 6 (keyT.map KeyD.dat)) u):=by
 refine eN [] Tryz.func215 rfl Tryz.ntmps215 rfl rfl hG ?_;intro a H;refine kP H (SR fun _ K1=>Ra rfl (Kz K1 (SR fun _ K2=>?_)));clear H K1;intro a H;(iterate 45 refine s_build sr279prk [_,_,_,_,_,_] H wn rfl rfl rfl rfl ?_;clear H;intro a H);refine s_buildAll un309prk ty279prk (keyT.map KeyD.cells) H wn rfl rfl rfl rfl rfl rfl rfl ?_;clear H;intro b46 a w hb46 H;refine kH H (Ra rfl (Kz K2 ?_));clear H K2;intro a H;refine lr H Tryz.results215 rfl ?_;obtain ⟨Gz,hmz,hbz,H⟩:=H.giveBox;exact H.hp.ret (RepV.of_row (n:=45) (cap:=45) hbz rfl (Nat.le_refl _) (show 45≤maxLen by decide) (List.take_of_length_le (Nat.le_refl _)) (keys_cat _ _))
theorem isNaN_spec (G:GH) (w0:World) (hG:Hold G w0) (x:Int):Calls Tryz.prog 232 #[vi x] w0 (Ret w0 G fun u G'=>u=.bool false∧G=G'):=by
 refine eN [(0,_)] Tryz.func232 rfl Tryz.ntmps232 rfl rfl hG ?_;intro a H;refine kP H (SR fun _ K1=>Ra rfl (Kz K1 (SR fun _ K2=>Rm rfl (Rm rfl (Rc rfl (Ra rfl (Kz K2 ?_)))))));clear H K1 K2;intro a H;refine lr H Tryz.results232 rfl ?_;exact H.hp.ret ⟨by simp,rfl⟩
theorem cmp3_val {x y z:Int} (h:(x < y∧z=-1)∨(y < x∧z=1)∨(x=y∧z=0)):z=cmp3 x y:=by
 unfold cmp3;split
 ·omega
 split <;> omega
theorem compare_spec (G:GH) (w0:World) (hG:Hold G w0) (x y:Int):Calls Tryz.prog 218 #[vi x,vi y] w0 (Ret w0 G fun u G'=>u=vi (cmp3 x y)):=by
 refine eN [(0,_),(1,_)] Tryz.func218 rfl Tryz.ntmps218 rfl rfl hG ?_;intro a H;refine kP H (SR fun _ K1=>Ra rfl (Kz K1 (SR fun _ K2=>Rm rfl ?_)));clear H K1;intro a H;refine s_call en232prk H wn rfl (isNaN_spec _ _ H.hp.ro x) rfl ?_;clear H;rintro v8 G8 a w ⟨rfl,-⟩ hm8 H;refine kH H (Ra rfl (Kz K2 (SR fun _ K3=>Rm rfl ?_)));clear H K2;intro a H;refine s_call en232prk H wn rfl (isNaN_spec _ _ H.hp.ro y) rfl ?_;clear H;rintro v10 G10 a w ⟨rfl,-⟩ hm10 H;refine kH H (Ra rfl (Kz K3 (SQ fun _ K4=>SR fun _ K5=>Rm rfl (Kz K5 ?_))));clear H K3 K5;intro a H;refine c_cond H rfl ?_ ?_
 ·intro h11
  try have p11:=dT h11
  cases h11
 intro h11
 try have p11:=dF h11
 refine kP H (Kc K4 (SQ fun _ K6=>SR fun _ K7=>Rm rfl (Kz K7 ?_)));clear H K4 K7;intro a H;refine c_cond H rfl ?_ ?_
 ·intro h13
  try have p13:=dT h13
  cases h13
 intro h13
 try have p13:=dF h13
 refine kP H (Kc K6 (SQ fun _ K8=>SR fun _ K9=>Rm rfl (Rm rfl (Rc rfl (Kz K9 ?_)))));clear H K6 K9;intro a H;refine c_cond H rfl ?_ ?_
 ·intro h16
  try have p16:=dT h16
  refine kP H (SR fun _ K10=>Ra rfl (Kz K10 ?_));clear H K10;intro a H;refine lr H Tryz.results218 rfl ?_;exact H.hp.ret (congrArg vi (cmp3_val (by omega)))
 intro h16
 try have p16:=dF h16
 refine kP H (Kc K8 (SQ fun _ K11=>SR fun _ K12=>Rm rfl (Rm rfl (Rc rfl (Kz K12 ?_)))));clear H K8 K12;intro a H;refine c_cond H rfl ?_ ?_
 ·intro h19
  try have p19:=dT h19
  refine kP H (SR fun _ K13=>Ra rfl (Kz K13 ?_));clear H K13;intro a H;refine lr H Tryz.results218 rfl ?_;exact H.hp.ret (congrArg vi (cmp3_val (by omega)))
 intro h19
 try have p19:=dF h19
 refine kP H (Kc K11 (SR fun _ K14=>Ra rfl (Kz K14 ?_)));clear H K11 K14;intro a H;refine lr H Tryz.results218 rfl ?_;exact H.hp.ret (congrArg vi (cmp3_val (by omega)))
end
section
open Go.RowKit
theorem fd29_0ehd:Fld Tryz.prog 29 0 0:=⟨by kernel_rfl⟩
theorem fd29_1ehd:Fld Tryz.prog 29 1 1:=⟨by kernel_rfl⟩
abbrev DelD.cells (x:DelD):List Value:=[vi x.rev,vi x.move]
abbrev LayerD.cells (x:LayerD):List Value:=[vi x.rev,vi x.key,vi x.before,.bool x.had]
theorem del_of {G:GH} {x:DelD} {cs:List Value} (h:RepRow G x.dat cs):cs=x.cells:=by
 simp only [DelD.dat,RepRow,RepV] at h
 obtain ⟨_,_,rfl,⟨rfl,_⟩,_,_,rfl,⟨rfl,_⟩,rfl⟩:=h
 rfl
theorem layer_of {G:GH} {x:LayerD} {cs:List Value} (h:RepRow G x.dat cs):cs=x.cells:=by
 simp only [LayerD.dat,RepRow,RepV] at h
 obtain ⟨_,_,rfl,⟨rfl,_⟩,_,_,rfl,⟨rfl,_⟩,_,_,rfl,⟨rfl,_⟩,_,_,rfl,⟨rfl,_⟩,rfl⟩:=h
 rfl
theorem PropD.eq_iff (a b:PropD):(a.key=b.key∧a.value=b.value)↔a=b:=by cases a;cases b;simp
theorem DelD.eq_iff (a b:DelD):(a.rev=b.rev∧a.move=b.move)↔a=b:=by cases a;cases b;simp
theorem LayerD.eq_iff (a b:LayerD):(a.rev=b.rev∧a.key=b.key∧a.before=b.before∧a.had=b.had)↔a=b:=by cases a;cases b;simp
instance:DecidableEq PropD:=fun a b=>decidable_of_iff _ (PropD.eq_iff a b)
instance:DecidableEq DelD:=fun a b=>decidable_of_iff _ (DelD.eq_iff a b)
instance:DecidableEq LayerD:=fun a b=>decidable_of_iff _ (LayerD.eq_iff a b)
theorem HeadD.eq_iff (a b:HeadD):(((a.props=b.props∧a.marks.ins=b.marks.ins)∧a.marks.move=b.marks.move)∧a.marks.dels=b.marks.dels)∧a.marks.layers=b.marks.layers↔a=b:=by
 obtain ⟨p,i,m,d,l⟩:=a;obtain ⟨p2,i2,m2,d2,l2⟩:=b
 simp [and_assoc]
instance:DecidableEq HeadD:=fun a b=>decidable_of_iff _ (HeadD.eq_iff a b)
abbrev hdV (h:HeadD) (p d l:Value):Value:=.agg #[p,vi h.marks.ins,vi h.marks.move,d,l]
end
section
open Go.RowKit
section
variable {N:Nat} {D:List Deferred} {w0:World} {F:Nat→Prop} {G0 G:GH} {L:OL} {T:List (Nat × Value)}
variable {r:Option Nat} {P:Program} {ops:Array Oper} {Q:Exit→Act→World→Prop} {rest:List Oper} {a:Act} {w:World}
variable {d:Nat} {ty:TypeId} {pos:String} {aft:Array Edge} {g:Option (Nat × Bool)}
theorem s_makeMap {t:TypeId} (H:St N D w0 F G0 G L T a w) (hw:Region.wanted ⟨some d,.makeMap t none,ty,pos,aft,g⟩ (yielded ops a.tmps)=true) (hd:Nat.blt d N=true)
  (k:∀ b a' w',w0.heap.size≤b→St N D w0 F G0 G ((b,.map #[] 0) :: L) ((d,.map (some b)) :: T) a' w'→WL r P ops Q rest a' w'):WL r P ops Q (⟨some d,.makeMap t none,ty,pos,aft,g⟩ :: rest) a w:=by
 refine wl_value (v:=.map (some w.heap.size)) (w':=w.alloc (.map #[] 0)) hw rfl ?_ (k _ _ _ H.hp.size (H.put hd _ (H.hp.alloc _)))
 simp [execOp,Instr.makeMap,newObj,Sem.run,Sem.run_bind]
/-- What a lookup finds. -/
def mapV (an:Option (Nat × Value)) (zv:Value):Value × Bool:=match an with|some (_,v)=>(v,true)|none=>(zv,false)
theorem s_lookup {t kt et:TypeId} {kd:TypeDesc} {x y:Operand} {b i clock:Nat} {es:Array MapEntry} {ky zv:Value} (an:Option (Nat × Value)) (hm:P.underlying t=some (.map kt et)) (hk:P.underlying kt=some kd) (hz:(P.info? et).map (fun i=>i.zero)=some (some zv)) (H:St N D w0 F G0 G L T a w)
  (hw:Region.wanted ⟨some d,.lookup t x y true,ty,pos,aft,g⟩ (yielded ops a.tmps)=true) (hx:ev T x=some (.map (some b))) (hy:ev T y=some ky) (hi:L[i]?=some (b,.map es clock)) (hky:MapKept.IsKey kd ky) (hf:Instr.findNow kd ky es.toList 0=some an) (hd:Nat.blt d N=true)
  (k:∀ a',St N D w0 F G0 G L ((d,.tuple #[(mapV an zv).1,.bool (mapV an zv).2]) :: T) a' w→WL r P ops Q rest a' w):WL r P ops Q (⟨some d,.lookup t x y true,ty,pos,aft,g⟩ :: rest) a w:=by
 have hb:w.heap[b]?=some (.map es clock):=H.hp.own _ (List.mem_of_getElem? hi)
 obtain ⟨inf,hi1,hi2⟩:=Option.map_eq_some_iff.1 hz
 refine wl_value (v:=.tuple #[(mapV an zv).1,.bool (mapV an zv).2]) (w':=w) hw rfl ?_ (k _ (H.put hd _ H.hp))
 have h1:=MapKept.run_checkKey (w:=w) hk hky es.isEmpty 9999
 have h2:=MapKept.run_findKey (w:=w) hk hf
 cases an with
 | none=>simp [execOp,Instr.lookup,H.ev hx,H.ev hy,Sem.run_bind,run_und hm,MapKept.run_getObj_map hb,h1,h2,Result.andThen,zeroValue,run_info hi1,hi2,mapV]
 | some q=>simp [execOp,Instr.lookup,H.ev hx,H.ev hy,Sem.run_bind,run_und hm,MapKept.run_getObj_map hb,h1,h2,Result.andThen,mapV]
theorem upd_map {w:World} {b clock:Nat} {es:Array MapEntry} {o:Obj} (h:w.heap[b]?=some (.map es clock)):Upd b o w { w with heap:=w.heap.setIfInBounds b o }:=by
 have hlt:b < w.heap.size:=(Array.getElem?_eq_some_iff.1 h).1
 refine ⟨rfl,rfl,rfl,by simp,by simp [hlt],fun k hk=>?_⟩
 simp only
 rw [Array.getElem?_setIfInBounds_ne (Ne.symm hk)]
/-- A key that is not there yet. -/
theorem s_mapNew {t kt et:TypeId} {kd:TypeDesc} {x y z:Operand} {b i clock:Nat} {es:Array MapEntry} {ky v:Value} (hm:P.underlying t=some (.map kt et)) (hk:P.underlying kt=some kd) (H:St N D w0 F G0 G L T a w)
  (hw:Region.wanted ⟨none,.mapUpdate t x y z,ty,pos,aft,g⟩ (yielded ops a.tmps)=true) (hx:ev T x=some (.map (some b))) (hy:ev T y=some ky) (hzv:ev T z=some v) (hi:L[i]?=some (b,.map es clock)) (hky:MapKept.IsKey kd ky) (hf:Instr.findNow kd ky es.toList 0=some none)
  (k:∀ w',St N D w0 F G0 G (L.set i (b,.map (es.push ⟨ky,v,clock⟩) (clock+1))) T a w'→WL r P ops Q rest a w'):WL r P ops Q (⟨none,.mapUpdate t x y z,ty,pos,aft,g⟩ :: rest) a w:=by
 have hb:w.heap[b]?=some (.map es clock):=H.hp.own _ (List.mem_of_getElem? hi)
 have h1:=MapKept.run_checkKey (w:=w) hk hky false 9999
 have h2:=MapKept.run_findKey (w:=w) hk hf
 refine wl_unit (w':={ w with heap:=w.heap.setIfInBounds b (.map (es.push ⟨ky,v,clock⟩) (clock+1)) }) hw rfl ?_ (k _ (H.move (H.hp.upd hi (upd_map hb))))
 simp [execOp,Instr.mapUpdate,H.ev hx,H.ev hy,H.ev hzv,Sem.run_bind,run_und hm,MapKept.run_getObj_map hb,h1,h2,MapKept.run_setObj_map _ hb,Result.andThen]
theorem s_neqstr {t yt:TypeId} {x y:Operand} {p q:ByteArray} (H:St N D w0 F G0 G L T a w) (hw:Region.wanted ⟨some d,.binOp .neq t x y yt,ty,pos,aft,g⟩ (yielded ops a.tmps)=true) (hx:ev T x=some (.string p)) (hy:ev T y=some (.string q)) (hd:Nat.blt d N=true)
  (k:∀ a',St N D w0 F G0 G L ((d,.bool (!(p.toList == q.toList))) :: T) a' w→WL r P ops Q rest a' w):WL r P ops Q (⟨some d,.binOp .neq t x y yt,ty,pos,aft,g⟩ :: rest) a w:=by
 refine wl_value (v:=.bool (!(p.toList == q.toList))) (w':=w) hw rfl ?_ (k _ (H.put hd _ H.hp))
 simp [execOp,H.ev hx,H.ev hy,Sem.run_bind,eqGuard,binOp,Op.stringOp]
theorem Hp.mcell (h:Hp w0 F G0 G L w) {b o:Nat} {c:Array Value} {e:TypeId} {fz:Nat × Nat} {v:Value} (hm:(b,Obj.cells c e fz)∈L) (hv:c[o]?=some v):w.cell? ⟨b,o,none⟩=some v:=by
 have:=h.own _ hm
 simp only [World.cell?,this]
 exact hv
end
end
section
open Go.RowKit
section
variable {N:Nat} {D:List Deferred} {w0:World} {F:Nat→Prop} {G0 G:GH} {L Li Lo:OL} {T:List (Nat × Value)}
variable {r:Option Nat} {P:Program} {ops:Array Oper} {Q:Exit→Act→World→Prop} {rest:List Oper} {a:Act} {w:World}
variable {d:Nat} {ty:TypeId} {pos:String} {aft:Array Edge} {g:Option (Nat × Bool)}
/-- The head of a slice. -/
theorem s_sliceTo {t e:TypeId} {sz bytes:Nat} {zero:List Value} {agg:Bool} (hs:P.underlying t=some (.slice e)) (ht:Ty P e sz bytes zero agg) {x z:Operand} {A:Option Addr} {n c:Nat} (hi:Nat) {q:Int} (H:St N D w0 F G0 G L T a w)
  (hw:Region.wanted ⟨some d,.slice t x none (some z) none,ty,pos,aft,g⟩ (yielded ops a.tmps)=true) (hx:ev T x=some (.slice A n c)) (hz:ev T z=some (.int .i64 q)) (hq:q=(hi:Int)) (h2:hi≤c) (hd:Nat.blt d N=true)
  (k:∀ a',St N D w0 F G0 G L ((d,.slice A hi c) :: T) a' w→WL r P ops Q rest a' w):WL r P ops Q (⟨some d,.slice t x none (some z) none,ty,pos,aft,g⟩ :: rest) a w:=by
 subst hq
 refine wl_value (v:=.slice A hi c) (w':=w) hw rfl ?_ (k _ (H.put hd _ H.hp))
 simp [execOp,H.ev hx,H.ev hz,Instr.sliceAt,Instr.slice,Instr.sliceBounds,Instr.sliceBound,Sem.run_bind,run_und hs,ht.run_size,asIntOf,h2]
 intro _
 cases A with
 | none=>rfl
 | some p=>simp [Addr.add]
end
end
section
open Go.RowKit
section
variable {N:Nat} {D:List Deferred} {w0:World} {F:Nat→Prop} {G0 G:GH} {L Lo:OL} {T:List (Nat × Value)}
variable {r:Option Nat} {P:Program} {ops:Array Oper} {Q:Exit→Act→World→Prop} {rest:List Oper} {a:Act} {w:World}
variable {d:Nat} {ty:TypeId} {pos:String} {aft:Array Edge} {g:Option (Nat × Bool)}
end
end
section
open Go.RowKit
theorem IsRow.ptr {e sz n c:Nat} {A:Option Addr} {xs:List Value} {Lo:OL} (h:IsRow e sz (.slice A n c) n xs Lo) (hn:0 < n):∃ b,A=some ⟨b,0,none⟩:=by
 rcases h.2 with ⟨_,h0,_⟩|⟨b,cap,cur,he,_⟩
 ·omega
 ·injection he with e1;exact ⟨b,e1⟩
theorem IsRow.at {w0 w:World} {F:Nat→Prop} {G0 G:GH} {L Lo:OL} {e sz n c b o:Nat} {xs:List Value} (h:IsRow e sz (.slice (some ⟨b,o,none⟩) n c) n xs Lo) (H:Hp w0 F G0 G L w) (hsub:∀ x∈Lo,x∈L) {i:Nat} {u:Value} (hi:xs[i]?=some u):w.cell? ⟨b,i,none⟩=some u:=by
 rcases h.2 with ⟨h1,_⟩|⟨b2,cap,cur,he,hl,h1,h2,h3,h4⟩
 ·cases h1
 ·injection he with e1
  injection e1 with e1
  injection e1 with e1
  subst e1
  refine H.mcell (c:=cur) (e:=e) (fz:=(0,0)) (hsub _ (by rw [hl];exact List.mem_singleton_self _)) ?_
  have hx:i < xs.length:=(List.getElem?_eq_some_iff.1 hi).1
  rw [h.1] at hx
  rw [← h4,List.getElem?_take,if_pos hx,Array.getElem?_toList] at hi
  exact hi
theorem flat_get {sz:Nat}:∀ {css:List (List Value)} {k:Nat} (hk:k < css.length) (h:∀ cs∈css,cs.length=sz) (j:Nat),j < sz→css.flatten[k*sz+j]?=css[k][j]?
 | c :: css,0,_,h,j,hj=>by
  rw [List.flatten_cons,Nat.zero_mul,Nat.zero_add,List.getElem_cons_zero,List.getElem?_append_left (by rw [h c List.mem_cons_self];exact hj)]
 | c :: css,k+1,hk,h,j,hj=>by
  have ih:=flat_get (css:=css) (k:=k) (by simpa using hk) (fun cs hc=>h cs (List.mem_cons_of_mem _ hc)) j hj
  rw [List.flatten_cons,List.getElem_cons_succ,List.getElem?_append_right (by rw [h c List.mem_cons_self,Nat.succ_mul];omega),h c List.mem_cons_self,show (k+1)*sz+j - sz=k*sz+j by rw [Nat.succ_mul];omega]
  exact ih
theorem RepCat.at {G:GH} {sz:Nat} {rows:List (List Dat)} {xs:List Value} (h:RepCat G sz rows xs) {k:Nat} {r:List Dat} (hk:rows[k]?=some r):∃ cs,cs.length=sz∧(∀ j u,cs[j]?=some u→xs[k*sz+j]?=some u)∧RepRow G r cs:=by
 obtain ⟨css,rfl,h2,h3⟩:=h
 have hkl:k < css.length:=by rw [h2];exact (List.getElem?_eq_some_iff.1 hk).1
 obtain ⟨hr,hl⟩:=h3 k r css[k] hk (List.getElem?_eq_getElem hkl)
 refine ⟨css[k],hl,fun j u hj=>?_,hr⟩
 rw [flat_get hkl (fun cs hc=>?_) j (by rw [← hl];exact (List.getElem?_eq_some_iff.1 hj).1)]
 ·exact hj
 ·obtain ⟨i,hi,rfl⟩:=List.getElem_of_mem hc
  exact (h3 i rows[i] css[i] (List.getElem?_eq_getElem (by omega)) (List.getElem?_eq_getElem hi)).2
end
section
open Go.RowKit
/-- No two neighbours are joined. -/
def NoJoin (l:List ItemD):Prop:=∀ (k:Nat) (h:k+1 < l.length),¬ (l[k].kind=1∧l[k+1].kind=1∧l[k].head=l[k+1].head)
theorem NoJoin.one {l:List ItemD} (h:l.length≤1):NoJoin l:=fun k hk=>by omega
end
section
open Go.RowKit
/-- What Blocks gives. -/
def blocksS (l:List ItemD):List BlkD:=if lenE l=0 then blkS 0 0 true l else []
end
section
open Go.RowKit
end
section
open Go.RowKit
end
section
open Go.RowKit
theorem un38l14c:Tryz.prog.underlying 38=some (.slice 3):=by kernel_rfl
theorem zItems_append (l m:List ItemD):zItems (l++m)=zItems l+zItems m:=by simp [zItems,szRs_append]
end
section
open Go.RowKit
end
section
open Go.RowKit
end
section
open Go.RowKit
theorem zItems_sub:∀ {m l:List ItemD},m.Sublist l→zItems m≤zItems l
 | _,_,.slnil=>Nat.le_refl _
 | _,_,.cons a h=>by have:=zItems_sub h;simp only [zItems,List.map_cons,szRs] at *;omega
 | _,_,.cons_cons a h=>by have:=zItems_sub h;simp only [zItems,List.map_cons,szRs] at *;omega
end
section
open Go.RowKit
theorem sizB:Siz Tryz.prog 265:=⟨by kernel_rfl⟩
theorem cellsU8:Tryz.prog.cellsOf 5=1:=by kernel_rfl
theorem noEsc (v:Value) (w:World):(callFunc 231 #[v]).run Tryz.prog w=.ok (.value v) w:=run_noEsc Tryz.func231 (by kernel_rfl) (by kernel_rfl) (by kernel_rfl) (by kernel_rfl) v w
theorem un262bld:Tryz.prog.underlying 262=some (.pointer 265):=by kernel_rfl
theorem un327bld:Tryz.prog.underlying 327=some .unsafePointer:=by kernel_rfl
theorem fd265_0bld:Fld Tryz.prog 265 0 0:=⟨by kernel_rfl⟩
theorem ty262bld:Ty Tryz.prog 262 1 8 [.pointer none] false:=⟨by kernel_rfl,by kernel_rfl⟩
theorem en210bld:∀ args w,(callFunc 210 args).run Tryz.prog w=.ok (.enter 210 args) w:=enters Tryz.func210 rfl (by kernel_rfl)
theorem un263bld:Tryz.prog.underlying 263=some (.slice 5):=by kernel_rfl
theorem fd265_1bld:Fld Tryz.prog 265 1 1:=⟨by kernel_rfl⟩
theorem ty263bld:Ty Tryz.prog 263 1 24 [.slice none 0 0] false:=⟨by kernel_rfl,by kernel_rfl⟩
theorem un306bld:Tryz.prog.underlying 306=some (.pointer 5):=by kernel_rfl
end
section
open Go.RowKit
theorem fd279_0prp:Fld Tryz.prog 279 0 0:=⟨by kernel_rfl⟩
theorem en218prp:∀ args w,(callFunc 218 args).run Tryz.prog w=.ok (.enter 218 args) w:=enters Tryz.func218 rfl (by kernel_rfl)
theorem un329prp:Tryz.prog.underlying 329=some (.int .u64):=by kernel_rfl
theorem fd40_0prp:Fld Tryz.prog 40 0 0:=⟨by kernel_rfl⟩
theorem en217prp:∀ args w,(callFunc 217 args).run Tryz.prog w=.ok (.enter 217 args) w:=enters Tryz.func217 rfl (by kernel_rfl)
theorem cbkey_spec (G:GH) (w0:World) (hG:Hold G w0) (x:KeyD) (t:Int):CallV Tryz.prog (.func (.func 217) #[] #[]) [.agg x.cells.toArray,vi t] w0 (Ret w0 G fun u G'=>u=vi (cmp3 x.num t)):=by
 refine callV_func (caps:=[]) en217prp ?_;refine eN [(0,_),(1,_)] Tryz.func217 rfl Tryz.ntmps217 rfl rfl hG ?_;intro a H;refine c_seqR (fun _ K1=>?_);refine s_box (cs:=[_,_,_,_,_,_]) H wn rfl rfl rfl ?_;clear H;intro b2 a w hb2 H;refine kH H (Ra rfl (Kz K1 (SR fun _ K2=>Rf fd279_0prp rfl (Ro ty3run 0 rfl rfl (Rm rfl ?_)))));clear H K1;intro a H;refine s_call en218prp H wn rfl (compare_spec _ _ H.hp.ro x.num t) rfl ?_;clear H;rintro v8 G8 a w rfl hm8 H;refine kH H (Ra rfl (Kz K2 ?_));clear H K2;intro a H;refine lr H Tryz.results217 rfl ?_;exact H.hp.ret rfl
theorem bskey_spec (G:GH) (w0:World) (hG:Hold G w0) (l:List KeyD) (t:Int) (v:Value) (hv:RepV G (.sl 6 (l.map KeyD.dat)) v) (hl:l.length≤4294967296) :
  Calls Tryz.prog 216 #[v,vi t,.func (.func 217) #[] #[]] w0 (Ret w0 G fun u G'=>u=.tuple #[vi (bsK (l.map KeyD.num) t),.bool (hasK (l.map KeyD.num) t)]):=by
 obtain ⟨A,c,rfl,hc1,hc2,-⟩:=hv.slice;rw [List.length_map] at *;obtain ⟨p,hp⟩:∃ p:Nat→Bool,p=fun h=>decide (¬ (l.map KeyD.num).getD h 0 < t):=⟨_,rfl⟩
 have hbs:bsK (l.map KeyD.num) t=hvF p l.length 0 l.length:=by rw [hp,bsK,List.length_map]
 refine eN [(0,_),(1,_),(2,_)] Tryz.func216 rfl Tryz.ntmps216 rfl rfl hG ?_;intro a H;refine kP H (SR fun _ K1=>Ra rfl (Ra rfl (Kz K1 (SR fun _ K2=>Rm rfl (Rl un309prk rfl (Ra rfl (Kz K2 (SR fun _ K3=>Rm rfl (Ra rfl (Ra rfl (Kz K3 ?_)))))))))));clear H K1 K2 K3;intro a H;refine c_seq (fun _ K4=>?_);refine c_block ?_;skip;refine c_loopS (ι:=Nat × Nat × Nat × GH) (Tc:=[(0,_),(1,_),(2,_),(8,_)]) (Lc:=[]) (fun (gh:Nat × Nat × Nat × GH)=>[(9,vi gh.1),(10,vi gh.2.1)]) (fun (gh:Nat × Nat × Nat × GH)=>[]) (fun (gh:Nat × Nat × Nat × GH)=>gh.2.2.2) (fun (gh:Nat × Nat × Nat × GH)=>gh.1≤gh.2.1∧gh.2.1≤l.length∧gh.2.1 - gh.1≤gh.2.2.1∧hvF p gh.2.2.1 gh.1 gh.2.1=bsK (l.map KeyD.num) t∧(∀ b o,G b=some o→gh.2.2.2 b=some o)) (fun (gh:Nat × Nat × Nat × GH)=>gh.2.1 - gh.1) ((0,l.length,l.length,G)) (by exact (H).sub ⟨rfl,rfl,rfl,rfl,rfl,rfl,trivial⟩) ?_ ?_
 ·exact ⟨Nat.zero_le _,Nat.le_refl _,Nat.sub_le _ _,hbs.symm,fun _ _ h=>h⟩
 clear H;intro gh a w hI H;obtain ⟨i,j,f,g⟩:=gh;dsimp only at hI H;obtain ⟨hij,hj,hf1,heq,hgm⟩:=hI;have hvg:=hv.mono hgm;dsimp only [List.cons_append,List.nil_append,List.append_nil] at H;refine kP H (SQ fun _ K5=>SR fun _ K6=>Rm rfl (Rm rfl (Rc rfl (Kz K6 ?_))));clear H K6;intro a H;refine c_cond H rfl ?_ ?_
 ·intro h17
  try have p17:=dT h17
  have hlt:i < j:=by omega
  rw [hv_step hf1 hlt] at heq;obtain ⟨m,hm⟩:∃ m,m=(i+j) / 2:=⟨_,rfl⟩;rw [← hm] at heq
  have hml:m < l.length:=by omega
  obtain ⟨b,o,rfl,hrow⟩:=key_at hvg hml
  have hpm:p m=decide (¬ l[m].num < t):=by rw [hp];dsimp only;rw [getD_map hml]
  rw [hpm] at heq;refine kP H (Kc K5 (SB (SR fun _ K7=>Rm rfl (Rm rfl (Rd rfl ?_)))));clear H K5;intro a H;rw [show ((i:Int)+(j:Int))=((i+j:Nat):Int) by push_cast;rfl] at H;refine s_conv ((i+j:Nat):Int) un329prp un3cp H wn rfl (hv_wrap (by omega) (by omega)) rfl ?_;clear H;intro a H;refine s_shr _ H wn rfl rfl rfl (by decide) rfl ?_;clear H;intro a H;rw [hv_shr,← hm] at H;refine s_conv (m:Int) un3cp un329prp H wn rfl (i64_wrap (by omega) (by omega)) rfl ?_;clear H;intro a H;refine kH H (Ra rfl (Kz K7 (SR fun _ K8=>Rm rfl (Rm rfl (Rm rfl (Ri un309prk ty279prk rfl rfl ?_))))));clear H K7;intro a H;refine s_loada ty279prk (cs:=[_,_,_,_,_,_]) H wn rfl rfl (fun j v hj=>H.hp.gcell (hrow j v hj)) rfl ?_;clear H;intro a H;refine kH H (Rm rfl ?_);clear H;intro a H;refine s_callv0 H wn rfl rfl (cbkey_spec _ _ H.hp.ro l[m] t) rfl ?_;clear H;rintro v30 G30 a w rfl hm30 H;refine kH H (Rc rfl (Kz K8 ?_));clear H K8;intro a H;refine c_cond H rfl ?_ ?_
  ·intro h31
   try have p31:=dT h31
   rw [if_neg (by simpa using cmp3_lt.1 p31)] at heq;refine kP H (SC (Rm rfl (Rd rfl (Ra rfl ?_))));clear H;intro a H;refine wl_nil ?_;refine loop_end ((m+1,j,f - 1,G30)) (by exact (H).sub ⟨rfl,rfl,rfl,rfl,rfl,rfl,trivial⟩) ?_ ?_
   ·(try dsimp only);exact ⟨by omega,hj,by omega,heq,fun b o h=>hm30 b o (hgm b o h)⟩
   first|omega|(dsimp only;omega)
  intro h31
  try have p31:=dF h31
  rw [if_pos (by simpa using fun h=>p31 (cmp3_lt.2 h))] at heq;refine kP H (SC (Rm rfl (Ra rfl ?_)));clear H;intro a H;refine wl_nil ?_;refine loop_end ((i,m,f - 1,G30)) (by exact (H).sub ⟨rfl,rfl,rfl,rfl,rfl,rfl,trivial⟩) ?_ ?_
  ·(try dsimp only);exact ⟨by omega,by omega,by omega,heq,fun b o h=>hm30 b o (hgm b o h)⟩
  first|omega|(dsimp only;omega)
 intro h17
 try have p17:=dF h17
 refine c_exit ?_;refine K4 _ _ ?_;clear K4;refine c_seq (fun _ K9=>?_);rw [hv_end (by omega)] at heq;refine kP H (SC (Rm rfl (Rm rfl (Rm rfl (Rc rfl (Rm rfl ?_))))));clear H;intro a H;refine s_split H 39 rfl ?_ ?_
 ·intro h39
  try have p39:=dT h39
  have hil:i < l.length:=by omega
  obtain ⟨b,o,rfl,hrow⟩:=key_at hvg hil;refine kH H (YM h39 rfl (YM h39 rfl (YM h39 rfl (YI un309prk ty279prk h39 rfl rfl ?_))));clear H;intro a H;refine s_loada ty279prk (cs:=[_,_,_,_,_,_]) H (wg H rfl rfl h39) rfl rfl (fun j v hj=>H.hp.gcell (hrow j v hj)) rfl ?_;clear H;intro a H;refine kH H (YM h39 rfl ?_);clear H;intro a H;refine s_callv0 H (wg H rfl rfl h39) rfl rfl (cbkey_spec _ _ H.hp.ro l[i] t) rfl ?_;clear H;rintro v46 G46 a w rfl hm46 H;refine kH H (YC h39 rfl (Pt h39 rfl (Ra rfl (Ra rfl (Kn K9 ?_)))));clear H K9;intro a H;refine c_ret ?_;refine (leaveT H Tryz.results216 (.cons (rv_tmp H rfl) (.cons (rv_tmp H rfl) .nil)) ?_).1;exact H.hp.ret (by rw [hasK_in heq.symm (by rw [List.length_map];omega),← heq];simp)
 intro h39
 try have p39:=dF h39
 refine kH H (Ks h39 rfl (Ks h39 rfl (Ks h39 rfl (Ks h39 rfl (Ks h39 rfl (Ks h39 rfl (Ks h39 rfl (Ks h39 rfl (Pf h39 rfl (Ra rfl (Ra rfl (Kn K9 ?_))))))))))));clear H K9;intro a H;refine c_ret ?_;refine (leaveT H Tryz.results216 (.cons (rv_tmp H rfl) (.cons (rv_tmp H rfl) .nil)) ?_).1;exact H.hp.ret (by rw [hasK_off heq.symm (by rw [List.length_map];omega),← heq])
end
section
open Go.RowKit
theorem en215prq:∀ args w,(callFunc 215 args).run Tryz.prog w=.ok (.enter 215 args) w:=enters Tryz.func215 rfl (by kernel_rfl)
theorem en216prq:∀ args w,(callFunc 216 args).run Tryz.prog w=.ok (.enter 216 args) w:=enters Tryz.func216 rfl (by kernel_rfl)
theorem en182prq:∀ args w,(callFunc 182 args).run Tryz.prog w=.ok (.enter 182 args) w:=enters Tryz.func182 rfl (by kernel_rfl)
theorem fd279_1prq:Fld Tryz.prog 279 1 1:=⟨by kernel_rfl⟩
theorem en219prq:∀ args w,(callFunc 219 args).run Tryz.prog w=.ok (.enter 219 args) w:=enters Tryz.func219 rfl (by kernel_rfl)
theorem en184prq:∀ args w,(callFunc 184 args).run Tryz.prog w=.ok (.enter 184 args) w:=enters Tryz.func184 rfl (by kernel_rfl)
theorem en183prq:∀ args w,(callFunc 183 args).run Tryz.prog w=.ok (.enter 183 args) w:=enters Tryz.func183 rfl (by kernel_rfl)
theorem fd279_2prq:Fld Tryz.prog 279 2 2:=⟨by kernel_rfl⟩
theorem fd279_3prq:Fld Tryz.prog 279 3 3:=⟨by kernel_rfl⟩
def kz:KeyD:=⟨0,0,0,0,0,⟨#[]⟩⟩
def keyN:List Int:=keyT.map KeyD.num
/-- The entry of a key, and whether there is one. -/
def findK (k:Int):KeyD × Bool:=if hasK keyN k=true then (keyT.getD (bsK keyN k) kz,true) else (kz,false)
theorem find_spec (G:GH) (w0:World) (hG:Hold G w0) (k:Int):Calls Tryz.prog 182 #[vi k] w0 (Ret w0 G fun u G'=>u=.tuple #[.agg (findK k).1.cells.toArray,.bool (findK k).2]):=by
 refine eN [(0,_)] Tryz.func182 rfl Tryz.ntmps182 rfl rfl hG ?_;intro a H;refine c_seqR (fun _ K1=>?_);refine s_alloc ty279prk H wn rfl ?_;clear H;intro b2 a w hb2 H;refine kH H (Ra rfl (Kz K1 (SR fun _ K2=>?_)));clear H K1;intro a H;refine s_call en215prq H wn rfl (ktable_spec _ _ H.hp.ro) rfl ?_;clear H;rintro v7 G7 a w hv7 hm7 H;obtain ⟨A,c,rfl,hc1,hc2,-⟩:=hv7.slice;rw [List.length_map] at *;refine kH H (Ra rfl (Kz K2 (SR fun _ K3=>Rm rfl (Rm rfl ?_))));clear H K2;intro a H;refine s_call en216prq H wn rfl (bskey_spec _ _ H.hp.ro keyT k _ hv7 (by decide)) rfl ?_;clear H;rintro v11 G11 a w rfl hm11 H;have hv7:=hv7.mono hm11;have hkn:keyT.map KeyD.num=keyN:=rfl;rw [hkn] at H;obtain ⟨n,hn⟩:∃ n,n=bsK keyN k:=⟨_,rfl⟩;obtain ⟨q,hq⟩:∃ q,q=hasK keyN k:=⟨_,rfl⟩;rw [← hn,← hq] at H;refine kH H (Rm rfl ?_);clear H;intro a H;(iterate 2 refine s_extract H wn rfl rfl rfl ?_;clear H;intro a H);refine kH H (Ra rfl (Ra rfl (Kz K3 (SQ fun _ K4=>SR fun _ K5=>Rm rfl (Rn rfl (Kz K5 ?_))))));clear H K3 K5;intro a H;refine c_cond H rfl ?_ ?_
 ·intro h15
  try have p15:=dT h15
  refine c_seqR (fun _ K6=>?_);refine s_build sr279prk [_,_,_,_,_,_] H wn rfl rfl rfl rfl ?_;clear H;intro a H;refine s_store ty279prk 0 (vs:=[_,_,_,_,_,_]) _ H wn rfl rfl rfl rfl rfl rfl rfl rfl ?_;clear H;intro w H;dsimp only [List.set,setRow] at H;refine kH H (Ra rfl (Kz K6 ?_));clear H K6;intro a H;refine c_ret ?_;refine (leaveT H Tryz.results182 (.cons (rv_cella ty279prk (cs:=[_,_,_,_,_,_]) H rfl rfl (H.hp.ocells 0 rfl rfl)) (.cons (rv_tmp H rfl) .nil)) ?_).1;exact H.hp.ret (by rw [findK,if_neg (by rw [← hq];simpa using h15)];rfl)
 intro h15
 try have p15:=dF h15
 have hlt:n < keyT.length:=by have:=hasK_lt (ks:=keyN) (t:=k) (by rw [← hq];simpa using h15);rw [← hn] at this;simpa [keyN] using this
 obtain ⟨b,o,rfl,hrow⟩:=key_at hv7 hlt;refine kP H (Kc K4 (SR fun _ K7=>Rm rfl (Rm rfl (Ri un309prk ty279prk rfl rfl ?_))));clear H K4;intro a H;refine s_loada ty279prk (cs:=[_,_,_,_,_,_]) H wn rfl rfl (fun j v hj=>H.hp.gcell (hrow j v hj)) rfl ?_;clear H;intro a H;refine s_store ty279prk 0 (vs:=[_,_,_,_,_,_]) _ H wn rfl rfl rfl rfl rfl rfl rfl rfl ?_;clear H;intro w H;dsimp only [List.set,setRow] at H;refine kH H (Ra rfl (Kz K7 ?_));clear H K7;intro a H;refine c_ret ?_;refine (leaveT H Tryz.results182 (.cons (rv_cella ty279prk (cs:=[_,_,_,_,_,_]) H rfl rfl (H.hp.ocells 0 rfl rfl)) (.cons (rv_tmp H rfl) .nil)) ?_).1;exact H.hp.ret (by rw [findK,if_pos (by rw [← hq];simpa using h15),← hn,List.getD_eq_getElem?_getD,List.getElem?_eq_getElem hlt];rfl)
def groupsS (e:Int):List Int:=if e=1∨e=4∨e=5∨e=6 then [1] else if e=2 then [1,2] else if e=3 then [3] else if e=7 then [6] else if e=9 then [4] else if e=10 then [5] else []
theorem ints_cat (G:GH) (A:List Int):RepCat G 1 (A.map fun k=>[li k]) (A.map vi):=by
 refine ⟨A.map fun k=>[vi k],?_,by simp,fun j r cs hr hc=>?_⟩
 ·induction A with
  | nil=>rfl
  | cons a A ih=>simpa using ih
 rw [List.getElem?_map] at hr hc
 cases h:A[j]? with
 | none=>rw [h] at hr;cases hr
 | some x =>
  rw [h] at hr hc
  cases hr;cases hc
  exact ⟨by simp only [RepRow];exact ⟨_,_,rfl,by simp [RepV,Value.oneCell'],rfl⟩,rfl⟩
theorem groups_spec (G:GH) (w0:World) (hG:Hold G w0) (e:Int):Calls Tryz.prog 184 #[vi e] w0 (Ret w0 G fun u G'=>RepV G' (.sl 1 ((groupsS e).map fun k=>[li k])) u):=by
  refine eN [(0,_)] Tryz.func184 rfl Tryz.ntmps184 rfl rfl hG ?_;intro a H;refine kP H (SR fun _ K1=>Ra rfl (Kz K1 (SQ fun _ K2=>SR fun _ K3=>Rm rfl (Kz K3 (SB (SQ fun _ K4=>SR fun _ K5=>Rc rfl (Ra rfl (Kz K5 ?_))))))));clear H K1 K3 K5;intro a H;refine c_cond H rfl ?_ ?_
  · intro h4
    try have p4:=dT h4
    refine c_skip ?_;refine K4 _ _ ?_;clear K4;refine c_cond_t H rfl h4 ?_;refine c_seqR (fun _ K6=>?_);refine s_buildSlice un38l14c ty3run [_] [_] H wn rfl rfl rfl rfl rfl (by intro i q h;match i,h with|0,h=>exact h|n+1,h=>simp at h) rfl rfl ?_;clear H;intro b9 a w hb9 H;refine kH H (Ra rfl (Kz K6 ?_));clear H K6;intro a H;refine lr H Tryz.results184 rfl ?_
    first
      | exact H.hp.ret (by rw [groupsS,if_neg (by omega),if_neg (by omega),if_neg (by omega),if_neg (by omega),if_neg (by omega),if_neg (by omega)];exact RepV.nil_ rfl (by decide))
      | (obtain ⟨Gz,hmz,hbz,H⟩:=H.giveBox
         first
           | exact H.hp.ret (by rw [groupsS,if_pos (by omega)];exact RepV.of_row (n:=1) (cap:=1) hbz rfl (Nat.le_refl _) (show 1≤maxLen by decide) rfl (ints_cat _ [1]))
           | exact H.hp.ret (by rw [groupsS,if_neg (by omega),if_pos (by omega)];exact RepV.of_row (n:=2) (cap:=2) hbz rfl (Nat.le_refl _) (show 2≤maxLen by decide) rfl (ints_cat _ [1,2]))
           | exact H.hp.ret (by rw [groupsS,if_neg (by omega),if_neg (by omega),if_pos (by omega)];exact RepV.of_row (n:=1) (cap:=1) hbz rfl (Nat.le_refl _) (show 1≤maxLen by decide) rfl (ints_cat _ [3]))
           | exact H.hp.ret (by rw [groupsS,if_neg (by omega),if_neg (by omega),if_neg (by omega),if_pos (by omega)];exact RepV.of_row (n:=1) (cap:=1) hbz rfl (Nat.le_refl _) (show 1≤maxLen by decide) rfl (ints_cat _ [6]))
           | exact H.hp.ret (by rw [groupsS,if_neg (by omega),if_neg (by omega),if_neg (by omega),if_neg (by omega),if_pos (by omega)];exact RepV.of_row (n:=1) (cap:=1) hbz rfl (Nat.le_refl _) (show 1≤maxLen by decide) rfl (ints_cat _ [4]))
           | exact H.hp.ret (by rw [groupsS,if_neg (by omega),if_neg (by omega),if_neg (by omega),if_neg (by omega),if_neg (by omega),if_pos (by omega)];exact RepV.of_row (n:=1) (cap:=1) hbz rfl (Nat.le_refl _) (show 1≤maxLen by decide) rfl (ints_cat _ [5])))
  intro h4
  try have p4:=dF h4
  refine kP H (SR fun _ K7=>Rc rfl (Ra rfl (Kz K7 ?_)));clear H K7;intro a H;refine c_cond H rfl ?_ ?_
  · intro h4
    try have p4:=dT h4
    refine c_skip ?_;refine K4 _ _ ?_;clear K4;refine c_cond_t H rfl h4 ?_;refine c_seqR (fun _ K8=>?_);refine s_buildSlice un38l14c ty3run [_] [_] H wn rfl rfl rfl rfl rfl (by intro i q h;match i,h with|0,h=>exact h|n+1,h=>simp at h) rfl rfl ?_;clear H;intro b9 a w hb9 H;refine kH H (Ra rfl (Kz K8 ?_));clear H K8;intro a H;refine lr H Tryz.results184 rfl ?_
    first
      | exact H.hp.ret (by rw [groupsS,if_neg (by omega),if_neg (by omega),if_neg (by omega),if_neg (by omega),if_neg (by omega),if_neg (by omega)];exact RepV.nil_ rfl (by decide))
      | (obtain ⟨Gz,hmz,hbz,H⟩:=H.giveBox
         first
           | exact H.hp.ret (by rw [groupsS,if_pos (by omega)];exact RepV.of_row (n:=1) (cap:=1) hbz rfl (Nat.le_refl _) (show 1≤maxLen by decide) rfl (ints_cat _ [1]))
           | exact H.hp.ret (by rw [groupsS,if_neg (by omega),if_pos (by omega)];exact RepV.of_row (n:=2) (cap:=2) hbz rfl (Nat.le_refl _) (show 2≤maxLen by decide) rfl (ints_cat _ [1,2]))
           | exact H.hp.ret (by rw [groupsS,if_neg (by omega),if_neg (by omega),if_pos (by omega)];exact RepV.of_row (n:=1) (cap:=1) hbz rfl (Nat.le_refl _) (show 1≤maxLen by decide) rfl (ints_cat _ [3]))
           | exact H.hp.ret (by rw [groupsS,if_neg (by omega),if_neg (by omega),if_neg (by omega),if_pos (by omega)];exact RepV.of_row (n:=1) (cap:=1) hbz rfl (Nat.le_refl _) (show 1≤maxLen by decide) rfl (ints_cat _ [6]))
           | exact H.hp.ret (by rw [groupsS,if_neg (by omega),if_neg (by omega),if_neg (by omega),if_neg (by omega),if_pos (by omega)];exact RepV.of_row (n:=1) (cap:=1) hbz rfl (Nat.le_refl _) (show 1≤maxLen by decide) rfl (ints_cat _ [4]))
           | exact H.hp.ret (by rw [groupsS,if_neg (by omega),if_neg (by omega),if_neg (by omega),if_neg (by omega),if_neg (by omega),if_pos (by omega)];exact RepV.of_row (n:=1) (cap:=1) hbz rfl (Nat.le_refl _) (show 1≤maxLen by decide) rfl (ints_cat _ [5])))
  intro h4
  try have p4:=dF h4
  refine kP H (SR fun _ K9=>Rc rfl (Ra rfl (Kz K9 ?_)));clear H K9;intro a H;refine c_cond H rfl ?_ ?_
  · intro h4
    try have p4:=dT h4
    refine c_skip ?_;refine K4 _ _ ?_;clear K4;refine c_cond_t H rfl h4 ?_;refine c_seqR (fun _ K10=>?_);refine s_buildSlice un38l14c ty3run [_] [_] H wn rfl rfl rfl rfl rfl (by intro i q h;match i,h with|0,h=>exact h|n+1,h=>simp at h) rfl rfl ?_;clear H;intro b9 a w hb9 H;refine kH H (Ra rfl (Kz K10 ?_));clear H K10;intro a H;refine lr H Tryz.results184 rfl ?_
    first
      | exact H.hp.ret (by rw [groupsS,if_neg (by omega),if_neg (by omega),if_neg (by omega),if_neg (by omega),if_neg (by omega),if_neg (by omega)];exact RepV.nil_ rfl (by decide))
      | (obtain ⟨Gz,hmz,hbz,H⟩:=H.giveBox
         first
           | exact H.hp.ret (by rw [groupsS,if_pos (by omega)];exact RepV.of_row (n:=1) (cap:=1) hbz rfl (Nat.le_refl _) (show 1≤maxLen by decide) rfl (ints_cat _ [1]))
           | exact H.hp.ret (by rw [groupsS,if_neg (by omega),if_pos (by omega)];exact RepV.of_row (n:=2) (cap:=2) hbz rfl (Nat.le_refl _) (show 2≤maxLen by decide) rfl (ints_cat _ [1,2]))
           | exact H.hp.ret (by rw [groupsS,if_neg (by omega),if_neg (by omega),if_pos (by omega)];exact RepV.of_row (n:=1) (cap:=1) hbz rfl (Nat.le_refl _) (show 1≤maxLen by decide) rfl (ints_cat _ [3]))
           | exact H.hp.ret (by rw [groupsS,if_neg (by omega),if_neg (by omega),if_neg (by omega),if_pos (by omega)];exact RepV.of_row (n:=1) (cap:=1) hbz rfl (Nat.le_refl _) (show 1≤maxLen by decide) rfl (ints_cat _ [6]))
           | exact H.hp.ret (by rw [groupsS,if_neg (by omega),if_neg (by omega),if_neg (by omega),if_neg (by omega),if_pos (by omega)];exact RepV.of_row (n:=1) (cap:=1) hbz rfl (Nat.le_refl _) (show 1≤maxLen by decide) rfl (ints_cat _ [4]))
           | exact H.hp.ret (by rw [groupsS,if_neg (by omega),if_neg (by omega),if_neg (by omega),if_neg (by omega),if_neg (by omega),if_pos (by omega)];exact RepV.of_row (n:=1) (cap:=1) hbz rfl (Nat.le_refl _) (show 1≤maxLen by decide) rfl (ints_cat _ [5])))
  intro h4
  try have p4:=dF h4
  refine kP H (SC (Rc rfl (Ra rfl (Kn K4 ?_))));clear H K4;intro a H;refine c_cond H rfl ?_ ?_
  · intro h4
    try have p4:=dT h4
    refine c_seqR (fun _ K11=>?_);refine s_buildSlice un38l14c ty3run [_] [_] H wn rfl rfl rfl rfl rfl (by intro i q h;match i,h with|0,h=>exact h|n+1,h=>simp at h) rfl rfl ?_;clear H;intro b9 a w hb9 H;refine kH H (Ra rfl (Kz K11 ?_));clear H K11;intro a H;refine lr H Tryz.results184 rfl ?_
    first
      | exact H.hp.ret (by rw [groupsS,if_neg (by omega),if_neg (by omega),if_neg (by omega),if_neg (by omega),if_neg (by omega),if_neg (by omega)];exact RepV.nil_ rfl (by decide))
      | (obtain ⟨Gz,hmz,hbz,H⟩:=H.giveBox
         first
           | exact H.hp.ret (by rw [groupsS,if_pos (by omega)];exact RepV.of_row (n:=1) (cap:=1) hbz rfl (Nat.le_refl _) (show 1≤maxLen by decide) rfl (ints_cat _ [1]))
           | exact H.hp.ret (by rw [groupsS,if_neg (by omega),if_pos (by omega)];exact RepV.of_row (n:=2) (cap:=2) hbz rfl (Nat.le_refl _) (show 2≤maxLen by decide) rfl (ints_cat _ [1,2]))
           | exact H.hp.ret (by rw [groupsS,if_neg (by omega),if_neg (by omega),if_pos (by omega)];exact RepV.of_row (n:=1) (cap:=1) hbz rfl (Nat.le_refl _) (show 1≤maxLen by decide) rfl (ints_cat _ [3]))
           | exact H.hp.ret (by rw [groupsS,if_neg (by omega),if_neg (by omega),if_neg (by omega),if_pos (by omega)];exact RepV.of_row (n:=1) (cap:=1) hbz rfl (Nat.le_refl _) (show 1≤maxLen by decide) rfl (ints_cat _ [6]))
           | exact H.hp.ret (by rw [groupsS,if_neg (by omega),if_neg (by omega),if_neg (by omega),if_neg (by omega),if_pos (by omega)];exact RepV.of_row (n:=1) (cap:=1) hbz rfl (Nat.le_refl _) (show 1≤maxLen by decide) rfl (ints_cat _ [4]))
           | exact H.hp.ret (by rw [groupsS,if_neg (by omega),if_neg (by omega),if_neg (by omega),if_neg (by omega),if_neg (by omega),if_pos (by omega)];exact RepV.of_row (n:=1) (cap:=1) hbz rfl (Nat.le_refl _) (show 1≤maxLen by decide) rfl (ints_cat _ [5])))
  intro h4
  try have p4:=dF h4
  refine kP H (SR fun _ K12=>Rc rfl (Ra rfl (Kz K12 ?_)));clear H K12;intro a H;refine c_cond H rfl ?_ ?_
  · intro h10
    try have p10:=dT h10
    refine c_seqR (fun _ K13=>?_);refine s_buildSlice un38l14c ty3run [_,_] [_,_] H wn rfl rfl rfl rfl rfl (by intro i q h;match i,h with|0,h=>exact h|1,h=>exact h|n+2,h=>simp at h) rfl rfl ?_;clear H;intro b12 a w hb12 H;refine kH H (Ra rfl (Kz K13 ?_));clear H K13;intro a H;refine lr H Tryz.results184 rfl ?_
    first
      | exact H.hp.ret (by rw [groupsS,if_neg (by omega),if_neg (by omega),if_neg (by omega),if_neg (by omega),if_neg (by omega),if_neg (by omega)];exact RepV.nil_ rfl (by decide))
      | (obtain ⟨Gz,hmz,hbz,H⟩:=H.giveBox
         first
           | exact H.hp.ret (by rw [groupsS,if_pos (by omega)];exact RepV.of_row (n:=1) (cap:=1) hbz rfl (Nat.le_refl _) (show 1≤maxLen by decide) rfl (ints_cat _ [1]))
           | exact H.hp.ret (by rw [groupsS,if_neg (by omega),if_pos (by omega)];exact RepV.of_row (n:=2) (cap:=2) hbz rfl (Nat.le_refl _) (show 2≤maxLen by decide) rfl (ints_cat _ [1,2]))
           | exact H.hp.ret (by rw [groupsS,if_neg (by omega),if_neg (by omega),if_pos (by omega)];exact RepV.of_row (n:=1) (cap:=1) hbz rfl (Nat.le_refl _) (show 1≤maxLen by decide) rfl (ints_cat _ [3]))
           | exact H.hp.ret (by rw [groupsS,if_neg (by omega),if_neg (by omega),if_neg (by omega),if_pos (by omega)];exact RepV.of_row (n:=1) (cap:=1) hbz rfl (Nat.le_refl _) (show 1≤maxLen by decide) rfl (ints_cat _ [6]))
           | exact H.hp.ret (by rw [groupsS,if_neg (by omega),if_neg (by omega),if_neg (by omega),if_neg (by omega),if_pos (by omega)];exact RepV.of_row (n:=1) (cap:=1) hbz rfl (Nat.le_refl _) (show 1≤maxLen by decide) rfl (ints_cat _ [4]))
           | exact H.hp.ret (by rw [groupsS,if_neg (by omega),if_neg (by omega),if_neg (by omega),if_neg (by omega),if_neg (by omega),if_pos (by omega)];exact RepV.of_row (n:=1) (cap:=1) hbz rfl (Nat.le_refl _) (show 1≤maxLen by decide) rfl (ints_cat _ [5])))
  intro h10
  try have p10:=dF h10
  refine kP H (SR fun _ K14=>Rc rfl (Ra rfl (Kz K14 ?_)));clear H K14;intro a H;refine c_cond H rfl ?_ ?_
  · intro h13
    try have p13:=dT h13
    refine c_seqR (fun _ K15=>?_);refine s_buildSlice un38l14c ty3run [_] [_] H wn rfl rfl rfl rfl rfl (by intro i q h;match i,h with|0,h=>exact h|n+1,h=>simp at h) rfl rfl ?_;clear H;intro b15 a w hb15 H;refine kH H (Ra rfl (Kz K15 ?_));clear H K15;intro a H;refine lr H Tryz.results184 rfl ?_
    first
      | exact H.hp.ret (by rw [groupsS,if_neg (by omega),if_neg (by omega),if_neg (by omega),if_neg (by omega),if_neg (by omega),if_neg (by omega)];exact RepV.nil_ rfl (by decide))
      | (obtain ⟨Gz,hmz,hbz,H⟩:=H.giveBox
         first
           | exact H.hp.ret (by rw [groupsS,if_pos (by omega)];exact RepV.of_row (n:=1) (cap:=1) hbz rfl (Nat.le_refl _) (show 1≤maxLen by decide) rfl (ints_cat _ [1]))
           | exact H.hp.ret (by rw [groupsS,if_neg (by omega),if_pos (by omega)];exact RepV.of_row (n:=2) (cap:=2) hbz rfl (Nat.le_refl _) (show 2≤maxLen by decide) rfl (ints_cat _ [1,2]))
           | exact H.hp.ret (by rw [groupsS,if_neg (by omega),if_neg (by omega),if_pos (by omega)];exact RepV.of_row (n:=1) (cap:=1) hbz rfl (Nat.le_refl _) (show 1≤maxLen by decide) rfl (ints_cat _ [3]))
           | exact H.hp.ret (by rw [groupsS,if_neg (by omega),if_neg (by omega),if_neg (by omega),if_pos (by omega)];exact RepV.of_row (n:=1) (cap:=1) hbz rfl (Nat.le_refl _) (show 1≤maxLen by decide) rfl (ints_cat _ [6]))
           | exact H.hp.ret (by rw [groupsS,if_neg (by omega),if_neg (by omega),if_neg (by omega),if_neg (by omega),if_pos (by omega)];exact RepV.of_row (n:=1) (cap:=1) hbz rfl (Nat.le_refl _) (show 1≤maxLen by decide) rfl (ints_cat _ [4]))
           | exact H.hp.ret (by rw [groupsS,if_neg (by omega),if_neg (by omega),if_neg (by omega),if_neg (by omega),if_neg (by omega),if_pos (by omega)];exact RepV.of_row (n:=1) (cap:=1) hbz rfl (Nat.le_refl _) (show 1≤maxLen by decide) rfl (ints_cat _ [5])))
  intro h13
  try have p13:=dF h13
  refine kP H (SR fun _ K16=>Rc rfl (Ra rfl (Kz K16 ?_)));clear H K16;intro a H;refine c_cond H rfl ?_ ?_
  · intro h16
    try have p16:=dT h16
    refine c_seqR (fun _ K17=>?_);refine s_buildSlice un38l14c ty3run [_] [_] H wn rfl rfl rfl rfl rfl (by intro i q h;match i,h with|0,h=>exact h|n+1,h=>simp at h) rfl rfl ?_;clear H;intro b18 a w hb18 H;refine kH H (Ra rfl (Kz K17 ?_));clear H K17;intro a H;refine lr H Tryz.results184 rfl ?_
    first
      | exact H.hp.ret (by rw [groupsS,if_neg (by omega),if_neg (by omega),if_neg (by omega),if_neg (by omega),if_neg (by omega),if_neg (by omega)];exact RepV.nil_ rfl (by decide))
      | (obtain ⟨Gz,hmz,hbz,H⟩:=H.giveBox
         first
           | exact H.hp.ret (by rw [groupsS,if_pos (by omega)];exact RepV.of_row (n:=1) (cap:=1) hbz rfl (Nat.le_refl _) (show 1≤maxLen by decide) rfl (ints_cat _ [1]))
           | exact H.hp.ret (by rw [groupsS,if_neg (by omega),if_pos (by omega)];exact RepV.of_row (n:=2) (cap:=2) hbz rfl (Nat.le_refl _) (show 2≤maxLen by decide) rfl (ints_cat _ [1,2]))
           | exact H.hp.ret (by rw [groupsS,if_neg (by omega),if_neg (by omega),if_pos (by omega)];exact RepV.of_row (n:=1) (cap:=1) hbz rfl (Nat.le_refl _) (show 1≤maxLen by decide) rfl (ints_cat _ [3]))
           | exact H.hp.ret (by rw [groupsS,if_neg (by omega),if_neg (by omega),if_neg (by omega),if_pos (by omega)];exact RepV.of_row (n:=1) (cap:=1) hbz rfl (Nat.le_refl _) (show 1≤maxLen by decide) rfl (ints_cat _ [6]))
           | exact H.hp.ret (by rw [groupsS,if_neg (by omega),if_neg (by omega),if_neg (by omega),if_neg (by omega),if_pos (by omega)];exact RepV.of_row (n:=1) (cap:=1) hbz rfl (Nat.le_refl _) (show 1≤maxLen by decide) rfl (ints_cat _ [4]))
           | exact H.hp.ret (by rw [groupsS,if_neg (by omega),if_neg (by omega),if_neg (by omega),if_neg (by omega),if_neg (by omega),if_pos (by omega)];exact RepV.of_row (n:=1) (cap:=1) hbz rfl (Nat.le_refl _) (show 1≤maxLen by decide) rfl (ints_cat _ [5])))
  intro h16
  try have p16:=dF h16
  refine kP H (SR fun _ K18=>Rc rfl (Ra rfl (Kz K18 ?_)));clear H K18;intro a H;refine c_cond H rfl ?_ ?_
  · intro h19
    try have p19:=dT h19
    refine c_seqR (fun _ K19=>?_);refine s_buildSlice un38l14c ty3run [_] [_] H wn rfl rfl rfl rfl rfl (by intro i q h;match i,h with|0,h=>exact h|n+1,h=>simp at h) rfl rfl ?_;clear H;intro b21 a w hb21 H;refine kH H (Ra rfl (Kz K19 ?_));clear H K19;intro a H;refine lr H Tryz.results184 rfl ?_
    first
      | exact H.hp.ret (by rw [groupsS,if_neg (by omega),if_neg (by omega),if_neg (by omega),if_neg (by omega),if_neg (by omega),if_neg (by omega)];exact RepV.nil_ rfl (by decide))
      | (obtain ⟨Gz,hmz,hbz,H⟩:=H.giveBox
         first
           | exact H.hp.ret (by rw [groupsS,if_pos (by omega)];exact RepV.of_row (n:=1) (cap:=1) hbz rfl (Nat.le_refl _) (show 1≤maxLen by decide) rfl (ints_cat _ [1]))
           | exact H.hp.ret (by rw [groupsS,if_neg (by omega),if_pos (by omega)];exact RepV.of_row (n:=2) (cap:=2) hbz rfl (Nat.le_refl _) (show 2≤maxLen by decide) rfl (ints_cat _ [1,2]))
           | exact H.hp.ret (by rw [groupsS,if_neg (by omega),if_neg (by omega),if_pos (by omega)];exact RepV.of_row (n:=1) (cap:=1) hbz rfl (Nat.le_refl _) (show 1≤maxLen by decide) rfl (ints_cat _ [3]))
           | exact H.hp.ret (by rw [groupsS,if_neg (by omega),if_neg (by omega),if_neg (by omega),if_pos (by omega)];exact RepV.of_row (n:=1) (cap:=1) hbz rfl (Nat.le_refl _) (show 1≤maxLen by decide) rfl (ints_cat _ [6]))
           | exact H.hp.ret (by rw [groupsS,if_neg (by omega),if_neg (by omega),if_neg (by omega),if_neg (by omega),if_pos (by omega)];exact RepV.of_row (n:=1) (cap:=1) hbz rfl (Nat.le_refl _) (show 1≤maxLen by decide) rfl (ints_cat _ [4]))
           | exact H.hp.ret (by rw [groupsS,if_neg (by omega),if_neg (by omega),if_neg (by omega),if_neg (by omega),if_neg (by omega),if_pos (by omega)];exact RepV.of_row (n:=1) (cap:=1) hbz rfl (Nat.le_refl _) (show 1≤maxLen by decide) rfl (ints_cat _ [5])))
  intro h19
  try have p19:=dF h19
  refine kP H (SR fun _ K20=>Rc rfl (Ra rfl (Kz K20 ?_)));clear H K20;intro a H;refine c_cond H rfl ?_ ?_
  · intro h22
    try have p22:=dT h22
    refine c_seqR (fun _ K21=>?_);refine s_buildSlice un38l14c ty3run [_] [_] H wn rfl rfl rfl rfl rfl (by intro i q h;match i,h with|0,h=>exact h|n+1,h=>simp at h) rfl rfl ?_;clear H;intro b24 a w hb24 H;refine kH H (Ra rfl (Kz K21 ?_));clear H K21;intro a H;refine lr H Tryz.results184 rfl ?_
    first
      | exact H.hp.ret (by rw [groupsS,if_neg (by omega),if_neg (by omega),if_neg (by omega),if_neg (by omega),if_neg (by omega),if_neg (by omega)];exact RepV.nil_ rfl (by decide))
      | (obtain ⟨Gz,hmz,hbz,H⟩:=H.giveBox
         first
           | exact H.hp.ret (by rw [groupsS,if_pos (by omega)];exact RepV.of_row (n:=1) (cap:=1) hbz rfl (Nat.le_refl _) (show 1≤maxLen by decide) rfl (ints_cat _ [1]))
           | exact H.hp.ret (by rw [groupsS,if_neg (by omega),if_pos (by omega)];exact RepV.of_row (n:=2) (cap:=2) hbz rfl (Nat.le_refl _) (show 2≤maxLen by decide) rfl (ints_cat _ [1,2]))
           | exact H.hp.ret (by rw [groupsS,if_neg (by omega),if_neg (by omega),if_pos (by omega)];exact RepV.of_row (n:=1) (cap:=1) hbz rfl (Nat.le_refl _) (show 1≤maxLen by decide) rfl (ints_cat _ [3]))
           | exact H.hp.ret (by rw [groupsS,if_neg (by omega),if_neg (by omega),if_neg (by omega),if_pos (by omega)];exact RepV.of_row (n:=1) (cap:=1) hbz rfl (Nat.le_refl _) (show 1≤maxLen by decide) rfl (ints_cat _ [6]))
           | exact H.hp.ret (by rw [groupsS,if_neg (by omega),if_neg (by omega),if_neg (by omega),if_neg (by omega),if_pos (by omega)];exact RepV.of_row (n:=1) (cap:=1) hbz rfl (Nat.le_refl _) (show 1≤maxLen by decide) rfl (ints_cat _ [4]))
           | exact H.hp.ret (by rw [groupsS,if_neg (by omega),if_neg (by omega),if_neg (by omega),if_neg (by omega),if_neg (by omega),if_pos (by omega)];exact RepV.of_row (n:=1) (cap:=1) hbz rfl (Nat.le_refl _) (show 1≤maxLen by decide) rfl (ints_cat _ [5])))
  intro h22
  try have p22:=dF h22
  refine kP H (Kc K2 (SR fun _ K22=>Ra rfl (Kz K22 ?_)));clear H K2 K22;intro a H;refine lr H Tryz.results184 rfl ?_
  first
    | exact H.hp.ret (by rw [groupsS,if_neg (by omega),if_neg (by omega),if_neg (by omega),if_neg (by omega),if_neg (by omega),if_neg (by omega)];exact RepV.nil_ rfl (by decide))
    | (obtain ⟨Gz,hmz,hbz,H⟩:=H.giveBox
       first
         | exact H.hp.ret (by rw [groupsS,if_pos (by omega)];exact RepV.of_row (n:=1) (cap:=1) hbz rfl (Nat.le_refl _) (show 1≤maxLen by decide) rfl (ints_cat _ [1]))
         | exact H.hp.ret (by rw [groupsS,if_neg (by omega),if_pos (by omega)];exact RepV.of_row (n:=2) (cap:=2) hbz rfl (Nat.le_refl _) (show 2≤maxLen by decide) rfl (ints_cat _ [1,2]))
         | exact H.hp.ret (by rw [groupsS,if_neg (by omega),if_neg (by omega),if_pos (by omega)];exact RepV.of_row (n:=1) (cap:=1) hbz rfl (Nat.le_refl _) (show 1≤maxLen by decide) rfl (ints_cat _ [3]))
         | exact H.hp.ret (by rw [groupsS,if_neg (by omega),if_neg (by omega),if_neg (by omega),if_pos (by omega)];exact RepV.of_row (n:=1) (cap:=1) hbz rfl (Nat.le_refl _) (show 1≤maxLen by decide) rfl (ints_cat _ [6]))
         | exact H.hp.ret (by rw [groupsS,if_neg (by omega),if_neg (by omega),if_neg (by omega),if_neg (by omega),if_pos (by omega)];exact RepV.of_row (n:=1) (cap:=1) hbz rfl (Nat.le_refl _) (show 1≤maxLen by decide) rfl (ints_cat _ [4]))
         | exact H.hp.ret (by rw [groupsS,if_neg (by omega),if_neg (by omega),if_neg (by omega),if_neg (by omega),if_neg (by omega),if_pos (by omega)];exact RepV.of_row (n:=1) (cap:=1) hbz rfl (Nat.le_refl _) (show 1≤maxLen by decide) rfl (ints_cat _ [5])))
/-- Whether a number is in a list. -/
theorem intAt {G:GH} {l:List Int} {A:Option Addr} {n c k:Nat} (hv:RepV G (.sl 1 (l.map fun k=>[li k])) (.slice A n c)) (hk:k < l.length):∃ b o,A=some ⟨b,o,none⟩∧gcell G b (o+k*1)=some (vi l[k]):=by
 obtain ⟨A',c',he,_,_,hg⟩:=hv.slice
 injection he with e1 e2 e3
 subst e1;obtain ⟨b,o,cs,h1,h2,h3,h4⟩:=hg k [li l[k]] (by simp [hk])
 simp only [RepRow,RepV] at h4
 obtain ⟨v1,_,rfl,⟨rfl,-⟩,rfl⟩:=h4;exact ⟨b,o,h1,h3 0 _ rfl⟩
theorem indexInt_spec (G:GH) (w0:World) (hG:Hold G w0) (l:List Int) (t:Int) (v:Value) (hv:RepV G (.sl 1 (l.map fun k=>[li k])) v) :
  Calls Tryz.prog 219 #[v,vi t] w0 (Ret w0 G fun u G'=>u=vi (ixI (l.findIdx? fun x=>decide (t=x)))):=by
 obtain ⟨A,c,rfl,hc1,hc2,-⟩:=hv.slice;have hml:maxLen=9223372036854775807:=rfl;rw [List.length_map] at *;refine eN [(0,_),(1,_)] Tryz.func219 rfl Tryz.ntmps219 rfl rfl hG ?_;intro a H;refine kP H (SR fun _ K1=>Ra rfl (Kz K1 (SQ fun _ K2=>SR fun _ K3=>Rm rfl (Rl un38l14c rfl (Rm rfl (Kz K3 (SB ?_)))))));clear H K1 K3;intro a H;skip;refine c_loopS (ι:=Nat) (Tc:=[(0,_),(1,_),(7,_)]) (Lc:=[]) (fun (gh:Nat)=>[(8,vi gh)]) (fun (gh:Nat)=>[]) (fun (gh:Nat)=>G) (fun (gh:Nat)=>gh≤l.length∧(l.take gh).findIdx? (fun x=>decide (t=x))=none) (fun (gh:Nat)=>l.length - gh) (0) (by exact (H).sub ⟨rfl,rfl,rfl,rfl,trivial⟩) ?_ ?_
 ·exact ⟨Nat.zero_le _,rfl⟩
 clear H;intro gh a w hI H;obtain ⟨k,hgh⟩:∃ x,x=gh:=⟨_,rfl⟩;subst hgh;obtain ⟨hk,hno⟩:=hI;dsimp only [List.cons_append,List.nil_append,List.append_nil] at H;refine kP H (SR fun _ K4=>Rc rfl (Kz K4 (SQ fun _ K5=>?_)));clear H K4;intro a H;refine c_cond H rfl ?_ ?_
 ·intro h9
  try have p9:=dT h9
  have hk2:k < l.length:=by omega
  obtain ⟨b,o,rfl,hrow⟩:=intAt hv hk2;refine kP H (Kc K5 (SQ fun _ K6=>SB (SR fun _ K7=>Rm rfl (Ra rfl (Kz K7 (SR fun _ K8=>Rm rfl (Rm rfl (Rm rfl (Ri un38l14c ty3run rfl rfl (Rg ty3run rfl (by assumption) ?_))))))))));clear H K5 K7;intro a H;refine kH H (Rc rfl (Kz K8 ?_));clear H K8;intro a H;refine c_cond H rfl ?_ ?_
  ·intro h16
   try have p16:=dT h16
   refine kP H (SR fun _ K9=>Rm rfl (Ra rfl (Kz K9 ?_)));clear H K9;intro a H;refine lr H Tryz.results219 rfl ?_;exact H.hp.ret (by rw [idx_stop hk2 hno (by simpa using p16)];rfl)
  intro h16
  try have p16:=dF h16
  refine kP H (Kc K6 (SC (Rd rfl (Rm rfl ?_))));clear H K6;intro a H;refine wl_nil ?_;refine loop_end ((k+1)) (by exact (H).sub ⟨rfl,rfl,rfl,rfl,trivial⟩) ?_ ?_
  ·exact ⟨by omega,idx_next hk2 hno (by simpa using p16)⟩
  first|omega|(dsimp only;omega)
 intro h9
 try have p9:=dF h9
 refine c_exit ?_;refine K2 _ _ ?_;clear K2;refine kP H (SR fun _ K10=>Ra rfl (Kz K10 ?_));clear H K10;intro a H;refine lr H Tryz.results219 rfl ?_;exact H.hp.ret (by rw [show l.take k=l from List.take_of_length_le (by omega)] at hno;rw [hno];rfl)
theorem containsInt_spec (G:GH) (w0:World) (hG:Hold G w0) (l:List Int) (t:Int) (v:Value) (hv:RepV G (.sl 1 (l.map fun k=>[li k])) v) :
  Calls Tryz.prog 183 #[v,vi t] w0 (Ret w0 G fun u G'=>u=.bool (decide (t∈l))):=by
 obtain ⟨A,c,rfl,hc1,hc2,-⟩:=hv.slice;rw [List.length_map] at *;refine eN [(0,_),(1,_)] Tryz.func183 rfl Tryz.ntmps183 rfl rfl hG ?_;intro a H;refine kP H (SR fun _ K1=>Ra rfl (Kz K1 (SR fun _ K2=>Rm rfl (Rm rfl ?_))));clear H K1;intro a H;refine s_call en219prq H wn rfl (indexInt_spec _ _ H.hp.ro l t _ hv) rfl ?_;clear H;rintro v7 G7 a w rfl hm7 H;refine kH H (Rc rfl (Ra rfl (Kz K2 ?_)));clear H K2;intro a H;refine lr H Tryz.results183 rfl ?_
 exact H.hp.ret (by
  congr 1
  cases h:l.findIdx? (fun x=>decide (t=x)) with
  | none =>
   rw [List.findIdx?_eq_none_iff] at h;have:t∉l:=fun hm=>absurd (h t hm) (by simp)
   simp [ixI,this]
  | some i =>
   obtain ⟨hi,he,-⟩:=List.findIdx?_eq_some_iff_getElem.1 h
   have:t∈l:=by rw [of_decide_eq_true he];exact List.getElem_mem _
   simp [ixI,this])
/-- Whether elements of a kind have a key. -/
def fitsS (e k:Int):Bool:=(findK k).2 && decide ((findK k).1.grp∈groupsS e)
theorem fits_spec (G:GH) (w0:World) (hG:Hold G w0) (e k:Int):Calls Tryz.prog 106 #[vi e,vi k] w0 (Ret w0 G fun u G'=>u=.bool (fitsS e k)):=by
 refine eN [(0,_),(1,_)] Tryz.func106 rfl Tryz.ntmps106 rfl rfl hG ?_;intro a H;refine kP H (SR fun _ K1=>Ra rfl (Kz K1 (SR fun _ K2=>Rm rfl ?_)));clear H K1;intro a H;refine s_call en182prq H wn rfl (find_spec _ _ H.hp.ro k) rfl ?_;clear H;rintro v9 G9 a w rfl hm9 H;dsimp only [KeyD.cells] at H;refine kH H (Rm rfl ?_);clear H;intro a H;(iterate 2 refine s_extract H wn rfl rfl rfl ?_;clear H;intro a H);refine s_alloc ty279prk H wn rfl ?_;clear H;intro b5 a w hb5 H;refine s_store ty279prk 0 (vs:=[_,_,_,_,_,_]) _ H wn rfl rfl rfl rfl rfl rfl rfl rfl ?_;clear H;intro w H;dsimp only [List.set,setRow] at H;refine kH H (Ra rfl (Kz K2 (SQ fun _ K3=>?_)));clear H K2;intro a H
 by_cases c0:(findK k).2=true
 ·skip
  have hprm2:∀ (ix_:Nat) (v:Value) (G G':GH),(∀ k o,G k=some o→G' k=some o)→(fun (ix_:Nat) (v:Value) (G:GH)=>match ix_ with|0=>v=.bool (findK k).2|1=>v=.bool (decide ((findK k).2=true))|2=>v=vi e|3=>(findK k).2=true→RepV G (.sl 1 ((groupsS e).map fun k=>[li k])) v|4=>v=.pointer (some ⟨b5,1,none⟩)|5=>v=vi (findK k).1.grp|6=>v=.bool (decide ((findK k).1.grp∈groupsS e))|7=>v=.bool (fitsS e k)|_=>True) ix_ v G→(fun (ix_:Nat) (v:Value) (G:GH)=>match ix_ with|0=>v=.bool (findK k).2|1=>v=.bool (decide ((findK k).2=true))|2=>v=vi e|3=>(findK k).2=true→RepV G (.sl 1 ((groupsS e).map fun k=>[li k])) v|4=>v=.pointer (some ⟨b5,1,none⟩)|5=>v=vi (findK k).1.grp|6=>v=.bool (decide ((findK k).1.grp∈groupsS e))|7=>v=.bool (fitsS e k)|_=>True) ix_ v G':=by
   intro ix_ v G G' hm h
   match ix_,h with
   | 0,h=>exact h
   | 1,h=>exact h
   | 2,h=>exact h
   | 3,h=>exact fun hf=>(h hf).mono hm
   | 4,h=>exact h
   | 5,h=>exact h
   | 6,h=>exact h
   | 7,h=>exact h
   | 8,h=>exact trivial
   | _+9,h=>exact trivial
  refine c_drawI (hmx) [[],[0],[0,1],[0,1,2],[0,1],[0,1,4],[0,1,2,3,4,5],(List.range 7),(List.range 8)] [8] (by kernel_rfl) (by kernel_rfl) (fun (ix_:Nat) (v:Value) (G:GH)=>match ix_ with|0=>v=.bool (findK k).2|1=>v=.bool (decide ((findK k).2=true))|2=>v=vi e|3=>(findK k).2=true→RepV G (.sl 1 ((groupsS e).map fun k=>[li k])) v|4=>v=.pointer (some ⟨b5,1,none⟩)|5=>v=vi (findK k).1.grp|6=>v=.bool (decide ((findK k).1.grp∈groupsS e))|7=>v=.bool (fitsS e k)|_=>True) hprm2 H ?_ ?_
  ·clear H;refine al4 ?_ ?_ ?_ ?_ (al4 ?_ ?_ ?_ ?_ (allI_cons ?_ allI_nil))
   ·refine opI [] rfl trivial (by kernel_rfl) hprm2 rfl rfl ?_;intro Sd_ a w G1 hG HT H fin;exact kH H (Rm rfl fun _ H=>fin H iJ rfl)
   ·refine opI [(0,12,_)] rfl ⟨fun _ _ h=>h,trivial⟩ (by kernel_rfl) hprm2 rfl rfl ?_;intro Sd_ a w G1 hG HT H fin;refine kH H (Rm rfl ?_);clear H;intro a H;exact fin H iJ (by simp)
   ·refine opI [(1,13,_)] rfl ⟨fun _ _ h=>h,trivial⟩ (by kernel_rfl) hprm2 rfl rfl ?_;intro Sd_ a w G1 hG HT H fin;exact kH H (YM (decide_eq_true c0) rfl fun _ H=>fin H iJ rfl)
   ·refine opI [(2,14,_),(1,13,_)] rfl ⟨fun _ _ h=>h,fun _ _ h=>h,trivial⟩ (by kernel_rfl) hprm2 rfl rfl ?_;intro Sd_ a w G1 hG HT H fin;refine s_call en184prq H (wg H rfl rfl (decide_eq_true c0)) rfl (groups_spec _ _ H.hp.ro e) rfl ?_;clear H;rintro v15 G15 a w hp15 hGm15 H;exact fin H hGm15 (by first|exact fun _=>hp15|rfl)
   ·refine opI [(1,13,_)] rfl ⟨fun _ _ h=>h,trivial⟩ (by kernel_rfl) hprm2 rfl rfl ?_;intro Sd_ a w G1 hG HT H fin;exact kH H (YF fd279_1prq (decide_eq_true c0) rfl fun _ H=>fin H iJ rfl)
   ·refine opI [(4,16,_),(1,13,_)] rfl ⟨fun _ _ h=>h,fun _ _ h=>h,trivial⟩ (by kernel_rfl) hprm2 rfl rfl ?_;intro Sd_ a w G1 hG HT H fin;exact kH H (YO ty3run 0 (decide_eq_true c0) rfl rfl fun _ H=>fin H iJ rfl)
   ·intro Sd_ a w G1 _ hSi hc hG HT hv;have H:=HT;clear hSi;obtain ⟨u15,hu15,hp15⟩:=hv 3 15 (hc 3 (by decide)) rfl;(try dsimp only at hp15);have H:=H.addS hu15;obtain ⟨u17,hu17,hp17⟩:=hv 5 17 (hc 5 (by decide)) rfl;obtain rfl:u17=vi (findK k).1.grp:=hp17;have H:=H.addS hu17;obtain ⟨u13,hu13,hp13⟩:=hv 1 13 (hc 1 (by decide)) rfl;obtain rfl:u13=.bool (decide ((findK k).2=true)):=hp13;have H:=H.addS hu13;have Hb:=H.full;have H:=Hb;clear hc;refine s_call en183prq H (wg H rfl rfl (decide_eq_true c0)) rfl (containsInt_spec _ _ H.hp.ro _ _ _ (hp15 c0)) rfl ?_;clear H;rintro v18 G18 a w rfl hGm18 H;refine wl_nil ⟨rfl,?_⟩;exact draw_val (by kernel_rfl) hprm2 rfl rfl HT Hb hG hv hGm18 (rfl) H
   ·refine opI [(1,13,_),(6,18,_)] rfl ⟨fun _ _ h=>h,fun _ _ h=>h,trivial⟩ (by kernel_rfl) hprm2 rfl rfl ?_;intro Sd_ a w G1 hG HT H fin;refine kH H (Pt (decide_eq_true c0) rfl ?_);clear H;intro a H;exact fin H iJ (by unfold fitsS;simp_all)
   exact opB rfl
  clear H;intro a w G hGm2 H hv;obtain ⟨u19,hu19,hp19⟩:=hv 7 19 (by decide) rfl;obtain rfl:u19=.bool (fitsS e k):=hp19;have H:=H.addS hu19;clear hv;refine kH H (Ra rfl ?_);clear H;intro a H;refine wl_nil ⟨rfl,?_⟩;refine K3 _ _ ?_;clear K3;refine lr H Tryz.results106 rfl ?_;exact H.hp.ret rfl
 skip;refine c_drawI (hmx) [[],[0],[0,1],[0,1,2],[0,1],[0,1,4],[0,1,2,3,4,5],(List.range 7),(List.range 8)] [8] (by kernel_rfl) (by kernel_rfl) (fun (ix_:Nat) (v:Value) (G:GH)=>match ix_ with|0=>v=.bool (findK k).2|1=>v=.bool (decide ((findK k).2=true))|2=>v=undef|3=>v=undef|4=>v=undef|5=>v=undef|6=>v=undef|7=>v=.bool (fitsS e k)|_=>True) (fun _ _ _ _ _ h=>h) H ?_ ?_
 ·clear H;refine al4 ?_ ?_ ?_ ?_ (al4 ?_ ?_ ?_ ?_ (allI_cons ?_ allI_nil))
  ·exact Z0 rfl rfl fun _ _ _ _ _=>Rm rfl
  ·refine Op1 0 12 rfl rfl fun _ a w G1 hG HT H fin=>?_;refine kH H (Rm rfl ?_);clear H;intro a H;exact fin H iJ (by simp)
  ·exact skI 1 (decide_eq_false c0) rfl rfl
  ·intro Sd_ a w G1 _ hSi hc hG HT hv;have H:=HT;clear hSi;obtain ⟨u14,hu14,hp14⟩:=hv 2 14 (hc 2 (by decide)) rfl;obtain rfl:u14=undef:=hp14;have H:=H.addS hu14;obtain ⟨u13,hu13,hp13⟩:=hv 1 13 (hc 1 (by decide)) rfl;obtain rfl:u13=.bool (decide ((findK k).2=true)):=hp13;have H:=H.addS hu13;have Hb:=H.full;have H:=Hb;clear hc;refine kH H (Ks (decide_eq_false c0) rfl ?_);clear H;intro a H;refine wl_nil ⟨rfl,?_⟩;exact draw_val (by kernel_rfl) (fun _ _ _ _ _ h=>h) rfl rfl HT Hb hG hv (fun _ _ h=>h) (by first|exact fun _=>hp15|rfl) H
  ·exact skI 1 (decide_eq_false c0) rfl rfl
  ·exact skI 1 (decide_eq_false c0) rfl rfl
  ·exact skI 1 (decide_eq_false c0) rfl rfl
  ·refine Op2 1 13 6 18 rfl rfl fun _ a w G1 hG HT H fin=>?_;refine kH H (Pf (decide_eq_false c0) rfl ?_);clear H;intro a H;exact fin H iJ (by unfold fitsS;simp_all)
  exact opB rfl
 clear H;intro a w G hGm2 H hv;obtain ⟨u19,hu19,hp19⟩:=hv 7 19 (by decide) rfl;obtain rfl:u19=.bool (fitsS e k):=hp19;have H:=H.addS hu19;clear hv;refine kH H (Ra rfl ?_);clear H;intro a H;refine wl_nil ⟨rfl,?_⟩;refine K3 _ _ ?_;clear K3;refine lr H Tryz.results106 rfl ?_;exact H.hp.ret rfl
/-- The error of a value of a key. -/
def chkVS (k v:Int):Int:=if (findK k).2=false then 4 else if v < (findK k).1.low∨(findK k).1.high < v then 5 else 0
theorem checkValue_spec (G:GH) (w0:World) (hG:Hold G w0) (k x:Int):Calls Tryz.prog 107 #[vi k,vi x] w0 (Ret w0 G fun u G'=>u=vi (chkVS k x)):=by
 refine eN [(0,_),(1,_)] Tryz.func107 rfl Tryz.ntmps107 rfl rfl hG ?_;intro a H;refine kP H (SR fun _ K1=>Ra rfl (Kz K1 (SR fun _ K2=>Rm rfl ?_)));clear H K1;intro a H;refine s_call en182prq H wn rfl (find_spec _ _ H.hp.ro k) rfl ?_;clear H;rintro v9 G9 a w rfl hm9 H;dsimp only [KeyD.cells] at H;refine kH H (Rm rfl ?_);clear H;intro a H;(iterate 2 refine s_extract H wn rfl rfl rfl ?_;clear H;intro a H);refine s_alloc ty279prk H wn rfl ?_;clear H;intro b5 a w hb5 H;refine s_store ty279prk 0 (vs:=[_,_,_,_,_,_]) _ H wn rfl rfl rfl rfl rfl rfl rfl rfl ?_;clear H;intro w H;dsimp only [List.set,setRow] at H;refine kH H (Ra rfl (Kz K2 (SQ fun _ K3=>SB (SR fun _ K4=>Rm rfl (Rn rfl (Ra rfl (Kz K4 ?_)))))));clear H K2 K4;intro a H;refine c_cond H rfl ?_ ?_
 ·intro h12
  try have p12:=dT h12
  refine kP H (SR fun _ K5=>Ra rfl (Kz K5 ?_));clear H K5;intro a H;refine lr H Tryz.results107 rfl ?_;exact H.hp.ret (by unfold chkVS;simp_all)
 intro h12
 try have p12:=dF h12
 refine kP H (SR fun _ K6=>Rm rfl (Rf fd279_2prq rfl (Ro ty3run 0 rfl rfl (Rc rfl (Rm rfl ?_)))));clear H;intro a H;refine s_split H 20 rfl ?_ ?_
 ·intro h20
  try have p20:=dT h20
  refine kH H (Ks h20 rfl (Ks h20 rfl (Ks h20 rfl (Ks h20 rfl (Pt h20 rfl (Ra rfl (Kz K6 ?_)))))));clear H K6;intro a H;refine c_cond_t H rfl rfl ?_;refine kP H (SR fun _ K7=>Ra rfl (Kz K7 ?_));clear H K7;intro a H;refine lr H Tryz.results107 rfl ?_;exact H.hp.ret (by unfold chkVS;simp_all)
 intro h20
 try have p20:=dF h20
 refine kH H (YM h20 rfl (YF fd279_3prq h20 rfl (YO ty3run 0 h20 rfl rfl (YC h20 rfl (Pf h20 rfl (Ra rfl (Kz K6 ?_)))))));clear H K6;intro a H;refine c_cond H rfl ?_ ?_
 ·intro h15
  try have p15:=dT h15
  refine kP H (SR fun _ K8=>Ra rfl (Kz K8 ?_));clear H K8;intro a H;refine lr H Tryz.results107 rfl ?_;exact H.hp.ret (by unfold chkVS;simp_all)
 intro h15
 try have p15:=dF h15
 refine kP H (Kc K3 (SR fun _ K9=>Ra rfl (Kz K9 ?_)));clear H K3 K9;intro a H;refine lr H Tryz.results107 rfl ?_;exact H.hp.ret (by unfold chkVS;simp_all)
end
section
open Go.RowKit
theorem en106prc:∀ args w,(callFunc 106 args).run Tryz.prog w=.ok (.enter 106 args) w:=enters Tryz.func106 rfl (by kernel_rfl)
theorem fd40_1prc:Fld Tryz.prog 40 1 1:=⟨by kernel_rfl⟩
theorem en107prc:∀ args w,(callFunc 107 args).run Tryz.prog w=.ok (.enter 107 args) w:=enters Tryz.func107 rfl (by kernel_rfl)
def ltB (q:Option Int) (k:Int):Bool:=match q with|some j=>decide (k < j)|none=>false
/-- The first error of the properties of an element behind a key. -/
def chkP (e:Int):Option Int→List PropD→Int
 | _,[]=>0
 | q,p :: r=>if fitsS e p.key=false then 4 else if q=some p.key then 7 else if ltB q p.key=true then 6 else if chkVS p.key p.value=0 then chkP e (some p.key) r else chkVS p.key p.value
def prevP (l:List PropD) (k:Nat):Option Int:=if k=0 then none else l[k - 1]?.map PropD.key
def chkPS (e:Int) (l:List PropD):Int:=if e < 1∨10 < e then 3 else chkP e none l
theorem chkP_at {e:Int} {l:List PropD} {k:Nat} (h:k < l.length):chkP e (prevP l k) (l.drop k)=if fitsS e l[k].key=false then 4 else if prevP l k=some l[k].key then 7 else if ltB (prevP l k) l[k].key=true then 6 else if chkVS l[k].key l[k].value=0 then chkP e (prevP l (k+1)) (l.drop (k+1)) else chkVS l[k].key l[k].value:=by
 rw [List.drop_eq_getElem_cons h,chkP]
 have:prevP l (k+1)=some l[k].key:=by rw [prevP,if_neg (by omega),Nat.add_sub_cancel,List.getElem?_eq_getElem h];rfl
 rw [this]
theorem prevP_0 {l:List PropD} {k:Nat} (h:k=0):prevP l k=none:=if_pos h
theorem propCheck_spec (G:GH) (w0:World) (hG:Hold G w0) (e:Int) (l:List PropD) (v:Value) (hv:RepV G (.sl 2 (l.map PropD.dat)) v) :
  Calls Tryz.prog 44 #[vi e,v] w0 (Ret w0 G fun u G'=>u=vi (chkPS e l)):=by
 obtain ⟨A,c,rfl,hc1,hc2,-⟩:=hv.slice;have hml:maxLen=9223372036854775807:=rfl;rw [List.length_map] at *;refine eN [(0,_),(1,_)] Tryz.func44 rfl Tryz.ntmps44 rfl rfl hG ?_;intro a H;refine kP H (SR fun _ K1=>Ra rfl (Kz K1 (SQ fun _ K2=>SR fun _ K3=>Rm rfl (Rc rfl (Rm rfl ?_)))));clear H K1;intro a H;refine s_split H 10 rfl ?_ ?_
 ·intro h10
  try have p10:=dT h10
  refine kH H (Ks h10 rfl (Ks h10 rfl (Pt h10 rfl (Kz K3 ?_))));clear H K3;intro a H;refine c_cond_t H rfl rfl ?_;refine kP H (SR fun _ K4=>Ra rfl (Kz K4 ?_));clear H K4;intro a H;refine lr H Tryz.results44 rfl ?_
  first
   | exact H.hp.ret (congrArg vi (by rw [if_neg (by simpa using p61)] at heq;rw [chkPS,if_neg (by omega)];exact heq))
   | exact H.hp.ret (congrArg vi (by rw [if_pos (by simpa using h21)] at heq;rw [chkPS,if_neg (by omega)];exact heq))
   | exact H.hp.ret (congrArg vi (by rw [chkPS,if_neg (by omega)];exact heq))
   | exact H.hp.ret (congrArg vi (by rw [chkPS,if_neg (by omega),← heq,show l.drop k=[] from List.drop_of_length_le (by omega)];rfl))
   | exact H.hp.ret (congrArg vi (by rw [chkPS,if_pos (by omega)]))
 intro h10
 try have p10:=dF h10
 refine kH H (YM h10 rfl (YC h10 rfl (Pf h10 rfl (Kz K3 ?_))));clear H K3;intro a H;refine c_cond H rfl ?_ ?_
 ·intro h13
  try have p13:=dT h13
  refine kP H (SR fun _ K5=>Ra rfl (Kz K5 ?_));clear H K5;intro a H;refine lr H Tryz.results44 rfl ?_
  first
   | exact H.hp.ret (congrArg vi (by rw [if_neg (by simpa using p61)] at heq;rw [chkPS,if_neg (by omega)];exact heq))
   | exact H.hp.ret (congrArg vi (by rw [if_pos (by simpa using h21)] at heq;rw [chkPS,if_neg (by omega)];exact heq))
   | exact H.hp.ret (congrArg vi (by rw [chkPS,if_neg (by omega)];exact heq))
   | exact H.hp.ret (congrArg vi (by rw [chkPS,if_neg (by omega),← heq,show l.drop k=[] from List.drop_of_length_le (by omega)];rfl))
   | exact H.hp.ret (congrArg vi (by rw [chkPS,if_pos (by omega)]))
 intro h13
 try have p13:=dF h13
 refine kP H (Kc K2 (SQ fun _ K6=>SR fun _ K7=>Rm rfl (Rl un25run rfl (Rm rfl (Kz K7 (SB ?_))))));clear H K2 K7;intro a H;skip;refine c_loopS (ι:=Nat × GH) (Tc:=[(0,_),(1,_),(14,_),(15,_)]) (Lc:=[]) (fun (gh:Nat × GH)=>[(16,vi gh.1)]) (fun (gh:Nat × GH)=>[]) (fun (gh:Nat × GH)=>gh.2) (fun (gh:Nat × GH)=>gh.1≤l.length∧chkP e (prevP l gh.1) (l.drop gh.1)=chkP e none l∧(∀ b o,G b=some o→gh.2 b=some o)) (fun (gh:Nat × GH)=>l.length - gh.1) ((0,G)) (by exact (H).sub ⟨rfl,rfl,rfl,rfl,rfl,trivial⟩) ?_ ?_
 ·exact ⟨Nat.zero_le _,rfl,fun _ _ h=>h⟩
 clear H;intro gh a w hI H;obtain ⟨k,g⟩:=gh;dsimp only at hI H;obtain ⟨hk,heq,hgm⟩:=hI;dsimp only [List.cons_append,List.nil_append,List.append_nil] at H;refine kP H (SR fun _ K8=>Rc rfl (Kz K8 (SQ fun _ K9=>?_)));clear H K8;intro a H;refine c_cond H rfl ?_ ?_
 ·intro h17
  try have p17:=dT h17
  have hk2:k < l.length:=by omega
  have hvg:=hv.mono hgm;obtain ⟨b,o,rfl,hrow⟩:=prop_at hvg hk2
  obtain ⟨pk,hpk⟩:∃ pk,0 < k→gcell g b (o+(k - 1)*2+0)=some (vi pk)∧prevP l k=some pk:=by
   by_cases h0:0 < k
   ·obtain ⟨b',o',he,hr'⟩:=prop_at hvg (show k - 1 < l.length by omega)
    injection he with he
    injection he with e1 e2 e3
    subst e1;subst e2;exact ⟨_,fun _=>⟨hr' 0 _ rfl,by rw [prevP,if_neg (by omega),List.getElem?_eq_getElem (by omega)];rfl⟩⟩
   exact ⟨0,fun h=>absurd h h0⟩
  rw [chkP_at hk2] at heq;have heq0:=heq;refine kP H (Kc K9 (SQ fun _ K10=>SB (SR fun _ K11=>Rm rfl (Ri un25run ty40run rfl rfl ?_))));clear H K9;intro a H;refine s_loada ty40run (cs:=[_,_]) H wn rfl rfl (fun j v hj=>H.hp.gcell (hrow j v hj)) rfl ?_;clear H;intro a H;refine s_alloc ty40run H wn rfl ?_;clear H;intro b6 a w hb6 H;refine kH H (Ra rfl ?_);clear H;intro a H;refine s_store ty40run 0 (vs:=[_,_]) _ H wn rfl rfl rfl rfl rfl rfl rfl rfl ?_;clear H;intro w H;dsimp only [List.set,setRow] at H;refine K11 _ _ ?_;clear K11;refine c_seqJ (ι:=GH) (Tc:=[(0,_),(1,_),(6,_),(14,_),(15,_),(16,_)]) (Lc:=[(_,_)]) (fun (gh:GH)=>[]) (fun (gh:GH)=>[]) (fun (gh:GH)=>gh) (fun (gh:GH)=>(if chkVS l[k].key l[k].value=0 then chkP e (prevP l (k+1)) (l.drop (k+1)) else chkVS l[k].key l[k].value)=chkP e none l∧(∀ b o,g b=some o→gh b=some o)) (by exact (H).sub ⟨rfl,rfl,rfl,rfl,rfl,rfl,trivial⟩) ?_ ?_
  ·skip;refine kP H (SB (SR fun _ K12=>Rm rfl (Rf fd40_0prp rfl (Ro ty3run 0 rfl rfl ?_))));clear H;intro a H;refine s_call en106prc H wn rfl (fits_spec _ _ H.hp.ro e l[k].key) rfl ?_;clear H;rintro v25 G25 a w rfl hm25 H;replace hrow:=fun j u hj=>gcell_mono hm25 (hrow j u hj);refine kH H (Rn rfl (Ra rfl (Kz K12 ?_)));clear H K12;intro a H;refine c_cond H rfl ?_ ?_
   ·intro h21
    try have p21:=dT h21
    refine kP H (SR fun _ K13=>Ra rfl (Kz K13 ?_));clear H K13;intro a H;refine lr H Tryz.results44 rfl ?_
    first
     | exact H.hp.ret (congrArg vi (by rw [if_neg (by simpa using p61)] at heq;rw [chkPS,if_neg (by omega)];exact heq))
     | exact H.hp.ret (congrArg vi (by rw [if_pos (by simpa using h21)] at heq;rw [chkPS,if_neg (by omega)];exact heq))
     | exact H.hp.ret (congrArg vi (by rw [chkPS,if_neg (by omega)];exact heq))
     | exact H.hp.ret (congrArg vi (by rw [chkPS,if_neg (by omega),← heq,show l.drop k=[] from List.drop_of_length_le (by omega)];rfl))
     | exact H.hp.ret (congrArg vi (by rw [chkPS,if_pos (by omega)]))
   intro h21
   try have p21:=dF h21
   rw [if_neg (by simpa using h21)] at heq;refine c_seq (fun _ K14=>?_)
   by_cases c0:0 < (k:Int)
   ·skip
    by_cases c1:l[k].key=pk
    ·skip;refine c_drawI (hmx) [[],[0],[0,1],[0,1,2],[0,1,2,3],[0,1,2],[0,1,2],[0,1,2,6],[0,1,2,5,6,7],[0,1,2,5,6,7,8],[0,1,2,5,6,7,8,9],(List.range 11),(List.range 12),(List.range 13)] [13] (by kernel_rfl) (by kernel_rfl) (fun (ix_:Nat) (v:Value) (G:GH)=>match ix_ with|0=>v=vi k|1=>v=.bool (decide (0 < (k:Int)))|2=>v=.bool (decide (0 < (k:Int)))|3=>v=.pointer (some ⟨b6,0,none⟩)|4=>v=vi l[k].key|5=>v=.slice (some ⟨b,o,none⟩) l.length c|6=>v=vi k|7=>v=vi ((k - 1:Nat):Int)|8=>v=.pointer (some ⟨b,o+(k - 1)*2,none⟩)|9=>v=.pointer (some ⟨b,o+(k - 1)*2+0,none⟩)|10=>v=vi pk|11=>v=.bool (decide (l[k].key=pk))|12=>v=.bool (decide (l[k].key=pk))|_=>True) (fun _ _ _ _ _ h=>h) H ?_ ?_
     ·clear H;refine al4 ?_ ?_ ?_ ?_ (al4 ?_ ?_ ?_ ?_ (al4 ?_ ?_ ?_ ?_ (allI_cons ?_ (allI_cons ?_ allI_nil))))
      ·exact Z0 rfl rfl fun _ _ _ _ _=>Rm rfl
      ·exact Z1 0 28 rfl rfl fun _ _ _ _ _=>Rc rfl
      ·exact Z1 1 29 rfl rfl fun _ _ _ _ _=>Rm rfl
      ·exact Op1 2 30 rfl rfl fun _ _ _ _ hG _ H fin=>kH H (YF fd40_0prp (decide_eq_true c0) rfl fun _ H=>fin H iJ rfl)
      ·exact Op2 3 31 2 30 rfl rfl fun _ _ _ _ hG _ H fin=>kH H (YO ty3run 0 (decide_eq_true c0) rfl rfl fun _ H=>fin H iJ rfl)
      ·exact Op1 2 30 rfl rfl fun _ _ _ _ hG _ H fin=>kH H (YM (decide_eq_true c0) rfl fun _ H=>fin H iJ rfl)
      ·exact Op1 2 30 rfl rfl fun _ _ _ _ hG _ H fin=>kH H (YM (decide_eq_true c0) rfl fun _ H=>fin H iJ rfl)
      ·refine Op2 6 34 2 30 rfl rfl fun _ a w G1 hG HT H fin=>?_;refine s_sub _ H (wg H rfl rfl (decide_eq_true c0)) rfl rfl rfl (by omega) (by omega) rfl ?_;clear H;intro a H;exact fin H iJ (by first|rfl|exact congrArg vi (by omega))
      ·exact Op3 5 33 7 35 2 30 rfl rfl fun _ _ _ _ hG _ H fin=>kH H (YI un25run ty40run (decide_eq_true c0) rfl rfl fun _ H=>fin H iJ rfl)
      ·exact Op2 8 36 2 30 rfl rfl fun _ _ _ _ hG _ H fin=>kH H (YF fd40_0prp (decide_eq_true c0) rfl fun _ H=>fin H iJ rfl)
      ·exact Op2 9 37 2 30 rfl rfl fun _ _ _ _ hG _ H fin=>kH H (YR ty3run (decide_eq_true c0) rfl (gcell_mono hG (gcell_mono hm25 (hpk (by omega)).1)) fun _ H=>fin H iJ rfl)
      ·exact Op3 4 32 10 38 2 30 rfl rfl fun _ _ _ _ hG _ H fin=>kH H (YC (decide_eq_true c0) rfl fun _ H=>fin H iJ rfl)
      ·exact Op2 2 30 11 39 rfl rfl fun _ _ _ _ hG _ H fin=>kH H (Pt (decide_eq_true c0) rfl fun _ H=>fin H iJ rfl)
      exact opB rfl
     clear H;intro a w G hGm8 H hv;obtain ⟨u40,hu40,hp40⟩:=hv 12 40 (by decide) rfl;obtain rfl:u40=.bool (decide (l[k].key=pk)):=hp40;have H:=H.addS hu40;clear hv;refine kH H (Ra rfl ?_);clear H;intro a H;refine wl_nil ⟨rfl,?_⟩;refine K14 _ _ ?_;clear K14;refine c_cond_t H rfl (decide_eq_true c1) ?_;refine c_seq (fun _ K15=>?_);rw [if_pos (by rw [(hpk (by omega)).2,c1])] at heq;refine kP H (SC (Ra rfl (Kn K15 ?_)));clear H K15;intro a H;refine lr H Tryz.results44 rfl ?_
     first
      | exact H.hp.ret (congrArg vi (by rw [if_neg (by simpa using p61)] at heq;rw [chkPS,if_neg (by omega)];exact heq))
      | exact H.hp.ret (congrArg vi (by rw [if_pos (by simpa using h21)] at heq;rw [chkPS,if_neg (by omega)];exact heq))
      | exact H.hp.ret (congrArg vi (by rw [chkPS,if_neg (by omega)];exact heq))
      | exact H.hp.ret (congrArg vi (by rw [chkPS,if_neg (by omega),← heq,show l.drop k=[] from List.drop_of_length_le (by omega)];rfl))
      | exact H.hp.ret (congrArg vi (by rw [chkPS,if_pos (by omega)]))
    skip;refine c_drawI (hmx) [[],[0],[0,1],[0,1,2],[0,1,2,3],[0,1,2],[0,1,2],[0,1,2,6],[0,1,2,5,6,7],[0,1,2,5,6,7,8],[0,1,2,5,6,7,8,9],(List.range 11),(List.range 12),(List.range 13)] [13] (by kernel_rfl) (by kernel_rfl) (fun (ix_:Nat) (v:Value) (G:GH)=>match ix_ with|0=>v=vi k|1=>v=.bool (decide (0 < (k:Int)))|2=>v=.bool (decide (0 < (k:Int)))|3=>v=.pointer (some ⟨b6,0,none⟩)|4=>v=vi l[k].key|5=>v=.slice (some ⟨b,o,none⟩) l.length c|6=>v=vi k|7=>v=vi ((k - 1:Nat):Int)|8=>v=.pointer (some ⟨b,o+(k - 1)*2,none⟩)|9=>v=.pointer (some ⟨b,o+(k - 1)*2+0,none⟩)|10=>v=vi pk|11=>v=.bool (decide (l[k].key=pk))|12=>v=.bool (decide (l[k].key=pk))|_=>True) (fun _ _ _ _ _ h=>h) H ?_ ?_
    ·clear H;refine al4 ?_ ?_ ?_ ?_ (al4 ?_ ?_ ?_ ?_ (al4 ?_ ?_ ?_ ?_ (allI_cons ?_ (allI_cons ?_ allI_nil))))
     ·exact Z0 rfl rfl fun _ _ _ _ _=>Rm rfl
     ·exact Z1 0 28 rfl rfl fun _ _ _ _ _=>Rc rfl
     ·exact Z1 1 29 rfl rfl fun _ _ _ _ _=>Rm rfl
     ·exact Op1 2 30 rfl rfl fun _ _ _ _ hG _ H fin=>kH H (YF fd40_0prp (decide_eq_true c0) rfl fun _ H=>fin H iJ rfl)
     ·exact Op2 3 31 2 30 rfl rfl fun _ _ _ _ hG _ H fin=>kH H (YO ty3run 0 (decide_eq_true c0) rfl rfl fun _ H=>fin H iJ rfl)
     ·exact Op1 2 30 rfl rfl fun _ _ _ _ hG _ H fin=>kH H (YM (decide_eq_true c0) rfl fun _ H=>fin H iJ rfl)
     ·exact Op1 2 30 rfl rfl fun _ _ _ _ hG _ H fin=>kH H (YM (decide_eq_true c0) rfl fun _ H=>fin H iJ rfl)
     ·refine Op2 6 34 2 30 rfl rfl fun _ a w G1 hG HT H fin=>?_;refine s_sub _ H (wg H rfl rfl (decide_eq_true c0)) rfl rfl rfl (by omega) (by omega) rfl ?_;clear H;intro a H;exact fin H iJ (by first|rfl|exact congrArg vi (by omega))
     ·exact Op3 5 33 7 35 2 30 rfl rfl fun _ _ _ _ hG _ H fin=>kH H (YI un25run ty40run (decide_eq_true c0) rfl rfl fun _ H=>fin H iJ rfl)
     ·exact Op2 8 36 2 30 rfl rfl fun _ _ _ _ hG _ H fin=>kH H (YF fd40_0prp (decide_eq_true c0) rfl fun _ H=>fin H iJ rfl)
     ·exact Op2 9 37 2 30 rfl rfl fun _ _ _ _ hG _ H fin=>kH H (YR ty3run (decide_eq_true c0) rfl (gcell_mono hG (gcell_mono hm25 (hpk (by omega)).1)) fun _ H=>fin H iJ rfl)
     ·exact Op3 4 32 10 38 2 30 rfl rfl fun _ _ _ _ hG _ H fin=>kH H (YC (decide_eq_true c0) rfl fun _ H=>fin H iJ rfl)
     ·exact Op2 2 30 11 39 rfl rfl fun _ _ _ _ hG _ H fin=>kH H (Pt (decide_eq_true c0) rfl fun _ H=>fin H iJ rfl)
     exact opB rfl
    clear H;intro a w G hGm8 H hv;obtain ⟨u40,hu40,hp40⟩:=hv 12 40 (by decide) rfl;obtain rfl:u40=.bool (decide (l[k].key=pk)):=hp40;have H:=H.addS hu40;clear hv;refine kH H (Ra rfl ?_);clear H;intro a H;refine wl_nil ⟨rfl,?_⟩;refine K14 _ _ ?_;clear K14;refine c_cond_f H rfl (decide_eq_false c1) ?_;refine c_seq (fun _ K16=>?_)
    have q1:¬ (0 < (k:Int)∧l[k].key=pk):=by first|exact fun h=>c1 h.2|exact fun h=>c0 h.1
    rw [if_neg (fun h=>q1 (by
     by_cases h0:0 < k
     ·rw [(hpk h0).2] at h
      injection h with h
      exact ⟨by omega,h.symm⟩
     rw [prevP_0 (by omega)] at h
     cases h))] at heq
    by_cases c3:l[k].key < pk
    ·skip;refine c_drawI (hmx) [[],[0],[0,1],[0,1,2],[0,1,2,3],[0,1,2],[0,1,2],[0,1,2,6],[0,1,2,5,6,7],[0,1,2,5,6,7,8],[0,1,2,5,6,7,8,9],(List.range 11),(List.range 12),(List.range 13)] [13] (by kernel_rfl) (by kernel_rfl) (fun (ix_:Nat) (v:Value) (G:GH)=>match ix_ with|0=>v=vi k|1=>v=.bool (decide (0 < (k:Int)))|2=>v=.bool (decide (0 < (k:Int)))|3=>v=.pointer (some ⟨b6,0,none⟩)|4=>v=vi l[k].key|5=>v=.slice (some ⟨b,o,none⟩) l.length c|6=>v=vi k|7=>v=vi ((k - 1:Nat):Int)|8=>v=.pointer (some ⟨b,o+(k - 1)*2,none⟩)|9=>v=.pointer (some ⟨b,o+(k - 1)*2+0,none⟩)|10=>v=vi pk|11=>v=.bool (decide (l[k].key < pk))|12=>v=.bool (decide (l[k].key < pk))|_=>True) (fun _ _ _ _ _ h=>h) H ?_ ?_
     ·clear H;refine al4 ?_ ?_ ?_ ?_ (al4 ?_ ?_ ?_ ?_ (al4 ?_ ?_ ?_ ?_ (allI_cons ?_ (allI_cons ?_ allI_nil))))
      ·exact Z0 rfl rfl fun _ _ _ _ _=>Rm rfl
      ·exact Z1 0 42 rfl rfl fun _ _ _ _ _=>Rc rfl
      ·exact Z1 1 43 rfl rfl fun _ _ _ _ _=>Rm rfl
      ·exact Op1 2 44 rfl rfl fun _ _ _ _ hG _ H fin=>kH H (YF fd40_0prp (decide_eq_true c0) rfl fun _ H=>fin H iJ rfl)
      ·exact Op2 3 45 2 44 rfl rfl fun _ _ _ _ hG _ H fin=>kH H (YO ty3run 0 (decide_eq_true c0) rfl rfl fun _ H=>fin H iJ rfl)
      ·exact Op1 2 44 rfl rfl fun _ _ _ _ hG _ H fin=>kH H (YM (decide_eq_true c0) rfl fun _ H=>fin H iJ rfl)
      ·exact Op1 2 44 rfl rfl fun _ _ _ _ hG _ H fin=>kH H (YM (decide_eq_true c0) rfl fun _ H=>fin H iJ rfl)
      ·refine Op2 6 48 2 44 rfl rfl fun _ a w G1 hG HT H fin=>?_;refine s_sub _ H (wg H rfl rfl (decide_eq_true c0)) rfl rfl rfl (by omega) (by omega) rfl ?_;clear H;intro a H;exact fin H iJ (by first|rfl|exact congrArg vi (by omega))
      ·exact Op3 5 47 7 49 2 44 rfl rfl fun _ _ _ _ hG _ H fin=>kH H (YI un25run ty40run (decide_eq_true c0) rfl rfl fun _ H=>fin H iJ rfl)
      ·exact Op2 8 50 2 44 rfl rfl fun _ _ _ _ hG _ H fin=>kH H (YF fd40_0prp (decide_eq_true c0) rfl fun _ H=>fin H iJ rfl)
      ·refine Op2 9 51 2 44 rfl rfl fun _ a w G1 hG HT H fin=>?_;refine s_load ty3run H (wg H rfl rfl (decide_eq_true c0)) rfl (H.hp.gcell (gcell_mono hG (gcell_mono hGm8 (gcell_mono hm25 (hpk (by omega)).1)))) rfl ?_;clear H;intro a H;exact fin H iJ rfl
      ·exact Op3 4 46 10 52 2 44 rfl rfl fun _ _ _ _ hG _ H fin=>kH H (YC (decide_eq_true c0) rfl fun _ H=>fin H iJ rfl)
      ·exact Op2 2 44 11 53 rfl rfl fun _ _ _ _ hG _ H fin=>kH H (Pt (decide_eq_true c0) rfl fun _ H=>fin H iJ rfl)
      exact opB rfl
     clear H;intro a w G hGm10 H hv;obtain ⟨u54,hu54,hp54⟩:=hv 12 54 (by decide) rfl;obtain rfl:u54=.bool (decide (l[k].key < pk)):=hp54;have H:=H.addS hu54;clear hv;refine kH H (Ra rfl ?_);clear H;intro a H;refine wl_nil ⟨rfl,?_⟩;refine K16 _ _ ?_;clear K16;refine c_cond_t H rfl (decide_eq_true c3) ?_;refine c_seq (fun _ K17=>?_);rw [if_pos (by rw [(hpk (by omega)).2];exact decide_eq_true c3)] at heq;refine kP H (SC (Ra rfl (Kn K17 ?_)));clear H K17;intro a H;refine lr H Tryz.results44 rfl ?_
     first
      | exact H.hp.ret (congrArg vi (by rw [if_neg (by simpa using p61)] at heq;rw [chkPS,if_neg (by omega)];exact heq))
      | exact H.hp.ret (congrArg vi (by rw [if_pos (by simpa using h21)] at heq;rw [chkPS,if_neg (by omega)];exact heq))
      | exact H.hp.ret (congrArg vi (by rw [chkPS,if_neg (by omega)];exact heq))
      | exact H.hp.ret (congrArg vi (by rw [chkPS,if_neg (by omega),← heq,show l.drop k=[] from List.drop_of_length_le (by omega)];rfl))
      | exact H.hp.ret (congrArg vi (by rw [chkPS,if_pos (by omega)]))
    skip;refine c_drawI (hmx) [[],[0],[0,1],[0,1,2],[0,1,2,3],[0,1,2],[0,1,2],[0,1,2,6],[0,1,2,5,6,7],[0,1,2,5,6,7,8],[0,1,2,5,6,7,8,9],(List.range 11),(List.range 12),(List.range 13)] [13] (by kernel_rfl) (by kernel_rfl) (fun (ix_:Nat) (v:Value) (G:GH)=>match ix_ with|0=>v=vi k|1=>v=.bool (decide (0 < (k:Int)))|2=>v=.bool (decide (0 < (k:Int)))|3=>v=.pointer (some ⟨b6,0,none⟩)|4=>v=vi l[k].key|5=>v=.slice (some ⟨b,o,none⟩) l.length c|6=>v=vi k|7=>v=vi ((k - 1:Nat):Int)|8=>v=.pointer (some ⟨b,o+(k - 1)*2,none⟩)|9=>v=.pointer (some ⟨b,o+(k - 1)*2+0,none⟩)|10=>v=vi pk|11=>v=.bool (decide (l[k].key < pk))|12=>v=.bool (decide (l[k].key < pk))|_=>True) (fun _ _ _ _ _ h=>h) H ?_ ?_
    ·clear H;refine al4 ?_ ?_ ?_ ?_ (al4 ?_ ?_ ?_ ?_ (al4 ?_ ?_ ?_ ?_ (allI_cons ?_ (allI_cons ?_ allI_nil))))
     ·exact Z0 rfl rfl fun _ _ _ _ _=>Rm rfl
     ·exact Z1 0 42 rfl rfl fun _ _ _ _ _=>Rc rfl
     ·exact Z1 1 43 rfl rfl fun _ _ _ _ _=>Rm rfl
     ·exact Op1 2 44 rfl rfl fun _ _ _ _ hG _ H fin=>kH H (YF fd40_0prp (decide_eq_true c0) rfl fun _ H=>fin H iJ rfl)
     ·exact Op2 3 45 2 44 rfl rfl fun _ _ _ _ hG _ H fin=>kH H (YO ty3run 0 (decide_eq_true c0) rfl rfl fun _ H=>fin H iJ rfl)
     ·exact Op1 2 44 rfl rfl fun _ _ _ _ hG _ H fin=>kH H (YM (decide_eq_true c0) rfl fun _ H=>fin H iJ rfl)
     ·exact Op1 2 44 rfl rfl fun _ _ _ _ hG _ H fin=>kH H (YM (decide_eq_true c0) rfl fun _ H=>fin H iJ rfl)
     ·refine Op2 6 48 2 44 rfl rfl fun _ a w G1 hG HT H fin=>?_;refine s_sub _ H (wg H rfl rfl (decide_eq_true c0)) rfl rfl rfl (by omega) (by omega) rfl ?_;clear H;intro a H;exact fin H iJ (by first|rfl|exact congrArg vi (by omega))
     ·exact Op3 5 47 7 49 2 44 rfl rfl fun _ _ _ _ hG _ H fin=>kH H (YI un25run ty40run (decide_eq_true c0) rfl rfl fun _ H=>fin H iJ rfl)
     ·exact Op2 8 50 2 44 rfl rfl fun _ _ _ _ hG _ H fin=>kH H (YF fd40_0prp (decide_eq_true c0) rfl fun _ H=>fin H iJ rfl)
     ·refine Op2 9 51 2 44 rfl rfl fun _ a w G1 hG HT H fin=>?_;refine s_load ty3run H (wg H rfl rfl (decide_eq_true c0)) rfl (H.hp.gcell (gcell_mono hG (gcell_mono hGm8 (gcell_mono hm25 (hpk (by omega)).1)))) rfl ?_;clear H;intro a H;exact fin H iJ rfl
     ·exact Op3 4 46 10 52 2 44 rfl rfl fun _ _ _ _ hG _ H fin=>kH H (YC (decide_eq_true c0) rfl fun _ H=>fin H iJ rfl)
     ·exact Op2 2 44 11 53 rfl rfl fun _ _ _ _ hG _ H fin=>kH H (Pt (decide_eq_true c0) rfl fun _ H=>fin H iJ rfl)
     exact opB rfl
    clear H;intro a w G hGm10 H hv;obtain ⟨u54,hu54,hp54⟩:=hv 12 54 (by decide) rfl;obtain rfl:u54=.bool (decide (l[k].key < pk)):=hp54;have H:=H.addS hu54;clear hv;refine kH H (Ra rfl ?_);clear H;intro a H;refine wl_nil ⟨rfl,?_⟩;refine K16 _ _ ?_;clear K16;refine c_cond_f H rfl (decide_eq_false c3) ?_;refine c_skip ?_;refine ⟨_,by exact (H).sub ⟨rfl,rfl,rfl,rfl,rfl,rfl,trivial⟩,?_⟩
    have q2:¬ (0 < (k:Int)∧l[k].key < pk):=by first|exact fun h=>c3 h.2|exact fun h=>c0 h.1
    rw [if_neg (fun h=>q2 (by
     by_cases h0:0 < k
     ·rw [(hpk h0).2] at h;exact ⟨by omega,of_decide_eq_true h⟩
     rw [prevP_0 (by omega)] at h
     cases h))] at heq
    exact ⟨heq,fun b o h=>hGm10 b o (hGm8 b o (hm25 b o h))⟩
   skip;refine c_drawI (hmx) [[],[0],[0,1],[0,1,2],[0,1,2,3],[0,1,2],[0,1,2],[0,1,2,6],[0,1,2,5,6,7],[0,1,2,5,6,7,8],[0,1,2,5,6,7,8,9],(List.range 11),(List.range 12),(List.range 13)] [13] (by kernel_rfl) (by kernel_rfl) (fun (ix_:Nat) (v:Value) (G:GH)=>match ix_ with|0=>v=vi k|1=>v=.bool (decide (0 < (k:Int)))|2=>v=.bool (decide (0 < (k:Int)))|3=>v=undef|4=>v=undef|5=>v=undef|6=>v=undef|7=>v=undef|8=>v=undef|9=>v=undef|10=>v=undef|11=>v=undef|12=>v=.bool false|_=>True) (fun _ _ _ _ _ h=>h) H ?_ ?_
   ·clear H;refine al4 ?_ ?_ ?_ ?_ (al4 ?_ ?_ ?_ ?_ (al4 ?_ ?_ ?_ ?_ (allI_cons ?_ (allI_cons ?_ allI_nil))))
    ·exact Z0 rfl rfl fun _ _ _ _ _=>Rm rfl
    ·exact Z1 0 28 rfl rfl fun _ _ _ _ _=>Rc rfl
    ·exact Z1 1 29 rfl rfl fun _ _ _ _ _=>Rm rfl
    ·exact skI 2 (decide_eq_false c0) rfl rfl
    ·exact skI 2 (decide_eq_false c0) rfl rfl
    ·exact skI 2 (decide_eq_false c0) rfl rfl
    ·exact skI 2 (decide_eq_false c0) rfl rfl
    ·exact skI 2 (decide_eq_false c0) rfl rfl
    ·exact skI 2 (decide_eq_false c0) rfl rfl
    ·exact skI 2 (decide_eq_false c0) rfl rfl
    ·exact skI 2 (decide_eq_false c0) rfl rfl
    ·exact skI 2 (decide_eq_false c0) rfl rfl
    ·exact Op2 2 30 11 39 rfl rfl fun _ _ _ _ hG _ H fin=>kH H (Pf (decide_eq_false c0) rfl fun _ H=>fin H iJ rfl)
    exact opB rfl
   clear H;intro a w G hGm8 H hv;obtain ⟨u40,hu40,hp40⟩:=hv 12 40 (by decide) rfl;obtain rfl:u40=.bool false:=hp40;have H:=H.addS hu40;clear hv;refine kH H (Ra rfl ?_);clear H;intro a H;refine wl_nil ⟨rfl,?_⟩;refine K14 _ _ ?_;clear K14;refine c_cond_f H rfl rfl ?_;refine c_seq (fun _ K18=>?_)
   have q1:¬ (0 < (k:Int)∧l[k].key=pk):=by first|exact fun h=>c1 h.2|exact fun h=>c0 h.1
   rw [if_neg (fun h=>q1 (by
    by_cases h0:0 < k
    ·rw [(hpk h0).2] at h
     injection h with h
     exact ⟨by omega,h.symm⟩
    rw [prevP_0 (by omega)] at h
    cases h))] at heq
   refine c_drawI (hmx) [[],[0],[0,1],[0,1,2],[0,1,2,3],[0,1,2],[0,1,2],[0,1,2,6],[0,1,2,5,6,7],[0,1,2,5,6,7,8],[0,1,2,5,6,7,8,9],(List.range 11),(List.range 12),(List.range 13)] [13] (by kernel_rfl) (by kernel_rfl) (fun (ix_:Nat) (v:Value) (G:GH)=>match ix_ with|0=>v=vi k|1=>v=.bool (decide (0 < (k:Int)))|2=>v=.bool (decide (0 < (k:Int)))|3=>v=undef|4=>v=undef|5=>v=undef|6=>v=undef|7=>v=undef|8=>v=undef|9=>v=undef|10=>v=undef|11=>v=undef|12=>v=.bool false|_=>True) (fun _ _ _ _ _ h=>h) H ?_ ?_
   ·clear H;refine al4 ?_ ?_ ?_ ?_ (al4 ?_ ?_ ?_ ?_ (al4 ?_ ?_ ?_ ?_ (allI_cons ?_ (allI_cons ?_ allI_nil))))
    ·exact Z0 rfl rfl fun _ _ _ _ _=>Rm rfl
    ·exact Z1 0 42 rfl rfl fun _ _ _ _ _=>Rc rfl
    ·exact Z1 1 43 rfl rfl fun _ _ _ _ _=>Rm rfl
    ·exact skI 2 (decide_eq_false c0) rfl rfl
    ·exact skI 2 (decide_eq_false c0) rfl rfl
    ·exact skI 2 (decide_eq_false c0) rfl rfl
    ·exact skI 2 (decide_eq_false c0) rfl rfl
    ·exact skI 2 (decide_eq_false c0) rfl rfl
    ·exact skI 2 (decide_eq_false c0) rfl rfl
    ·exact skI 2 (decide_eq_false c0) rfl rfl
    ·exact skI 2 (decide_eq_false c0) rfl rfl
    ·exact skI 2 (decide_eq_false c0) rfl rfl
    ·exact Op2 2 44 11 53 rfl rfl fun _ _ _ _ hG _ H fin=>kH H (Pf (decide_eq_false c0) rfl fun _ H=>fin H iJ rfl)
    exact opB rfl
   clear H;intro a w G hGm10 H hv;obtain ⟨u54,hu54,hp54⟩:=hv 12 54 (by decide) rfl;obtain rfl:u54=.bool false:=hp54;have H:=H.addS hu54;clear hv;refine kH H (Ra rfl ?_);clear H;intro a H;refine wl_nil ⟨rfl,?_⟩;refine K18 _ _ ?_;clear K18;refine c_cond_f H rfl rfl ?_;refine c_skip ?_;refine ⟨_,by exact (H).sub ⟨rfl,rfl,rfl,rfl,rfl,rfl,trivial⟩,?_⟩
   have q2:¬ (0 < (k:Int)∧l[k].key < pk):=by first|exact fun h=>c3 h.2|exact fun h=>c0 h.1
   rw [if_neg (fun h=>q2 (by
    by_cases h0:0 < k
    ·rw [(hpk h0).2] at h;exact ⟨by omega,of_decide_eq_true h⟩
    rw [prevP_0 (by omega)] at h
    cases h))] at heq
   exact ⟨heq,fun b o h=>hGm10 b o (hGm8 b o (hm25 b o h))⟩
  clear H;intro gh a w hI H;obtain ⟨g2,hgh⟩:∃ x,x=gh:=⟨_,rfl⟩;subst hgh;obtain ⟨heq,hgm2⟩:=hI;replace hrow:=fun j u hj=>gcell_mono hgm2 (hrow j u hj);dsimp only [List.cons_append,List.nil_append,List.append_nil] at H;refine kP H (SR fun _ K19=>Rf fd40_0prp rfl (Ro ty3run 0 rfl rfl (Rf fd40_1prc rfl (Ro ty3run 0 rfl rfl ?_))));clear H;intro a H;refine s_call en107prc H wn rfl (checkValue_spec _ _ H.hp.ro l[k].key l[k].value) rfl ?_;clear H;rintro v59 G59 a w rfl hm59 H;refine kH H (Ra rfl (Kz K19 (SR fun _ K20=>Rm rfl (Rc rfl (Kz K20 ?_)))));clear H K19 K20;intro a H;refine c_cond H rfl ?_ ?_
  ·intro h61
   try have p61:=dT h61
   refine kP H (SR fun _ K21=>Rm rfl (Ra rfl (Kz K21 ?_)));clear H K21;intro a H;refine lr H Tryz.results44 rfl ?_
   first
    | exact H.hp.ret (congrArg vi (by rw [if_neg (by simpa using p61)] at heq;rw [chkPS,if_neg (by omega)];exact heq))
    | exact H.hp.ret (congrArg vi (by rw [if_pos (by simpa using h21)] at heq;rw [chkPS,if_neg (by omega)];exact heq))
    | exact H.hp.ret (congrArg vi (by rw [chkPS,if_neg (by omega)];exact heq))
    | exact H.hp.ret (congrArg vi (by rw [chkPS,if_neg (by omega),← heq,show l.drop k=[] from List.drop_of_length_le (by omega)];rfl))
    | exact H.hp.ret (congrArg vi (by rw [chkPS,if_pos (by omega)]))
  intro h61
  try have p61:=dF h61
  refine kP H (Kc K10 (SC (Rd rfl (Rm rfl ?_))));clear H K10;intro a H;refine wl_nil ?_;refine loop_end ((k+1,G59)) (by exact (H.pickT (Pl:=[_]) (Pl':=[]) [] (by decide) rfl).sub ⟨rfl,rfl,rfl,rfl,rfl,trivial⟩) ?_ ?_
  ·(try dsimp only);exact ⟨by omega,by rw [if_pos (by simpa using p61)] at heq;exact heq,fun b o h=>hm59 b o (hgm2 b o (hgm b o h))⟩
  first|omega|(dsimp only;omega)
 intro h17
 try have p17:=dF h17
 refine c_exit ?_;refine K6 _ _ ?_;clear K6;refine kP H (SR fun _ K22=>Ra rfl (Kz K22 ?_));clear H K22;intro a H;refine lr H Tryz.results44 rfl ?_
 first
  | exact H.hp.ret (congrArg vi (by rw [if_neg (by simpa using p61)] at heq;rw [chkPS,if_neg (by omega)];exact heq))
  | exact H.hp.ret (congrArg vi (by rw [if_pos (by simpa using h21)] at heq;rw [chkPS,if_neg (by omega)];exact heq))
  | exact H.hp.ret (congrArg vi (by rw [chkPS,if_neg (by omega)];exact heq))
  | exact H.hp.ret (congrArg vi (by rw [chkPS,if_neg (by omega),← heq,show l.drop k=[] from List.drop_of_length_le (by omega)];rfl))
  | exact H.hp.ret (congrArg vi (by rw [chkPS,if_pos (by omega)]))
end
section
open Go.RowKit
theorem ty22fst:Ty Tryz.prog 22 1 8 [.int .i64 0] false:=⟨by kernel_rfl,by kernel_rfl⟩
theorem un221fst:Tryz.prog.underlying 221=some (.slice 22):=by kernel_rfl
theorem en128fst:∀ args w,(callFunc 128 args).run Tryz.prog w=.ok (.enter 128 args) w:=enters Tryz.func128 rfl (by kernel_rfl)
theorem in_spec (G:GH) (w0:World) (hG:Hold G w0) (n l h:Int):Calls Tryz.prog 128 #[vi n,vi l,vi h] w0 (Ret w0 G fun u G'=>u=.bool (decide (l≤n∧n≤h))∧G=G'):=by
 refine eN [(0,_),(1,_),(2,_)] Tryz.func128 rfl Tryz.ntmps128 rfl rfl hG ?_;intro a H;refine kP H (SR fun _ K1=>Ra rfl (Kz K1 (SR fun _ K2=>Rm rfl (Rm rfl (Rc rfl (Rm rfl ?_))))));clear H K1;intro a H;refine s_split H 10 rfl ?_ ?_
 ·intro h10
  try have p10:=dT h10
  refine kH H (YM h10 rfl (YM h10 rfl (YC h10 rfl (Pt h10 rfl (Ra rfl (Kz K2 ?_))))));clear H K2;intro a H;refine lr H Tryz.results128 rfl ?_;exact H.hp.ret ⟨congrArg Value.bool (by first|(simp_all;done)|(simp_all;omega)),rfl⟩
 intro h10
 try have p10:=dF h10
 refine kH H (Ks h10 rfl (Ks h10 rfl (Ks h10 rfl (Pf h10 rfl (Ra rfl (Kz K2 ?_))))));clear H K2;intro a H;refine lr H Tryz.results128 rfl ?_;exact H.hp.ret ⟨congrArg Value.bool (by first|(simp_all;done)|(simp_all;omega)),rfl⟩
def whenE (b:Bool) (e:Int):Int:=if b=true then e else 0
theorem when_spec (G:GH) (w0:World) (hG:Hold G w0) (b:Bool) (e:Int):Calls Tryz.prog 65 #[.bool b,vi e] w0 (Ret w0 G fun u G'=>u=vi (whenE b e)∧G=G'):=by
 refine eN [(0,_),(1,_)] Tryz.func65 rfl Tryz.ntmps65 rfl rfl hG ?_;intro a H;refine kP H (SR fun _ K1=>Ra rfl (Kz K1 (SQ fun _ K2=>SR fun _ K3=>Rm rfl (Kz K3 ?_))));clear H K1 K3;intro a H;refine c_cond H rfl ?_ ?_
 ·intro h5
  try have p5:=dT h5
  refine kP H (SR fun _ K4=>Rm rfl (Ra rfl (Kz K4 ?_)));clear H K4;intro a H;refine lr H Tryz.results65 rfl ?_;exact H.hp.ret ⟨congrArg vi (by simp_all [whenE]),rfl⟩
 intro h5
 try have p5:=dF h5
 refine kP H (Kc K2 (SR fun _ K5=>Ra rfl (Kz K5 ?_)));clear H K2 K5;intro a H;refine lr H Tryz.results65 rfl ?_;exact H.hp.ret ⟨congrArg vi (by simp_all [whenE]),rfl⟩
/-- The first error of a list. -/
def firstE:List Int→Int
 | []=>0
 | e :: r=>if e≠0 then e else firstE r
theorem firstE_at {l:List Int} {k:Nat} (h:k < l.length):firstE (l.drop k)=if l[k]≠0 then l[k] else firstE (l.drop (k+1)):=by
 rw [List.drop_eq_getElem_cons h,firstE]
theorem first_spec1 (G:GH) (w0:World) (hG:Hold G w0) (l:List Int) (v:Value) (hv:RepV G (.sl 1 (l.map fun k=>[li k])) v) :
  Calls Tryz.prog 52 #[v] w0 (Ret w0 G fun u G'=>u=vi (firstE l)∧G=G'):=by
 obtain ⟨A,c,rfl,hc1,hc2,hg⟩:=hv.slice;have hml:maxLen=9223372036854775807:=rfl;rw [List.length_map] at *;refine eN [(0,_)] Tryz.func52 rfl Tryz.ntmps52 rfl rfl hG ?_;intro a H;refine kP H (SR fun _ K1=>Ra rfl (Kz K1 (SQ fun _ K2=>SR fun _ K3=>Rm rfl (Rl un221fst rfl (Rm rfl (Kz K3 (SB ?_)))))));clear H K1 K3;intro a H;skip;refine c_loopS (ι:=Nat) (Tc:=[(5,_),(6,_)]) (Lc:=[]) (fun (gh:Nat)=>[(7,vi gh)]) (fun (gh:Nat)=>[]) (fun (gh:Nat)=>G) (fun (gh:Nat)=>gh≤l.length∧firstE (l.drop gh)=firstE l) (fun (gh:Nat)=>l.length - gh) (0) (by exact (H).sub ⟨rfl,rfl,rfl,trivial⟩) ?_ ?_
 ·exact ⟨Nat.zero_le _,rfl⟩
 clear H;intro gh a w hI H;obtain ⟨k,hgh⟩:∃ x,x=gh:=⟨_,rfl⟩;subst hgh;obtain ⟨hk,he⟩:=hI;dsimp only [List.cons_append,List.nil_append,List.append_nil] at H;refine kP H (SR fun _ K4=>Rc rfl (Kz K4 (SQ fun _ K5=>?_)));clear H K4;intro a H;refine c_cond H rfl ?_ ?_
 ·intro h8
  try have p8:=dT h8
  have hk2:k < l.length:=by omega
  obtain ⟨b,o,cs,rfl,hcl,hrow,hr⟩:=hg k [li l[k]] (by simp [hk2]);obtain ⟨v1,_,rfl,⟨rfl,-⟩,rfl⟩:∃ v vs,cs=v :: vs∧RepV G (li l[k]) v∧RepRow G [] vs:=hr
  have hcell:gcell G b (o+k*1)=some (vi l[k]):=by simpa using hrow 0 _ rfl
  refine kP H (Kc K5 (SQ fun _ K6=>SB (SR fun _ K7=>Ri un221fst ty22fst rfl rfl (Rg ty22fst rfl hcell (Ra rfl (Kz K7 (SR fun _ K8=>Rm rfl (Rc rfl (Kz K8 ?_)))))))));clear H K5 K7 K8;intro a H;refine c_cond H rfl ?_ ?_
  ·intro h12
   try have p12:=dT h12
   refine kP H (SR fun _ K9=>Rm rfl (Ra rfl (Kz K9 ?_)));clear H K9;intro a H;refine lr H Tryz.results52 rfl ?_;exact H.hp.ret ⟨congrArg vi (by rw [firstE_at hk2,if_pos p12] at he;exact he),rfl⟩
  intro h12
  try have p12:=dF h12
  refine kP H (Kc K6 (SC (Rd rfl (Rm rfl ?_))));clear H K6;intro a H;refine wl_nil ?_;refine loop_end ((k+1)) (by exact (H).sub ⟨rfl,rfl,rfl,trivial⟩) ?_ ?_
  ·exact ⟨by omega,by rw [firstE_at hk2,if_neg p12] at he;exact he⟩
  first|omega|(dsimp only;omega)
 intro h8
 try have p8:=dF h8
 refine c_exit ?_;refine K2 _ _ ?_;clear K2;refine kP H (SR fun _ K10=>Ra rfl (Kz K10 ?_));clear H K10;intro a H;refine lr H Tryz.results52 rfl ?_;exact H.hp.ret ⟨congrArg vi (by rw [List.drop_of_length_le (by omega)] at he;exact he),rfl⟩
/-- A function of an index that gives an error. -/
def IxCb (fv:Value) (Gi:GH) (n:Nat) (E:Nat→Int):Prop:=∀ i,i < n→∀ (G1:GH) (w1:World),(∀ b o,Gi b=some o→G1 b=some o)→Hold G1 w1→CallV Tryz.prog fv [vi i] w1 (Ret w1 G1 fun u G'=>u=vi (E i))
theorem IxCb.mono {fv:Value} {G G':GH} {n:Nat} {E:Nat→Int} (h:IxCb fv G n E) (hm:∀ b o,G b=some o→G' b=some o):IxCb fv G' n E:=fun i hi G1 w1 hG1=>h i hi G1 w1 fun b o hb=>hG1 b o (hm b o hb)
def allE (E:Nat→Int) (n:Nat):Int:=firstE ((List.range n).map E)
theorem allE_at {E:Nat→Int} {n k:Nat} (h:k < n):firstE (((List.range n).map E).drop k)=if E k≠0 then E k else firstE (((List.range n).map E).drop (k+1)):=by
 rw [firstE_at (by simpa using h)];simp
theorem all_spec (G:GH) (w0:World) (hG:Hold G w0) (n:Nat) (E:Nat→Int) (fv:Value) (hn:n≤4611686018427387904) (hf:IxCb fv G n E) :
  Calls Tryz.prog 119 #[vi n,fv] w0 (Ret w0 G fun u G'=>u=vi (allE E n)):=by
 refine eN [(0,_),(1,_)] Tryz.func119 rfl Tryz.ntmps119 rfl rfl hG ?_;intro a H;refine kP H (SR fun _ K1=>Ra rfl (Kz K1 (SQ fun _ K2=>SR fun _ K3=>Rm rfl (Rm rfl (Kz K3 (SB ?_))))));clear H K1 K3;intro a H;skip;refine c_loopS (ι:=Nat × GH) (Tc:=[(1,_),(7,_)]) (Lc:=[]) (fun (gh:Nat × GH)=>[(8,vi gh.1)]) (fun (gh:Nat × GH)=>[]) (fun (gh:Nat × GH)=>gh.2) (fun (gh:Nat × GH)=>gh.1≤n∧firstE (((List.range n).map E).drop gh.1)=allE E n∧(∀ b o,G b=some o→gh.2 b=some o)) (fun (gh:Nat × GH)=>n - gh.1) ((0,G)) (by exact (H).sub ⟨rfl,rfl,rfl,trivial⟩) ?_ ?_
 ·exact ⟨Nat.zero_le _,rfl,fun _ _ h=>h⟩
 clear H;intro gh a w hI H;obtain ⟨k,g⟩:=gh;dsimp only at hI H;obtain ⟨hk,he,hgm⟩:=hI;dsimp only [List.cons_append,List.nil_append,List.append_nil] at H;refine kP H (SR fun _ K4=>Rc rfl (Kz K4 (SQ fun _ K5=>?_)));clear H K4;intro a H;refine c_cond H rfl ?_ ?_
 ·intro h9
  try have p9:=dT h9
  have hk2:k < n:=by omega
  refine kP H (Kc K5 (SQ fun _ K6=>SB (SR fun _ K7=>Rm rfl (Ra rfl (Kz K7 (SR fun _ K8=>Rm rfl (Rm rfl ?_)))))));clear H K5 K7;intro a H;refine s_callv0 H wn rfl rfl (hf k hk2 _ _ hgm H.hp.ro) rfl ?_;clear H;rintro v13 G13 a w rfl hm13 H;refine kH H (Ra rfl (Kz K8 (SR fun _ K9=>Rm rfl (Rc rfl (Kz K9 ?_)))));clear H K8 K9;intro a H;refine c_cond H rfl ?_ ?_
  ·intro h15
   try have p15:=dT h15
   refine kP H (SR fun _ K10=>Rm rfl (Ra rfl (Kz K10 ?_)));clear H K10;intro a H;refine lr H Tryz.results119 rfl ?_;exact H.hp.ret (congrArg vi (by rw [allE_at hk2,if_pos p15] at he;exact he))
  intro h15
  try have p15:=dF h15
  refine kP H (Kc K6 (SC (Rd rfl (Rm rfl ?_))));clear H K6;intro a H;refine wl_nil ?_;refine loop_end ((k+1,G13)) (by exact (H).sub ⟨rfl,rfl,rfl,trivial⟩) ?_ ?_
  ·(try dsimp only);exact ⟨by omega,by rw [allE_at hk2,if_neg p15] at he;exact he,fun b o h=>hm13 b o (hgm b o h)⟩
  first|omega|(dsimp only;omega)
 intro h9
 try have p9:=dF h9
 refine c_exit ?_;refine K2 _ _ ?_;clear K2;refine kP H (SR fun _ K11=>Ra rfl (Kz K11 ?_));clear H K11;intro a H;refine lr H Tryz.results119 rfl ?_;exact H.hp.ret (congrArg vi (by rw [List.drop_of_length_le (by simp;omega)] at he;exact he))
/-- The error of the id with an index. -/
def incE (id:Nat→Int) (i:Nat):Int:=if ¬ (1≤id i∧id i≤1073741824) then 18 else if 0 < i∧id i=id (i - 1) then 7 else if 0 < i∧id i < id (i - 1) then 6 else 0
theorem increasing_spec (G:GH) (w0:World) (hG:Hold G w0) (i:Nat) (id:Nat→Int) (fv:Value) (hn:i≤4611686018427387904) (hf:IxCb fv G (i+1) id) :
  Calls Tryz.prog 121 #[vi i,fv] w0 (Ret w0 G fun u G'=>u=vi (incE id i)):=by
 refine eN [(0,_),(1,_)] Tryz.func121 rfl Tryz.ntmps121 rfl rfl hG ?_;intro a H;refine kP H (SR fun _ K1=>Ra rfl (Kz K1 (SQ fun _ K2=>SB (SR fun _ K3=>Rm rfl (Rm rfl ?_)))));clear H K1;intro a H;refine s_callv0 H wn rfl rfl (hf i (Nat.lt_succ_self _) _ _ (fun _ _ h=>h) H.hp.ro) rfl ?_;clear H;rintro v8 G8 a w rfl hm8 H;refine s_call en128fst H wn rfl (in_spec _ _ H.hp.ro (id i) 1 1073741824) rfl ?_;clear H;rintro v9 _ a w ⟨rfl,rfl⟩ - H;refine kH H (Rn rfl (Ra rfl (Kz K3 ?_)));clear H K3;intro a H;refine c_cond H rfl ?_ ?_
 ·intro h5
  try have p5:=dT h5
  refine kP H (SR fun _ K4=>Ra rfl (Kz K4 ?_));clear H K4;intro a H;refine lr H Tryz.results121 rfl ?_
  exact H.hp.ret (congrArg vi (by unfold incE;(repeat' split) <;> first|rfl|(exfalso;simp_all;done)|(exfalso;simp_all;omega)))
 intro h5
 try have p5:=dF h5
 refine kP H (SR fun _ K5=>Rm rfl (Rc rfl (Rm rfl ?_)));clear H;intro a H;refine s_split H 14 rfl ?_ ?_
 ·intro h14
  try have p14:=dT h14
  refine kH H (YM h14 rfl (YM h14 rfl ?_));clear H;intro a H;refine s_callv0 H (wg H rfl rfl h14) rfl rfl (hf i (Nat.lt_succ_self _) _ _ hm8 H.hp.ro) rfl ?_;clear H;rintro v17 G17 a w rfl hm17 H;refine kH H (YM h14 rfl (YM h14 rfl ?_));clear H;intro a H;refine s_sub _ H (wg H rfl rfl h14) rfl rfl rfl (by omega) (by omega) rfl ?_;clear H;intro a H;rw [show ((i:Int) - 1)=((i - 1:Nat):Int) by omega] at H;refine s_callv0 H (wg H rfl rfl h14) rfl rfl (hf (i - 1) (by omega) _ _ (fun b o h=>hm17 b o (hm8 b o h)) H.hp.ro) rfl ?_;clear H;rintro v21 G21 a w rfl hm21 H;refine kH H (YC h14 rfl (Pt h14 rfl (Ra rfl (Kz K5 ?_))));clear H K5;intro a H;refine c_cond H rfl ?_ ?_
  ·intro h11
   try have p11:=dT h11
   refine kP H (SR fun _ K6=>Ra rfl (Kz K6 ?_));clear H K6;intro a H;refine lr H Tryz.results121 rfl ?_
   exact H.hp.ret (congrArg vi (by unfold incE;(repeat' split) <;> first|rfl|(exfalso;simp_all;done)|(exfalso;simp_all;omega)))
  intro h11
  try have p11:=dF h11
  refine kP H (SR fun _ K7=>Rm rfl (Rc rfl (Rm rfl ?_)));clear H;intro a H;refine s_split H 27 rfl ?_ ?_
  ·intro h27
   try have p27:=dT h27
   refine kH H (YM h27 rfl (YM h27 rfl ?_));clear H;intro a H;refine s_callv0 H (wg H rfl rfl h27) rfl rfl (hf i (Nat.lt_succ_self _) _ _ (fun b o h=>by first|exact hm21 b o (hm17 b o (hm8 b o h))|(exfalso;omega)) H.hp.ro) rfl ?_;clear H;rintro v30 G30 a w rfl hm30 H;refine kH H (YM h27 rfl (YM h27 rfl ?_));clear H;intro a H;refine s_sub _ H (wg H rfl rfl h27) rfl rfl rfl (by omega) (by omega) rfl ?_;clear H;intro a H;rw [show ((i:Int) - 1)=((i - 1:Nat):Int) by omega] at H;refine s_callv0 H (wg H rfl rfl h27) rfl rfl (hf (i - 1) (by omega) _ _ (fun b o h=>by first|exact hm30 b o (hm21 b o (hm17 b o (hm8 b o h)))|(exfalso;omega)) H.hp.ro) rfl ?_;clear H;rintro v34 G34 a w rfl hm34 H;refine kH H (YC h27 rfl (Pt h27 rfl (Ra rfl (Kz K7 ?_))));clear H K7;intro a H;refine c_cond H rfl ?_ ?_
   ·intro h24
    try have p24:=dT h24
    refine kP H (SR fun _ K8=>Ra rfl (Kz K8 ?_));clear H K8;intro a H;refine lr H Tryz.results121 rfl ?_
    exact H.hp.ret (congrArg vi (by unfold incE;(repeat' split) <;> first|rfl|(exfalso;simp_all;done)|(exfalso;simp_all;omega)))
   intro h24
   try have p24:=dF h24
   refine kP H (Kc K2 (SR fun _ K9=>Ra rfl (Kz K9 ?_)));clear H K2 K9;intro a H;refine lr H Tryz.results121 rfl ?_
   exact H.hp.ret (congrArg vi (by unfold incE;(repeat' split) <;> first|rfl|(exfalso;simp_all;done)|(exfalso;simp_all;omega)))
  intro h27
  try have p27:=dF h27
  refine kH H (Ks h27 rfl (Ks h27 rfl (Ks h27 rfl (Ks h27 rfl (Ks h27 rfl (Ks h27 rfl (Ks h27 rfl (Ks h27 rfl (Pf h27 rfl (Ra rfl (Kz K7 ?_)))))))))));clear H K7;intro a H;refine c_cond_f H rfl rfl ?_;refine kP H (Kc K2 (SR fun _ K10=>Ra rfl (Kz K10 ?_)));clear H K2 K10;intro a H;refine lr H Tryz.results121 rfl ?_
  exact H.hp.ret (congrArg vi (by unfold incE;(repeat' split) <;> first|rfl|(exfalso;simp_all;done)|(exfalso;simp_all;omega)))
 intro h14
 try have p14:=dF h14
 refine kH H (Ks h14 rfl (Ks h14 rfl (Ks h14 rfl (Ks h14 rfl (Ks h14 rfl (Ks h14 rfl (Ks h14 rfl (Ks h14 rfl (Pf h14 rfl (Ra rfl (Kz K5 ?_)))))))))));clear H K5;intro a H;refine c_cond_f H rfl rfl ?_;refine kP H (SR fun _ K11=>Rm rfl (Rc rfl (Rm rfl ?_)));clear H;intro a H;refine s_split H 27 rfl ?_ ?_
 ·intro h27
  try have p27:=dT h27
  refine kH H (YM h27 rfl (YM h27 rfl ?_));clear H;intro a H;refine s_callv0 H (wg H rfl rfl h27) rfl rfl (hf i (Nat.lt_succ_self _) _ _ (fun b o h=>by first|exact hm21 b o (hm17 b o (hm8 b o h))|(exfalso;omega)) H.hp.ro) rfl ?_;clear H;rintro v30 G30 a w rfl hm30 H;refine kH H (YM h27 rfl (YM h27 rfl ?_));clear H;intro a H;refine s_sub _ H (wg H rfl rfl h27) rfl rfl rfl (by omega) (by omega) rfl ?_;clear H;intro a H;rw [show ((i:Int) - 1)=((i - 1:Nat):Int) by omega] at H;refine s_callv0 H (wg H rfl rfl h27) rfl rfl (hf (i - 1) (by omega) _ _ (fun b o h=>by first|exact hm30 b o (hm21 b o (hm17 b o (hm8 b o h)))|(exfalso;omega)) H.hp.ro) rfl ?_;clear H;rintro v34 G34 a w rfl hm34 H;refine kH H (YC h27 rfl (Pt h27 rfl (Ra rfl (Kz K11 ?_))));clear H K11;intro a H;refine c_cond H rfl ?_ ?_
  ·intro h24
   try have p24:=dT h24
   refine kP H (SR fun _ K12=>Ra rfl (Kz K12 ?_));clear H K12;intro a H;refine lr H Tryz.results121 rfl ?_
   exact H.hp.ret (congrArg vi (by unfold incE;(repeat' split) <;> first|rfl|(exfalso;simp_all;done)|(exfalso;simp_all;omega)))
  intro h24
  try have p24:=dF h24
  refine kP H (Kc K2 (SR fun _ K13=>Ra rfl (Kz K13 ?_)));clear H K2 K13;intro a H;refine lr H Tryz.results121 rfl ?_
  exact H.hp.ret (congrArg vi (by unfold incE;(repeat' split) <;> first|rfl|(exfalso;simp_all;done)|(exfalso;simp_all;omega)))
 intro h27
 try have p27:=dF h27
 refine kH H (Ks h27 rfl (Ks h27 rfl (Ks h27 rfl (Ks h27 rfl (Ks h27 rfl (Ks h27 rfl (Ks h27 rfl (Ks h27 rfl (Pf h27 rfl (Ra rfl (Kz K11 ?_)))))))))));clear H K11;intro a H;refine c_cond_f H rfl rfl ?_;refine kP H (Kc K2 (SR fun _ K14=>Ra rfl (Kz K14 ?_)));clear H K2 K14;intro a H;refine lr H Tryz.results121 rfl ?_
 exact H.hp.ret (congrArg vi (by unfold incE;(repeat' split) <;> first|rfl|(exfalso;simp_all;done)|(exfalso;simp_all;omega)))
end
section
open Go.RowKit
theorem en65nam:∀ args w,(callFunc 65 args).run Tryz.prog w=.ok (.enter 65 args) w:=enters Tryz.func65 rfl (by kernel_rfl)
theorem en52nam:∀ args w,(callFunc 52 args).run Tryz.prog w=.ok (.enter 52 args) w:=enters Tryz.func52 rfl (by kernel_rfl)
def autS (s:ByteArray):Bool:=decide (1≤s.size∧s.size≤40) && validS s
theorem author_spec (G:GH) (w0:World) (hG:Hold G w0) (s:ByteArray) (hs:s.size < 4611686018427387904):Calls Tryz.prog 127 #[.string s] w0 (Ret w0 G fun u G'=>u=.bool (autS s)∧G=G'):=by
 refine eN [(0,_)] Tryz.func127 rfl Tryz.ntmps127 rfl rfl hG ?_;intro a H;refine kP H (SR fun _ K1=>Ra rfl (Kz K1 (SR fun _ K2=>Rm rfl (Rv un9cp rfl (Rc rfl (Rm rfl ?_))))));clear H K1;intro a H;refine s_split H 6 rfl ?_ ?_
 ·intro h6
  try have p6:=dT h6
  refine kH H (YM h6 rfl ?_);clear H;intro a H;refine s_lens un9cp H (wg H rfl rfl h6) rfl rfl ?_;clear H;intro a H;refine kH H (YC h6 rfl (Pt h6 rfl (Rm rfl ?_)));clear H;intro a H;refine s_split H 11 rfl ?_ ?_
  ·intro h11
   try have p11:=dT h11
   refine kH H (YM h11 rfl ?_);clear H;intro a H;refine s_call en132cp H (wg H rfl rfl h11) rfl (valid_spec _ _ H.hp.ro s hs) rfl ?_;clear H;rintro v13 _ a w ⟨rfl,rfl⟩ - H;refine kH H (Pt h11 rfl (Ra rfl (Kz K2 ?_)));clear H K2;intro a H;refine lr H Tryz.results127 rfl ?_;exact H.hp.ret ⟨congrArg Value.bool (by unfold autS;first|(simp_all;done)|(simp_all;omega)),rfl⟩
  intro h11
  try have p11:=dF h11
  refine kH H (Ks h11 rfl (Ks h11 rfl (Pf h11 rfl (Ra rfl (Kz K2 ?_)))));clear H K2;intro a H;refine lr H Tryz.results127 rfl ?_;exact H.hp.ret ⟨congrArg Value.bool (by unfold autS;first|(simp_all;done)|(simp_all;omega)),rfl⟩
 intro h6
 try have p6:=dF h6
 refine kH H (Ks h6 rfl (Ks h6 rfl (Ks h6 rfl (Pf h6 rfl (Rm rfl (Ks rfl rfl (Ks rfl rfl (Pf rfl rfl (Ra rfl (Kz K2 ?_))))))))));clear H K2;intro a H;refine lr H Tryz.results127 rfl ?_;exact H.hp.ret ⟨congrArg Value.bool (by unfold autS;first|(simp_all;done)|(simp_all;omega)),rfl⟩
theorem author13_spec (G:GH) (w0:World) (hG:Hold G w0) (s:ByteArray) (hs:s.size < 4611686018427387904):Calls Tryz.prog 58 #[.string s] w0 (Ret w0 G fun u G'=>u=.bool (autS s)∧G=G'):=by
 refine eN [(0,_)] Tryz.func58 rfl Tryz.ntmps58 rfl rfl hG ?_;intro a H;refine kP H (SR fun _ K1=>Ra rfl (Kz K1 (SR fun _ K2=>Rm rfl ?_)));clear H K1;intro a H;refine s_call en132cp H wn rfl (valid_spec _ _ H.hp.ro s hs) rfl ?_;clear H;rintro v4 _ a w ⟨rfl,rfl⟩ - H;refine kH H (Rm rfl ?_);clear H;intro a H;refine s_split H 5 rfl ?_ ?_
 ·intro h5
  try have p5:=dT h5
  refine kH H (YM h5 rfl ?_);clear H;intro a H;refine s_lens un9cp H (wg H rfl rfl h5) rfl rfl ?_;clear H;intro a H;refine kH H (YC h5 rfl (Pt h5 rfl (Rm rfl ?_)));clear H;intro a H;refine s_split H 10 rfl ?_ ?_
  ·intro h10
   try have p10:=dT h10
   refine kH H (YM h10 rfl ?_);clear H;intro a H;refine s_lens un9cp H (wg H rfl rfl h10) rfl rfl ?_;clear H;intro a H;refine kH H (YC h10 rfl (Pt h10 rfl (Ra rfl (Kz K2 ?_))));clear H K2;intro a H;refine lr H Tryz.results58 rfl ?_;refine H.hp.ret ⟨congrArg Value.bool ?_,rfl⟩
   unfold autS
   cases hvs:validS s <;> simp_all
   all_goals (first|omega|(rw [Bool.eq_iff_iff];simp;omega))
  intro h10
  try have p10:=dF h10
  refine kH H (Ks h10 rfl (Ks h10 rfl (Ks h10 rfl (Pf h10 rfl (Ra rfl (Kz K2 ?_))))));clear H K2;intro a H;refine lr H Tryz.results58 rfl ?_;refine H.hp.ret ⟨congrArg Value.bool ?_,rfl⟩
  unfold autS
  cases hvs:validS s <;> simp_all
  all_goals (first|omega|(rw [Bool.eq_iff_iff];simp;omega))
 intro h5
 try have p5:=dF h5
 refine kH H (Ks h5 rfl (Ks h5 rfl (Ks h5 rfl (Pf h5 rfl (Rm rfl (Ks rfl rfl (Ks rfl rfl (Ks rfl rfl (Pf rfl rfl (Ra rfl (Kz K2 ?_)))))))))));clear H K2;intro a H;refine lr H Tryz.results58 rfl ?_;refine H.hp.ret ⟨congrArg Value.bool ?_,rfl⟩
 unfold autS
 cases hvs:validS s <;> simp_all
 all_goals (first|omega|(rw [Bool.eq_iff_iff];simp;omega))
def txE (s:ByteArray):Int:=firstE [whenE (!validS s) 12,whenE (decide (1024 < (s.size:Int))) 10]
theorem two_rep {G:GH} {b:Nat} {x y:Int} (h:G b=some (.cells #[vi x,vi y] 22 (0,0))):RepV G (.sl 1 ([x,y].map fun k=>[li k])) (.slice (some ⟨b,0,none⟩) 2 2) :=
 RepV.of_row (n:=2) (cap:=2) h rfl (Nat.le_refl _) (show 2≤maxLen by decide) (List.take_of_length_le (Nat.le_refl _)) (ints_cat G [x,y])
theorem text_spec1 (G:GH) (w0:World) (hG:Hold G w0) (s:ByteArray) (hs:s.size < 4611686018427387904):Calls Tryz.prog 129 #[.string s] w0 (Ret w0 G fun u G'=>u=vi (txE s)):=by
 refine eN [(0,_)] Tryz.func129 rfl Tryz.ntmps129 rfl rfl hG ?_;intro a H;refine kP H (SR fun _ K1=>Ra rfl (Kz K1 (SR fun _ K2=>Rm rfl ?_)));clear H K1;intro a H;refine s_call en132cp H wn rfl (valid_spec _ _ H.hp.ro s hs) rfl ?_;clear H;rintro v4 _ a w ⟨rfl,rfl⟩ - H;refine kH H (Rn rfl ?_);clear H;intro a H;refine s_call en65nam H wn rfl (when_spec _ _ H.hp.ro _ 12) rfl ?_;clear H;rintro v6 _ a w ⟨rfl,rfl⟩ - H;refine kH H (Rm rfl (Rv un9cp rfl (Rc rfl ?_)));clear H;intro a H;refine s_call en65nam H wn rfl (when_spec _ _ H.hp.ro _ 10) rfl ?_;clear H;rintro v10 _ a w ⟨rfl,rfl⟩ - H;refine s_buildSlice un221fst ty22fst [_,_] [_,_] H wn rfl rfl rfl rfl rfl (by intro i q h;match i,h with|0,h=>exact h|1,h=>exact h|n+2,h=>simp at h) rfl rfl ?_;clear H;intro b11 a w hb11 H;obtain ⟨G11,hm11,hb11',H⟩:=H.giveBox;refine s_call en52nam H wn rfl (first_spec1 _ _ H.hp.ro _ _ (two_rep hb11')) rfl ?_;clear H;rintro v12 _ a w ⟨rfl,rfl⟩ - H;refine kH H (Ra rfl (Kz K2 ?_));clear H K2;intro a H;refine lr H Tryz.results129 rfl ?_;exact H.hp.ret rfl
theorem text13_spec (G:GH) (w0:World) (hG:Hold G w0) (s:ByteArray) (hs:s.size < 4611686018427387904):Calls Tryz.prog 59 #[.string s] w0 (Ret w0 G fun u G'=>u=vi (txE s)∧G=G'):=by
 refine eN [(0,_)] Tryz.func59 rfl Tryz.ntmps59 rfl rfl hG ?_;intro a H;refine kP H (SR fun _ K1=>Ra rfl (Kz K1 (SQ fun _ K2=>SB (SR fun _ K3=>Rm rfl ?_))));clear H K1;intro a H;refine s_call en132cp H wn rfl (valid_spec _ _ H.hp.ro s hs) rfl ?_;clear H;rintro v5 _ a w ⟨rfl,rfl⟩ - H;refine kH H (Rn rfl (Ra rfl (Kz K3 ?_)));clear H K3;intro a H;refine c_cond H rfl ?_ ?_
 ·intro h3
  try have p3:=dT h3
  refine kP H (SR fun _ K4=>Ra rfl (Kz K4 ?_));clear H K4;intro a H;refine lr H Tryz.results59 rfl ?_;exact H.hp.ret ⟨congrArg vi (by unfold txE;simp_all [firstE,whenE]),rfl⟩
 intro h3
 try have p3:=dF h3
 refine kP H (SR fun _ K5=>Rm rfl (Rv un9cp rfl (Rc rfl (Ra rfl (Kz K5 ?_)))));clear H K5;intro a H;refine c_cond H rfl ?_ ?_
 ·intro h7
  try have p7:=dT h7
  refine kP H (SR fun _ K6=>Ra rfl (Kz K6 ?_));clear H K6;intro a H;refine lr H Tryz.results59 rfl ?_;exact H.hp.ret ⟨congrArg vi (by unfold txE;simp_all [firstE,whenE]),rfl⟩
 intro h7
 try have p7:=dF h7
 refine kP H (Kc K2 (SR fun _ K7=>Ra rfl (Kz K7 ?_)));clear H K2 K7;intro a H;refine lr H Tryz.results59 rfl ?_;exact H.hp.ret ⟨congrArg vi (by unfold txE;simp_all [firstE,whenE]),rfl⟩
def inc13 (id before:Int) (fst:Bool):Int:=if id < 1∨1073741824 < id then 18 else if fst=false∧id=before then 7 else if fst=false∧id < before then 6 else 0
theorem inc13_spec (G:GH) (w0:World) (hG:Hold G w0) (id before:Int) (fst:Bool):Calls Tryz.prog 56 #[vi id,vi before,.bool fst] w0 (Ret w0 G fun u G'=>u=vi (inc13 id before fst)∧G=G'):=by
 refine eN [(0,_),(1,_),(2,_)] Tryz.func56 rfl Tryz.ntmps56 rfl rfl hG ?_;intro a H;refine kP H (SR fun _ K1=>Ra rfl (Kz K1 (SQ fun _ K2=>SB (SR fun _ K3=>Rm rfl (Rc rfl (Rm rfl ?_))))));clear H K1;intro a H;refine s_split H 10 rfl ?_ ?_
 ·intro h10
  try have p10:=dT h10
  refine kH H (Ks h10 rfl (Ks h10 rfl (Pt h10 rfl (Ra rfl (Kz K3 ?_)))));clear H K3;intro a H;refine c_cond_t H rfl rfl ?_;refine kP H (SR fun _ K4=>Ra rfl (Kz K4 ?_));clear H K4;intro a H;refine lr H Tryz.results56 rfl ?_
  exact H.hp.ret ⟨congrArg vi (by unfold inc13;(repeat' split) <;> first|rfl|(exfalso;simp_all;done)|(exfalso;simp_all;omega)),rfl⟩
 intro h10
 try have p10:=dF h10
 refine kH H (YM h10 rfl (YC h10 rfl (Pf h10 rfl (Ra rfl (Kz K3 ?_)))));clear H K3;intro a H;refine c_cond H rfl ?_ ?_
 ·intro h7
  try have p7:=dT h7
  refine kP H (SR fun _ K5=>Ra rfl (Kz K5 ?_));clear H K5;intro a H;refine lr H Tryz.results56 rfl ?_
  exact H.hp.ret ⟨congrArg vi (by unfold inc13;(repeat' split) <;> first|rfl|(exfalso;simp_all;done)|(exfalso;simp_all;omega)),rfl⟩
 intro h7
 try have p7:=dF h7
 refine kP H (SR fun _ K6=>Rm rfl (Rn rfl (Rm rfl ?_)));clear H;intro a H;refine s_split H 17 rfl ?_ ?_
 ·intro h17
  try have p17:=dT h17
  refine kH H (YM h17 rfl (YM h17 rfl (YC h17 rfl (Pt h17 rfl (Ra rfl (Kz K6 ?_))))));clear H K6;intro a H;refine c_cond H rfl ?_ ?_
  ·intro h14
   try have p14:=dT h14
   refine kP H (SR fun _ K7=>Ra rfl (Kz K7 ?_));clear H K7;intro a H;refine lr H Tryz.results56 rfl ?_
   exact H.hp.ret ⟨congrArg vi (by unfold inc13;(repeat' split) <;> first|rfl|(exfalso;simp_all;done)|(exfalso;simp_all;omega)),rfl⟩
  intro h14
  try have p14:=dF h14
  refine kP H (SR fun _ K8=>Rm rfl (Rn rfl (Rm rfl ?_)));clear H;intro a H;refine s_split H 25 rfl ?_ ?_
  ·intro h25
   try have p25:=dT h25
   refine kH H (YM h25 rfl (YM h25 rfl (YC h25 rfl (Pt h25 rfl (Ra rfl (Kz K8 ?_))))));clear H K8;intro a H;refine c_cond H rfl ?_ ?_
   ·intro h22
    try have p22:=dT h22
    refine kP H (SR fun _ K9=>Ra rfl (Kz K9 ?_));clear H K9;intro a H;refine lr H Tryz.results56 rfl ?_
    exact H.hp.ret ⟨congrArg vi (by unfold inc13;(repeat' split) <;> first|rfl|(exfalso;simp_all;done)|(exfalso;simp_all;omega)),rfl⟩
   intro h22
   try have p22:=dF h22
   refine kP H (Kc K2 (SR fun _ K10=>Ra rfl (Kz K10 ?_)));clear H K2 K10;intro a H;refine lr H Tryz.results56 rfl ?_
   exact H.hp.ret ⟨congrArg vi (by unfold inc13;(repeat' split) <;> first|rfl|(exfalso;simp_all;done)|(exfalso;simp_all;omega)),rfl⟩
  intro h25
  try have p25:=dF h25
  refine kH H (Ks h25 rfl (Ks h25 rfl (Ks h25 rfl (Pf h25 rfl (Ra rfl (Kz K8 ?_))))));clear H K8;intro a H;refine c_cond_f H rfl rfl ?_;refine kP H (Kc K2 (SR fun _ K11=>Ra rfl (Kz K11 ?_)));clear H K2 K11;intro a H;refine lr H Tryz.results56 rfl ?_
  exact H.hp.ret ⟨congrArg vi (by unfold inc13;(repeat' split) <;> first|rfl|(exfalso;simp_all;done)|(exfalso;simp_all;omega)),rfl⟩
 intro h17
 try have p17:=dF h17
 refine kH H (Ks h17 rfl (Ks h17 rfl (Ks h17 rfl (Pf h17 rfl (Ra rfl (Kz K6 ?_))))));clear H K6;intro a H;refine c_cond_f H rfl rfl ?_;refine kP H (SR fun _ K12=>Rm rfl (Rn rfl (Rm rfl ?_)));clear H;intro a H;refine s_split H 25 rfl ?_ ?_
 ·intro h25
  try have p25:=dT h25
  refine kH H (YM h25 rfl (YM h25 rfl (YC h25 rfl (Pt h25 rfl (Ra rfl (Kz K12 ?_))))));clear H K12;intro a H;refine c_cond H rfl ?_ ?_
  ·intro h22
   try have p22:=dT h22
   refine kP H (SR fun _ K13=>Ra rfl (Kz K13 ?_));clear H K13;intro a H;refine lr H Tryz.results56 rfl ?_
   exact H.hp.ret ⟨congrArg vi (by unfold inc13;(repeat' split) <;> first|rfl|(exfalso;simp_all;done)|(exfalso;simp_all;omega)),rfl⟩
  intro h22
  try have p22:=dF h22
  refine kP H (Kc K2 (SR fun _ K14=>Ra rfl (Kz K14 ?_)));clear H K2 K14;intro a H;refine lr H Tryz.results56 rfl ?_
  exact H.hp.ret ⟨congrArg vi (by unfold inc13;(repeat' split) <;> first|rfl|(exfalso;simp_all;done)|(exfalso;simp_all;omega)),rfl⟩
 intro h25
 try have p25:=dF h25
 refine kH H (Ks h25 rfl (Ks h25 rfl (Ks h25 rfl (Pf h25 rfl (Ra rfl (Kz K12 ?_))))));clear H K12;intro a H;refine c_cond_f H rfl rfl ?_;refine kP H (Kc K2 (SR fun _ K15=>Ra rfl (Kz K15 ?_)));clear H K2 K15;intro a H;refine lr H Tryz.results56 rfl ?_
 exact H.hp.ret ⟨congrArg vi (by unfold inc13;(repeat' split) <;> first|rfl|(exfalso;simp_all;done)|(exfalso;simp_all;omega)),rfl⟩
theorem inc13_eq (id:Nat→Int) (i:Nat):inc13 (id i) (id (i - 1)) (decide (i=0))=incE id i:=by
 unfold inc13 incE
 (repeat' split) <;> first|rfl|(exfalso;simp_all;done)|(exfalso;simp_all;omega)
/-- Whether a byte is a letter; a digit, a hyphen or an underscore; whether it may stand at a place of a name. -/
def ltrB (c:Int):Bool:=decide (97≤bitI .or .u8 c 32) && decide (bitI .or .u8 c 32≤122)
def othB (c:Int):Bool:=(decide (48≤c) && decide (c≤57)) || decide (c=45) || decide (c=95)
def nmC (s:ByteArray) (k:Nat):Bool:=ltrB (byteAt s k) || (decide (k≠0) && othB (byteAt s k))
def cpNm (s:ByteArray):Bool:=decide (1≤s.size∧s.size≤40) && (List.range s.size).all (nmC s)
theorem cpNm_spec (G:GH) (w0:World) (hG:Hold G w0) (s:ByteArray) (hs:s.size < 4611686018427387904):Calls Tryz.prog 60 #[.string s] w0 (Ret w0 G fun u G'=>u=.bool (cpNm s)∧G=G'):=by
 refine eN [(0,_)] Tryz.func60 rfl Tryz.ntmps60 rfl rfl hG ?_;intro a H;refine kP H (SR fun _ K1=>Ra rfl (Kz K1 (SQ fun _ K2=>SR fun _ K3=>Rm rfl (Rv un9cp rfl (Rc rfl (Rm rfl ?_))))));clear H K1;intro a H;refine s_split H 10 rfl ?_ ?_
 ·intro h10
  try have p10:=dT h10
  refine kH H (Ks h10 rfl (Ks h10 rfl (Ks h10 rfl (Pt h10 rfl (Kz K3 ?_)))));clear H K3;intro a H;refine c_cond_t H rfl rfl ?_;refine kP H (SR fun _ K4=>Ra rfl (Kz K4 ?_));clear H K4;intro a H;refine lr H Tryz.results60 rfl ?_;exact H.hp.ret ⟨congrArg Value.bool (by unfold cpNm;rw [decide_eq_false (by omega)];rfl),rfl⟩
 intro h10
 try have p10:=dF h10
 refine kH H (YM h10 rfl ?_);clear H;intro a H;refine s_lens un9cp H (wg H rfl rfl h10) rfl rfl ?_;clear H;intro a H;refine kH H (YC h10 rfl (Pf h10 rfl (Kz K3 ?_)));clear H K3;intro a H;refine c_cond H rfl ?_ ?_
 ·intro h14
  try have p14:=dT h14
  refine kP H (SR fun _ K5=>Ra rfl (Kz K5 ?_));clear H K5;intro a H;refine lr H Tryz.results60 rfl ?_;exact H.hp.ret ⟨congrArg Value.bool (by unfold cpNm;rw [decide_eq_false (by omega)];rfl),rfl⟩
 intro h14
 try have p14:=dF h14
 refine kP H (Kc K2 (SQ fun _ K6=>SR fun _ K7=>Rm rfl (Rv un9cp rfl (Rm rfl (Kz K7 (SB ?_))))));clear H K2 K7;intro a H;skip;refine c_loopS (ι:=Nat) (Tc:=[(0,_),(16,_)]) (Lc:=[]) (fun (gh:Nat)=>[(17,vi gh)]) (fun (gh:Nat)=>[]) (fun (gh:Nat)=>G) (fun (gh:Nat)=>gh≤s.size∧(List.range gh).all (nmC s)=true) (fun (gh:Nat)=>s.size - gh) (0) (by exact (H).sub ⟨rfl,rfl,rfl,trivial⟩) ?_ ?_
 ·exact ⟨Nat.zero_le _,rfl⟩
 clear H;intro gh a w hI H;obtain ⟨k,hgh⟩:∃ x,x=gh:=⟨_,rfl⟩;subst hgh;obtain ⟨hk,hall⟩:=hI;dsimp only [List.cons_append,List.nil_append,List.append_nil] at H;refine kP H (SR fun _ K8=>Rc rfl (Kz K8 (SQ fun _ K9=>?_)));clear H K8;intro a H;refine c_cond H rfl ?_ ?_
 ·intro h18
  try have p18:=dT h18
  have hk2:k < s.size:=by omega
  refine kP H (Kc K9 (SQ fun _ K10=>SB (SR fun _ K11=>Rm rfl (Ra rfl (Kz K11 (SR fun _ K12=>Rm rfl (Rm rfl ?_)))))));clear H K9 K11;intro a H;refine s_indexs k un9cp H wn rfl rfl rfl (by omega) rfl ?_;clear H;intro a H;rw [← byteAt_lt] at H;refine s_bits rfl H wn rfl rfl rfl ?_;clear H;intro a H;refine kH H (Ra rfl (Kz K12 ?_));clear H K12;intro a H;refine c_seqJ (ι:=Bool) (Tc:=[(0,_),(3,_),(16,_),(17,_)]) (Lc:=[]) (fun (gh:Bool)=>[(5,.bool gh)]) (fun (gh:Bool)=>[]) (fun (gh:Bool)=>G) (fun (gh:Bool)=>gh=ltrB (byteAt s k)) (by exact (H).sub ⟨rfl,rfl,rfl,rfl,trivial⟩) ?_ ?_
  ·skip;refine kP H (SC (Rm rfl (Rc rfl (Rm rfl ?_))));clear H;intro a H;refine s_split H 26 rfl ?_ ?_
   ·intro h26
    try have p26:=dT h26
    refine kH H (YM h26 rfl (YC h26 rfl (Pt h26 rfl (Ra rfl ?_))));clear H;intro a H;refine wl_nil ?_;refine ⟨_,by exact (H).sub ⟨rfl,rfl,rfl,rfl,rfl,trivial⟩,?_⟩
    unfold ltrB;first|(simp_all;done)|(simp_all;omega)
   intro h26
   try have p26:=dF h26
   refine kH H (Ks h26 rfl (Ks h26 rfl (Pf h26 rfl (Ra rfl ?_))));clear H;intro a H;refine wl_nil ?_;refine ⟨_,by exact (H).sub ⟨rfl,rfl,rfl,rfl,rfl,trivial⟩,?_⟩
   unfold ltrB;first|(simp_all;done)|(simp_all;omega)
  clear H;intro gh a w hI H;obtain ⟨lt,hgh⟩:∃ x,x=gh:=⟨_,rfl⟩;subst hgh;have hlt:=hI;dsimp only [List.cons_append,List.nil_append,List.append_nil] at H;refine c_seqJ (ι:=Bool) (Tc:=[(0,_),(3,_),(5,_),(16,_),(17,_)]) (Lc:=[]) (fun (gh:Bool)=>[(6,.bool gh)]) (fun (gh:Bool)=>[]) (fun (gh:Bool)=>G) (fun (gh:Bool)=>gh=othB (byteAt s k)) (by exact (H).sub ⟨rfl,rfl,rfl,rfl,rfl,trivial⟩) ?_ ?_
  ·skip;refine kP H (SC (Rm rfl (Rm rfl ?_)));clear H;intro a H;refine s_indexs k un9cp H wn rfl rfl rfl (by omega) rfl ?_;clear H;intro a H;rw [← byteAt_lt] at H;refine kH H (Rc rfl (Rm rfl ?_));clear H;intro a H;refine s_split H 34 rfl ?_ ?_
   ·intro h34
    try have p34:=dT h34
    refine kH H (YM h34 rfl (YM h34 rfl ?_));clear H;intro a H;refine s_indexs k un9cp H (wg H rfl rfl h34) rfl rfl rfl (by omega) rfl ?_;clear H;intro a H;rw [← byteAt_lt] at H;refine kH H (YC h34 rfl (Pt h34 rfl (Rm rfl ?_)));clear H;intro a H;refine s_split H 40 rfl ?_ ?_
    ·intro h40
     try have p40:=dT h40
     refine kH H (Ks h40 rfl (Ks h40 rfl (Ks h40 rfl (Ks h40 rfl (Pt h40 rfl (Rm rfl (Ks rfl rfl (Ks rfl rfl (Ks rfl rfl (Ks rfl rfl (Pt rfl rfl (Ra rfl ?_))))))))))));clear H;intro a H;refine wl_nil ?_;refine ⟨_,by exact (H).sub ⟨rfl,rfl,rfl,rfl,rfl,rfl,trivial⟩,?_⟩
     unfold othB;first|(simp_all;done)|(simp_all;omega)
    intro h40
    try have p40:=dF h40
    refine kH H (YM h40 rfl (YM h40 rfl ?_));clear H;intro a H;refine s_indexs k un9cp H (wg H rfl rfl h40) rfl rfl rfl (by omega) rfl ?_;clear H;intro a H;rw [← byteAt_lt] at H;refine kH H (YC h40 rfl (Pf h40 rfl (Rm rfl ?_)));clear H;intro a H;refine s_split H 46 rfl ?_ ?_
    ·intro h46
     try have p46:=dT h46
     refine kH H (Ks h46 rfl (Ks h46 rfl (Ks h46 rfl (Ks h46 rfl (Pt h46 rfl (Ra rfl ?_))))));clear H;intro a H;refine wl_nil ?_;refine ⟨_,by exact (H).sub ⟨rfl,rfl,rfl,rfl,rfl,rfl,trivial⟩,?_⟩
     unfold othB;first|(simp_all;done)|(simp_all;omega)
    intro h46
    try have p46:=dF h46
    refine kH H (YM h46 rfl (YM h46 rfl ?_));clear H;intro a H;refine s_indexs k un9cp H (wg H rfl rfl h46) rfl rfl rfl (by omega) rfl ?_;clear H;intro a H;rw [← byteAt_lt] at H;refine kH H (YC h46 rfl (Pf h46 rfl (Ra rfl ?_)));clear H;intro a H;refine wl_nil ?_;refine ⟨_,by exact (H).sub ⟨rfl,rfl,rfl,rfl,rfl,rfl,trivial⟩,?_⟩
    unfold othB;first|(simp_all;done)|(simp_all;omega)
   intro h34
   try have p34:=dF h34
   refine kH H (Ks h34 rfl (Ks h34 rfl (Ks h34 rfl (Ks h34 rfl (Pf h34 rfl (Rm rfl ?_))))));clear H;intro a H;(iterate 2 refine s_move H (wg H rfl rfl rfl) rfl rfl ?_;clear H;intro a H);refine s_indexs k un9cp H (wg H rfl rfl rfl) rfl rfl rfl (by omega) rfl ?_;clear H;intro a H;rw [← byteAt_lt] at H;refine s_cmp H (wg H rfl rfl rfl) rfl rfl rfl rfl ?_;clear H;intro a H;refine kH H (Pf rfl rfl (Rm rfl ?_));clear H;intro a H;refine s_split H 46 rfl ?_ ?_
   ·intro h46
    try have p46:=dT h46
    refine kH H (Ks h46 rfl (Ks h46 rfl (Ks h46 rfl (Ks h46 rfl (Pt h46 rfl (Ra rfl ?_))))));clear H;intro a H;refine wl_nil ?_;refine ⟨_,by exact (H).sub ⟨rfl,rfl,rfl,rfl,rfl,rfl,trivial⟩,?_⟩
    unfold othB;first|(simp_all;done)|(simp_all;omega)
   intro h46
   try have p46:=dF h46
   refine kH H (YM h46 rfl (YM h46 rfl ?_));clear H;intro a H;refine s_indexs k un9cp H (wg H rfl rfl h46) rfl rfl rfl (by omega) rfl ?_;clear H;intro a H;rw [← byteAt_lt] at H;refine kH H (YC h46 rfl (Pf h46 rfl (Ra rfl ?_)));clear H;intro a H;refine wl_nil ?_;refine ⟨_,by exact (H).sub ⟨rfl,rfl,rfl,rfl,rfl,rfl,trivial⟩,?_⟩
   unfold othB;first|(simp_all;done)|(simp_all;omega)
  clear H;intro gh a w hI H;obtain ⟨ot,hgh⟩:∃ x,x=gh:=⟨_,rfl⟩;subst hgh;have hot:=hI;dsimp only [List.cons_append,List.nil_append,List.append_nil] at H;refine kP H (SR fun _ K13=>Rm rfl (Rn rfl (Rm rfl ?_)));clear H;intro a H;refine s_split H 54 rfl ?_ ?_
  ·intro h54
   try have p54:=dT h54
   refine kH H (YM h54 rfl (YC h54 rfl (YM h54 rfl ?_)));clear H;intro a H;refine s_split H 57 rfl ?_ ?_
   ·intro h57
    try have p57:=dT h57
    refine kH H (Ks h57 rfl (Ks h57 rfl (PT h54 h57 rfl (Pt h54 rfl (Kz K13 ?_)))));clear H K13;intro a H;refine c_cond_t H rfl rfl ?_;refine kP H (SR fun _ K14=>Ra rfl (Kz K14 ?_));clear H K14;intro a H;refine lr H Tryz.results60 rfl ?_
    first
     | exact H.hp.ret ⟨congrArg Value.bool (by
       unfold cpNm
       rw [show k=s.size by omega] at hall
       rw [hall,decide_eq_true (by omega)];rfl),rfl⟩
     | exact H.hp.ret ⟨congrArg Value.bool (by
       unfold cpNm
       rw [show (List.range s.size).all (nmC s)=false from List.all_eq_false.2 ⟨k,by simpa using hk2,by unfold nmC;simp_all⟩,Bool.and_false]),rfl⟩
   intro h57
   try have p57:=dF h57
   refine kH H (YM h57 rfl (YN h57 rfl (PF h54 h57 rfl (Pt h54 rfl (Kz K13 ?_)))));clear H K13;intro a H;refine c_cond H rfl ?_ ?_
   ·intro h61
    try have p61:=dT h61
    refine kP H (SR fun _ K15=>Ra rfl (Kz K15 ?_));clear H K15;intro a H;refine lr H Tryz.results60 rfl ?_
    first
     | exact H.hp.ret ⟨congrArg Value.bool (by
       unfold cpNm
       rw [show k=s.size by omega] at hall
       rw [hall,decide_eq_true (by omega)];rfl),rfl⟩
     | exact H.hp.ret ⟨congrArg Value.bool (by
       unfold cpNm
       rw [show (List.range s.size).all (nmC s)=false from List.all_eq_false.2 ⟨k,by simpa using hk2,by unfold nmC;simp_all⟩,Bool.and_false]),rfl⟩
   intro h61
   try have p61:=dF h61
   refine kP H (Kc K10 (SC (Rd rfl (Rm rfl ?_))));clear H K10;intro a H;refine wl_nil ?_;refine loop_end ((k+1)) (by exact (H).sub ⟨rfl,rfl,rfl,trivial⟩) ?_ ?_
   ·exact ⟨by omega,by rw [List.range_succ,List.all_append,hall];simp [nmC];simp_all⟩
   first|omega|(dsimp only;omega)
  intro h54
  try have p54:=dF h54
  refine kH H (Ks h54 rfl (Ks h54 rfl (Ks h54 rfl (Ku rfl (Ku rfl (Ks h54 rfl (Pf h54 rfl (Kz K13 ?_))))))));clear H K13;intro a H;refine c_cond_f H rfl rfl ?_;refine kP H (Kc K10 (SC (Rd rfl (Rm rfl ?_))));clear H K10;intro a H;refine wl_nil ?_;refine loop_end ((k+1)) (by exact (H).sub ⟨rfl,rfl,rfl,trivial⟩) ?_ ?_
  ·exact ⟨by omega,by rw [List.range_succ,List.all_append,hall];simp [nmC];simp_all⟩
  first|omega|(dsimp only;omega)
 intro h18
 try have p18:=dF h18
 refine c_exit ?_;refine K6 _ _ ?_;clear K6;refine kP H (SR fun _ K16=>Ra rfl (Kz K16 ?_));clear H K16;intro a H;refine lr H Tryz.results60 rfl ?_
 first
  | exact H.hp.ret ⟨congrArg Value.bool (by
    unfold cpNm
    rw [show k=s.size by omega] at hall
    rw [hall,decide_eq_true (by omega)];rfl),rfl⟩
  | exact H.hp.ret ⟨congrArg Value.bool (by
    unfold cpNm
    rw [show (List.range s.size).all (nmC s)=false from List.all_eq_false.2 ⟨k,by simpa using hk2,by unfold nmC;simp_all⟩,Bool.and_false]),rfl⟩
end
section
open Go.RowKit
section
variable {N:Nat} {D:List Deferred} {w0:World} {F:Nat→Prop} {G0 G:GH} {L:OL} {T:List (Nat × Value)}
variable {r:Option Nat} {P:Program} {ops:Array Oper} {Q:Exit→Act→World→Prop} {rest:List Oper} {a:Act} {w:World}
variable {d:Nat} {ty:TypeId} {pos:String} {aft:Array Edge} {g:Option (Nat × Bool)}
end
end
section
open Go.RowKit
section
variable {N:Nat} {D:List Deferred} {w0:World} {F:Nat→Prop} {G0 G:GH} {L:OL} {T T':List (Nat × Value)}
variable {r:Option Nat} {P:Program} {Q:Exit→Act→World→Prop} {l:List Oper} {a a':Act} {w w':World} {ε:Type}
/-- What the slots of the operations that are done hold. -/
def Vals (l:List Oper) (pr:ε→Nat→Value→Prop) (T:List (Nat × Value)) (S:Nat→Bool) (E:ε) (T':List (Nat × Value)):Prop :=
 (∀ t v,lk T t=some v→lk T' t=some v)∧∀ i d,S i=true→dstOf l i=some d→∃ v,lk T' d=some v∧pr E i v
theorem Vals.put {pr:ε→Nat→Value→Prop} {S:Nat→Bool} {E E':ε} {i d:Nat} {v:Value} (h:Vals l pr T S E T') (hok:dstOk l T=true) (hi:dstOf l i=some d) (hv:pr E' i v) (hE:∀ j u,j≠i→pr E j u→pr E' j u):Vals l pr T (setT S i) E' ((d,v) :: T'):=by
 have hil:=dstOf_lt hi
 have hok1:=List.all_eq_true.1 hok i (List.mem_range.2 hil)
 rw [dst1,hi] at hok1
 simp only [Bool.and_eq_true,Option.isNone_iff_eq_none,List.all_eq_true,List.mem_range] at hok1
 refine ⟨fun t u ht=>?_,fun j e hj he=>?_⟩
 ·rw [lk_cons_ne (fun e=>by subst e;rw [hok1.1] at ht;cases ht)];exact h.1 t u ht
 ·by_cases hji:j=i
  ·subst hji;rw [hi] at he;cases he;exact ⟨v,lk_cons_self _ _ _,hv⟩
  ·have hSj:S j=true:=by unfold setT at hj;rwa [if_neg hji] at hj
   obtain ⟨u,hu1,hu2⟩:=h.2 j e hSj he
   have hne:d≠e:=by
    intro e';subst e'
    have h2:=hok1.2 j (dstOf_lt he)
    have hb:Nat.beq i j=false:=beq_no (fun h=>hji h.symm)
    rw [hb,he] at h2
    simp at h2
   exact ⟨u,by rw [lk_cons_ne hne];exact hu1,hE j u hji hu2⟩
theorem Vals.add {pr:ε→Nat→Value→Prop} {S:Nat→Bool} {E:ε} (h:Vals l pr T S E T') {t:Nat} {u:Value} (hu:lk T' t=some u):Vals l pr T S E ((t,u) :: T'):=by
 have e:∀ s v,lk T' s=some v→lk ((t,u) :: T') s=some v:=fun s v hs=>by
  by_cases hst:t=s
  ·subst hst;rw [hu] at hs;cases hs;exact lk_cons_self _ _ _
  ·rw [lk_cons_ne hst];exact hs
 exact ⟨fun s v hs=>e s v (h.1 s v hs),fun i d hi hd=>by
  obtain ⟨v,h1,h2⟩:=h.2 i d hi hd
  exact ⟨v,e d v h1,h2⟩⟩
end
end
section
open Go.RowKit
section
variable {N:Nat} {D:List Deferred} {w0:World} {F:Nat→Prop} {G0 G G1 G2:GH} {L L1:OL} {T Xs:List (Nat × Value)}
variable {r:Option Nat} {P:Program} {Q:Exit→Act→World→Prop} {l:List Oper} {a a':Act} {w w':World}
theorem c_drawG {id:Nat} (hm:P.follows .mixedOrders=true) (clo:List (List Nat)) (B:List Nat) (hk:drawOk l clo=true) (hB:tailOk l clo B=true) (X:(Nat→Bool)→Act→World→Prop) (h0:X (fun _=>false) a w.drew)
  (hstep:∀ i o S a w,l[i]?=some o→B.contains i=false→S i=false→(∀ j∈clo.getD i [],S j=true)→(∀ j,j < l.length→i∈clo.getD j []→S j=false)→X S a w→WL r P l.toArray (fun e a' w'=>e=.normal∧X (setT S i) a' w') [o] a w)
  (hend:∀ S a w,(∀ i,i < l.length→B.contains i=false→S i=true)→(∀ i,B.contains i=true→S i=false)→X S a w→WL r P l.toArray (fun e a w=>e=.normal∧Q .normal a w) (opsAt l B) a w):WP r P (.region id l.toArray true) Q a w:=by
 have hB1:∀ p b,B[p]?=some b→b < l.length∧∀ i,i < l.length→(B.contains i=false∨(B.take p).contains i=true)→i∈clo.getD b []:=by
  intro p b hp
  simp only [tailOk,Bool.and_eq_true] at hB
  have h1:=List.all_eq_true.1 hB.1 p (List.mem_range.2 (List.getElem?_eq_some_iff.1 hp).1)
  rw [hp] at h1
  simp only [Bool.and_eq_true,List.all_eq_true,List.mem_range] at h1
  refine ⟨Eq.mp Nat.blt_eq h1.1,fun i hi hor=>?_⟩
  have h2:=h1.2 i hi
  rcases hor with h3|h3
  ·have h4:i∉B:=by simpa using h3
   simpa [h4] using h2
  ·have h4:i∈B.take p:=by simpa using h3
   simpa [h4] using h2
 have hB2:∀ i,i < l.length→B.contains i=false→∀ j∈clo.getD i [],B.contains j=false:=by
  intro i hi hb j hj
  simp only [tailOk,Bool.and_eq_true] at hB
  have h1:=List.all_eq_true.1 hB.2 i (List.mem_range.2 hi)
  rw [hb] at h1
  simp only [Bool.false_or,List.all_eq_true] at h1
  simpa using h1 j hj
 refine c_draw hm clo hk (fun S a w=>((∀ i,B.contains i=true→S i=false)∧X S a w) ∨
   ∃ p,(∀ i,i < l.length→B.contains i=false→S i=true)∧(∀ i,(B.take p).contains i=true→S i=true)∧(∀ q b,B[q]?=some b→p≤q→S b=false)∧WL r P l.toArray (fun e a w=>e=.normal∧Q .normal a w) (opsAt l (B.drop p)) a w)
  (.inl ⟨fun _ _=>rfl,h0⟩) ?_ ?_
 ·intro i o S a w ho hX hSi hclo hdesc
  have hil:i < l.length:=(List.getElem?_eq_some_iff.1 ho).1
  by_cases hbi:B.contains i=true
  ·-- an operation of the tail: all that stands ahead of it is done
   obtain ⟨p0,hp0⟩:=List.getElem?_of_mem (by simpa using hbi:i∈B)
   have hall:∀ j,j < l.length→B.contains j=false→S j=true:=fun j hj hb=>hclo j ((hB1 p0 i hp0).2 j hj (.inl hb))
   have hphase:∃ p,(∀ i,(B.take p).contains i=true→S i=true)∧(∀ q b,B[q]?=some b→p≤q→S b=false)∧WL r P l.toArray (fun e a w=>e=.normal∧Q .normal a w) (opsAt l (B.drop p)) a w:=by
    rcases hX with ⟨h1,hD⟩|⟨p,_,h2,h3,h4⟩
    ·exact ⟨0,by simp,fun q b hq _=>h1 b (by simpa using List.mem_of_getElem? hq),hend S a w hall h1 hD⟩
    ·exact ⟨p,h2,h3,h4⟩
   obtain ⟨p,h2,h3,h4⟩:=hphase
   -- i is the next one
   have hpp:p≤p0:=by
    rcases Nat.lt_or_ge p0 p with hlt|hge
    ·have:(B.take p).contains i=true:=by
      simp only [List.contains_iff_mem]
      exact List.mem_of_getElem? (i:=p0) (by rw [List.getElem?_take,if_pos hlt];exact hp0)
     rw [h2 i this] at hSi;cases hSi
    ·exact hge
   have hplt:p < B.length:=by have:=(List.getElem?_eq_some_iff.1 hp0).1;omega
   have hbp:B[p]?=some B[p]:=List.getElem?_eq_getElem hplt
   have heq:B[p]=i:=by
    rcases Nat.lt_or_ge p p0 with hlt|hge
    ·exfalso
     have hin:B[p]∈clo.getD i []:=(hB1 p0 i hp0).2 _ (hB1 p _ hbp).1 (.inr (by
      simp only [List.contains_iff_mem]
      exact List.mem_of_getElem? (i:=p) (by rw [List.getElem?_take,if_pos hlt];exact hbp)))
     have:=hclo _ hin
     rw [h3 p _ hbp (Nat.le_refl _)] at this;cases this
    ·have:p=p0:=by omega
     subst this
     rw [hbp] at hp0;simpa using hp0
   have hdrop:B.drop p=i :: B.drop (p+1):=by rw [List.drop_eq_getElem_cons hplt,heq]
   have hops:opsAt l (B.drop p)=o :: opsAt l (B.drop (p+1)):=by rw [hdrop];simp [opsAt,ho]
   rw [hops] at h4
   refine wl_split (fun a' w' h5=>.inr ⟨p+1,fun j hj hb=>?_,fun j hj=>?_,fun q b hq hpq=>?_,h5⟩) h4
   ·unfold setT;split
    ·rfl
    ·exact hall j hj hb
   ·unfold setT;split
    ·rfl
    ·rename_i hne
     refine h2 j ?_
     simp only [List.contains_iff_mem] at hj ⊢
     rw [List.take_succ_eq_append_getElem hplt,List.mem_append] at hj
     rcases hj with hj|hj
     ·exact hj
     ·simp only [List.mem_singleton] at hj;exact absurd (hj.trans heq) hne
   ·unfold setT
    rw [if_neg ?_]
    ·exact h3 q b hq (by omega)
    ·rintro rfl
     -- i would stand twice in B: it would come ahead of itself
     have h6:=(hB1 q b hq).2 b (hB1 q b hq).1 (.inr (by
      simp only [List.contains_iff_mem]
      exact List.mem_of_getElem? (i:=p) (by rw [List.getElem?_take,if_pos (by omega)];rw [hbp,heq])))
     rw [hclo _ h6] at hSi;cases hSi
  ·have hbi':B.contains i=false:=by cases h:B.contains i with|false=>rfl|true=>exact absurd h hbi
   rcases hX with ⟨h1,hX⟩|⟨p,h0,_,_,_⟩
   ·refine wl_mono (fun e a' w' ⟨he,hD⟩=>⟨he,.inl ⟨fun j hj=>?_,hD⟩⟩) (hstep i o S a w ho hbi' hSi hclo hdesc hX)
    unfold setT
    rw [if_neg (by rintro rfl;rw [hbi'] at hj;cases hj)]
    exact h1 j hj
   ·rw [h0 i hil hbi'] at hSi;cases hSi
 ·intro S a w hall hX
  rcases hX with ⟨h1,hD⟩|⟨p,_,_,h3,h4⟩
  ·have hnil:B=[]:=by
    cases B with
    | nil=>rfl
    | cons b B=>have h5:=h1 b (by simp);rw [hall b (hB1 0 b rfl).1] at h5;cases h5
   subst hnil
   exact (hend S a w (fun j hj _=>hall j hj) h1 hD).2
  ·have hnil:B.drop p=[]:=by
    cases hd:B.drop p with
    | nil=>rfl
    | cons b B' =>
     have hb:B[p]?=some b:=by
      have:=congrArg (fun x:List Nat=>x[0]?) hd
      simpa using this
     have h5:=h3 p b hb (Nat.le_refl _)
     rw [hall b (hB1 p b hb).1] at h5;cases h5
   rw [hnil] at h4
   exact h4.2
/-- The operation that makes what is owned more. -/
theorem draw_mid {pr:Nat→Value→GH→Prop} {S:Nat→Bool} {i d:Nat} {v:Value} (hok:dst1 l T i=true) (hi:dstOf l i=some d) 
  (HT:St N D w0 F G0 G1 L T a w) (Hb:St N D w0 F G0 G1 L (Xs++full N a) a w) (hG:∀ k o,G k=some o→G1 k=some o) (hv:∀ j d,j≠i→S j=true→dstOf l j=some d→∃ v,a.tmps[d]?=some v∧pr j v G1)
  (hp:pr i v G1) (H:St N D w0 F G0 G1 L1 ((d,v) :: (Xs++full N a)) a' w'):DX N D w0 F G0 G L1 T l pr (setT S i) a' w':=by
 have hil:i < l.length:=dstOf_lt hi
 have hok1:=hok
 rw [dst1,hi] at hok1
 simp only [Bool.and_eq_true,Option.isNone_iff_eq_none,List.all_eq_true,List.mem_range] at hok1
 have hsame:∀ t,t≠d→a'.tmps[t]?=a.tmps[t]?:=by
  intro t ht
  by_cases hlt:t < N
  ·have h1:∃ u,lk (Xs++full N a) t=some u:=by
    rw [lk_append]
    cases lk Xs t with
    | some u=>exact ⟨u,rfl⟩
    | none=>exact ⟨_,lk_full a hlt⟩
   obtain ⟨u,hu⟩:=h1
   rw [Hb.get t u hu,H.get t u (by rw [lk_cons_ne (Ne.symm ht)];exact hu)]
  ·rw [Array.getElem?_eq_none (by rw [H.asz];omega),Array.getElem?_eq_none (by rw [Hb.asz];omega)]
 refine ⟨G1,hG,⟨H.asz,fun t u ht=>?_,H.dfr,H.hp⟩,fun j e hj he=>?_⟩
 ·rw [hsame t (fun e=>by rw [e,hok1.1] at ht;cases ht)]
  exact HT.get t u ht
 ·by_cases hji:j=i
  ·subst hji
   rw [hi] at he
   simp only [Option.some.injEq] at he
   subst he
   exact ⟨v,H.get d v (lk_cons_self _ _ _),hp⟩
  ·have hSj:S j=true:=by unfold setT at hj;rwa [if_neg hji] at hj
   obtain ⟨u,hu1,hu2⟩:=hv j e hji hSj he
   have hne:e≠d:=by
    intro e'
    subst e'
    have h2:=hok1.2 j (dstOf_lt he)
    rw [beq_no (fun h=>hji h.symm),he] at h2
    simp at h2
   exact ⟨u,by rw [hsame e hne];exact hu1,hu2⟩
end
end
section
open Go.RowKit
section
variable {N:Nat} {D:List Deferred} {w0:World} {F:Nat→Prop} {G0 G G1 G2:GH} {L L1:OL} {T Xs:List (Nat × Value)}
variable {r:Option Nat} {P:Program} {Q:Exit→Act→World→Prop} {l:List Oper} {a a':Act} {w w':World}
end
end
section
open Go.RowKit
section
variable {N:Nat} {D:List Deferred} {w0:World} {F:Nat→Prop} {G0 G G1 G2:GH} {L L1 L2:OL} {T Xs:List (Nat × Value)}
variable {r:Option Nat} {P:Program} {Q:Exit→Act→World→Prop} {l:List Oper} {a a':Act} {w w':World}
end
end
section
open Go.RowKit
theorem liesS:liesAt Tryz.prog Tryz.prog.depth 321 (7 / Tryz.prog.cellsOf 321) 2 265 1=true:=by kernel_rfl
theorem ty5lsc:Ty Tryz.prog 5 1 1 [.int .u8 0] false:=⟨by kernel_rfl,by kernel_rfl⟩
/-- A scanner's block. -/
abbrev scB (b:Nat) (s:ByteArray) (i:Int) (p v q:Value) (pl e:Int):Nat × Obj:=(b,.cells #[.string s,vi i,p,v,q,vi pl,vi e] 321 (0,0))
theorem scopyNil (G:GH) (L:OL) (w0:World) (b:Nat) (s:ByteArray) (i:Int) (A:Option Addr) (n c:Nat) (B:Option Addr) (m d:Nat) (pl e:Int) (hO:Owns G (scB b s i (.pointer none) (.slice A n c) (.slice B m d) pl e :: L) w0) :
  Calls Tryz.prog 210 #[.pointer (some ⟨b,2,none⟩)] w0 (RetL w0 G (scB b s i (.pointer none) (.slice A n c) (.slice B m d) pl e :: L) fun u G' L'=>L'=scB b s i (.pointer (some ⟨b,2,none⟩)) (.slice A n c) (.slice B m d) pl e :: L∧G'=G):=by
 refine enterL (N:=20) (T:=[(0,_)]) Tryz.func210 rfl Tryz.ntmps210 rfl rfl hO ?_;intro a H;refine kP H (SR fun _ K1=>Rm rfl (Rk rfl (Rf fd265_0bld rfl (Ro ty262bld 0 rfl rfl ?_))));clear H;intro a H;refine s_eqnilp un262bld H wn rfl rfl ?_;clear H;intro a H;refine K1 _ _ ?_;clear K1;refine c_cond H rfl ?_ ?_
 ·intro h6
  try have p6:=dT h6
  refine kP H (SC (Rm rfl (Rm rfl ?_)));clear H;intro a H;refine s_toUnsafe un262bld un327bld sizB H wn rfl 0 rfl rfl rfl ?_;clear H;intro a H;refine s_noEscape (xs:=[.tmp 9]) (noEsc _) H wn rfl rfl ?_;clear H;intro a H;refine s_fromUnsafe un327bld un262bld sizB H wn rfl 0 rfl liesS rfl ?_;clear H;intro a H;refine kH H (Rk rfl (Rf fd265_0bld rfl ?_));clear H;intro a H;refine s_store ty262bld 0 (vs:=[_]) _ H wn rfl rfl rfl rfl rfl rfl rfl rfl ?_;clear H;intro w H;dsimp only [List.set,setRow] at H;refine wl_nil ?_;refine (leave0 H Tryz.results210 ?_).2;exact H.hp.retL ⟨rfl,rfl⟩
 intro h6
 try have p6:=dF h6
 exact absurd h6 (by decide)
theorem scopySelf (G:GH) (L:OL) (w0:World) (b:Nat) (s:ByteArray) (i:Int) (A:Option Addr) (n c:Nat) (B:Option Addr) (m d:Nat) (pl e:Int) (hO:Owns G (scB b s i (.pointer (some ⟨b,2,none⟩)) (.slice A n c) (.slice B m d) pl e :: L) w0) :
  Calls Tryz.prog 210 #[.pointer (some ⟨b,2,none⟩)] w0 (RetL w0 G (scB b s i (.pointer (some ⟨b,2,none⟩)) (.slice A n c) (.slice B m d) pl e :: L) fun u G' L'=>L'=scB b s i (.pointer (some ⟨b,2,none⟩)) (.slice A n c) (.slice B m d) pl e :: L∧G'=G):=by
 refine enterL (N:=20) (T:=[(0,_)]) Tryz.func210 rfl Tryz.ntmps210 rfl rfl hO ?_;intro a H;refine kP H (SR fun _ K1=>Rm rfl (Rk rfl (Rf fd265_0bld rfl (Ro ty262bld 0 rfl rfl ?_))));clear H;intro a H;refine s_eqnilp un262bld H wn rfl rfl ?_;clear H;intro a H;refine K1 _ _ ?_;clear K1;refine c_cond H rfl ?_ ?_
 ·intro h6
  try have p6:=dT h6
  exact absurd h6 (by simp)
 intro h6
 try have p6:=dF h6
 refine kP H (SR fun _ K2=>Rm rfl (Rk rfl (Rf fd265_0bld rfl (Ro ty262bld 0 rfl rfl (Rm rfl ?_)))));clear H;intro a H;refine s_neqsame un262bld sizB H wn rfl rfl rfl ?_;clear H;intro a H;refine K2 _ _ ?_;clear K2;refine c_cond H rfl ?_ ?_
 ·intro h19
  try have p19:=dT h19
  exact absurd h19 (by decide)
 intro h19
 try have p19:=dF h19
 refine c_skip ?_;refine (leave0 H Tryz.results210 ?_).2;exact H.hp.retL ⟨rfl,rfl⟩
theorem scopy_spec (G:GH) (L:OL) (w0:World) (b:Nat) (s:ByteArray) (i:Int) (p:Value) (A:Option Addr) (n c:Nat) (B:Option Addr) (m d:Nat) (pl e:Int) (hp:p=.pointer none∨p=.pointer (some ⟨b,2,none⟩)) (hO:Owns G (scB b s i p (.slice A n c) (.slice B m d) pl e :: L) w0) :
  Calls Tryz.prog 210 #[.pointer (some ⟨b,2,none⟩)] w0 (RetL w0 G (scB b s i p (.slice A n c) (.slice B m d) pl e :: L) fun u G' L'=>L'=scB b s i (.pointer (some ⟨b,2,none⟩)) (.slice A n c) (.slice B m d) pl e :: L∧G'=G):=by
 rcases hp with rfl|rfl
 ·exact scopyNil G L w0 b s i A n c B m d pl e hO
 exact scopySelf G L w0 b s i A n c B m d pl e hO
theorem wbyte_spec (G:GH) (Lp Lo:OL) (w0:World) (b:Nat) (s:ByteArray) (i:Int) (p v:Value) (B:Option Addr) (m d:Nat) (pl e:Int) (n:Nat) (xs:List Value) (c:Int) (hp:p=.pointer none∨p=.pointer (some ⟨b,2,none⟩)) (hO:Owns G (scB b s i p v (.slice B m d) pl e :: (Lp++Lo)) w0) (hrow:IsRow 5 1 v n xs Lo) (hn:n≤4294967296) :
  Calls Tryz.prog 235 #[.pointer (some ⟨b,2,none⟩),.int .u8 c] w0 (RetL w0 G (scB b s i p v (.slice B m d) pl e :: (Lp++Lo)) fun u G' L'=>∃ v' Lo',L'=scB b s i (.pointer (some ⟨b,2,none⟩)) v' (.slice B m d) pl e :: (Lp++Lo')∧IsRow 5 1 v' (n+1) (xs++[.int .u8 c]) Lo'∧G'=G):=by
 have hml:maxLen=9223372036854775807:=rfl;obtain ⟨A,c0,rfl,-,-⟩:=hrow.shape;obtain ⟨Lt,hLt⟩:∃ x,x=Lp++Lo:=⟨_,rfl⟩;rw [← hLt] at hO ⊢;refine enterL (N:=17) (T:=[(0,_),(1,_)]) Tryz.func235 rfl Tryz.ntmps235 rfl rfl hO ?_;intro a H;refine kP H (SR fun _ K1=>Ra rfl (Kz K1 (SR fun _ K2=>Rm rfl ?_)));clear H K1;intro a H;refine s_callL en210bld (Li:=[]) (L:=scB b s i p _ (.slice B m d) pl e :: Lt) H wn rfl (scopy_spec _ _ _ b s i p A n c0 B m d pl e hp (Hp.owns (Li:=[]) H.hp)) rfl ?_;clear H;rintro v6 _ L6 a w ⟨rfl,rfl⟩ hm6 H;dsimp only [List.nil_append] at H;refine K2 _ _ ?_;clear K2;refine kP H (SR fun _ K3=>Rm rfl (Rm rfl (Rk rfl (Rf fd265_1bld rfl (Ro ty263bld 0 rfl rfl (Rm rfl ?_))))));clear H;intro a H;refine s_buildSlice un263bld ty5lsc [_] [_] H wn rfl rfl rfl rfl rfl (by intro i q h;match i,h with|0,h=>exact h|n+1,h=>simp at h) rfl rfl ?_;clear H;intro b13 a w hb13 H;subst hLt;have H:=St.un (A:=[_,_]) (B:=Lp) (C:=Lo) H;refine s_append (Li:=[_,_]++Lp) (Lo:=Lo) (news:=[.int .u8 c]) un263bld ty5lsc rfl rfl H wn rfl rfl hrow rfl (H.hp.ocells 0 rfl rfl) rfl (by omega) (by omega) rfl ?_;clear H;intro v14 Lo14 a w hrw14 H;obtain ⟨A14,c14,rfl,-,-⟩:=hrw14.shape;have H:=H.assoc;dsimp only [List.cons_append,List.nil_append] at H;refine kH H (Rk rfl (Rf fd265_1bld rfl ?_));clear H;intro a H;refine s_store ty263bld 1 (vs:=[_]) _ H wn rfl rfl rfl rfl rfl rfl rfl rfl ?_;clear H;intro w H;dsimp only [List.set,setRow] at H;refine K3 _ _ ?_;clear K3;refine kP H (SR fun _ K4=>Ra rfl (Kz K4 ?_));clear H K4;intro a H;refine lr H Tryz.results235 rfl ?_;exact H.hp.retD (L':=scB b s i _ _ _ pl e :: (Lp++Lo14)) (List.sublist_cons_self _ _) ⟨_,_,rfl,hrw14,rfl⟩
theorem slen_spec (G:GH) (L:OL) (w0:World) (b:Nat) (s:ByteArray) (i:Int) (p:Value) (A:Option Addr) (n c:Nat) (B:Option Addr) (m d:Nat) (pl e:Int) (hO:Owns G (scB b s i p (.slice A n c) (.slice B m d) pl e :: L) w0) :
  Calls Tryz.prog 243 #[.pointer (some ⟨b,2,none⟩)] w0 (RetL w0 G (scB b s i p (.slice A n c) (.slice B m d) pl e :: L) fun u G' L'=>u=vi n∧L'=scB b s i p (.slice A n c) (.slice B m d) pl e :: L∧G'=G):=by
 refine enterL (N:=8) (T:=[(0,_)]) Tryz.func243 rfl Tryz.ntmps243 rfl rfl hO ?_;intro a H;refine kP H (SR fun _ K1=>Ra rfl (Kz K1 (SR fun _ K2=>Rm rfl (Rk rfl (Rf fd265_1bld rfl (Ro ty263bld 0 rfl rfl (Rl un263bld rfl (Ra rfl (Kz K2 ?_)))))))));clear H K1 K2;intro a H;refine lr H Tryz.results243 rfl ?_;exact H.hp.retL ⟨rfl,rfl,rfl⟩
theorem sreset_spec (G:GH) (L:OL) (w0:World) (b:Nat) (s:ByteArray) (i:Int) (p:Value) (A:Option Addr) (n c:Nat) (B:Option Addr) (m d:Nat) (pl e:Int) (hO:Owns G (scB b s i p (.slice A n c) (.slice B m d) pl e :: L) w0) :
  Calls Tryz.prog 244 #[.pointer (some ⟨b,2,none⟩)] w0 (RetL w0 G (scB b s i p (.slice A n c) (.slice B m d) pl e :: L) fun u G' L'=>L'=scB b s i (.pointer none) (.slice none 0 0) (.slice B m d) pl e :: L∧G'=G):=by
 refine enterL (N:=8) (T:=[(0,_)]) Tryz.func244 rfl Tryz.ntmps244 rfl rfl hO ?_;intro a H;refine kP H (SR fun _ K1=>Rm rfl (Rk rfl (Rf fd265_0bld rfl ?_)));clear H;intro a H;refine s_store ty262bld 0 (vs:=[_]) _ H wn rfl rfl rfl rfl rfl rfl rfl rfl ?_;clear H;intro w H;dsimp only [List.set,setRow] at H;refine K1 _ _ ?_;clear K1;refine kP H (SC (Rm rfl (Rk rfl (Rf fd265_1bld rfl ?_))));clear H;intro a H;refine s_store ty263bld 0 (vs:=[_]) _ H wn rfl rfl rfl rfl rfl rfl rfl rfl ?_;clear H;intro w H;dsimp only [List.set,setRow] at H;refine wl_nil ?_;refine (leave0 H Tryz.results244 ?_).2;exact H.hp.retL ⟨rfl,rfl⟩
theorem sstr_spec (G:GH) (Lp Lo:OL) (w0:World) (b:Nat) (s:ByteArray) (i:Int) (p v:Value) (B:Option Addr) (m d:Nat) (pl e:Int) (l:List UInt8) (hO:Owns G (scB b s i p v (.slice B m d) pl e :: (Lp++Lo)) w0) (hrow:IsRow 5 1 v l.length (Lib.byteCells l) Lo) (h0:l≠[]) :
  Calls Tryz.prog 175 #[.pointer (some ⟨b,2,none⟩)] w0 (RetL w0 G (scB b s i p v (.slice B m d) pl e :: (Lp++Lo)) fun u G' L'=>u=.string ⟨l.toArray⟩∧L'=scB b s i p v (.slice B m d) pl e :: Lp):=by
 rcases hrow.2 with ⟨-,h,-⟩|⟨b2,cap,cur,rfl,rfl,hc1,hc2,hc3,hc4⟩
 ·exact absurd (List.eq_nil_of_length_eq_zero h) h0
 have hl0:l.length≠0:=fun h=>h0 (List.eq_nil_of_length_eq_zero h);have hml:maxLen=9223372036854775807:=rfl;obtain ⟨Lt,hLt⟩:∃ x,x=Lp++[(b2,Obj.cells cur 5 (0,0))]:=⟨_,rfl⟩;rw [← hLt] at hO ⊢;refine enterL (N:=14) (T:=[(0,_)]) Tryz.func175 rfl Tryz.ntmps175 rfl rfl hO ?_;intro a H;refine kP H (SR fun _ K1=>Ra rfl (Kz K1 (SQ fun _ K2=>?_)));clear H K1;intro a H;have H:=H.sub (T':=[(0,_)]) ⟨rfl,trivial⟩;refine c_drawI (hmx) [[],[0],[0,1],[0,1,2],[0,1,2,3],[],[5],[5,6],[5,6,7],[5,6,7,8],(List.range 10),(List.range 11)] [10,11] (by kernel_rfl) (by kernel_rfl) (fun (ix_:Nat) (v:Value) (G:GH)=>match ix_ with|0=>v=.pointer (some ⟨b,2,none⟩)|1=>v=.pointer (some ⟨b,2,none⟩)|2=>v=.pointer (some ⟨b,3,none⟩)|3=>v=.slice (some ⟨b2,0,none⟩) l.length cap|4=>v=.pointer (some ⟨b2,0,none⟩)|5=>v=.pointer (some ⟨b,2,none⟩)|6=>v=.pointer (some ⟨b,2,none⟩)|7=>v=.pointer (some ⟨b,3,none⟩)|8=>v=.slice (some ⟨b2,0,none⟩) l.length cap|9=>v=vi l.length|_=>True) (fun _ _ _ _ _ h=>h) H ?_ ?_
 ·clear H;refine al4 ?_ ?_ ?_ ?_ (al4 ?_ ?_ ?_ ?_ (al4 ?_ ?_ ?_ ?_ allI_nil))
  ·exact Z0 rfl rfl fun _ _ _ _ _=>Rm rfl
  ·exact Z1 0 3 rfl rfl fun _ _ _ _ _=>Rk rfl
  ·exact Z1 1 4 rfl rfl fun _ _ _ _ _=>Rf fd265_1bld rfl
  ·exact Z1 2 5 rfl rfl fun _ _ _ _ _=>Ro ty263bld 0 rfl rfl
  ·refine Op1 3 6 rfl rfl fun _ a w G1 hG HT H fin=>?_;refine s_sliceData H wn rfl (by omega) rfl ?_;clear H;intro a H;exact fin H iJ rfl
  ·exact Z0 rfl rfl fun _ _ _ _ _=>Rm rfl
  ·exact Z1 5 8 rfl rfl fun _ _ _ _ _=>Rk rfl
  ·exact Z1 6 9 rfl rfl fun _ _ _ _ _=>Rf fd265_1bld rfl
  ·exact Z1 7 10 rfl rfl fun _ _ _ _ _=>Ro ty263bld 0 rfl rfl
  ·exact Z1 8 11 rfl rfl fun _ _ _ _ _=>Rl un263bld rfl
  ·exact opB rfl
  exact opB rfl
 clear H;intro a w G hGm1 H hv;obtain ⟨u7,hu7,hp7⟩:=hv 4 7 (by decide) rfl;obtain rfl:u7=.pointer (some ⟨b2,0,none⟩):=hp7;have H:=H.addS hu7;obtain ⟨u12,hu12,hp12⟩:=hv 9 12 (by decide) rfl;obtain rfl:u12=vi l.length:=hp12;have H:=H.addS hu12;clear hv;subst hLt;have H:=H.perm (List.Perm.cons _ List.perm_append_comm);dsimp only [List.cons_append,List.nil_append] at H;refine s_unsafeString (i:=1) l un306bld cellsU8 h0 (by omega) H wn rfl rfl rfl (by rw [← hc4,Nat.mul_one]) rfl ?_;clear H;intro fz a w H;dsimp only [List.set] at H;refine kH H (Ra rfl ?_);clear H;intro a H;refine wl_nil ⟨rfl,?_⟩;refine K2 _ _ ?_;clear K2;refine lr H Tryz.results175 rfl ?_;exact H.hp.retD (L':=scB b s i _ _ _ pl e :: Lp) (List.Sublist.cons_cons _ (List.sublist_cons_self _ _)) ⟨rfl,rfl⟩
end
section
open Go.RowKit
section
variable {N:Nat} {D:List Deferred} {w0:World} {F:Nat→Prop} {G0 G G1 G2:GH} {L L1 L2:OL} {T Xs:List (Nat × Value)}
variable {r:Option Nat} {P:Program} {Q:Exit→Act→World→Prop} {l:List Oper} {a a':Act} {w w':World}
theorem DX.perm {pr:Nat→Value→GH→Prop} {S:Nat→Bool} (h:DX N D w0 F G0 G L1 T l pr S a w) (hp:L1.Perm L2):DX N D w0 F G0 G L2 T l pr S a w:=by
 obtain ⟨G1,hG,HS,hv⟩:=h
 exact ⟨G1,hG,HS.perm hp,hv⟩
end
end
end Go.Proofs.YtlnhhlighgaapaaGreat
