/-
  What the claim stands on, part 2: Package run: what its functions compute. Ranges over functions whose state is told by ghosts. Package position: the positions of a document, in document order. Package position: positions, Count. Package document: the flows of a document. Package document: Flow; package position: length, CheckRange, Check. Equality of values that are made of ints. Package position: Index and Of. Package strings: the builder, as run.Text uses it. Halving: the least place at which a test holds; the place of a number in a list. Remainders, fields of struct values, ranges over strings, runes. Package property: the table of keys; halving. Package property: find, Group, Fits, CheckValue, Get. Package document: notes and tables with their positions. Package document: Place.
-/
import Derived.Test.YthichnnlceeofaaGreatWfa
import Derived.Laws.StructEq
import Derived.ChangeKeysEq
import Derived.Lib.OthersKept
import Derived.Laws.IdiomStrings
import Derived.Laws.Cover4
import Derived.Laws.Slices
import Derived.Laws.Strings2
namespace Go.Proofs.YthichnnlceeofaaGreat
section
open Go.RowKit
theorem hmx:Tryz.prog.follows .mixedOrders=true:=by kernel_rfl
theorem fd85_0run:Fld Tryz.prog 85 0 0:=⟨by kernel_rfl⟩
theorem ty3run:Ty Tryz.prog 3 1 8 [.int .i64 0] false:=⟨by kernel_rfl,by kernel_rfl⟩
theorem fd85_3run:Fld Tryz.prog 85 3 3:=⟨by kernel_rfl⟩
theorem ty9run:Ty Tryz.prog 9 1 16 [.string ⟨#[]⟩] false:=⟨by kernel_rfl,by kernel_rfl⟩
theorem en57run:∀ args w,(callFunc 57 args).run Tryz.prog w=.ok (.enter 57 args) w:=enters Tryz.func57 rfl (by kernel_rfl)
theorem un22run:Tryz.prog.underlying 22=some (.slice 85):=by kernel_rfl
theorem ty85run:Ty Tryz.prog 85 11 176 [.int .i64 0,.int .i64 0,.int .i64 0,.string ⟨#[]⟩,.slice none 0 0,.int .i64 0,.int .i64 0,.slice none 0 0,.slice none 0 0,.slice none 0 0,.slice none 0 0] true:=⟨by kernel_rfl,by kernel_rfl⟩
theorem en51run:∀ args w,(callFunc 51 args).run Tryz.prog w=.ok (.enter 51 args) w:=enters Tryz.func51 rfl (by kernel_rfl)
theorem un23run:Tryz.prog.underlying 23=some (.slice 147):=by kernel_rfl
theorem ty147run:Ty Tryz.prog 147 2 16 [.int .i64 0,.int .i64 0] true:=⟨by kernel_rfl,by kernel_rfl⟩
theorem un24run:Tryz.prog.underlying 24=some (.slice 150):=by kernel_rfl
theorem ty150run:Ty Tryz.prog 150 2 16 [.int .i64 0,.int .i64 0] true:=⟨by kernel_rfl,by kernel_rfl⟩
theorem un25run:Tryz.prog.underlying 25=some (.slice 178):=by kernel_rfl
theorem ty178run:Ty Tryz.prog 178 4 32 [.int .i64 0,.int .i64 0,.int .i64 0,.bool false] true:=⟨by kernel_rfl,by kernel_rfl⟩
theorem ty29run:Ty Tryz.prog 29 5 88 [.slice none 0 0,.int .i64 0,.int .i64 0,.slice none 0 0,.slice none 0 0] true:=⟨by kernel_rfl,by kernel_rfl⟩
theorem fd29_0run:Fld Tryz.prog 29 0 0:=⟨by kernel_rfl⟩
theorem ty23run:Ty Tryz.prog 23 1 24 [.slice none 0 0] false:=⟨by kernel_rfl,by kernel_rfl⟩
theorem en106run:∀ args w,(callFunc 106 args).run Tryz.prog w=.ok (.enter 106 args) w:=enters Tryz.func106 rfl (by kernel_rfl)
theorem fd29_1run:Fld Tryz.prog 29 1 1:=⟨by kernel_rfl⟩
theorem fd27_2run:Fld Tryz.prog 27 2 2:=⟨by kernel_rfl⟩
theorem ty24run:Ty Tryz.prog 24 1 24 [.slice none 0 0] false:=⟨by kernel_rfl,by kernel_rfl⟩
theorem en107run:∀ args w,(callFunc 107 args).run Tryz.prog w=.ok (.enter 107 args) w:=enters Tryz.func107 rfl (by kernel_rfl)
theorem fd27_3run:Fld Tryz.prog 27 3 3:=⟨by kernel_rfl⟩
theorem ty25run:Ty Tryz.prog 25 1 24 [.slice none 0 0] false:=⟨by kernel_rfl,by kernel_rfl⟩
theorem en108run:∀ args w,(callFunc 108 args).run Tryz.prog w=.ok (.enter 108 args) w:=enters Tryz.func108 rfl (by kernel_rfl)
theorem un83run:Tryz.prog.underlying 83=some (.slice 88):=by kernel_rfl
theorem ty88run:Ty Tryz.prog 88 6 112 [.slice none 0 0,.int .i64 0,.int .i64 0,.slice none 0 0,.slice none 0 0,.slice none 0 0] true:=⟨by kernel_rfl,by kernel_rfl⟩
theorem un86run:Tryz.prog.underlying 86=some (.slice 90):=by kernel_rfl
theorem ty90run:Ty Tryz.prog 90 7 120 [.int .i64 0,.slice none 0 0,.int .i64 0,.int .i64 0,.slice none 0 0,.slice none 0 0,.slice none 0 0] true:=⟨by kernel_rfl,by kernel_rfl⟩
theorem fd90_0run:Fld Tryz.prog 90 0 0:=⟨by kernel_rfl⟩
theorem fd90_1run:Fld Tryz.prog 90 1 1:=⟨by kernel_rfl⟩
theorem en78run:∀ args w,(callFunc 78 args).run Tryz.prog w=.ok (.enter 78 args) w:=enters Tryz.func78 rfl (by kernel_rfl)
theorem fd90_2run:Fld Tryz.prog 90 2 6:=⟨by kernel_rfl⟩
theorem ty22run:Ty Tryz.prog 22 1 24 [.slice none 0 0] false:=⟨by kernel_rfl,by kernel_rfl⟩
theorem en50run:∀ args w,(callFunc 50 args).run Tryz.prog w=.ok (.enter 50 args) w:=enters Tryz.func50 rfl (by kernel_rfl)
theorem sr90run:Srt Tryz.prog 90 [(0,1),(1,5),(6,1)] [.int .i64 0,.slice none 0 0,.int .i64 0,.int .i64 0,.slice none 0 0,.slice none 0 0,.slice none 0 0]:=⟨by kernel_rfl,by kernel_rfl⟩
theorem fd88_0run:Fld Tryz.prog 88 0 0:=⟨by kernel_rfl⟩
theorem fd88_1run:Fld Tryz.prog 88 1 5:=⟨by kernel_rfl⟩
theorem ty86run:Ty Tryz.prog 86 1 24 [.slice none 0 0] false:=⟨by kernel_rfl,by kernel_rfl⟩
theorem en109run:∀ args w,(callFunc 109 args).run Tryz.prog w=.ok (.enter 109 args) w:=enters Tryz.func109 rfl (by kernel_rfl)
theorem sr88run:Srt Tryz.prog 88 [(0,5),(5,1)] [.slice none 0 0,.int .i64 0,.int .i64 0,.slice none 0 0,.slice none 0 0,.slice none 0 0]:=⟨by kernel_rfl,by kernel_rfl⟩
theorem fd85_4run:Fld Tryz.prog 85 4 4:=⟨by kernel_rfl⟩
theorem fd85_5run:Fld Tryz.prog 85 5 9:=⟨by kernel_rfl⟩
theorem fd85_6run:Fld Tryz.prog 85 6 10:=⟨by kernel_rfl⟩
theorem ty83run:Ty Tryz.prog 83 1 24 [.slice none 0 0] false:=⟨by kernel_rfl,by kernel_rfl⟩
theorem en79run:∀ args w,(callFunc 79 args).run Tryz.prog w=.ok (.enter 79 args) w:=enters Tryz.func79 rfl (by kernel_rfl)
theorem en76run:∀ args w,(callFunc 76 args).run Tryz.prog w=.ok (.enter 76 args) w:=enters Tryz.func76 rfl (by kernel_rfl)
theorem en110run:∀ args w,(callFunc 110 args).run Tryz.prog w=.ok (.enter 110 args) w:=enters Tryz.func110 rfl (by kernel_rfl)
theorem en80run:∀ args w,(callFunc 80 args).run Tryz.prog w=.ok (.enter 80 args) w:=enters Tryz.func80 rfl (by kernel_rfl)
theorem en77run:∀ args w,(callFunc 77 args).run Tryz.prog w=.ok (.enter 77 args) w:=enters Tryz.func77 rfl (by kernel_rfl)
/-- How many units an item has, and its error. -/
def unitsS (x:ItemD):Nat:=if x.kind=1 then cntS x.text else 1
def unitsE (x:ItemD):Int:=if x.kind=1 then utfS x.text else 0
theorem units_spec (G:GH) (w0:World) (hG:Hold G w0) (x:ItemD) (i2 i3:Int) (p i5 i6 d l f r:Value) (hs:x.text.size < 4611686018427387904) :
  Calls Tryz.prog 51 #[.agg #[vi x.kind,vi i2,vi i3,.string x.text,p,i5,i6,d,l,f,r]] w0 (Ret w0 G fun v G'=>v=.tuple #[vi (unitsS x),vi (unitsE x)]∧G=G'):=by
 refine eN [(0,_)] Tryz.func51 rfl Tryz.ntmps51 rfl rfl hG ?_;intro a H;refine c_seqR (fun _ K1=>?_);refine s_box (cs:=[_,_,_,_,_,_,_,_,_,_,_]) H wn rfl rfl rfl ?_;clear H;intro b1 a w hb1 H;refine kH H (Ra rfl (Ra rfl (Kz K1 (SQ fun _ K2=>SR fun _ K3=>Rf fd85_0run rfl (Ro ty3run 0 rfl rfl (Rc rfl (Kz K3 ?_)))))));clear H K1 K3;intro a H;refine c_cond H rfl ?_ ?_
 ·intro h6
  try have p6:=dT h6
  refine kP H (SR fun _ K4=>Ra rfl (Ra rfl (Kz K4 ?_)));clear H K4;intro a H;refine c_ret ?_;refine (leaveT H Tryz.results51 (.cons (rv_tmp H rfl) (.cons (rv_tmp H rfl) .nil)) ?_).1;exact H.hp.ret ⟨by simp only [unitsS,unitsE,if_neg p6];rfl,rfl⟩
 intro h6
 try have p6:=dF h6
 refine kP H (Kc K2 (SR fun _ K5=>Rf fd85_3run rfl (Ro ty9run 0 rfl rfl ?_)));clear H K2;intro a H;refine s_call en57run H wn rfl (count_spec _ _ H.hp.ro _ hs) rfl ?_;clear H;rintro v9 _ a w ⟨rfl,rfl⟩ - H;(iterate 2 refine s_extract H wn rfl rfl rfl ?_;clear H;intro a H);refine kH H (Ra rfl (Ra rfl (Kz K5 ?_)));clear H K5;intro a H;refine c_ret ?_;refine (leaveT H Tryz.results51 (.cons (rv_tmp H rfl) (.cons (rv_tmp H rfl) .nil)) ?_).1;exact H.hp.ret ⟨by rw [Decidable.not_not] at p6;simp only [unitsS,unitsE,if_pos p6],rfl⟩
def divS (l:List ItemD):Bool:=l.all fun x=>decide (unitsE x=0)
def sumS:List ItemD→Nat
 | []=>0
 | x :: l=>unitsS x+sumS l
def lenS (l:List ItemD):Int:=if divS l then sumS l else 0
def lenE (l:List ItemD):Int:=if divS l then 0 else 12
def txtS:List ItemD→Nat
 | []=>0
 | x :: l=>x.text.size+1+txtS l
theorem sumS_le:∀ l:List ItemD,sumS l≤txtS l
 | []=>Nat.le_refl _
 | x :: l=>by
  have:=sumS_le l;have h2:=cntS_le x.text
  simp only [sumS,txtS,unitsS];split <;> omega
theorem txtS_mem {x:ItemD}:∀ {l:List ItemD},x∈l→x.text.size < txtS l
 | [],h=>by cases h
 | y :: l,h=>by
  simp only [txtS]
  rcases List.mem_cons.1 h with rfl|h
  ·omega
  have:=txtS_mem h;omega
theorem sumS_append (l m:List ItemD):sumS (l++m)=sumS l+sumS m:=by
 induction l with
 | nil=>simp [sumS]
 | cons x l ih=>simp [sumS,ih];omega
theorem sumS_take_succ {l:List ItemD} {k:Nat} (h:k < l.length):sumS (l.take (k+1))=sumS (l.take k)+unitsS l[k]:=by
 rw [List.take_succ_eq_append_getElem h,sumS_append];simp [sumS]
theorem txtS_append (l m:List ItemD):txtS (l++m)=txtS l+txtS m:=by
 induction l with
 | nil=>simp [txtS]
 | cons x l ih=>simp [txtS,ih];omega
theorem txtS_take (l:List ItemD) (k:Nat):txtS (l.take k)≤txtS l:=by
 have:=txtS_append (l.take k) (l.drop k);rw [List.take_append_drop] at this;omega
/-- An element of a flow that lies in memory. -/
theorem flow_get {G:GH} {l:List ItemD} {A:Option Addr} {k:Nat} (hk:k < l.length) (hg:∀ k r,(l.map ItemD.dat)[k]?=some r→∃ b o cs,A=some ⟨b,o,none⟩∧cs.length=11∧(∀ j u,cs[j]?=some u→gcell G b (o+k*11+j)=some u)∧RepRow G r cs) :
  ∃ b o pA pn pc dA dn dc yA yn yc fA fn fc rA rn rc,A=some ⟨b,o,none⟩∧(∀ j u,[vi l[k].kind,vi l[k].code,vi l[k].id,.string l[k].text,.slice pA pn pc,vi l[k].head.marks.ins,vi l[k].head.marks.move,.slice dA dn dc,.slice yA yn yc,.slice fA fn fc,.slice rA rn rc][j]?=some u→gcell G b (o+k*11+j)=some u) ∧
   HeadR G l[k].head (.slice pA pn pc) (.slice dA dn dc) (.slice yA yn yc)∧RepV G (.sl 11 (l[k].flow.map ItemD.dat)) (.slice fA fn fc)∧RepV G (.sl 6 (l[k].rows.map RowD.dat)) (.slice rA rn rc):=by
 obtain ⟨b,o,cs,h1,h2,h3,h4⟩:=hg k l[k].dat (by simp [hk]);obtain ⟨pA,pn,pc,dA,dn,dc,yA,yn,yc,fA,fn,fc,rA,rn,rc,rfl,h5,h6,h7⟩:=h4.item;exact ⟨b,o,pA,pn,pc,dA,dn,dc,yA,yn,yc,fA,fn,fc,rA,rn,rc,h1,h3,h5,h6,h7⟩
theorem divS_take_succ {l:List ItemD} {k:Nat} (h:k < l.length):divS (l.take (k+1))=(divS (l.take k) && decide (unitsE l[k]=0)):=by
 unfold divS
 rw [List.take_succ_eq_append_getElem h,List.all_append];simp
theorem divS_split {l:List ItemD} {k:Nat} (h:k < l.length) (hn:¬ unitsE l[k]=0):divS l=false:=by
 unfold divS
 rw [List.all_eq_false];exact ⟨l[k],List.getElem_mem h,by simpa using hn⟩
theorem length_le_txt:∀ l:List ItemD,l.length≤txtS l
 | []=>Nat.le_refl _
 | x :: l=>by have:=length_le_txt l;simp only [List.length_cons,txtS];omega
theorem txtS_le:∀ l:List ItemD,txtS l≤zItems l
 | []=>Nat.le_refl _
 | x :: l=>by
  have:=txtS_le l;have h2:=zItem_eq x
  simp only [txtS,zItems,List.map_cons,szRs] at *;omega
theorem len_spec (G:GH) (w0:World) (hG:Hold G w0) (l:List ItemD) (v:Value) (hv:RepV G (.sl 11 (l.map ItemD.dat)) v) (hz:zItems l≤4294967296) :
  Calls Tryz.prog 32 #[v] w0 (Ret w0 G fun v G'=>v=.tuple #[vi (lenS l),vi (lenE l)]∧G=G'):=by
 obtain ⟨A,c,rfl,hc1,hc2,hg⟩:=hv.slice;rw [List.length_map] at *;have hll:=length_le_txt l;have htz:=txtS_le l;refine eN [(0,_)] Tryz.func32 rfl Tryz.ntmps32 rfl rfl hG ?_;intro a H;refine kP H (SR fun _ K1=>Ra rfl (Ra rfl (Kz K1 (SR fun _ K2=>Ra rfl (Kz K2 (SQ fun _ K3=>SR fun _ K4=>Rm rfl (Rl un22run rfl (Rm rfl (Kz K4 (SB ?_))))))))));clear H K1 K2 K4;intro a H;skip;refine c_loopS (ι:=Nat) (Tc:=[(9,_),(10,_)]) (Lc:=[]) (fun (gh:Nat)=>[(4,vi (sumS (l.take gh))),(11,vi gh)]) (fun (gh:Nat)=>[]) (fun (gh:Nat)=>G) (fun (gh:Nat)=>gh≤l.length∧divS (l.take gh)=true) (fun (gh:Nat)=>l.length - gh) (0) (by exact (H).sub ⟨rfl,rfl,rfl,rfl,trivial⟩) ?_ ?_
 ·exact ⟨by omega,by simp [divS]⟩
 clear H;intro gh a w hI H;obtain ⟨k,hgh⟩:∃ x,x=gh:=⟨_,rfl⟩;subst hgh;obtain ⟨hk,hd⟩:=hI;dsimp only [List.cons_append,List.nil_append,List.append_nil] at H;refine kP H (SR fun _ K5=>Rc rfl (Kz K5 (SQ fun _ K6=>?_)));clear H K5;intro a H;refine c_cond H rfl ?_ ?_
 ·intro h12
  try have p12:=dT h12
  have hk2:k < l.length:=by omega
  obtain ⟨b,o,pA,pn,pc,dA,dn,dc,yA,yn,yc,fA,fn,fc,rA,rn,rc,rfl,hrow,-⟩:=flow_get hk2 hg;have hsm:=sumS_take_succ hk2;have hle:=sumS_le (l.take (k+1));have hle2:=txtS_take l (k+1);refine kP H (Kc K6 (SQ fun _ K7=>SB (SR fun _ K8=>Ri un22run ty85run rfl rfl ?_)));clear H K6;intro a H;refine s_loada ty85run (cs:=[_,_,_,_,_,_,_,_,_,_,_]) H wn rfl rfl (fun j v hj=>H.hp.gcell (hrow j v hj)) rfl ?_;clear H;intro a H;refine s_alloc ty85run H wn rfl ?_;clear H;intro b6 a w hb6 H;refine s_store ty85run 0 (vs:=[_,_,_,_,_,_,_,_,_,_,_]) _ H wn rfl rfl rfl rfl rfl rfl rfl rfl ?_;clear H;intro w H;dsimp only [List.set,setRow] at H;refine K8 _ _ ?_;clear K8;refine c_seqR (fun _ K9=>?_);refine s_loada ty85run (cs:=[_,_,_,_,_,_,_,_,_,_,_]) H wn rfl rfl (H.hp.ocells 0 rfl rfl) rfl ?_;clear H;intro a H;refine s_call en51run H wn rfl (units_spec _ _ H.hp.ro _ _ _ _ _ _ _ _ _ _ (by have:=txtS_mem (List.getElem_mem hk2);omega)) rfl ?_;clear H;rintro v17 _ a w ⟨rfl,rfl⟩ - H;refine kH H (Rm rfl ?_);clear H;intro a H;(iterate 2 refine s_extract H wn rfl rfl rfl ?_;clear H;intro a H);refine kH H (Ra rfl (Ra rfl (Kz K9 (SQ fun _ K10=>SR fun _ K11=>Rm rfl (Rc rfl (Kz K11 ?_))))));clear H K9 K11;intro a H;refine c_cond H rfl ?_ ?_
  ·intro h21
   try have p21:=dT h21
   refine kP H (SR fun _ K12=>Ra rfl (Ra rfl (Kz K12 ?_)));clear H K12;intro a H;refine c_ret ?_;refine (leaveT H Tryz.results32 (.cons (rv_tmp H rfl) (.cons (rv_tmp H rfl) .nil)) ?_).1;exact H.hp.ret ⟨by simp [lenS,lenE,divS_split hk2 p21],rfl⟩
  intro h21
  try have p21:=dF h21
  refine kP H (Kc K10 (SC (Rm rfl (Rm rfl (Rd rfl ?_)))));clear H K10;intro a H;rw [← Int.natCast_add,← hsm] at H;refine kH H (Ra rfl (Kn K7 (SC (Rd rfl (Rm rfl ?_)))));clear H K7;intro a H;refine wl_nil ?_;refine loop_end ((k+1)) (by exact (H.pickT (Pl:=[_]) (Pl':=[]) [] (by decide) rfl).sub ⟨rfl,rfl,rfl,rfl,trivial⟩) ?_ ?_
  ·exact ⟨by omega,by rw [divS_take_succ hk2,hd];simpa using p21⟩
  first|omega|(dsimp only;omega)
 intro h12
 try have p12:=dF h12
 refine c_exit ?_;refine K3 _ _ ?_;clear K3;refine kP H (SR fun _ K13=>Rm rfl (Ra rfl (Ra rfl (Kz K13 ?_))));clear H K13;intro a H;refine c_ret ?_;refine (leaveT H Tryz.results32 (.cons (rv_tmp H rfl) (.cons (rv_tmp H rfl) .nil)) ?_).1;exact H.hp.ret ⟨by rw [show l.take k=l from List.take_of_length_le (by omega)] at hd ⊢;simp [lenS,lenE,hd],rfl⟩
/-- A copy of a slice of Props. -/
theorem cloneProp_spec (G:GH) (w0:World) (hG:Hold G w0) (rows:List (List Dat)) (A:Option Addr) (n c:Nat) (hv:RepV G (.sl 2 rows) (.slice A n c)) (hz:rows.length≤4294967296) :
  Calls Tryz.prog 106 #[.slice A n c] w0 (Ret w0 G fun v G'=>RepV G' (.sl 2 rows) v):=by
 obtain ⟨hn,hc1,hc2,hnil,hx⟩:=hv.cells;refine eN [(0,_)] Tryz.func106 rfl Tryz.ntmps106 rfl rfl hG ?_;intro a H;refine kP H (SR fun _ K1=>Ra rfl (Kz K1 (SQ fun _ K2=>SR fun _ K3=>Rm rfl ?_)));clear H K1;intro a H;refine s_eqnil un23run H wn rfl rfl ?_;clear H;intro a H;refine K3 _ _ ?_;clear K3;refine c_cond H rfl ?_ ?_
 ·intro h4
  try have p4:=dT h4
  refine kP H (SR fun _ K4=>Ra rfl (Kz K4 ?_));clear H K4;intro a H;refine lr H Tryz.results106 rfl ?_;exact H.hp.ret (by rw [hnil (by simpa using h4)];exact RepV.nil_ rfl (by simp [maxLen]))
 intro h4
 try have p4:=dF h4
 refine c_skip ?_;refine K2 _ _ ?_;clear K2;refine c_seq (fun _ K5=>?_)
 have hA:¬ A=none:=by intro e;rw [e] at h4;cases h4
 refine c_region ?_;refine s_buildSlice0 un23run ty147run H wn rfl ?_;clear H;intro b5 a w hb5 H;refine kH H (Rm rfl ?_);clear H;intro a H
 by_cases hr0:rows=[]
 ·have hn0:n=0:=by rw [hn,hr0];rfl
  subst hn0;refine s_append0 un23run ty147run H wn rfl rfl (Nat.le_refl _) rfl ?_;clear H;intro a H;refine kH H (Ra rfl (Kn K5 ?_));clear H K5;intro a H;refine lr H Tryz.results106 rfl ?_;exact H.hp.ret (by rw [hr0];exact RepV.nil_ rfl (by simp [maxLen]))
 obtain ⟨b,o,xs,rfl,hxl,hxc,hx1,hcat⟩:=hx hr0;refine s_append (Li:=[]) (Lo:=[_]) (news:=xs) un23run ty147run rfl rfl H wn rfl rfl IsRow.empty hxl (fun j u hj=>H.hp.gcell (hxc j u hj)) hx1 (by omega) (by omega) rfl ?_;clear H;intro v7 Lo a w hrow H;obtain ⟨G',hm,hrep,H⟩:=H.giveRow hrow (rows:=rows) (by omega) (by simpa using hcat)
 try clear hG
 obtain ⟨G2,hG2⟩:∃ g,g=G':=⟨_,rfl⟩;subst hG2;refine kH H (Ra rfl (Kn K5 ?_));clear H K5;intro a H;refine lr H Tryz.results106 rfl ?_;exact H.hp.ret hrep
/-- A copy of a slice of Dels. -/
theorem cloneDel_spec (G:GH) (w0:World) (hG:Hold G w0) (rows:List (List Dat)) (A:Option Addr) (n c:Nat) (hv:RepV G (.sl 2 rows) (.slice A n c)) (hz:rows.length≤4294967296) :
  Calls Tryz.prog 107 #[.slice A n c] w0 (Ret w0 G fun v G'=>RepV G' (.sl 2 rows) v):=by
 obtain ⟨hn,hc1,hc2,hnil,hx⟩:=hv.cells;refine eN [(0,_)] Tryz.func107 rfl Tryz.ntmps107 rfl rfl hG ?_;intro a H;refine kP H (SR fun _ K1=>Ra rfl (Kz K1 (SQ fun _ K2=>SR fun _ K3=>Rm rfl ?_)));clear H K1;intro a H;refine s_eqnil un24run H wn rfl rfl ?_;clear H;intro a H;refine K3 _ _ ?_;clear K3;refine c_cond H rfl ?_ ?_
 ·intro h4
  try have p4:=dT h4
  refine kP H (SR fun _ K4=>Ra rfl (Kz K4 ?_));clear H K4;intro a H;refine lr H Tryz.results107 rfl ?_;exact H.hp.ret (by rw [hnil (by simpa using h4)];exact RepV.nil_ rfl (by simp [maxLen]))
 intro h4
 try have p4:=dF h4
 refine c_skip ?_;refine K2 _ _ ?_;clear K2;refine c_seq (fun _ K5=>?_)
 have hA:¬ A=none:=by intro e;rw [e] at h4;cases h4
 refine c_region ?_;refine s_buildSlice0 un24run ty150run H wn rfl ?_;clear H;intro b5 a w hb5 H;refine kH H (Rm rfl ?_);clear H;intro a H
 by_cases hr0:rows=[]
 ·have hn0:n=0:=by rw [hn,hr0];rfl
  subst hn0;refine s_append0 un24run ty150run H wn rfl rfl (Nat.le_refl _) rfl ?_;clear H;intro a H;refine kH H (Ra rfl (Kn K5 ?_));clear H K5;intro a H;refine lr H Tryz.results107 rfl ?_;exact H.hp.ret (by rw [hr0];exact RepV.nil_ rfl (by simp [maxLen]))
 obtain ⟨b,o,xs,rfl,hxl,hxc,hx1,hcat⟩:=hx hr0;refine s_append (Li:=[]) (Lo:=[_]) (news:=xs) un24run ty150run rfl rfl H wn rfl rfl IsRow.empty hxl (fun j u hj=>H.hp.gcell (hxc j u hj)) hx1 (by omega) (by omega) rfl ?_;clear H;intro v7 Lo a w hrow H;obtain ⟨G',hm,hrep,H⟩:=H.giveRow hrow (rows:=rows) (by omega) (by simpa using hcat)
 try clear hG
 obtain ⟨G2,hG2⟩:∃ g,g=G':=⟨_,rfl⟩;subst hG2;refine kH H (Ra rfl (Kn K5 ?_));clear H K5;intro a H;refine lr H Tryz.results107 rfl ?_;exact H.hp.ret hrep
/-- A copy of a slice of Layers. -/
theorem cloneLayer_spec (G:GH) (w0:World) (hG:Hold G w0) (rows:List (List Dat)) (A:Option Addr) (n c:Nat) (hv:RepV G (.sl 4 rows) (.slice A n c)) (hz:rows.length≤4294967296) :
  Calls Tryz.prog 108 #[.slice A n c] w0 (Ret w0 G fun v G'=>RepV G' (.sl 4 rows) v):=by
 obtain ⟨hn,hc1,hc2,hnil,hx⟩:=hv.cells;refine eN [(0,_)] Tryz.func108 rfl Tryz.ntmps108 rfl rfl hG ?_;intro a H;refine kP H (SR fun _ K1=>Ra rfl (Kz K1 (SQ fun _ K2=>SR fun _ K3=>Rm rfl ?_)));clear H K1;intro a H;refine s_eqnil un25run H wn rfl rfl ?_;clear H;intro a H;refine K3 _ _ ?_;clear K3;refine c_cond H rfl ?_ ?_
 ·intro h4
  try have p4:=dT h4
  refine kP H (SR fun _ K4=>Ra rfl (Kz K4 ?_));clear H K4;intro a H;refine lr H Tryz.results108 rfl ?_;exact H.hp.ret (by rw [hnil (by simpa using h4)];exact RepV.nil_ rfl (by simp [maxLen]))
 intro h4
 try have p4:=dF h4
 refine c_skip ?_;refine K2 _ _ ?_;clear K2;refine c_seq (fun _ K5=>?_)
 have hA:¬ A=none:=by intro e;rw [e] at h4;cases h4
 refine c_region ?_;refine s_buildSlice0 un25run ty178run H wn rfl ?_;clear H;intro b5 a w hb5 H;refine kH H (Rm rfl ?_);clear H;intro a H
 by_cases hr0:rows=[]
 ·have hn0:n=0:=by rw [hn,hr0];rfl
  subst hn0;refine s_append0 un25run ty178run H wn rfl rfl (Nat.le_refl _) rfl ?_;clear H;intro a H;refine kH H (Ra rfl (Kn K5 ?_));clear H K5;intro a H;refine lr H Tryz.results108 rfl ?_;exact H.hp.ret (by rw [hr0];exact RepV.nil_ rfl (by simp [maxLen]))
 obtain ⟨b,o,xs,rfl,hxl,hxc,hx1,hcat⟩:=hx hr0;refine s_append (Li:=[]) (Lo:=[_]) (news:=xs) un25run ty178run rfl rfl H wn rfl rfl IsRow.empty hxl (fun j u hj=>H.hp.gcell (hxc j u hj)) hx1 (by omega) (by omega) rfl ?_;clear H;intro v7 Lo a w hrow H;obtain ⟨G',hm,hrep,H⟩:=H.giveRow hrow (rows:=rows) (by omega) (by simpa using hcat)
 try clear hG
 obtain ⟨G2,hG2⟩:∃ g,g=G':=⟨_,rfl⟩;subst hG2;refine kH H (Ra rfl (Kn K5 ?_));clear H K5;intro a H;refine lr H Tryz.results108 rfl ?_;exact H.hp.ret hrep
/-- A copy of a head. -/
theorem cloneHead_spec (G:GH) (w0:World) (hG:Hold G w0) (h:HeadD) (pA dA yA:Option Addr) (pn pc dn dc yn yc:Nat) (hv:HeadR G h (.slice pA pn pc) (.slice dA dn dc) (.slice yA yn yc)) (hz:zHead h≤4294967296) :
  Calls Tryz.prog 78 #[.agg #[.slice pA pn pc,vi h.marks.ins,vi h.marks.move,.slice dA dn dc,.slice yA yn yc]] w0 (Ret w0 G fun v G'=>∃ p d l,v=.agg #[p,vi h.marks.ins,vi h.marks.move,d,l]∧HeadR G' h p d l):=by
 have he:=zHead_eq h;have h1:=szRs_length (h.props.map PropD.dat);have h2:=szRs_length (h.marks.dels.map DelD.dat);have h3:=szRs_length (h.marks.layers.map LayerD.dat);refine eN [(0,_)] Tryz.func78 rfl Tryz.ntmps78 rfl rfl hG ?_;intro a H;refine c_seqR (fun _ K1=>?_);refine s_box (cs:=[_,_,_,_,_]) H wn rfl rfl rfl ?_;clear H;intro b1 a w hb1 H;refine s_alloc ty29run H wn rfl ?_;clear H;intro b2 a w hb2 H;refine K1 _ _ ?_;clear K1;refine kP H (SR fun _ K2=>Rf fd29_0run rfl (Ro ty23run 1 rfl rfl ?_));clear H;intro a H;refine s_call en106run H wn rfl (cloneProp_spec _ _ H.hp.ro _ _ _ _ hv.props (by omega)) rfl ?_;clear H;rintro v5 G5 a w hp5 hm5 H;obtain ⟨A5,n5,c5,rfl⟩:=hp5.form;refine kH H (Rf fd29_0run rfl ?_);clear H;intro a H;refine s_store ty23run 1 (vs:=[_]) _ H wn rfl rfl rfl rfl rfl rfl rfl rfl ?_;clear H;intro w H;dsimp only [List.set,setRow] at H;refine K2 _ _ ?_;clear K2;refine c_seq (fun _ K3=>?_);obtain ⟨hvp,hvd,hvy⟩:=hv.mono hm5;clear hv
 have hprm2:∀ (ix_:Nat) (v:Value) (G G':GH),(∀ k o,G k=some o→G' k=some o)→(fun (ix_:Nat) (v:Value) (G:GH)=>match ix_ with|0=>v=.pointer (some ⟨b1,1,none⟩)|1=>v=.pointer (some ⟨b1,3,none⟩)|2=>v=.slice dA dn dc|3=>RepV G (.sl 2 (h.marks.dels.map DelD.dat)) v|4=>v=.pointer (some ⟨b1,1,none⟩)|5=>v=.pointer (some ⟨b1,4,none⟩)|6=>v=.slice yA yn yc|7=>RepV G (.sl 4 (h.marks.layers.map LayerD.dat)) v|8=>v=.pointer (some ⟨b1,1,none⟩)|9=>v=.pointer (some ⟨b1,3,none⟩)|_=>True) ix_ v G→(fun (ix_:Nat) (v:Value) (G:GH)=>match ix_ with|0=>v=.pointer (some ⟨b1,1,none⟩)|1=>v=.pointer (some ⟨b1,3,none⟩)|2=>v=.slice dA dn dc|3=>RepV G (.sl 2 (h.marks.dels.map DelD.dat)) v|4=>v=.pointer (some ⟨b1,1,none⟩)|5=>v=.pointer (some ⟨b1,4,none⟩)|6=>v=.slice yA yn yc|7=>RepV G (.sl 4 (h.marks.layers.map LayerD.dat)) v|8=>v=.pointer (some ⟨b1,1,none⟩)|9=>v=.pointer (some ⟨b1,3,none⟩)|_=>True) ix_ v G':=by
  intro ix_ v G G' hm h
  match ix_,h with
  | 0,h=>exact h
  | 1,h=>exact h
  | 2,h=>exact h
  | 3,h=>exact RepV.mono hm h
  | 4,h=>exact h
  | 5,h=>exact h
  | 6,h=>exact h
  | 7,h=>exact RepV.mono hm h
  | 8,h=>exact h
  | 9,h=>exact h
  | 10,h=>exact trivial
  | 11,h=>exact trivial
  | 12,h=>exact trivial
  | 13,h=>exact trivial
  | _+14,h=>exact trivial
 refine c_drawI (hmx) [[],[0],[0,1],[0,1,2],[],[4],[4,5],(List.range 7),(List.range 7),(List.range 7++[8]),(List.range 10),(List.range 11),(List.range 12),(List.range 13)] [10,11,12,13] (by kernel_rfl) (by kernel_rfl) (fun (ix_:Nat) (v:Value) (G:GH)=>match ix_ with|0=>v=.pointer (some ⟨b1,1,none⟩)|1=>v=.pointer (some ⟨b1,3,none⟩)|2=>v=.slice dA dn dc|3=>RepV G (.sl 2 (h.marks.dels.map DelD.dat)) v|4=>v=.pointer (some ⟨b1,1,none⟩)|5=>v=.pointer (some ⟨b1,4,none⟩)|6=>v=.slice yA yn yc|7=>RepV G (.sl 4 (h.marks.layers.map LayerD.dat)) v|8=>v=.pointer (some ⟨b1,1,none⟩)|9=>v=.pointer (some ⟨b1,3,none⟩)|_=>True) hprm2 H ?_ ?_
 ·clear H;refine al4 ?_ ?_ ?_ ?_ (al4 ?_ ?_ ?_ ?_ (al4 ?_ ?_ ?_ ?_ (allI_cons ?_ (allI_cons ?_ allI_nil))))
  ·refine opI [] rfl trivial (by kernel_rfl) hprm2 rfl rfl ?_;intro Sd_ a w G1 hG HT H fin;exact kH H (Rf fd29_1run rfl fun _ H=>fin H iJ rfl)
  ·refine opI [(0,7,_)] rfl ⟨fun _ _ h=>h,trivial⟩ (by kernel_rfl) hprm2 rfl rfl ?_;intro Sd_ a w G1 hG HT H fin;exact kH H (Rf fd27_2run rfl fun _ H=>fin H iJ rfl)
  ·refine opI [(1,8,_)] rfl ⟨fun _ _ h=>h,trivial⟩ (by kernel_rfl) hprm2 rfl rfl ?_;intro Sd_ a w G1 hG HT H fin;exact kH H (Ro ty24run 1 rfl rfl fun _ H=>fin H iJ rfl)
  ·refine opI [(2,9,_)] rfl ⟨fun _ _ h=>h,trivial⟩ (by kernel_rfl) hprm2 rfl rfl ?_;intro Sd_ a w G1 hG HT H fin;refine s_call en107run H wn rfl (cloneDel_spec _ _ H.hp.ro _ _ _ _ (hvd.mono hG) (by omega)) rfl ?_;clear H;rintro v10 G10 a w hp10 hGm10 H;exact fin H hGm10 (hp10)
  ·refine opI [] rfl trivial (by kernel_rfl) hprm2 rfl rfl ?_;intro Sd_ a w G1 hG HT H fin;exact kH H (Rf fd29_1run rfl fun _ H=>fin H iJ rfl)
  ·refine opI [(4,11,_)] rfl ⟨fun _ _ h=>h,trivial⟩ (by kernel_rfl) hprm2 rfl rfl ?_;intro Sd_ a w G1 hG HT H fin;exact kH H (Rf fd27_3run rfl fun _ H=>fin H iJ rfl)
  ·refine opI [(5,12,_)] rfl ⟨fun _ _ h=>h,trivial⟩ (by kernel_rfl) hprm2 rfl rfl ?_;intro Sd_ a w G1 hG HT H fin;exact kH H (Ro ty25run 1 rfl rfl fun _ H=>fin H iJ rfl)
  ·refine opI [(6,13,_)] rfl ⟨fun _ _ h=>h,trivial⟩ (by kernel_rfl) hprm2 rfl rfl ?_;intro Sd_ a w G1 hG HT H fin;refine s_call en108run H wn rfl (cloneLayer_spec _ _ H.hp.ro _ _ _ _ (hvy.mono hG) (by omega)) rfl ?_;clear H;rintro v14 G14 a w hp14 hGm14 H;exact fin H hGm14 (hp14)
  ·refine opI [] rfl trivial (by kernel_rfl) hprm2 rfl rfl ?_;intro Sd_ a w G1 hG HT H fin;exact kH H (Rf fd29_1run rfl fun _ H=>fin H iJ rfl)
  ·refine opI [(8,15,_)] rfl ⟨fun _ _ h=>h,trivial⟩ (by kernel_rfl) hprm2 rfl rfl ?_;intro Sd_ a w G1 hG HT H fin;exact kH H (Rf fd27_2run rfl fun _ H=>fin H iJ rfl)
  ·exact opB rfl
  ·exact opB rfl
  ·exact opB rfl
  exact opB rfl
 clear H;intro a w G hGm2 H hv;obtain ⟨u10,hu10,hp10⟩:=hv 3 10 (by decide) rfl;(try dsimp only at hp10);obtain ⟨A10,n10,c10,rfl⟩:=hp10.form;have H:=H.addS hu10;obtain ⟨u14,hu14,hp14⟩:=hv 7 14 (by decide) rfl;(try dsimp only at hp14);obtain ⟨A14,n14,c14,rfl⟩:=hp14.form;have H:=H.addS hu14;obtain ⟨u16,hu16,hp16⟩:=hv 9 16 (by decide) rfl;obtain rfl:u16=.pointer (some ⟨b1,3,none⟩):=hp16;have H:=H.addS hu16;clear hv;refine s_store ty24run 1 (vs:=[_]) _ H wn rfl rfl rfl rfl rfl rfl rfl rfl ?_;clear H;intro w H;dsimp only [List.set,setRow] at H;refine kH H (Rf fd29_1run rfl (Rf fd27_3run rfl ?_));clear H;intro a H;refine s_store ty25run 1 (vs:=[_]) _ H wn rfl rfl rfl rfl rfl rfl rfl rfl ?_;clear H;intro w H;dsimp only [List.set,setRow] at H;refine wl_nil ⟨rfl,?_⟩;refine K3 _ _ ?_;clear K3;refine c_seqR (fun _ K4=>?_);refine s_loada ty29run (cs:=[_,_,_,_,_]) H wn rfl rfl (H.hp.ocells 1 rfl rfl) rfl ?_;clear H;intro a H;refine s_store ty29run 0 (vs:=[_,_,_,_,_]) _ H wn rfl rfl rfl rfl rfl rfl rfl rfl ?_;clear H;intro w H;dsimp only [List.set,setRow] at H;refine K4 _ _ ?_;clear K4;refine c_ret ?_;refine (leave1 H Tryz.results78 (.cons (rv_cella ty29run (cs:=[_,_,_,_,_]) H rfl rfl (H.hp.ocells 0 rfl rfl)) .nil) ?_).1;exact H.hp.ret ⟨_,_,_,rfl,hp5.mono hGm2,hp10,hp14⟩
/-- What a copier of elements owes. -/
def Copier (fv:Value) (w0:World) (G:GH) (d:List Dat):Prop:=∀ (G1:GH) (w1:World) (cs:List Value),(∀ b o,G b=some o→G1 b=some o)→Hold G1 w1→RepRow G1 d cs →
 CallV Tryz.prog fv [.agg cs.toArray] w1 (Ret w1 G1 fun u G'=>∃ cs',u=.agg cs'.toArray∧RepRow G' d cs')
/-- The list of the copies of Items. -/
theorem eachItem_spec (G:GH) (w0:World) (hG:Hold G w0) (l:List ItemD) (v fv:Value) (hv:RepV G (.sl 11 (l.map ItemD.dat)) v) (hz:l.length≤4294967296) (hf:∀ x∈l,Copier fv w0 G x.dat) :
  Calls Tryz.prog 76 #[v,fv] w0 (Ret w0 G fun u G'=>RepV G' (.sl 11 (l.map ItemD.dat)) u):=by
 obtain ⟨A,c,rfl,hc1,hc2,hg⟩:=hv.slice
 have hml:4294967297≤maxLen:=by decide
 rw [List.length_map] at *;refine eN [(0,_),(1,_)] Tryz.func76 rfl Tryz.ntmps76 rfl rfl hG ?_;intro a H;refine kP H (SR fun _ K1=>Ra rfl (Kz K1 (SR fun _ K2=>Ra rfl (Kz K2 (SQ fun _ K3=>SR fun _ K4=>Rm rfl (Rl un22run rfl (Rm rfl (Kz K4 (SB ?_)))))))));clear H K1 K2 K4;intro a H;skip;refine c_loopS (ι:=Nat × Value × List Value × OL × GH) (Tc:=[(1,_),(8,_),(9,_)]) (Lc:=[]) (fun (gh:Nat × Value × List Value × OL × GH)=>[(5,gh.2.1),(10,vi gh.1)]) (fun (gh:Nat × Value × List Value × OL × GH)=>[]++gh.2.2.2.1) (fun (gh:Nat × Value × List Value × OL × GH)=>gh.2.2.2.2) (fun (gh:Nat × Value × List Value × OL × GH)=>gh.1≤l.length∧IsRow 85 11 gh.2.1 gh.1 gh.2.2.1 gh.2.2.2.1∧RepCat gh.2.2.2.2 11 ((l.map ItemD.dat).take gh.1) gh.2.2.1∧(∀ b o,G b=some o→gh.2.2.2.2 b=some o)) (fun (gh:Nat × Value × List Value × OL × GH)=>l.length - gh.1) ((0,.slice none 0 0,[],[],G)) (by exact (H).sub ⟨rfl,rfl,rfl,rfl,rfl,trivial⟩) ?_ ?_
 ·exact ⟨by omega,IsRow.nil,by simpa using RepCat.nil,fun _ _ h=>h⟩
 clear H;intro gh a w hI H;obtain ⟨k,v,xs,Lo,g⟩:=gh;dsimp only at hI H;obtain ⟨hk,hrw,hcat,hgm⟩:=hI;dsimp only [List.cons_append,List.nil_append,List.append_nil] at H;refine kP H (SR fun _ K5=>Rc rfl (Kz K5 (SQ fun _ K6=>?_)));clear H K5;intro a H;refine c_cond H rfl ?_ ?_
 ·intro h11
  try have p11:=dT h11
  have hk2:k < l.length:=by omega
  obtain ⟨b,o,cs,rfl,hcl,hrow,hrep⟩:=hg k l[k].dat (by simp [hk2]);obtain ⟨pA,pn,pc,dA,dn,dc,yA,yn,yc,fA,fn,fc,rA,rn,rc,rfl,-⟩:=hrep.item;replace hrow:=fun j u hj=>gcell_mono hgm (hrow j u hj);refine kP H (Kc K6 (SQ fun _ K7=>SB (SR fun _ K8=>Ri un22run ty85run rfl rfl ?_)));clear H K6;intro a H;refine s_loada ty85run (cs:=[_,_,_,_,_,_,_,_,_,_,_]) H wn rfl rfl (fun j v hj=>H.hp.gcell (hrow j v hj)) rfl ?_;clear H;intro a H;refine s_alloc ty85run H wn rfl ?_;clear H;intro b7 a w hb7 H;refine s_store ty85run 0 (vs:=[_,_,_,_,_,_,_,_,_,_,_]) _ H wn rfl rfl rfl rfl rfl rfl rfl rfl ?_;clear H;intro w H;dsimp only [List.set,setRow] at H;refine K8 _ _ ?_;clear K8;refine kP H (SC (Rm rfl (Rm rfl ?_)));clear H;intro a H;refine s_loada ty85run (cs:=[_,_,_,_,_,_,_,_,_,_,_]) H wn rfl rfl (H.hp.ocells 0 rfl rfl) rfl ?_;clear H;intro a H;refine s_callv0 H wn rfl rfl (hf _ (List.getElem_mem hk2) _ _ _ hgm H.hp.ro (hrep.mono hgm)) rfl ?_;clear H;rintro v17 G17 a w ⟨cs17,rfl,h17⟩ hm17 H;obtain ⟨cs,hcs⟩:∃ cs,cs=cs17:=⟨_,rfl⟩;obtain ⟨pA,pn,pc,dA,dn,dc,yA,yn,yc,fA,fn,fc,rA,rn,rc,hcs17,-⟩:=h17.item;rw [hcs17] at H;refine s_buildSlice un22run ty85run [_,_,_,_,_,_,_,_,_,_,_] [_,_,_,_,_,_,_,_,_,_,_] H wn rfl rfl rfl rfl rfl (by intro i q h;match i,h with|0,h=>exact h|n+1,h=>simp at h) rfl rfl ?_;clear H;intro b18 a w hb18 H;refine s_append (Li:=[_,_]) (Lo:=Lo) (news:=cs17) un22run ty85run rfl rfl H wn rfl rfl hrw (by rw [hcs17];rfl) (by rw [hcs17];exact H.hp.ocells 0 rfl rfl) h17.one (by omega) (by omega) rfl ?_;clear H;intro v19 Lo19 a w hrw19 H;refine kH H (Ra rfl (Kn K7 (SC (Rd rfl (Rm rfl ?_)))));clear H K7;intro a H;refine wl_nil ?_;refine loop_end ((k+1,v19,xs++cs17,Lo19,G17)) (by exact (H.pickT (Pl:=[_,_]) (Pl':=[]) [] (by decide) rfl).sub ⟨rfl,rfl,rfl,rfl,rfl,trivial⟩) ?_ ?_
  ·(try dsimp only);refine ⟨by omega,hrw19,?_,fun b o h=>hm17 b o (hgm b o h)⟩;rw [List.take_succ_eq_append_getElem (by simpa using hk2)];exact (hcat.mono hm17).snoc (by simpa using h17) (by rw [hcs17];rfl)
  first|omega|(dsimp only;omega)
 intro h11
 try have p11:=dF h11
 refine c_exit ?_;refine K3 _ _ ?_;clear K3;refine c_seq (fun _ K9=>?_);obtain ⟨G',hm,hrep,H⟩:=H.giveRow (Li:=[]) hrw (rows:=l.map ItemD.dat) (by simp;omega) (by rw [List.take_of_length_le (by simp;omega)] at hcat;exact hcat);refine kP H (SC (Rm rfl (Ra rfl (Kn K9 ?_))));clear H K9;intro a H;refine lr H Tryz.results76 rfl ?_;exact H.hp.ret hrep
/-- The list of the copies of Rows. -/
theorem eachRow_spec (G:GH) (w0:World) (hG:Hold G w0) (l:List RowD) (v fv:Value) (hv:RepV G (.sl 6 (l.map RowD.dat)) v) (hz:l.length≤4294967296) (hf:∀ x∈l,Copier fv w0 G x.dat) :
  Calls Tryz.prog 79 #[v,fv] w0 (Ret w0 G fun u G'=>RepV G' (.sl 6 (l.map RowD.dat)) u):=by
 obtain ⟨A,c,rfl,hc1,hc2,hg⟩:=hv.slice
 have hml:4294967297≤maxLen:=by decide
 rw [List.length_map] at *;refine eN [(0,_),(1,_)] Tryz.func79 rfl Tryz.ntmps79 rfl rfl hG ?_;intro a H;refine kP H (SR fun _ K1=>Ra rfl (Kz K1 (SR fun _ K2=>Ra rfl (Kz K2 (SQ fun _ K3=>SR fun _ K4=>Rm rfl (Rl un83run rfl (Rm rfl (Kz K4 (SB ?_)))))))));clear H K1 K2 K4;intro a H;skip;refine c_loopS (ι:=Nat × Value × List Value × OL × GH) (Tc:=[(1,_),(8,_),(9,_)]) (Lc:=[]) (fun (gh:Nat × Value × List Value × OL × GH)=>[(5,gh.2.1),(10,vi gh.1)]) (fun (gh:Nat × Value × List Value × OL × GH)=>[]++gh.2.2.2.1) (fun (gh:Nat × Value × List Value × OL × GH)=>gh.2.2.2.2) (fun (gh:Nat × Value × List Value × OL × GH)=>gh.1≤l.length∧IsRow 88 6 gh.2.1 gh.1 gh.2.2.1 gh.2.2.2.1∧RepCat gh.2.2.2.2 6 ((l.map RowD.dat).take gh.1) gh.2.2.1∧(∀ b o,G b=some o→gh.2.2.2.2 b=some o)) (fun (gh:Nat × Value × List Value × OL × GH)=>l.length - gh.1) ((0,.slice none 0 0,[],[],G)) (by exact (H).sub ⟨rfl,rfl,rfl,rfl,rfl,trivial⟩) ?_ ?_
 ·exact ⟨by omega,IsRow.nil,by simpa using RepCat.nil,fun _ _ h=>h⟩
 clear H;intro gh a w hI H;obtain ⟨k,v,xs,Lo,g⟩:=gh;dsimp only at hI H;obtain ⟨hk,hrw,hcat,hgm⟩:=hI;dsimp only [List.cons_append,List.nil_append,List.append_nil] at H;refine kP H (SR fun _ K5=>Rc rfl (Kz K5 (SQ fun _ K6=>?_)));clear H K5;intro a H;refine c_cond H rfl ?_ ?_
 ·intro h11
  try have p11:=dT h11
  have hk2:k < l.length:=by omega
  obtain ⟨b,o,cs,rfl,hcl,hrow,hrep⟩:=hg k l[k].dat (by simp [hk2]);obtain ⟨pA,pn,pc,dA,dn,dc,yA,yn,yc,fA,fn,fc,rfl,-⟩:=hrep.row;replace hrow:=fun j u hj=>gcell_mono hgm (hrow j u hj);refine kP H (Kc K6 (SQ fun _ K7=>SB (SR fun _ K8=>Ri un83run ty88run rfl rfl ?_)));clear H K6;intro a H;refine s_loada ty88run (cs:=[_,_,_,_,_,_]) H wn rfl rfl (fun j v hj=>H.hp.gcell (hrow j v hj)) rfl ?_;clear H;intro a H;refine s_alloc ty88run H wn rfl ?_;clear H;intro b7 a w hb7 H;refine s_store ty88run 0 (vs:=[_,_,_,_,_,_]) _ H wn rfl rfl rfl rfl rfl rfl rfl rfl ?_;clear H;intro w H;dsimp only [List.set,setRow] at H;refine K8 _ _ ?_;clear K8;refine kP H (SC (Rm rfl (Rm rfl ?_)));clear H;intro a H;refine s_loada ty88run (cs:=[_,_,_,_,_,_]) H wn rfl rfl (H.hp.ocells 0 rfl rfl) rfl ?_;clear H;intro a H;refine s_callv0 H wn rfl rfl (hf _ (List.getElem_mem hk2) _ _ _ hgm H.hp.ro (hrep.mono hgm)) rfl ?_;clear H;rintro v17 G17 a w ⟨cs17,rfl,h17⟩ hm17 H;obtain ⟨cs,hcs⟩:∃ cs,cs=cs17:=⟨_,rfl⟩;obtain ⟨pA,pn,pc,dA,dn,dc,yA,yn,yc,fA,fn,fc,hcs17,-⟩:=h17.row;rw [hcs17] at H;refine s_buildSlice un83run ty88run [_,_,_,_,_,_] [_,_,_,_,_,_] H wn rfl rfl rfl rfl rfl (by intro i q h;match i,h with|0,h=>exact h|n+1,h=>simp at h) rfl rfl ?_;clear H;intro b18 a w hb18 H;refine s_append (Li:=[_,_]) (Lo:=Lo) (news:=cs17) un83run ty88run rfl rfl H wn rfl rfl hrw (by rw [hcs17];rfl) (by rw [hcs17];exact H.hp.ocells 0 rfl rfl) h17.one (by omega) (by omega) rfl ?_;clear H;intro v19 Lo19 a w hrw19 H;refine kH H (Ra rfl (Kn K7 (SC (Rd rfl (Rm rfl ?_)))));clear H K7;intro a H;refine wl_nil ?_;refine loop_end ((k+1,v19,xs++cs17,Lo19,G17)) (by exact (H.pickT (Pl:=[_,_]) (Pl':=[]) [] (by decide) rfl).sub ⟨rfl,rfl,rfl,rfl,rfl,trivial⟩) ?_ ?_
  ·(try dsimp only);refine ⟨by omega,hrw19,?_,fun b o h=>hm17 b o (hgm b o h)⟩;rw [List.take_succ_eq_append_getElem (by simpa using hk2)];exact (hcat.mono hm17).snoc (by simpa using h17) (by rw [hcs17];rfl)
  first|omega|(dsimp only;omega)
 intro h11
 try have p11:=dF h11
 refine c_exit ?_;refine K3 _ _ ?_;clear K3;refine c_seq (fun _ K9=>?_);obtain ⟨G',hm,hrep,H⟩:=H.giveRow (Li:=[]) hrw (rows:=l.map RowD.dat) (by simp;omega) (by rw [List.take_of_length_le (by simp;omega)] at hcat;exact hcat);refine kP H (SC (Rm rfl (Ra rfl (Kn K9 ?_))));clear H K9;intro a H;refine lr H Tryz.results79 rfl ?_;exact H.hp.ret hrep
/-- The list of the copies of Cells. -/
theorem eachCell_spec (G:GH) (w0:World) (hG:Hold G w0) (l:List CellD) (v fv:Value) (hv:RepV G (.sl 7 (l.map CellD.dat)) v) (hz:l.length≤4294967296) (hf:∀ x∈l,Copier fv w0 G x.dat) :
  Calls Tryz.prog 109 #[v,fv] w0 (Ret w0 G fun u G'=>RepV G' (.sl 7 (l.map CellD.dat)) u):=by
 obtain ⟨A,c,rfl,hc1,hc2,hg⟩:=hv.slice
 have hml:4294967297≤maxLen:=by decide
 rw [List.length_map] at *;refine eN [(0,_),(1,_)] Tryz.func109 rfl Tryz.ntmps109 rfl rfl hG ?_;intro a H;refine kP H (SR fun _ K1=>Ra rfl (Kz K1 (SR fun _ K2=>Ra rfl (Kz K2 (SQ fun _ K3=>SR fun _ K4=>Rm rfl (Rl un86run rfl (Rm rfl (Kz K4 (SB ?_)))))))));clear H K1 K2 K4;intro a H;skip;refine c_loopS (ι:=Nat × Value × List Value × OL × GH) (Tc:=[(1,_),(8,_),(9,_)]) (Lc:=[]) (fun (gh:Nat × Value × List Value × OL × GH)=>[(5,gh.2.1),(10,vi gh.1)]) (fun (gh:Nat × Value × List Value × OL × GH)=>[]++gh.2.2.2.1) (fun (gh:Nat × Value × List Value × OL × GH)=>gh.2.2.2.2) (fun (gh:Nat × Value × List Value × OL × GH)=>gh.1≤l.length∧IsRow 90 7 gh.2.1 gh.1 gh.2.2.1 gh.2.2.2.1∧RepCat gh.2.2.2.2 7 ((l.map CellD.dat).take gh.1) gh.2.2.1∧(∀ b o,G b=some o→gh.2.2.2.2 b=some o)) (fun (gh:Nat × Value × List Value × OL × GH)=>l.length - gh.1) ((0,.slice none 0 0,[],[],G)) (by exact (H).sub ⟨rfl,rfl,rfl,rfl,rfl,trivial⟩) ?_ ?_
 ·exact ⟨by omega,IsRow.nil,by simpa using RepCat.nil,fun _ _ h=>h⟩
 clear H;intro gh a w hI H;obtain ⟨k,v,xs,Lo,g⟩:=gh;dsimp only at hI H;obtain ⟨hk,hrw,hcat,hgm⟩:=hI;dsimp only [List.cons_append,List.nil_append,List.append_nil] at H;refine kP H (SR fun _ K5=>Rc rfl (Kz K5 (SQ fun _ K6=>?_)));clear H K5;intro a H;refine c_cond H rfl ?_ ?_
 ·intro h11
  try have p11:=dT h11
  have hk2:k < l.length:=by omega
  obtain ⟨b,o,cs,rfl,hcl,hrow,hrep⟩:=hg k l[k].dat (by simp [hk2]);obtain ⟨pA,pn,pc,dA,dn,dc,yA,yn,yc,fA,fn,fc,rfl,-⟩:=hrep.cell;replace hrow:=fun j u hj=>gcell_mono hgm (hrow j u hj);refine kP H (Kc K6 (SQ fun _ K7=>SB (SR fun _ K8=>Ri un86run ty90run rfl rfl ?_)));clear H K6;intro a H;refine s_loada ty90run (cs:=[_,_,_,_,_,_,_]) H wn rfl rfl (fun j v hj=>H.hp.gcell (hrow j v hj)) rfl ?_;clear H;intro a H;refine s_alloc ty90run H wn rfl ?_;clear H;intro b7 a w hb7 H;refine s_store ty90run 0 (vs:=[_,_,_,_,_,_,_]) _ H wn rfl rfl rfl rfl rfl rfl rfl rfl ?_;clear H;intro w H;dsimp only [List.set,setRow] at H;refine K8 _ _ ?_;clear K8;refine kP H (SC (Rm rfl (Rm rfl ?_)));clear H;intro a H;refine s_loada ty90run (cs:=[_,_,_,_,_,_,_]) H wn rfl rfl (H.hp.ocells 0 rfl rfl) rfl ?_;clear H;intro a H;refine s_callv0 H wn rfl rfl (hf _ (List.getElem_mem hk2) _ _ _ hgm H.hp.ro (hrep.mono hgm)) rfl ?_;clear H;rintro v17 G17 a w ⟨cs17,rfl,h17⟩ hm17 H;obtain ⟨cs,hcs⟩:∃ cs,cs=cs17:=⟨_,rfl⟩;obtain ⟨pA,pn,pc,dA,dn,dc,yA,yn,yc,fA,fn,fc,hcs17,-⟩:=h17.cell;rw [hcs17] at H;refine s_buildSlice un86run ty90run [_,_,_,_,_,_,_] [_,_,_,_,_,_,_] H wn rfl rfl rfl rfl rfl (by intro i q h;match i,h with|0,h=>exact h|n+1,h=>simp at h) rfl rfl ?_;clear H;intro b18 a w hb18 H;refine s_append (Li:=[_,_]) (Lo:=Lo) (news:=cs17) un86run ty90run rfl rfl H wn rfl rfl hrw (by rw [hcs17];rfl) (by rw [hcs17];exact H.hp.ocells 0 rfl rfl) h17.one (by omega) (by omega) rfl ?_;clear H;intro v19 Lo19 a w hrw19 H;refine kH H (Ra rfl (Kn K7 (SC (Rd rfl (Rm rfl ?_)))));clear H K7;intro a H;refine wl_nil ?_;refine loop_end ((k+1,v19,xs++cs17,Lo19,G17)) (by exact (H.pickT (Pl:=[_,_]) (Pl':=[]) [] (by decide) rfl).sub ⟨rfl,rfl,rfl,rfl,rfl,trivial⟩) ?_ ?_
  ·(try dsimp only);refine ⟨by omega,hrw19,?_,fun b o h=>hm17 b o (hgm b o h)⟩;rw [List.take_succ_eq_append_getElem (by simpa using hk2)];exact (hcat.mono hm17).snoc (by simpa using h17) (by rw [hcs17];rfl)
  first|omega|(dsimp only;omega)
 intro h11
 try have p11:=dF h11
 refine c_exit ?_;refine K3 _ _ ?_;clear K3;refine c_seq (fun _ K9=>?_);obtain ⟨G',hm,hrep,H⟩:=H.giveRow (Li:=[]) hrw (rows:=l.map CellD.dat) (by simp;omega) (by rw [List.take_of_length_le (by simp;omega)] at hcat;exact hcat);refine kP H (SC (Rm rfl (Ra rfl (Kn K9 ?_))));clear H K9;intro a H;refine lr H Tryz.results109 rfl ?_;exact H.hp.ret hrep
/-- Copies of flows that are smaller than n. -/
def CloneOk (n:Nat):Prop:=∀ (G:GH) (w0:World),Hold G w0→∀ (l:List ItemD) (v:Value),RepV G (.sl 11 (l.map ItemD.dat)) v→zItems l < n →
 Calls Tryz.prog 50 #[v] w0 (Ret w0 G fun u G'=>RepV G' (.sl 11 (l.map ItemD.dat)) u)
theorem cloneCell_spec {n:Nat} (ih:CloneOk n) (hn:n≤4294967296) (G:GH) (w0:World) (hG:Hold G w0) (x:CellD) (cs:List Value) (hv:RepRow G x.dat cs) (hz:szR x.dat < n+1) :
  Calls Tryz.prog 110 #[.agg cs.toArray] w0 (Ret w0 G fun u G'=>∃ cs',u=.agg cs'.toArray∧RepRow G' x.dat cs'):=by
 have he:=zCell_eq x;obtain ⟨pA,pn,pc,dA,dn,dc,yA,yn,yc,fA,fn,fc,rfl,hh,hf⟩:=hv.cell;refine eN [(0,_)] Tryz.func110 rfl Tryz.ntmps110 rfl rfl hG ?_;intro a H;refine c_seqR (fun _ K1=>?_);refine s_box (cs:=[_,_,_,_,_,_,_]) H wn rfl rfl rfl ?_;clear H;intro b1 a w hb1 H;refine s_alloc ty90run H wn rfl ?_;clear H;intro b2 a w hb2 H;refine K1 _ _ ?_;clear K1;refine c_seq (fun _ K2=>?_)
 have hprm1:∀ (ix_:Nat) (v:Value) (G G':GH),(∀ k o,G k=some o→G' k=some o)→(fun (ix_:Nat) (v:Value) (G:GH)=>match ix_ with|0=>v=.pointer (some ⟨b1,0,none⟩)|1=>v=vi x.id|2=>v=.pointer (some ⟨b1,1,none⟩)|3=>v=.agg #[.slice pA pn pc,vi x.head.marks.ins,vi x.head.marks.move,.slice dA dn dc,.slice yA yn yc]|4=>∃ p d l,v=.agg #[p,vi x.head.marks.ins,vi x.head.marks.move,d,l]∧HeadR G x.head p d l|5=>v=.pointer (some ⟨b1,6,none⟩)|6=>v=.slice fA fn fc|7=>RepV G (.sl 11 (x.flow.map ItemD.dat)) v|_=>True) ix_ v G→(fun (ix_:Nat) (v:Value) (G:GH)=>match ix_ with|0=>v=.pointer (some ⟨b1,0,none⟩)|1=>v=vi x.id|2=>v=.pointer (some ⟨b1,1,none⟩)|3=>v=.agg #[.slice pA pn pc,vi x.head.marks.ins,vi x.head.marks.move,.slice dA dn dc,.slice yA yn yc]|4=>∃ p d l,v=.agg #[p,vi x.head.marks.ins,vi x.head.marks.move,d,l]∧HeadR G x.head p d l|5=>v=.pointer (some ⟨b1,6,none⟩)|6=>v=.slice fA fn fc|7=>RepV G (.sl 11 (x.flow.map ItemD.dat)) v|_=>True) ix_ v G':=by
  intro ix_ v G G' hm h
  match ix_,h with
  | 0,h=>exact h
  | 1,h=>exact h
  | 2,h=>exact h
  | 3,h=>exact h
  | 4,h=>exact let ⟨p,d,l,h1,h2⟩:=h;⟨p,d,l,h1,h2.mono hm⟩
  | 5,h=>exact h
  | 6,h=>exact h
  | 7,h=>exact RepV.mono hm h
  | 8,h=>exact trivial
  | 9,h=>exact trivial
  | _+10,h=>exact trivial
 refine c_drawI (hmx) [[],[0],[],[2],[2,3],[],[5],[2,3,4,5,6],(List.range 8),(List.range 9)] [8,9] (by kernel_rfl) (by kernel_rfl) (fun (ix_:Nat) (v:Value) (G:GH)=>match ix_ with|0=>v=.pointer (some ⟨b1,0,none⟩)|1=>v=vi x.id|2=>v=.pointer (some ⟨b1,1,none⟩)|3=>v=.agg #[.slice pA pn pc,vi x.head.marks.ins,vi x.head.marks.move,.slice dA dn dc,.slice yA yn yc]|4=>∃ p d l,v=.agg #[p,vi x.head.marks.ins,vi x.head.marks.move,d,l]∧HeadR G x.head p d l|5=>v=.pointer (some ⟨b1,6,none⟩)|6=>v=.slice fA fn fc|7=>RepV G (.sl 11 (x.flow.map ItemD.dat)) v|_=>True) hprm1 H ?_ ?_
 ·clear H;refine al4 ?_ ?_ ?_ ?_ (al4 ?_ ?_ ?_ ?_ (allI_cons ?_ (allI_cons ?_ allI_nil)))
  ·refine opI [] rfl trivial (by kernel_rfl) hprm1 rfl rfl ?_;intro Sd_ a w G1 hG HT H fin;exact kH H (Rf fd90_0run rfl fun _ H=>fin H iJ rfl)
  ·refine opI [(0,3,_)] rfl ⟨fun _ _ h=>h,trivial⟩ (by kernel_rfl) hprm1 rfl rfl ?_;intro Sd_ a w G1 hG HT H fin;exact kH H (Ro ty3run 1 rfl rfl fun _ H=>fin H iJ rfl)
  ·refine opI [] rfl trivial (by kernel_rfl) hprm1 rfl rfl ?_;intro Sd_ a w G1 hG HT H fin;exact kH H (Rf fd90_1run rfl fun _ H=>fin H iJ rfl)
  ·refine opI [(2,5,_)] rfl ⟨fun _ _ h=>h,trivial⟩ (by kernel_rfl) hprm1 rfl rfl ?_;intro Sd_ a w G1 hG HT H fin;refine s_loada ty29run (cs:=[_,_,_,_,_]) H wn rfl rfl (H.hp.ocells 1 rfl rfl) rfl ?_;clear H;intro a H;exact fin H iJ rfl
  ·refine opI [(3,6,_)] rfl ⟨fun _ _ h=>h,trivial⟩ (by kernel_rfl) hprm1 rfl rfl ?_;intro Sd_ a w G1 hG HT H fin;refine s_call en78run H wn rfl (cloneHead_spec _ _ H.hp.ro x.head _ _ _ _ _ _ _ _ _ (hh.mono hG) (by omega)) rfl ?_;clear H;rintro v7 G7 a w hp7 hGm7 H;exact fin H hGm7 (hp7)
  ·refine opI [] rfl trivial (by kernel_rfl) hprm1 rfl rfl ?_;intro Sd_ a w G1 hG HT H fin;exact kH H (Rf fd90_2run rfl fun _ H=>fin H iJ rfl)
  ·refine opI [(5,8,_)] rfl ⟨fun _ _ h=>h,trivial⟩ (by kernel_rfl) hprm1 rfl rfl ?_;intro Sd_ a w G1 hG HT H fin;exact kH H (Ro ty22run 1 rfl rfl fun _ H=>fin H iJ rfl)
  ·refine opI [(6,9,_)] rfl ⟨fun _ _ h=>h,trivial⟩ (by kernel_rfl) hprm1 rfl rfl ?_;intro Sd_ a w G1 hG HT H fin;refine s_call en50run H wn rfl (ih _ _ H.hp.ro x.flow _ (hf.mono hG) (by omega)) rfl ?_;clear H;rintro v10 G10 a w hp10 hGm10 H;exact fin H hGm10 (hp10)
  ·exact opB rfl
  exact opB rfl
 clear H;intro a w G hGm1 H hv;obtain ⟨u4,hu4,hp4⟩:=hv 1 4 (by decide) rfl;obtain rfl:u4=vi x.id:=hp4;have H:=H.addS hu4;obtain ⟨u7,hu7,hp7⟩:=hv 4 7 (by decide) rfl;(try dsimp only at hp7);obtain ⟨p7,d7,l7,rfl,hh7⟩:=hp7;obtain ⟨a1,a2,a3,rfl⟩:=hh7.props.form;obtain ⟨a4,a5,a6,rfl⟩:=hh7.dels.form;obtain ⟨a7,a8,a9,rfl⟩:=hh7.layers.form;have H:=H.addS hu7;obtain ⟨u10,hu10,hp10⟩:=hv 7 10 (by decide) rfl;(try dsimp only at hp10);obtain ⟨A10,n10,c10,rfl⟩:=hp10.form;have H:=H.addS hu10;clear hv;refine s_build sr90run [_,_,_,_,_,_,_] H wn rfl rfl rfl rfl ?_;clear H;intro a H;refine s_store ty90run 0 (vs:=[_,_,_,_,_,_,_]) _ H wn rfl rfl rfl rfl rfl rfl rfl rfl ?_;clear H;intro w H;dsimp only [List.set,setRow] at H;refine wl_nil ⟨rfl,?_⟩;refine K2 _ _ ?_;clear K2;refine c_ret ?_;refine (leave1 H Tryz.results110 (.cons (rv_cella ty90run (cs:=[_,_,_,_,_,_,_]) H rfl rfl (H.hp.ocells 0 rfl rfl)) .nil) ?_).1;exact H.hp.ret ⟨_,rfl,RepRow.mkCell hh7 hp10⟩
theorem cloneCell_copier {n:Nat} (ih:CloneOk n) (hn:n≤4294967296) {G:GH} {w0:World} (x:CellD) (hz:szR x.dat < n+1):Copier (.func (.func 110) #[] #[]) w0 G x.dat:=by
 intro G1 w1 cs hm1 hG1 hr;have h:=cloneCell_spec ih hn _ _ hG1 x cs hr hz;have h2:=callV_func (P:=Tryz.prog) (caps:=[]) (args:=[.agg cs.toArray]) en110run h;exact h2
theorem cloneRow_spec {n:Nat} (ih:CloneOk n) (hn:n≤4294967296) (G:GH) (w0:World) (hG:Hold G w0) (x:RowD) (cs:List Value) (hv:RepRow G x.dat cs) (hz:szR x.dat < n+1) :
  Calls Tryz.prog 80 #[.agg cs.toArray] w0 (Ret w0 G fun u G'=>∃ cs',u=.agg cs'.toArray∧RepRow G' x.dat cs'):=by
 have he:=zRow_eq x;have hl:=zCells_length x.cells;obtain ⟨pA,pn,pc,dA,dn,dc,yA,yn,yc,fA,fn,fc,rfl,hh,hf⟩:=hv.row;refine eN [(0,_)] Tryz.func80 rfl Tryz.ntmps80 rfl rfl hG ?_;intro a H;refine c_seqR (fun _ K1=>?_);refine s_box (cs:=[_,_,_,_,_,_]) H wn rfl rfl rfl ?_;clear H;intro b1 a w hb1 H;refine s_alloc ty88run H wn rfl ?_;clear H;intro b2 a w hb2 H;refine K1 _ _ ?_;clear K1;refine c_seq (fun _ K2=>?_)
 have hprm1:∀ (ix_:Nat) (v:Value) (G G':GH),(∀ k o,G k=some o→G' k=some o)→(fun (ix_:Nat) (v:Value) (G:GH)=>match ix_ with|0=>v=.pointer (some ⟨b1,0,none⟩)|1=>v=.agg #[.slice pA pn pc,vi x.head.marks.ins,vi x.head.marks.move,.slice dA dn dc,.slice yA yn yc]|2=>∃ p d l,v=.agg #[p,vi x.head.marks.ins,vi x.head.marks.move,d,l]∧HeadR G x.head p d l|3=>v=.pointer (some ⟨b1,5,none⟩)|4=>v=.slice fA fn fc|5=>RepV G (.sl 7 (x.cells.map CellD.dat)) v|_=>True) ix_ v G→(fun (ix_:Nat) (v:Value) (G:GH)=>match ix_ with|0=>v=.pointer (some ⟨b1,0,none⟩)|1=>v=.agg #[.slice pA pn pc,vi x.head.marks.ins,vi x.head.marks.move,.slice dA dn dc,.slice yA yn yc]|2=>∃ p d l,v=.agg #[p,vi x.head.marks.ins,vi x.head.marks.move,d,l]∧HeadR G x.head p d l|3=>v=.pointer (some ⟨b1,5,none⟩)|4=>v=.slice fA fn fc|5=>RepV G (.sl 7 (x.cells.map CellD.dat)) v|_=>True) ix_ v G':=by
  intro ix_ v G G' hm h
  match ix_,h with
  | 0,h=>exact h
  | 1,h=>exact h
  | 2,h=>exact let ⟨p,d,l,h1,h2⟩:=h;⟨p,d,l,h1,h2.mono hm⟩
  | 3,h=>exact h
  | 4,h=>exact h
  | 5,h=>exact RepV.mono hm h
  | 6,h=>exact trivial
  | 7,h=>exact trivial
  | _+8,h=>exact trivial
 refine c_drawI (hmx) [[],[0],[0,1],[],[3],[0,1,2,3,4],[0,1,2,3,4,5],(List.range 7)] [6,7] (by kernel_rfl) (by kernel_rfl) (fun (ix_:Nat) (v:Value) (G:GH)=>match ix_ with|0=>v=.pointer (some ⟨b1,0,none⟩)|1=>v=.agg #[.slice pA pn pc,vi x.head.marks.ins,vi x.head.marks.move,.slice dA dn dc,.slice yA yn yc]|2=>∃ p d l,v=.agg #[p,vi x.head.marks.ins,vi x.head.marks.move,d,l]∧HeadR G x.head p d l|3=>v=.pointer (some ⟨b1,5,none⟩)|4=>v=.slice fA fn fc|5=>RepV G (.sl 7 (x.cells.map CellD.dat)) v|_=>True) hprm1 H ?_ ?_
 ·clear H;refine al4 ?_ ?_ ?_ ?_ (al4 ?_ ?_ ?_ ?_ allI_nil)
  ·refine opI [] rfl trivial (by kernel_rfl) hprm1 rfl rfl ?_;intro Sd_ a w G1 hG HT H fin;exact kH H (Rf fd88_0run rfl fun _ H=>fin H iJ rfl)
  ·refine opI [(0,3,_)] rfl ⟨fun _ _ h=>h,trivial⟩ (by kernel_rfl) hprm1 rfl rfl ?_;intro Sd_ a w G1 hG HT H fin;refine s_loada ty29run (cs:=[_,_,_,_,_]) H wn rfl rfl (H.hp.ocells 1 rfl rfl) rfl ?_;clear H;intro a H;exact fin H iJ rfl
  ·refine opI [(1,4,_)] rfl ⟨fun _ _ h=>h,trivial⟩ (by kernel_rfl) hprm1 rfl rfl ?_;intro Sd_ a w G1 hG HT H fin;refine s_call en78run H wn rfl (cloneHead_spec _ _ H.hp.ro x.head _ _ _ _ _ _ _ _ _ (hh.mono hG) (by omega)) rfl ?_;clear H;rintro v5 G5 a w hp5 hGm5 H;exact fin H hGm5 (hp5)
  ·refine opI [] rfl trivial (by kernel_rfl) hprm1 rfl rfl ?_;intro Sd_ a w G1 hG HT H fin;exact kH H (Rf fd88_1run rfl fun _ H=>fin H iJ rfl)
  ·refine opI [(3,6,_)] rfl ⟨fun _ _ h=>h,trivial⟩ (by kernel_rfl) hprm1 rfl rfl ?_;intro Sd_ a w G1 hG HT H fin;exact kH H (Ro ty86run 1 rfl rfl fun _ H=>fin H iJ rfl)
  ·refine opI [(4,7,_)] rfl ⟨fun _ _ h=>h,trivial⟩ (by kernel_rfl) hprm1 rfl rfl ?_;intro Sd_ a w G1 hG HT H fin;refine s_call en109run H wn rfl (eachCell_spec _ _ H.hp.ro x.cells _ _ (hf.mono hG) (by omega) (fun y hy=>cloneCell_copier ih hn y (by have:=zCells_mem hy;omega))) rfl ?_;clear H;rintro v8 G8 a w hp8 hGm8 H;exact fin H hGm8 (hp8)
  ·exact opB rfl
  exact opB rfl
 clear H;intro a w G hGm1 H hv;obtain ⟨u5,hu5,hp5⟩:=hv 2 5 (by decide) rfl;(try dsimp only at hp5);obtain ⟨p5,d5,l5,rfl,hh5⟩:=hp5;obtain ⟨a1,a2,a3,rfl⟩:=hh5.props.form;obtain ⟨a4,a5,a6,rfl⟩:=hh5.dels.form;obtain ⟨a7,a8,a9,rfl⟩:=hh5.layers.form;have H:=H.addS hu5;obtain ⟨u8,hu8,hp8⟩:=hv 5 8 (by decide) rfl;(try dsimp only at hp8);obtain ⟨A8,n8,c8,rfl⟩:=hp8.form;have H:=H.addS hu8;clear hv;refine s_build sr88run [_,_,_,_,_,_] H wn rfl rfl rfl rfl ?_;clear H;intro a H;refine s_store ty88run 0 (vs:=[_,_,_,_,_,_]) _ H wn rfl rfl rfl rfl rfl rfl rfl rfl ?_;clear H;intro w H;dsimp only [List.set,setRow] at H;refine wl_nil ⟨rfl,?_⟩;refine K2 _ _ ?_;clear K2;refine c_ret ?_;refine (leave1 H Tryz.results80 (.cons (rv_cella ty88run (cs:=[_,_,_,_,_,_]) H rfl rfl (H.hp.ocells 0 rfl rfl)) .nil) ?_).1;exact H.hp.ret ⟨_,rfl,RepRow.mkRow hh5 hp8⟩
theorem cloneRow_copier {n:Nat} (ih:CloneOk n) (hn:n≤4294967296) {G:GH} {w0:World} (x:RowD) (hz:szR x.dat < n+1):Copier (.func (.func 80) #[] #[]) w0 G x.dat:=by
 intro G1 w1 cs hm1 hG1 hr;have h:=cloneRow_spec ih hn _ _ hG1 x cs hr hz;have h2:=callV_func (P:=Tryz.prog) (caps:=[]) (args:=[.agg cs.toArray]) en80run h;exact h2
theorem clone1_spec {n:Nat} (ih:CloneOk n) (hn:n≤4294967296) (G:GH) (w0:World) (hG:Hold G w0) (x:ItemD) (cs:List Value) (hv:RepRow G x.dat cs) (hz:szR x.dat < n+1) :
  Calls Tryz.prog 77 #[.agg cs.toArray] w0 (Ret w0 G fun u G'=>∃ cs',u=.agg cs'.toArray∧RepRow G' x.dat cs'):=by
 have he:=zItem_eq x;have hl:=zRows_length x.rows;obtain ⟨pA,pn,pc,dA,dn,dc,yA,yn,yc,fA,fn,fc,rA,rn,rc,rfl,hh,hf,hr⟩:=hv.item;refine eN [(0,_)] Tryz.func77 rfl Tryz.ntmps77 rfl rfl hG ?_;intro a H;refine c_seqR (fun _ K1=>?_);refine s_box (cs:=[_,_,_,_,_,_,_,_,_,_,_]) H wn rfl rfl rfl ?_;clear H;intro b1 a w hb1 H;refine s_alloc ty85run H wn rfl ?_;clear H;intro b2 a w hb2 H;refine K1 _ _ ?_;clear K1;refine c_seq (fun _ K2=>?_)
 have hprm1:∀ (ix_:Nat) (v:Value) (G G':GH),(∀ k o,G k=some o→G' k=some o)→(fun (ix_:Nat) (v:Value) (G:GH)=>match ix_ with|0=>v=.pointer (some ⟨b1,4,none⟩)|1=>v=.agg #[.slice pA pn pc,vi x.head.marks.ins,vi x.head.marks.move,.slice dA dn dc,.slice yA yn yc]|2=>∃ p d l,v=.agg #[p,vi x.head.marks.ins,vi x.head.marks.move,d,l]∧HeadR G x.head p d l|3=>v=.pointer (some ⟨b1,9,none⟩)|4=>v=.slice fA fn fc|5=>RepV G (.sl 11 (x.flow.map ItemD.dat)) v|6=>v=.pointer (some ⟨b1,10,none⟩)|7=>v=.slice rA rn rc|8=>RepV G (.sl 6 (x.rows.map RowD.dat)) v|9=>v=.pointer (some ⟨b1,4,none⟩)|_=>True) ix_ v G→(fun (ix_:Nat) (v:Value) (G:GH)=>match ix_ with|0=>v=.pointer (some ⟨b1,4,none⟩)|1=>v=.agg #[.slice pA pn pc,vi x.head.marks.ins,vi x.head.marks.move,.slice dA dn dc,.slice yA yn yc]|2=>∃ p d l,v=.agg #[p,vi x.head.marks.ins,vi x.head.marks.move,d,l]∧HeadR G x.head p d l|3=>v=.pointer (some ⟨b1,9,none⟩)|4=>v=.slice fA fn fc|5=>RepV G (.sl 11 (x.flow.map ItemD.dat)) v|6=>v=.pointer (some ⟨b1,10,none⟩)|7=>v=.slice rA rn rc|8=>RepV G (.sl 6 (x.rows.map RowD.dat)) v|9=>v=.pointer (some ⟨b1,4,none⟩)|_=>True) ix_ v G':=by
  intro ix_ v G G' hm h
  match ix_,h with
  | 0,h=>exact h
  | 1,h=>exact h
  | 2,h=>exact let ⟨p,d,l,h1,h2⟩:=h;⟨p,d,l,h1,h2.mono hm⟩
  | 3,h=>exact h
  | 4,h=>exact h
  | 5,h=>exact RepV.mono hm h
  | 6,h=>exact h
  | 7,h=>exact h
  | 8,h=>exact RepV.mono hm h
  | 9,h=>exact h
  | 10,h=>exact trivial
  | 11,h=>exact trivial
  | 12,h=>exact trivial
  | 13,h=>exact trivial
  | 14,h=>exact trivial
  | _+15,h=>exact trivial
 refine c_drawI (hmx) [[],[0],[0,1],[],[3],[0,1,2,3,4],[],[6],(List.range 8),[0,1,2,3,4,6,7],(List.range 10),(List.range 11),(List.range 12),(List.range 13),(List.range 14)] [10,11,12,13,14] (by kernel_rfl) (by kernel_rfl) (fun (ix_:Nat) (v:Value) (G:GH)=>match ix_ with|0=>v=.pointer (some ⟨b1,4,none⟩)|1=>v=.agg #[.slice pA pn pc,vi x.head.marks.ins,vi x.head.marks.move,.slice dA dn dc,.slice yA yn yc]|2=>∃ p d l,v=.agg #[p,vi x.head.marks.ins,vi x.head.marks.move,d,l]∧HeadR G x.head p d l|3=>v=.pointer (some ⟨b1,9,none⟩)|4=>v=.slice fA fn fc|5=>RepV G (.sl 11 (x.flow.map ItemD.dat)) v|6=>v=.pointer (some ⟨b1,10,none⟩)|7=>v=.slice rA rn rc|8=>RepV G (.sl 6 (x.rows.map RowD.dat)) v|9=>v=.pointer (some ⟨b1,4,none⟩)|_=>True) hprm1 H ?_ ?_
 ·clear H;refine al4 ?_ ?_ ?_ ?_ (al4 ?_ ?_ ?_ ?_ (al4 ?_ ?_ ?_ ?_ (allI_cons ?_ (allI_cons ?_ (allI_cons ?_ allI_nil)))))
  ·refine opI [] rfl trivial (by kernel_rfl) hprm1 rfl rfl ?_;intro Sd_ a w G1 hG HT H fin;exact kH H (Rf fd85_4run rfl fun _ H=>fin H iJ rfl)
  ·refine opI [(0,3,_)] rfl ⟨fun _ _ h=>h,trivial⟩ (by kernel_rfl) hprm1 rfl rfl ?_;intro Sd_ a w G1 hG HT H fin;refine s_loada ty29run (cs:=[_,_,_,_,_]) H wn rfl rfl (H.hp.ocells 1 rfl rfl) rfl ?_;clear H;intro a H;exact fin H iJ rfl
  ·refine opI [(1,4,_)] rfl ⟨fun _ _ h=>h,trivial⟩ (by kernel_rfl) hprm1 rfl rfl ?_;intro Sd_ a w G1 hG HT H fin;refine s_call en78run H wn rfl (cloneHead_spec _ _ H.hp.ro x.head _ _ _ _ _ _ _ _ _ (hh.mono hG) (by omega)) rfl ?_;clear H;rintro v5 G5 a w hp5 hGm5 H;exact fin H hGm5 (hp5)
  ·refine opI [] rfl trivial (by kernel_rfl) hprm1 rfl rfl ?_;intro Sd_ a w G1 hG HT H fin;exact kH H (Rf fd85_5run rfl fun _ H=>fin H iJ rfl)
  ·refine opI [(3,6,_)] rfl ⟨fun _ _ h=>h,trivial⟩ (by kernel_rfl) hprm1 rfl rfl ?_;intro Sd_ a w G1 hG HT H fin;exact kH H (Ro ty22run 1 rfl rfl fun _ H=>fin H iJ rfl)
  ·refine opI [(4,7,_)] rfl ⟨fun _ _ h=>h,trivial⟩ (by kernel_rfl) hprm1 rfl rfl ?_;intro Sd_ a w G1 hG HT H fin;refine s_call en50run H wn rfl (ih _ _ H.hp.ro x.flow _ (hf.mono hG) (by omega)) rfl ?_;clear H;rintro v8 G8 a w hp8 hGm8 H;exact fin H hGm8 (hp8)
  ·refine opI [] rfl trivial (by kernel_rfl) hprm1 rfl rfl ?_;intro Sd_ a w G1 hG HT H fin;exact kH H (Rf fd85_6run rfl fun _ H=>fin H iJ rfl)
  ·refine opI [(6,9,_)] rfl ⟨fun _ _ h=>h,trivial⟩ (by kernel_rfl) hprm1 rfl rfl ?_;intro Sd_ a w G1 hG HT H fin;exact kH H (Ro ty83run 1 rfl rfl fun _ H=>fin H iJ rfl)
  ·refine opI [(7,10,_)] rfl ⟨fun _ _ h=>h,trivial⟩ (by kernel_rfl) hprm1 rfl rfl ?_;intro Sd_ a w G1 hG HT H fin;refine s_call en79run H wn rfl (eachRow_spec _ _ H.hp.ro x.rows _ _ (hr.mono hG) (by omega) (fun y hy=>cloneRow_copier ih hn y (by have:=zRows_mem hy;omega))) rfl ?_;clear H;rintro v11 G11 a w hp11 hGm11 H;exact fin H hGm11 (hp11)
  ·refine opI [] rfl trivial (by kernel_rfl) hprm1 rfl rfl ?_;intro Sd_ a w G1 hG HT H fin;exact kH H (Rf fd85_4run rfl fun _ H=>fin H iJ rfl)
  ·exact opB rfl
  ·exact opB rfl
  ·exact opB rfl
  ·exact opB rfl
  exact opB rfl
 clear H;intro a w G hGm1 H hv;obtain ⟨u5,hu5,hp5⟩:=hv 2 5 (by decide) rfl;(try dsimp only at hp5);obtain ⟨p5,d5,l5,rfl,hh5⟩:=hp5;obtain ⟨a1,a2,a3,rfl⟩:=hh5.props.form;obtain ⟨a4,a5,a6,rfl⟩:=hh5.dels.form;obtain ⟨a7,a8,a9,rfl⟩:=hh5.layers.form;have H:=H.addS hu5;obtain ⟨u8,hu8,hp8⟩:=hv 5 8 (by decide) rfl;(try dsimp only at hp8);obtain ⟨A8,n8,c8,rfl⟩:=hp8.form;have H:=H.addS hu8;obtain ⟨u11,hu11,hp11⟩:=hv 8 11 (by decide) rfl;(try dsimp only at hp11);obtain ⟨A11,n11,c11,rfl⟩:=hp11.form;have H:=H.addS hu11;obtain ⟨u12,hu12,hp12⟩:=hv 9 12 (by decide) rfl;obtain rfl:u12=.pointer (some ⟨b1,4,none⟩):=hp12;have H:=H.addS hu12;clear hv;refine s_store ty29run 1 (vs:=[_,_,_,_,_]) _ H wn rfl rfl rfl rfl rfl rfl rfl rfl ?_;clear H;intro w H;dsimp only [List.set,setRow] at H;refine kH H (Rf fd85_5run rfl ?_);clear H;intro a H;refine s_store ty22run 1 (vs:=[_]) _ H wn rfl rfl rfl rfl rfl rfl rfl rfl ?_;clear H;intro w H;dsimp only [List.set,setRow] at H;refine kH H (Rf fd85_6run rfl ?_);clear H;intro a H;refine s_store ty83run 1 (vs:=[_]) _ H wn rfl rfl rfl rfl rfl rfl rfl rfl ?_;clear H;intro w H;dsimp only [List.set,setRow] at H;refine wl_nil ⟨rfl,?_⟩;refine K2 _ _ ?_;clear K2;refine c_seqR (fun _ K3=>?_);refine s_loada ty85run (cs:=[_,_,_,_,_,_,_,_,_,_,_]) H wn rfl rfl (H.hp.ocells 1 rfl rfl) rfl ?_;clear H;intro a H;refine s_store ty85run 0 (vs:=[_,_,_,_,_,_,_,_,_,_,_]) _ H wn rfl rfl rfl rfl rfl rfl rfl rfl ?_;clear H;intro w H;dsimp only [List.set,setRow] at H;refine K3 _ _ ?_;clear K3;refine c_ret ?_;refine (leave1 H Tryz.results77 (.cons (rv_cella ty85run (cs:=[_,_,_,_,_,_,_,_,_,_,_]) H rfl rfl (H.hp.ocells 0 rfl rfl)) .nil) ?_).1;exact H.hp.ret ⟨_,rfl,RepRow.mkItem hh5 hp8 hp11⟩
theorem clone1_copier {n:Nat} (ih:CloneOk n) (hn:n≤4294967296) {G:GH} {w0:World} (x:ItemD) (hz:szR x.dat < n+1):Copier (.func (.func 77) #[] #[]) w0 G x.dat:=by
 intro G1 w1 cs hm1 hG1 hr;have h:=clone1_spec ih hn _ _ hG1 x cs hr hz;have h2:=callV_func (P:=Tryz.prog) (caps:=[]) (args:=[.agg cs.toArray]) en77run h;exact h2
theorem clone_ok:∀ n:Nat,n≤4294967297→CloneOk n
 | 0,_=>fun _ _ _ _ _ _ h=>absurd h (by omega)
 | n+1,hn=>by
  intro G w0 hG l v hv hz;have ih:=clone_ok n (by omega);have hl:=zItems_length l;refine eN [(0,_)] Tryz.func50 rfl Tryz.ntmps50 rfl rfl hG ?_;intro a H;refine kP H (SR fun _ K1=>Ra rfl (Kz K1 (SR fun _ K2=>Rm rfl ?_)));clear H K1;intro a H;refine s_call en76run H wn rfl (eachItem_spec _ _ H.hp.ro l _ _ hv (by omega) (fun y hy=>clone1_copier ih (by omega) y (by have:=zItems_mem hy;omega))) rfl ?_;clear H;rintro v4 G4 a w hp4 hGm4 H;refine kH H (Ra rfl (Kz K2 ?_));clear H K2;intro a H;refine lr H Tryz.results50 rfl ?_;exact H.hp.ret hp4
/-- A copy of a flow. -/
theorem clone_spec (G:GH) (w0:World) (hG:Hold G w0) (l:List ItemD) (v:Value) (hv:RepV G (.sl 11 (l.map ItemD.dat)) v) (hz:zItems l≤4294967296) :
  Calls Tryz.prog 50 #[v] w0 (Ret w0 G fun u G'=>RepV G' (.sl 11 (l.map ItemD.dat)) u):=clone_ok 4294967297 (by omega) G w0 hG l v hv (by omega)
end
section
open Go.RowKit
section
variable {P:Program} {N:Nat} {D:List Deferred} {w0 w w':World} {F:Nat→Prop} {G0 G G':GH} {L L' Li Lo:OL} {T:List (Nat × Value)} {a a':Act} {Q:Exit→Act→World→Prop}
theorem St.cast (h:St N D w0 F G0 G L T a w) (e:L=L'):St N D w0 F G0 G L' T a w:=e ▸ h
theorem St.assoc {A B C:OL} (h:St N D w0 F G0 G ((A++B)++C) T a w):St N D w0 F G0 G (A++(B++C)) T a w:=h.cast (List.append_assoc _ _ _)
theorem St.un {A B C:OL} (h:St N D w0 F G0 G (A++(B++C)) T a w):St N D w0 F G0 G ((A++B)++C) T a w:=h.cast (List.append_assoc _ _ _).symm
theorem St.nilT {A B:OL} (h:St N D w0 F G0 G (A++B) T a w):St N D w0 F G0 G (A++(B++[])) T a w:=h.cast (by rw [List.append_nil])
/-- A range over a function whose state is told by ghosts. -/
theorem c_rangeJ {ι κ:Type} {Lc:OL} {gop:Operand} {ps:List Nat} {assign body:Code} {gf:FuncId} {caps:List Value} {xs:List AP} {Gi:GH}
  (Lv:Nat→ι→OL) (Lt:Nat→ι→OL) (inv:Nat→ι→GH→Prop) (cx:κ→Code) (Lx Lxt:κ→OL) (invx:κ→GH→Prop) (i0:ι)
  (H:St N D w0 F G0 G (Lc++Lv 0 i0++Lt 0 i0) T a w) (hg:ev T gop=some (.func (.func gf) #[] caps.toArray)) (en:∀ args w,(callFunc gf args).run P w=.ok (.enter gf args) w) (hit:Iter P Gi (.func (.func gf) #[] caps.toArray) xs) (hGi:∀ b o,Gi b=some o→G b=some o)
  (hps:ps.all (Nat.blt · N)=true) (hlen:∀ k args g,AtAP xs k args g→args.length=ps.length) (hinv:∀ k i (G G':GH),(∀ b o,G b=some o→G' b=some o)→inv k i G→inv k i G') (hinvx:∀ x (G G':GH),(∀ b o,G b=some o→G' b=some o)→invx x G→invx x G') (h0:inv 0 i0 G)
  (round:∀ (l:Nat) (rdy bsy:Obj) (bk:OL) (k:Nat) (args:List Value) (i:ι) (G1:GH) (w1:World) (F1:Nat→Prop) (B1:Code→Exit→Act→World→Prop) (a1:Act),AtAP xs k args G1→(∀ b o,G b=some o→G1 b=some o)→inv k i G1 →
   (∀ T' G2 L2 a2 w2 c,St N [] w1 F1 G1 G2 ((l,rdy) :: L2) T' a2 w2→(∀ w3,St N [] w1 F1 G1 G2 ((l,bsy) :: L2) T' a2 w3→WP (some l) P c (B1 c) a2 w3)→Exit.then (fun a2 w2=>∃ w3,(Instr.beginRound l).run P w2=.ok () w3∧c.wpIn (FW (some l)) 0 P (B1 c) a2 w3) (fun _ _ _=>False) .normal a2 w2) →
   (∀ i' T' G2 a2 w2 c,St N [] w1 F1 G1 G2 ((l,bsy) :: (Lc++Lv (k+1) i'++(bk++Lt (k+1) i'))) T' a2 w2→inv (k+1) i' G2→B1 c .normal a2 w2) →
   (∀ x T' G2 a2 w2 c,St N [] w1 F1 G1 G2 ((l,bsy) :: (Lc++Lx x++(bk++Lxt x))) T' a2 w2→invx x G2→(cx x=.ret→B1 c .ret a2 w2)∧∀ n,cx x=.exit n→B1 c (.exit n) a2 w2) →
   St N [] w1 F1 G1 G1 ((l,rdy) :: (Lc++Lv k i++(bk++Lt k i))) (asg ps args T) a1 w1 →
   WP (some l) P assign (Exit.then (fun a2 w2=>∃ w3,(Instr.beginRound l).run P w2=.ok () w3∧body.wpIn (FW (some l)) 0 P (B1 body) a2 w3) (fun _ _ _=>False)) a1 w1)
  (hdone:∀ Dk i G1 a1 w1,(∀ b o,G b=some o→G1 b=some o)→inv xs.length i G1→St N ({ target:=.collected Dk,args:=#[] } :: D) w0 F G0 G1 ((Dk,.deferred (some [])) :: (Lc++Lv xs.length i++Lt xs.length i)) T a1 w1→Q .normal a1 w1)
  (hstop:∀ Dk x G1 a1 w1,(∀ b o,G b=some o→G1 b=some o)→invx x G1→St N ({ target:=.collected Dk,args:=#[] } :: D) w0 F G0 G1 ((Dk,.deferred (some [])) :: (Lc++Lx x++Lxt x)) T a1 w1→WP none P (cx x) Q a1 w1) :
  WP none P (.rangeFunc gop ps.toArray assign body) Q a w:=by
 refine c_range (J:=fun k g L=>∃ i,L=Lc++Lv k i++Lt k i∧inv k i g) (Jx:=fun c g L=>∃ x,c=cx x∧L=Lc++Lx x++Lxt x∧invx x g) H hg en hit hGi hps hlen (fun k G G' L hm ⟨i,e,h⟩=>⟨i,e,hinv k i G G' hm h⟩) (fun c G G' L hm ⟨x,e1,e2,h⟩=>⟨x,e1,e2,hinvx x G G' hm h⟩) ⟨i0,rfl,h0⟩ ?_ ?_ ?_
 ·rintro l q bk k args G1 L1 w1 a1 hk hm ⟨i,rfl,hi⟩ H1
  have pm:∀ A B:OL,(bk++(A++B)).Perm (A++(bk++B)):=fun A B=>by
   rw [← List.append_assoc,← List.append_assoc]
   exact List.Perm.append_right B List.perm_append_comm
  refine round l (q.at .ready none) (q.at .busy none) bk k args i G1 w1 _ (fun _=>roundPost P l _) a1 hk hm hi ?_ ?_ ?_ (H1.perm (List.Perm.cons _ (pm _ _)))
  ·intro T' G2 L2 a2 w2 c H2 h
   exact c_begin H2 h
  ·intro i' T' G2 a2 w2 c H2 h2
   exact round_end none (H2.perm (List.Perm.cons _ (pm _ _).symm)) ⟨_,rfl,i',rfl,h2⟩
  ·intro x T' G2 a2 w2 c H2 h2
   have H3:=H2.perm (List.Perm.cons _ (pm _ _).symm)
   refine ⟨fun e=>?_,fun n e=>?_⟩
   ·exact round_end (some .ret) H3 ⟨_,_,rfl,x,e.symm,rfl,h2⟩
   ·exact round_end (some (.exit n)) H3 ⟨_,_,rfl,x,e.symm,rfl,h2⟩
 ·rintro Dk G1 L1 a1 w1 hm ⟨i,rfl,hi⟩ H1
  exact hdone Dk i G1 a1 w1 hm hi H1
 ·rintro Dk c G1 L1 a1 w1 hm ⟨x,rfl,rfl,hx⟩ H1
  exact hstop Dk x G1 a1 w1 hm hx H1
/-! ## Loops in whose rounds functions are ranged over: the marks pile up -/
def mkD (ds:List Nat):List Deferred:=ds.map fun b=>{ target:=.collected b,args:=#[] }
def mkL (ds:List Nat):OL:=ds.map fun b=>(b,.deferred (some []))
theorem c_loopD {r:Option Nat} {ι:Type} {c:Code} {Tc:List (Nat × Value)} {Lc:List (Nat × Obj)} (Dv:ι→List Deferred) (Tv:ι→List (Nat × Value)) (Lv:ι→List (Nat × Obj)) (Gv:ι→GH) (Pr:ι→Prop) (m:ι→Nat) (i0:ι)
  (H:St N (Dv i0) w0 F G0 (Gv i0) (Lc++Lv i0) (Tv i0++Tc) a w) (hP:Pr i0)
  (round:∀ i a w,Pr i→St N (Dv i) w0 F G0 (Gv i) (Lc++Lv i) (Tv i++Tc) a w →
   WP r P c (Exit.then (fun a' w'=>∃ i',(St N (Dv i') w0 F G0 (Gv i') (Lc++Lv i') (Tv i'++Tc) a' w'∧Pr i')∧m i' < m i) Q) a w):WP r P (.loop c) Q a w :=
 c_loop (fun i a w=>St N (Dv i) w0 F G0 (Gv i) (Lc++Lv i) (Tv i++Tc) a w∧Pr i) m i0 ⟨H,hP⟩ fun i a w hI=>round i a w hI.2 hI.1
theorem loopD_end {ι:Type} {Dv:ι→List Deferred} {Tc:List (Nat × Value)} {Lc:List (Nat × Obj)} {Tv:ι→List (Nat × Value)} {Lv:ι→List (Nat × Obj)} {Gv:ι→GH} {Pr:ι→Prop} {m:ι→Nat} {i:ι} (i':ι)
  (H:St N (Dv i') w0 F G0 (Gv i') (Lc++Lv i') (Tv i'++Tc) a w) (hP:Pr i') (hm:m i' < m i) :
  ∃ i',(St N (Dv i') w0 F G0 (Gv i') (Lc++Lv i') (Tv i'++Tc) a w∧Pr i')∧m i' < m i:=⟨i',⟨H,hP⟩,hm⟩
theorem leaveMs {fn:Func} {R:Ending→World→Prop} {Lh Lt:OL}:∀ (ds:List Nat) {a:Act} {w:World},St N (mkD ds) w0 F G0 G (Lh++(mkL ds++Lt)) T a w →
  (∀ a' w',St N [] w0 F G0 G (Lh++Lt) T a' w'→bodyPostM (FW none) 0 P fn R .ret a' w')→bodyPostM (FW none) 0 P fn R .ret a w∧bodyPostM (FW none) 0 P fn R .normal a w
 | [],a,w,H,k=>⟨k a w H,k a w H⟩
 | b :: ds,a,w,H,k=>by
  refine leaveM (b:=b) (D:=mkD ds) H Lh.length (by rw [List.getElem?_append_right (Nat.le_refl _),Nat.sub_self];rfl) fun a' w' H'=>?_
  refine (leaveMs ds (Lh:=Lh) (Lt:=Lt) (H'.cast ?_) k).1
  rw [List.eraseIdx_append_of_length_le (Nat.le_refl _),Nat.sub_self];rfl
end
end
section
open Go.RowKit
theorem en48pos:∀ args w,(callFunc 48 args).run Tryz.prog w=.ok (.enter 48 args) w:=enters Tryz.func48 rfl (by kernel_rfl)
theorem en32pos:∀ args w,(callFunc 32 args).run Tryz.prog w=.ok (.enter 32 args) w:=enters Tryz.func32 rfl (by kernel_rfl)
theorem sr45pos:Srt Tryz.prog 45 [(0,1),(1,1)] [.int .i64 0,.int .i64 0]:=⟨by kernel_rfl,by kernel_rfl⟩
theorem fd85_2pos:Fld Tryz.prog 85 2 2:=⟨by kernel_rfl⟩
/-- How many units run.Len finds in a flow of one item. -/
def n1 (x:ItemD):Nat:=if unitsE x=0 then unitsS x else 0
theorem lenS_one (x:ItemD):lenS [x]=n1 x:=by
 simp only [lenS,divS,n1,sumS,List.all_cons,List.all_nil,Bool.and_true,decide_eq_true_eq]
 split <;> simp_all
mutual
/-- The positions of a flow and of those within it, from an item on. -/
def vItem (flow:Int) (at_:Nat):ItemD→List (Int × Int)
 | .mk k c i t h f r=>(List.range (n1 (.mk k c i t h f r))).map (fun q=>(flow,((at_+q:Nat):Int)))++((if k=6 then vItems i 0 f else [])++vRows r)
def vItems (flow:Int):Nat→List ItemD→List (Int × Int)
 | at_,[]=>[(flow,(at_:Int))]
 | at_,x :: l=>vItem flow at_ x++vItems flow (at_+n1 x) l
def vRows:List RowD→List (Int × Int)
 | []=>[]
 | r :: l=>vRow r++vRows l
def vRow:RowD→List (Int × Int)
 | .mk _ cs=>vCells cs
def vCells:List CellD→List (Int × Int)
 | []=>[]
 | c :: l=>vCell c++vCells l
def vCell:CellD→List (Int × Int)
 | .mk i _ f=>vItems i 0 f
end
theorem vItem_eq (flow:Int) (at_:Nat) (x:ItemD):vItem flow at_ x=(List.range (n1 x)).map (fun q=>(flow,((at_+q:Nat):Int)))++((if x.kind=6 then vItems x.id 0 x.flow else [])++vRows x.rows):=by
 cases x;rw [vItem];rfl
theorem vRow_eq (x:RowD):vRow x=vCells x.cells:=by cases x;simp [vRow,RowD.cells]
theorem vCell_eq (x:CellD):vCell x=vItems x.id 0 x.flow:=by cases x;simp [vCell,CellD.id,CellD.flow]
theorem n1_le (x:ItemD):n1 x < szR x.dat:=by
 have h1:=zItem_eq x;have h2:=cntS_le x.text
 unfold n1 unitsS;split <;> (try split) <;> omega
/-- What is called at a position. -/
def posP (a:Int × Int):AP:=fun args _=>args=[.agg #[vi a.1,vi a.2]]
theorem RepV.len {G:GH} {sz:Nat} {rows:List (List Dat)} {A:Option Addr} {n c:Nat} (h:RepV G (.sl sz rows) (.slice A n c)):n=rows.length:=h.cells.1
theorem RepV.at_ {G:GH} {sz:Nat} {rows:List (List Dat)} {A:Option Addr} {n c:Nat} (h:RepV G (.sl sz rows) (.slice A n c)):∀ k r,rows[k]?=some r→∃ b o cs,A=some ⟨b,o,none⟩∧cs.length=sz∧(∀ j u,cs[j]?=some u→gcell G b (o+k*sz+j)=some u)∧RepRow G r cs:=by
 obtain ⟨A2,c2,e,_,_,hg⟩:=h.slice
 cases e;exact hg
/-- A row that lies in memory. -/
theorem row_get {G:GH} {l:List RowD} {A:Option Addr} {k:Nat} (hk:k < l.length) (hg:∀ k r,(l.map RowD.dat)[k]?=some r→∃ b o cs,A=some ⟨b,o,none⟩∧cs.length=6∧(∀ j u,cs[j]?=some u→gcell G b (o+k*6+j)=some u)∧RepRow G r cs) :
  ∃ b o pA pn pc dA dn dc yA yn yc cA cn cc,A=some ⟨b,o,none⟩∧(∀ j u,[.slice pA pn pc,vi l[k].head.marks.ins,vi l[k].head.marks.move,.slice dA dn dc,.slice yA yn yc,.slice cA cn cc][j]?=some u→gcell G b (o+k*6+j)=some u) ∧
   HeadR G l[k].head (.slice pA pn pc) (.slice dA dn dc) (.slice yA yn yc)∧RepV G (.sl 7 (l[k].cells.map CellD.dat)) (.slice cA cn cc):=by
 obtain ⟨b,o,cs,h1,h2,h3,h4⟩:=hg k l[k].dat (by simp [hk]);obtain ⟨pA,pn,pc,dA,dn,dc,yA,yn,yc,cA,cn,cc,rfl,h5,h6⟩:=h4.row;exact ⟨b,o,pA,pn,pc,dA,dn,dc,yA,yn,yc,cA,cn,cc,h1,h3,h5,h6⟩
theorem cell_get {G:GH} {l:List CellD} {A:Option Addr} {k:Nat} (hk:k < l.length) (hg:∀ k r,(l.map CellD.dat)[k]?=some r→∃ b o cs,A=some ⟨b,o,none⟩∧cs.length=7∧(∀ j u,cs[j]?=some u→gcell G b (o+k*7+j)=some u)∧RepRow G r cs) :
  ∃ b o pA pn pc dA dn dc yA yn yc fA fn fc,A=some ⟨b,o,none⟩∧(∀ j u,[vi l[k].id,.slice pA pn pc,vi l[k].head.marks.ins,vi l[k].head.marks.move,.slice dA dn dc,.slice yA yn yc,.slice fA fn fc][j]?=some u→gcell G b (o+k*7+j)=some u) ∧
   HeadR G l[k].head (.slice pA pn pc) (.slice dA dn dc) (.slice yA yn yc)∧RepV G (.sl 11 (l[k].flow.map ItemD.dat)) (.slice fA fn fc):=by
 obtain ⟨b,o,cs,h1,h2,h3,h4⟩:=hg k l[k].dat (by simp [hk]);obtain ⟨pA,pn,pc,dA,dn,dc,yA,yn,yc,fA,fn,fc,rfl,h5,h6⟩:=h4.cell;exact ⟨b,o,pA,pn,pc,dA,dn,dc,yA,yn,yc,fA,fn,fc,h1,h3,h5,h6⟩
/-- Walks of flows that are smaller than n. -/
def VisitOk (n:Nat):Prop:=∀ (fv:Value) (Gi:GH) (xs:List AP) (J:Nat→GH→OL→Prop) (Jx:GH→OL→Prop) (G:GH) (L:OL) (w0:World) (j:Nat) (l:List ItemD) (flow:Int) (v:Value),
 (∀ b o,Gi b=some o→G b=some o)→Cback Tryz.prog fv Gi xs J Jx→JMono J→XMono Jx→J j G L→Owns G L w0→RepV G (.sl 11 (l.map ItemD.dat)) v→zItems l < n→(∀ i a,(vItems flow 0 l)[i]?=some a→xs[j+i]?=some (posP a)) →
 Calls Tryz.prog 48 #[v,vi flow,fv] w0 (RetL w0 G L fun u G' L'=>∃ b,u=.bool b∧(b=true→J (j+(vItems flow 0 l).length) G' L')∧(b=false→Jx G' L'))
set_option maxHeartbeats 1000000 in
theorem visit_step {n:Nat} (ih:VisitOk n) (hn:n≤4294967296):VisitOk (n+1):=by
 intro fv Gi xs J Jx G L w0 j0 l flow v hGi hcb hJm hJx hJ0 hO hv hz hx0;obtain ⟨A,c,rfl,hc1,hc2,hg⟩:=hv.slice;rw [List.length_map] at *;have hll:=zItems_length l;refine enterL (N:=81) (T:=[(0,_),(1,_),(2,_)]) Tryz.func48 rfl Tryz.ntmps48 rfl rfl hO ?_;intro a H;refine kP H (SR fun _ K1=>Ra rfl (Kz K1 (SR fun _ K2=>Ra rfl (Kz K2 (SQ fun _ K3=>SR fun _ K4=>Rm rfl (Rl un22run rfl (Rm rfl (Kz K4 (SB ?_)))))))));clear H K1 K2 K4;intro a H;skip;refine c_loopS (ι:=Nat × Nat × Nat × OL × GH) (Tc:=[(1,_),(2,_),(16,_),(17,_)]) (Lc:=[]) (fun (gh:Nat × Nat × Nat × OL × GH)=>[(7,vi gh.2.1),(18,vi gh.1)]) (fun (gh:Nat × Nat × Nat × OL × GH)=>[]++gh.2.2.2.1) (fun (gh:Nat × Nat × Nat × OL × GH)=>gh.2.2.2.2) (fun (gh:Nat × Nat × Nat × OL × GH)=>gh.1≤l.length∧(∀ b o,G b=some o→gh.2.2.2.2 b=some o)∧Now xs posP J (j0+(vItems flow 0 l).length) gh.2.2.1 (vItems flow gh.2.1 (l.drop gh.1)) gh.2.2.2.2 gh.2.2.2.1∧gh.2.1+zItems (l.drop gh.1)≤n) (fun (gh:Nat × Nat × Nat × OL × GH)=>l.length - gh.1) ((0,0,j0,L,G)) (by exact (H).sub ⟨rfl,rfl,rfl,rfl,rfl,rfl,trivial⟩) ?_ ?_
 ·exact ⟨by omega,fun _ _ h=>h,⟨hJ0,hx0,rfl⟩,by simp;omega⟩
 clear H;intro gh a w hI H;obtain ⟨k,at_,j,Lt,g⟩:=gh;dsimp only at hI H;obtain ⟨hk,hgm,hnow,hsz⟩:=hI;dsimp only [List.cons_append,List.nil_append,List.append_nil] at H;refine kP H (SR fun _ K5=>Rc rfl (Kz K5 (SQ fun _ K6=>?_)));clear H K5;intro a H;refine c_cond H rfl ?_ ?_
 ·intro h19
  try have p19:=dT h19
  have hk2:k < l.length:=by omega
  obtain ⟨b,o,pA,pn,pc,dA,dn,dc,yA,yn,yc,fA,fn,fc,rA,rn,rc,rfl,hrow,hhd,hfl,hrw⟩:=flow_get hk2 hg;replace hrow:=fun j u hj=>gcell_mono hgm (hrow j u hj);have hrn:=hrw.len;rw [List.length_map] at hrn;subst hrn;have hrs:=zRows_length l[k].rows;have hsz1:=zItem_eq l[k];have hn1:=n1_le l[k];rw [List.drop_eq_getElem_cons hk2] at hnow hsz
  simp only [vItems,vItem_eq,List.append_assoc] at hnow
  rw [zItems,List.map_cons,szRs] at hsz;refine kP H (Kc K6 (SQ fun _ K7=>SB (SR fun _ K8=>Ri un22run ty85run rfl rfl ?_)));clear H K6;intro a H;refine s_loada ty85run (cs:=[_,_,_,_,_,_,_,_,_,_,_]) H wn rfl rfl (fun j v hj=>H.hp.gcell (hrow j v hj)) rfl ?_;clear H;intro a H;refine s_alloc ty85run H wn rfl ?_;clear H;intro b9 a w hb9 H;refine s_store ty85run 0 (vs:=[_,_,_,_,_,_,_,_,_,_,_]) _ H wn rfl rfl rfl rfl rfl rfl rfl rfl ?_;clear H;intro w H;dsimp only [List.set,setRow] at H;refine K8 _ _ ?_;clear K8;refine c_seqR (fun _ K9=>?_);refine s_loada ty85run (cs:=[_,_,_,_,_,_,_,_,_,_,_]) H wn rfl rfl (H.hp.ocells 0 rfl rfl) rfl ?_;clear H;intro a H;refine s_buildSlice un22run ty85run [_,_,_,_,_,_,_,_,_,_,_] [_,_,_,_,_,_,_,_,_,_,_] H wn rfl rfl rfl rfl rfl (by intro i q h;match i,h with|0,h=>exact h|n+1,h=>simp at h) rfl rfl ?_;clear H;intro b24 a w hb24 H;obtain ⟨G24,hm24,hr24,H⟩:=H.giveOne (sz:=11) (d:=l[k].dat) rfl (RepRow.mkItem (hhd.mono hgm) (hfl.mono hgm) (hrw.mono hgm));refine s_call en32pos H wn rfl (len_spec _ _ H.hp.ro [l[k]] _ hr24 (by simp only [zItems,List.map_cons,List.map_nil,szRs];omega)) rfl ?_;clear H;rintro v25 G25 a w ⟨rfl,rfl⟩ hm25 H;rw [lenS_one] at H;refine kH H (Rm rfl ?_);clear H;intro a H;(iterate 2 refine s_extract H wn rfl rfl rfl ?_;clear H;intro a H);refine kH H (Ra rfl (Ra rfl (Kz K9 (SQ fun _ K10=>SR fun _ K11=>Rm rfl (Rm rfl (Kz K11 (SB ?_)))))));clear H K9 K11;intro a H;skip;refine c_loopS (ι:=Nat × Nat × OL × GH) (Tc:=[(1,_),(2,_),(9,_),(16,_),(17,_),(18,_),(28,_)]) (Lc:=[(_,_)]) (fun (gh:Nat × Nat × OL × GH)=>[(7,vi ((at_+gh.1:Nat):Int)),(29,vi gh.1)]) (fun (gh:Nat × Nat × OL × GH)=>[]++gh.2.2.1) (fun (gh:Nat × Nat × OL × GH)=>gh.2.2.2) (fun (gh:Nat × Nat × OL × GH)=>gh.1≤n1 l[k]∧(∀ b o,G b=some o→gh.2.2.2 b=some o)∧Now xs posP J (j0+(vItems flow 0 l).length) gh.2.1 (((List.range (n1 l[k])).map (fun q=>(flow,((at_+q:Nat):Int)))).drop gh.1++((if l[k].kind=6 then vItems l[k].id 0 l[k].flow else [])++(vRows l[k].rows++vItems flow (at_+n1 l[k]) (l.drop (k+1))))) gh.2.2.2 gh.2.2.1) (fun (gh:Nat × Nat × OL × GH)=>n1 l[k] - gh.1) ((0,j,Lt,G24)) (by exact (H).sub ⟨rfl,rfl,rfl,rfl,rfl,rfl,rfl,rfl,rfl,trivial⟩) ?_ ?_
  ·exact ⟨by omega,fun b o h=>hm24 b o (hgm b o h),by dsimp only;rw [List.drop_zero];exact ⟨hJm _ _ _ _ hm24 hnow.now,hnow.rem,hnow.len⟩⟩
  clear H;intro gh a w hI H;obtain ⟨i,j1,Lt1,g1⟩:=gh;dsimp only at hI H;obtain ⟨hi,hgm1,hnow1⟩:=hI;dsimp only [List.cons_append,List.nil_append,List.append_nil] at H;refine kP H (SR fun _ K12=>Rc rfl (Kz K12 (SQ fun _ K13=>?_)));clear H K12;intro a H;refine c_cond H rfl ?_ ?_
  ·intro h30
   try have p30:=dT h30
   have hi2:i < n1 l[k]:=by omega
   rw [List.drop_eq_getElem_cons (by simpa using hi2)] at hnow1
   simp only [List.getElem_map,List.getElem_range,List.cons_append] at hnow1
   refine kP H (Kc K13 (SQ fun _ K14=>SB (SQ fun _ K15=>SR fun _ K16=>Rm rfl (Rm rfl (Rm rfl ?_)))));clear H K13;intro a H;refine s_build sr45pos [_,_] H wn rfl rfl rfl rfl ?_;clear H;intro a H;refine s_callv (Li:=[_]) (L:=Lt1) H wn rfl rfl (hcb _ _ _ _ _ ⟨_,hnow1.head,rfl⟩ (fun b o h=>hgm1 b o (hGi b o h)) hnow1.now (Hp.owns (Li:=[_]) H.hp)) rfl ?_;clear H;rintro v35 G35 Lt35 a w ⟨b35,rfl,hb1,hb2⟩ hm35 H;refine kH H (Rn rfl (Kz K16 ?_));clear H K16;intro a H;refine c_cond H rfl ?_ ?_
   ·intro h36
    try have p36:=dT h36
    refine kP H (SR fun _ K17=>Ra rfl (Kz K17 ?_));clear H K17;intro a H;refine lr H Tryz.results48 rfl ?_
    first
     | exact H.hp.retD (L':=Lt35) (by repeat (first|exact List.Sublist.refl _|apply List.Sublist.cons)) ⟨_,rfl,fun e=>(by cases e),fun _=>hb2 (by simpa using h36)⟩
     | exact H.hp.retD (L':=Lt49) (by repeat (first|exact List.Sublist.refl _|apply List.Sublist.cons)) ⟨_,rfl,fun e=>(by cases e),fun _=>hb4 (by simpa using h51)⟩
     | exact H.hp.retD (L':=Lt71) (by repeat (first|exact List.Sublist.refl _|apply List.Sublist.cons)) ⟨_,rfl,fun e=>(by cases e),fun _=>hb6 (by simpa using h72)⟩
     | exact H.hp.retL ⟨_,rfl,fun e=>(by have:=hnow.len;simp only [List.length_singleton] at this;rw [← this];exact hb7 e),hb8⟩
   intro h36
   try have p36:=dF h36
   refine kP H (Kc K15 (SC (Rm rfl (Rd rfl (Ra rfl (Kn K14 (SC (Rd rfl (Rm rfl ?_)))))))));clear H K15 K14;intro a H;refine wl_nil ?_;refine loop_end ((i+1,j1+1,Lt35,G35)) (by exact (H).sub ⟨rfl,rfl,rfl,rfl,rfl,rfl,rfl,rfl,rfl,trivial⟩) ?_ ?_
   ·(try dsimp only);exact ⟨by omega,fun b o h=>hm35 b o (hgm1 b o h),hnow1.step (hb1 (by simpa using h36))⟩
   first|omega|(dsimp only;omega)
  intro h30
  try have p30:=dF h30
  refine c_exit ?_;refine K10 _ _ ?_;clear K10;refine c_seq (fun _ K18=>?_);refine c_seq (fun _ K19=>?_)
  have hin:i=n1 l[k]:=by omega
  subst hin;rw [List.drop_of_length_le (by simp),List.nil_append] at hnow1;refine kP H (SC (Rf fd85_0run rfl (Ro ty3run 0 rfl rfl (Rc rfl (Rm rfl ?_)))));clear H;intro a H;refine s_split H 43 rfl ?_ ?_
  ·intro h43
   try have p43:=dT h43
   rw [if_pos p43] at hnow1;refine kH H (YF fd85_5run h43 rfl (YO ty22run 0 h43 rfl rfl (YF fd85_2pos h43 rfl (YO ty3run 0 h43 rfl rfl (YM h43 rfl ?_)))));clear H;intro a H;refine s_callL en48pos (Li:=[_]) (L:=Lt1) H (wg H rfl rfl h43) rfl (ih fv Gi xs J Jx _ _ _ j1 l[k].flow l[k].id _ (fun b o h=>hgm1 b o (hGi b o h)) hcb hJm hJx hnow1.now (Hp.owns (Li:=[_]) H.hp) (hfl.mono hgm1) (by omega) hnow1.part) rfl ?_;clear H;rintro v49 G49 Lt49 a w ⟨b49,rfl,hb3,hb4⟩ hm49 H;refine kH H (YN h43 rfl (Pt h43 rfl (Kn K19 ?_)));clear H K19;intro a H;refine c_cond H rfl ?_ ?_
   ·intro h51
    try have p51:=dT h51
    refine kP H (SR fun _ K20=>Ra rfl (Kz K20 ?_));clear H K20;intro a H;refine lr H Tryz.results48 rfl ?_
    first
     | exact H.hp.retD (L':=Lt35) (by repeat (first|exact List.Sublist.refl _|apply List.Sublist.cons)) ⟨_,rfl,fun e=>(by cases e),fun _=>hb2 (by simpa using h36)⟩
     | exact H.hp.retD (L':=Lt49) (by repeat (first|exact List.Sublist.refl _|apply List.Sublist.cons)) ⟨_,rfl,fun e=>(by cases e),fun _=>hb4 (by simpa using h51)⟩
     | exact H.hp.retD (L':=Lt71) (by repeat (first|exact List.Sublist.refl _|apply List.Sublist.cons)) ⟨_,rfl,fun e=>(by cases e),fun _=>hb6 (by simpa using h72)⟩
     | exact H.hp.retL ⟨_,rfl,fun e=>(by have:=hnow.len;simp only [List.length_singleton] at this;rw [← this];exact hb7 e),hb8⟩
   intro h51
   try have p51:=dF h51
   have hnow2:=hnow1.jump (hb3 (by simpa using h51));have hgm2:∀ b o,G b=some o→G49 b=some o:=fun b o h=>hm49 b o (hgm1 b o h);obtain ⟨j49,hj49⟩:∃ x,x=j1+(vItems l[k].id 0 l[k].flow).length:=⟨_,rfl⟩;rw [← hj49] at hnow2;clear hnow1 hgm1;refine kP H (Kc K18 (SR fun _ K21=>Rf fd85_6run rfl (Ro ty83run 0 rfl rfl (Rl un83run rfl (Rm rfl (Kz K21 (SB ?_)))))));clear H K18 K21;intro a H;skip;refine c_loopS (ι:=Nat × Nat × OL × GH) (Tc:=[(1,_),(2,_),(7,_),(16,_),(17,_),(18,_),(53,_),(54,_)]) (Lc:=[(_,_)]) (fun (gh:Nat × Nat × OL × GH)=>[(55,vi gh.1)]) (fun (gh:Nat × Nat × OL × GH)=>[]++gh.2.2.1) (fun (gh:Nat × Nat × OL × GH)=>gh.2.2.2) (fun (gh:Nat × Nat × OL × GH)=>gh.1≤l[k].rows.length∧(∀ b o,G b=some o→gh.2.2.2 b=some o)∧Now xs posP J (j0+(vItems flow 0 l).length) gh.2.1 (vRows (l[k].rows.drop gh.1)++vItems flow (at_+n1 l[k]) (l.drop (k+1))) gh.2.2.2 gh.2.2.1) (fun (gh:Nat × Nat × OL × GH)=>l[k].rows.length - gh.1) ((0,j49,Lt49,G49)) (by exact (H).sub ⟨rfl,rfl,rfl,rfl,rfl,rfl,rfl,rfl,rfl,trivial⟩) ?_ ?_
   ·exact ⟨by omega,hgm2,hnow2⟩
   clear H;intro gh a w hI H;obtain ⟨rk,j3,Lt3,g3⟩:=gh;dsimp only at hI H;obtain ⟨hrk,hgm3,hnow3⟩:=hI;dsimp only [List.cons_append,List.nil_append,List.append_nil] at H;refine kP H (SR fun _ K22=>Rc rfl (Kz K22 (SQ fun _ K23=>?_)));clear H K22;intro a H;refine c_cond H rfl ?_ ?_
   ·intro h56
    try have p56:=dT h56
    have hk3:rk < l[k].rows.length:=by omega
    obtain ⟨b2,o2,qA,qn,qc,eA,en,ec,zA,zn,zc,cA,cn,cc,rfl,hrow,hrh,hcl⟩:=row_get hk3 hrw.at_;replace hrow:=fun j u hj=>gcell_mono hgm3 (hrow j u hj);have hcn:=hcl.len;rw [List.length_map] at hcn;subst hcn;have hsz2:=zRows_get hk3;have hcs:=zCells_length l[k].rows[rk].cells;rw [List.drop_eq_getElem_cons hk3] at hnow3
    simp only [vRows,vRow_eq,List.append_assoc] at hnow3
    refine kP H (Kc K23 (SQ fun _ K24=>SB (SR fun _ K25=>Ri un83run ty88run rfl rfl ?_)));clear H K23;intro a H;refine s_loada ty88run (cs:=[_,_,_,_,_,_]) H wn rfl rfl (fun j v hj=>H.hp.gcell (hrow j v hj)) rfl ?_;clear H;intro a H;refine s_alloc ty88run H wn rfl ?_;clear H;intro b13 a w hb13 H;refine s_store ty88run 0 (vs:=[_,_,_,_,_,_]) _ H wn rfl rfl rfl rfl rfl rfl rfl rfl ?_;clear H;intro w H;dsimp only [List.set,setRow] at H;refine K25 _ _ ?_;clear K25;refine kP H (SR fun _ K26=>Rf fd88_1run rfl (Ro ty86run 0 rfl rfl (Rl un86run rfl (Rm rfl (Kz K26 (SB ?_))))));clear H K26;intro a H;skip;refine c_loopS (ι:=Nat × Nat × OL × GH) (Tc:=[(1,_),(2,_),(7,_),(16,_),(17,_),(18,_),(53,_),(54,_),(55,_),(60,_),(61,_)]) (Lc:=[(_,_),(_,_)]) (fun (gh:Nat × Nat × OL × GH)=>[(62,vi gh.1)]) (fun (gh:Nat × Nat × OL × GH)=>[]++gh.2.2.1) (fun (gh:Nat × Nat × OL × GH)=>gh.2.2.2) (fun (gh:Nat × Nat × OL × GH)=>gh.1≤l[k].rows[rk].cells.length∧(∀ b o,G b=some o→gh.2.2.2 b=some o)∧Now xs posP J (j0+(vItems flow 0 l).length) gh.2.1 (vCells (l[k].rows[rk].cells.drop gh.1)++(vRows (l[k].rows.drop (rk+1))++vItems flow (at_+n1 l[k]) (l.drop (k+1)))) gh.2.2.2 gh.2.2.1) (fun (gh:Nat × Nat × OL × GH)=>l[k].rows[rk].cells.length - gh.1) ((0,j3,Lt3,g3)) (by exact (H).sub ⟨rfl,rfl,rfl,rfl,rfl,rfl,rfl,rfl,rfl,rfl,rfl,rfl,trivial⟩) ?_ ?_
    ·exact ⟨by omega,hgm3,hnow3⟩
    clear H;intro gh a w hI H;obtain ⟨ck,j4,Lt4,g4⟩:=gh;dsimp only at hI H;obtain ⟨hck,hgm4,hnow4⟩:=hI;dsimp only [List.cons_append,List.nil_append,List.append_nil] at H;refine kP H (SR fun _ K27=>Rc rfl (Kz K27 (SQ fun _ K28=>?_)));clear H K27;intro a H;refine c_cond H rfl ?_ ?_
    ·intro h63
     try have p63:=dT h63
     have hk4:ck < l[k].rows[rk].cells.length:=by omega
     obtain ⟨b3,o3,sA,sn,sc,tA,tn,tc,uA,un,uc,gA,gn,gc,rfl,hrow,hch,hcf⟩:=cell_get hk4 hcl.at_;replace hrow:=fun j u hj=>gcell_mono hgm4 (hrow j u hj);have hsz3:=zCells_get hk4;rw [List.drop_eq_getElem_cons hk4] at hnow4
     simp only [vCells,vCell_eq,List.append_assoc] at hnow4
     refine kP H (Kc K28 (SQ fun _ K29=>SB (SR fun _ K30=>Ri un86run ty90run rfl rfl ?_)));clear H K28;intro a H;refine s_loada ty90run (cs:=[_,_,_,_,_,_,_]) H wn rfl rfl (fun j v hj=>H.hp.gcell (hrow j v hj)) rfl ?_;clear H;intro a H;refine s_alloc ty90run H wn rfl ?_;clear H;intro b15 a w hb15 H;refine s_store ty90run 0 (vs:=[_,_,_,_,_,_,_]) _ H wn rfl rfl rfl rfl rfl rfl rfl rfl ?_;clear H;intro w H;dsimp only [List.set,setRow] at H;refine K30 _ _ ?_;clear K30;refine kP H (SR fun _ K31=>Rf fd90_2run rfl (Ro ty22run 0 rfl rfl (Rf fd90_0run rfl (Ro ty3run 0 rfl rfl (Rm rfl ?_)))));clear H;intro a H;refine s_callL en48pos (Li:=[_,_,_]) (L:=Lt4) H wn rfl (ih fv Gi xs J Jx _ _ _ j4 l[k].rows[rk].cells[ck].flow l[k].rows[rk].cells[ck].id _ (fun b o h=>hgm4 b o (hGi b o h)) hcb hJm hJx hnow4.now (Hp.owns (Li:=[_,_,_]) H.hp) (hcf.mono hgm4) (by omega) hnow4.part) rfl ?_;clear H;rintro v71 G71 Lt71 a w ⟨b71,rfl,hb5,hb6⟩ hm71 H;refine kH H (Rn rfl (Kz K31 ?_));clear H K31;intro a H;refine c_cond H rfl ?_ ?_
     ·intro h72
      try have p72:=dT h72
      refine kP H (SR fun _ K32=>Ra rfl (Kz K32 ?_));clear H K32;intro a H;refine lr H Tryz.results48 rfl ?_
      first
       | exact H.hp.retD (L':=Lt35) (by repeat (first|exact List.Sublist.refl _|apply List.Sublist.cons)) ⟨_,rfl,fun e=>(by cases e),fun _=>hb2 (by simpa using h36)⟩
       | exact H.hp.retD (L':=Lt49) (by repeat (first|exact List.Sublist.refl _|apply List.Sublist.cons)) ⟨_,rfl,fun e=>(by cases e),fun _=>hb4 (by simpa using h51)⟩
       | exact H.hp.retD (L':=Lt71) (by repeat (first|exact List.Sublist.refl _|apply List.Sublist.cons)) ⟨_,rfl,fun e=>(by cases e),fun _=>hb6 (by simpa using h72)⟩
       | exact H.hp.retL ⟨_,rfl,fun e=>(by have:=hnow.len;simp only [List.length_singleton] at this;rw [← this];exact hb7 e),hb8⟩
     intro h72
     try have p72:=dF h72
     refine kP H (Kc K29 (SC (Rd rfl (Rm rfl ?_))));clear H K29;intro a H;refine wl_nil ?_;refine loop_end ((ck+1,j4+(vItems l[k].rows[rk].cells[ck].id 0 l[k].rows[rk].cells[ck].flow).length,Lt71,G71)) (by exact (H.pickT (Pl:=[_,_,_]) (Pl':=[_,_]) [1,2] (by decide) rfl).sub ⟨rfl,rfl,rfl,rfl,rfl,rfl,rfl,rfl,rfl,rfl,rfl,rfl,trivial⟩) ?_ ?_
     ·(try dsimp only);exact ⟨by omega,fun b o h=>hm71 b o (hgm4 b o h),hnow4.jump (hb5 (by simpa using h72))⟩
     first|omega|(dsimp only;omega)
    intro h63
    try have p63:=dF h63
    refine c_exit ?_;refine K24 _ _ ?_;clear K24;refine kP H (SC (Rd rfl (Rm rfl ?_)));clear H;intro a H;refine wl_nil ?_;refine loop_end ((rk+1,j4,Lt4,g4)) (by exact (H.pickT (Pl:=[_,_]) (Pl':=[_]) [1] (by decide) rfl).sub ⟨rfl,rfl,rfl,rfl,rfl,rfl,rfl,rfl,rfl,trivial⟩) ?_ ?_
    ·(try dsimp only);exact ⟨by omega,hgm4,by rw [List.drop_of_length_le (by omega),vCells,List.nil_append] at hnow4;exact hnow4⟩
    first|omega|(dsimp only;omega)
   intro h56
   try have p56:=dF h56
   refine c_exit ?_;refine K7 _ _ ?_;clear K7;refine kP H (SC (Rd rfl (Rm rfl ?_)));clear H;intro a H;refine wl_nil ?_;refine loop_end ((k+1,at_+n1 l[k],j3,Lt3,g3)) (by exact (H.pickT (Pl:=[_]) (Pl':=[]) [] (by decide) rfl).sub ⟨rfl,rfl,rfl,rfl,rfl,rfl,trivial⟩) ?_ ?_
   ·(try dsimp only);exact ⟨by omega,hgm3,by rw [List.drop_of_length_le (by omega),vRows,List.nil_append] at hnow3;exact hnow3,by show at_+n1 l[k]+szRs ((l.drop (k+1)).map ItemD.dat)≤n;omega⟩
   first|omega|(dsimp only;omega)
  intro h43
  try have p43:=dF h43
  rw [if_neg p43,List.nil_append] at hnow1;obtain ⟨Lt49,hren⟩:∃ x,x=Lt1:=⟨_,rfl⟩;subst hren;obtain ⟨G49,hren⟩:∃ x,x=g1:=⟨_,rfl⟩;subst hren;obtain ⟨j49,hren⟩:∃ x,x=j1:=⟨_,rfl⟩;subst hren;have hgm2:=hgm1;have hnow2:=hnow1;clear hgm1 hnow1;refine kH H (Ks h43 rfl (Ks h43 rfl (Ks h43 rfl (Ks h43 rfl (Ks h43 rfl (Ks h43 rfl (Ks h43 rfl (Pf h43 rfl (Kn K19 ?_)))))))));clear H K19;intro a H;refine c_cond_f H rfl rfl ?_;refine kP H (Kc K18 (SR fun _ K33=>Rf fd85_6run rfl (Ro ty83run 0 rfl rfl (Rl un83run rfl (Rm rfl (Kz K33 (SB ?_)))))));clear H K18 K33;intro a H;skip;refine c_loopS (ι:=Nat × Nat × OL × GH) (Tc:=[(1,_),(2,_),(7,_),(16,_),(17,_),(18,_),(53,_),(54,_)]) (Lc:=[(_,_)]) (fun (gh:Nat × Nat × OL × GH)=>[(55,vi gh.1)]) (fun (gh:Nat × Nat × OL × GH)=>[]++gh.2.2.1) (fun (gh:Nat × Nat × OL × GH)=>gh.2.2.2) (fun (gh:Nat × Nat × OL × GH)=>gh.1≤l[k].rows.length∧(∀ b o,G b=some o→gh.2.2.2 b=some o)∧Now xs posP J (j0+(vItems flow 0 l).length) gh.2.1 (vRows (l[k].rows.drop gh.1)++vItems flow (at_+n1 l[k]) (l.drop (k+1))) gh.2.2.2 gh.2.2.1) (fun (gh:Nat × Nat × OL × GH)=>l[k].rows.length - gh.1) ((0,j49,Lt49,G49)) (by exact (H).sub ⟨rfl,rfl,rfl,rfl,rfl,rfl,rfl,rfl,rfl,trivial⟩) ?_ ?_
  ·exact ⟨by omega,hgm2,hnow2⟩
  clear H;intro gh a w hI H;obtain ⟨rk,j3,Lt3,g3⟩:=gh;dsimp only at hI H;obtain ⟨hrk,hgm3,hnow3⟩:=hI;dsimp only [List.cons_append,List.nil_append,List.append_nil] at H;refine kP H (SR fun _ K34=>Rc rfl (Kz K34 (SQ fun _ K35=>?_)));clear H K34;intro a H;refine c_cond H rfl ?_ ?_
  ·intro h56
   try have p56:=dT h56
   have hk3:rk < l[k].rows.length:=by omega
   obtain ⟨b2,o2,qA,qn,qc,eA,en,ec,zA,zn,zc,cA,cn,cc,rfl,hrow,hrh,hcl⟩:=row_get hk3 hrw.at_;replace hrow:=fun j u hj=>gcell_mono hgm3 (hrow j u hj);have hcn:=hcl.len;rw [List.length_map] at hcn;subst hcn;have hsz2:=zRows_get hk3;have hcs:=zCells_length l[k].rows[rk].cells;rw [List.drop_eq_getElem_cons hk3] at hnow3
   simp only [vRows,vRow_eq,List.append_assoc] at hnow3
   refine kP H (Kc K35 (SQ fun _ K36=>SB (SR fun _ K37=>Ri un83run ty88run rfl rfl ?_)));clear H K35;intro a H;refine s_loada ty88run (cs:=[_,_,_,_,_,_]) H wn rfl rfl (fun j v hj=>H.hp.gcell (hrow j v hj)) rfl ?_;clear H;intro a H;refine s_alloc ty88run H wn rfl ?_;clear H;intro b13 a w hb13 H;refine s_store ty88run 0 (vs:=[_,_,_,_,_,_]) _ H wn rfl rfl rfl rfl rfl rfl rfl rfl ?_;clear H;intro w H;dsimp only [List.set,setRow] at H;refine K37 _ _ ?_;clear K37;refine kP H (SR fun _ K38=>Rf fd88_1run rfl (Ro ty86run 0 rfl rfl (Rl un86run rfl (Rm rfl (Kz K38 (SB ?_))))));clear H K38;intro a H;skip;refine c_loopS (ι:=Nat × Nat × OL × GH) (Tc:=[(1,_),(2,_),(7,_),(16,_),(17,_),(18,_),(53,_),(54,_),(55,_),(60,_),(61,_)]) (Lc:=[(_,_),(_,_)]) (fun (gh:Nat × Nat × OL × GH)=>[(62,vi gh.1)]) (fun (gh:Nat × Nat × OL × GH)=>[]++gh.2.2.1) (fun (gh:Nat × Nat × OL × GH)=>gh.2.2.2) (fun (gh:Nat × Nat × OL × GH)=>gh.1≤l[k].rows[rk].cells.length∧(∀ b o,G b=some o→gh.2.2.2 b=some o)∧Now xs posP J (j0+(vItems flow 0 l).length) gh.2.1 (vCells (l[k].rows[rk].cells.drop gh.1)++(vRows (l[k].rows.drop (rk+1))++vItems flow (at_+n1 l[k]) (l.drop (k+1)))) gh.2.2.2 gh.2.2.1) (fun (gh:Nat × Nat × OL × GH)=>l[k].rows[rk].cells.length - gh.1) ((0,j3,Lt3,g3)) (by exact (H).sub ⟨rfl,rfl,rfl,rfl,rfl,rfl,rfl,rfl,rfl,rfl,rfl,rfl,trivial⟩) ?_ ?_
   ·exact ⟨by omega,hgm3,hnow3⟩
   clear H;intro gh a w hI H;obtain ⟨ck,j4,Lt4,g4⟩:=gh;dsimp only at hI H;obtain ⟨hck,hgm4,hnow4⟩:=hI;dsimp only [List.cons_append,List.nil_append,List.append_nil] at H;refine kP H (SR fun _ K39=>Rc rfl (Kz K39 (SQ fun _ K40=>?_)));clear H K39;intro a H;refine c_cond H rfl ?_ ?_
   ·intro h63
    try have p63:=dT h63
    have hk4:ck < l[k].rows[rk].cells.length:=by omega
    obtain ⟨b3,o3,sA,sn,sc,tA,tn,tc,uA,un,uc,gA,gn,gc,rfl,hrow,hch,hcf⟩:=cell_get hk4 hcl.at_;replace hrow:=fun j u hj=>gcell_mono hgm4 (hrow j u hj);have hsz3:=zCells_get hk4;rw [List.drop_eq_getElem_cons hk4] at hnow4
    simp only [vCells,vCell_eq,List.append_assoc] at hnow4
    refine kP H (Kc K40 (SQ fun _ K41=>SB (SR fun _ K42=>Ri un86run ty90run rfl rfl ?_)));clear H K40;intro a H;refine s_loada ty90run (cs:=[_,_,_,_,_,_,_]) H wn rfl rfl (fun j v hj=>H.hp.gcell (hrow j v hj)) rfl ?_;clear H;intro a H;refine s_alloc ty90run H wn rfl ?_;clear H;intro b15 a w hb15 H;refine s_store ty90run 0 (vs:=[_,_,_,_,_,_,_]) _ H wn rfl rfl rfl rfl rfl rfl rfl rfl ?_;clear H;intro w H;dsimp only [List.set,setRow] at H;refine K42 _ _ ?_;clear K42;refine kP H (SR fun _ K43=>Rf fd90_2run rfl (Ro ty22run 0 rfl rfl (Rf fd90_0run rfl (Ro ty3run 0 rfl rfl (Rm rfl ?_)))));clear H;intro a H;refine s_callL en48pos (Li:=[_,_,_]) (L:=Lt4) H wn rfl (ih fv Gi xs J Jx _ _ _ j4 l[k].rows[rk].cells[ck].flow l[k].rows[rk].cells[ck].id _ (fun b o h=>hgm4 b o (hGi b o h)) hcb hJm hJx hnow4.now (Hp.owns (Li:=[_,_,_]) H.hp) (hcf.mono hgm4) (by omega) hnow4.part) rfl ?_;clear H;rintro v71 G71 Lt71 a w ⟨b71,rfl,hb5,hb6⟩ hm71 H;refine kH H (Rn rfl (Kz K43 ?_));clear H K43;intro a H;refine c_cond H rfl ?_ ?_
    ·intro h72
     try have p72:=dT h72
     refine kP H (SR fun _ K44=>Ra rfl (Kz K44 ?_));clear H K44;intro a H;refine lr H Tryz.results48 rfl ?_
     first
      | exact H.hp.retD (L':=Lt35) (by repeat (first|exact List.Sublist.refl _|apply List.Sublist.cons)) ⟨_,rfl,fun e=>(by cases e),fun _=>hb2 (by simpa using h36)⟩
      | exact H.hp.retD (L':=Lt49) (by repeat (first|exact List.Sublist.refl _|apply List.Sublist.cons)) ⟨_,rfl,fun e=>(by cases e),fun _=>hb4 (by simpa using h51)⟩
      | exact H.hp.retD (L':=Lt71) (by repeat (first|exact List.Sublist.refl _|apply List.Sublist.cons)) ⟨_,rfl,fun e=>(by cases e),fun _=>hb6 (by simpa using h72)⟩
      | exact H.hp.retL ⟨_,rfl,fun e=>(by have:=hnow.len;simp only [List.length_singleton] at this;rw [← this];exact hb7 e),hb8⟩
    intro h72
    try have p72:=dF h72
    refine kP H (Kc K41 (SC (Rd rfl (Rm rfl ?_))));clear H K41;intro a H;refine wl_nil ?_;refine loop_end ((ck+1,j4+(vItems l[k].rows[rk].cells[ck].id 0 l[k].rows[rk].cells[ck].flow).length,Lt71,G71)) (by exact (H.pickT (Pl:=[_,_,_]) (Pl':=[_,_]) [1,2] (by decide) rfl).sub ⟨rfl,rfl,rfl,rfl,rfl,rfl,rfl,rfl,rfl,rfl,rfl,rfl,trivial⟩) ?_ ?_
    ·(try dsimp only);exact ⟨by omega,fun b o h=>hm71 b o (hgm4 b o h),hnow4.jump (hb5 (by simpa using h72))⟩
    first|omega|(dsimp only;omega)
   intro h63
   try have p63:=dF h63
   refine c_exit ?_;refine K36 _ _ ?_;clear K36;refine kP H (SC (Rd rfl (Rm rfl ?_)));clear H;intro a H;refine wl_nil ?_;refine loop_end ((rk+1,j4,Lt4,g4)) (by exact (H.pickT (Pl:=[_,_]) (Pl':=[_]) [1] (by decide) rfl).sub ⟨rfl,rfl,rfl,rfl,rfl,rfl,rfl,rfl,rfl,trivial⟩) ?_ ?_
   ·(try dsimp only);exact ⟨by omega,hgm4,by rw [List.drop_of_length_le (by omega),vCells,List.nil_append] at hnow4;exact hnow4⟩
   first|omega|(dsimp only;omega)
  intro h56
  try have p56:=dF h56
  refine c_exit ?_;refine K7 _ _ ?_;clear K7;refine kP H (SC (Rd rfl (Rm rfl ?_)));clear H;intro a H;refine wl_nil ?_;refine loop_end ((k+1,at_+n1 l[k],j3,Lt3,g3)) (by exact (H.pickT (Pl:=[_]) (Pl':=[]) [] (by decide) rfl).sub ⟨rfl,rfl,rfl,rfl,rfl,rfl,trivial⟩) ?_ ?_
  ·(try dsimp only);exact ⟨by omega,hgm3,by rw [List.drop_of_length_le (by omega),vRows,List.nil_append] at hnow3;exact hnow3,by show at_+n1 l[k]+szRs ((l.drop (k+1)).map ItemD.dat)≤n;omega⟩
  first|omega|(dsimp only;omega)
 intro h19
 try have p19:=dF h19
 refine c_exit ?_;refine K3 _ _ ?_;clear K3;refine c_seq (fun _ K45=>?_);rw [List.drop_of_length_le (by omega),vItems] at hnow;refine kP H (SC (Rm rfl (Rm rfl (Rm rfl ?_))));clear H;intro a H;refine s_build sr45pos [_,_] H wn rfl rfl rfl rfl ?_;clear H;intro a H;refine s_callv (Li:=[]) (L:=Lt) H wn rfl rfl (hcb _ _ _ _ _ ⟨_,hnow.head,rfl⟩ (fun b o h=>hgm b o (hGi b o h)) hnow.now (Hp.owns (Li:=[]) H.hp)) rfl ?_;clear H;rintro v80 G80 Lt80 a w ⟨b80,rfl,hb7,hb8⟩ hm80 H;refine kH H (Ra rfl (Kn K45 ?_));clear H K45;intro a H;refine lr H Tryz.results48 rfl ?_
 first
  | exact H.hp.retD (L':=Lt35) (by repeat (first|exact List.Sublist.refl _|apply List.Sublist.cons)) ⟨_,rfl,fun e=>(by cases e),fun _=>hb2 (by simpa using h36)⟩
  | exact H.hp.retD (L':=Lt49) (by repeat (first|exact List.Sublist.refl _|apply List.Sublist.cons)) ⟨_,rfl,fun e=>(by cases e),fun _=>hb4 (by simpa using h51)⟩
  | exact H.hp.retD (L':=Lt71) (by repeat (first|exact List.Sublist.refl _|apply List.Sublist.cons)) ⟨_,rfl,fun e=>(by cases e),fun _=>hb6 (by simpa using h72)⟩
  | exact H.hp.retL ⟨_,rfl,fun e=>(by have:=hnow.len;simp only [List.length_singleton] at this;rw [← this];exact hb7 e),hb8⟩
end
section
open Go.RowKit
theorem ty113pq:Ty Tryz.prog 113 1 8 [.nilFunc] false:=⟨by kernel_rfl,by kernel_rfl⟩
theorem ty45pq:Ty Tryz.prog 45 2 16 [.int .i64 0,.int .i64 0] true:=⟨by kernel_rfl,by kernel_rfl⟩
theorem fd38_0pq:Fld Tryz.prog 38 0 0:=⟨by kernel_rfl⟩
theorem ty38pq:Ty Tryz.prog 38 11 232 [.slice none 0 0,.slice none 0 0,.int .i64 0,.int .i64 0,.slice none 0 0,.slice none 0 0,.slice none 0 0,.slice none 0 0,.slice none 0 0,.slice none 0 0,.slice none 0 0] true:=⟨by kernel_rfl,by kernel_rfl⟩
theorem en30pq:∀ args w,(callFunc 30 args).run Tryz.prog w=.ok (.enter 30 args) w:=enters Tryz.func30 rfl (by kernel_rfl)
theorem en47pq:∀ args w,(callFunc 47 args).run Tryz.prog w=.ok (.enter 47 args) w:=enters Tryz.func47 rfl (by kernel_rfl)
theorem en49pq:∀ args w,(callFunc 49 args).run Tryz.prog w=.ok (.enter 49 args) w:=enters Tryz.func49 rfl (by kernel_rfl)
theorem visit_ok:∀ n:Nat,n≤4294967297→VisitOk n
 | 0,_=>fun _ _ _ _ _ _ _ _ _ _ _ _ _ _ _ _ _ _ _ h=>absurd h (by omega)
 | n+1,hn=>visit_step (visit_ok n (by omega)) (by omega)
mutual
theorem vItem_len (flow:Int) (at_:Nat):∀ x:ItemD,(vItem flow at_ x).length < szR x.dat
 | .mk k c i t h f r=>by
  have h1:=vItems_len i 0 f;have h2:=vRows_len r;have h3:=n1_le (.mk k c i t h f r);have h4:=zItem_eq (.mk k c i t h f r);have h5:=cntS_le t
  simp only [vItem,List.length_append,List.length_map,List.length_range]
  simp only [ItemD.text,ItemD.head,ItemD.flow,ItemD.rows] at h4
  have h6:n1 (.mk k c i t h f r)≤t.size+1:=by unfold n1 unitsS;simp only [ItemD.text];split <;> (try split) <;> omega
  split <;> (try simp only [List.length_nil]) <;> omega
theorem vItems_len (flow:Int):∀ (at_:Nat) (l:List ItemD),(vItems flow at_ l).length≤zItems l+1
 | _,[]=>by simp [vItems]
 | at_,x :: l=>by
  have h1:=vItem_len flow at_ x;have h2:=vItems_len flow (at_+n1 x) l
  simp only [vItems,List.length_append,zItems,List.map_cons,szRs] at *;omega
theorem vRows_len:∀ l:List RowD,(vRows l).length≤zRows l
 | []=>by simp [vRows]
 | x :: l=>by
  have h1:=vRow_len x;have h2:=vRows_len l
  simp only [vRows,List.length_append,zRows,List.map_cons,szRs] at *;omega
theorem vRow_len:∀ x:RowD,(vRow x).length≤szR x.dat
 | .mk h cs=>by
  have h1:=vCells_len cs;have h4:=zRow_eq (.mk h cs)
  simp only [RowD.head,RowD.cells] at h4
  simp only [vRow];omega
theorem vCells_len:∀ l:List CellD,(vCells l).length≤zCells l
 | []=>by simp [vCells]
 | x :: l=>by
  have h1:=vCell_len x;have h2:=vCells_len l
  simp only [vCells,List.length_append,zCells,List.map_cons,szRs] at *;omega
theorem vCell_len:∀ x:CellD,(vCell x).length≤szR x.dat
 | .mk i h f=>by
  have h1:=vItems_len i 0 f;have h4:=zCell_eq (.mk i h f)
  simp only [CellD.head,CellD.flow] at h4
  simp only [vCell];omega
end
/-- What is called at a position with its index. -/
def ixP (k:Nat) (a:Int × Int):AP:=fun args _=>args=[vi k,.agg #[vi a.1,vi a.2]]
def J50 (bi:Nat) (J:Nat→GH→OL→Prop):Nat→GH→OL→Prop:=fun k g L=>∃ Lu,L=(bi,.cells #[vi ((k:Int) - 1)] 3 (0,0)) :: Lu∧J k g Lu
def X50 (bi:Nat) (Jx:GH→OL→Prop):GH→OL→Prop:=fun g L=>∃ i Lu,L=(bi,.cells #[vi i] 3 (0,0)) :: Lu∧Jx g Lu
theorem clo50 {fv:Value} {Gi:GH} {A:List (Int × Int)} {J:Nat→GH→OL→Prop} {Jx:GH→OL→Prop} {bi bf:Nat} (hA:A.length≤4294967297) (hf:gcell Gi bf 0=some fv) (hcb:Cback Tryz.prog fv Gi (A.mapIdx ixP) J Jx) :
  Cback Tryz.prog (.func (.func 49) #[] #[.pointer (some ⟨bi,0,none⟩),.pointer (some ⟨bf,0,none⟩)]) Gi (A.map posP) (J50 bi J) (X50 bi Jx):=by
 rintro k args G L w0 ⟨p0,hp0,hargs⟩ hGi ⟨Lu,rfl,hJ⟩ hO;rw [List.getElem?_map] at hp0;obtain ⟨p,hp,hpp⟩:=Option.map_eq_some_iff.1 hp0;subst hpp;obtain rfl:args=[.agg #[vi p.1,vi p.2]]:=hargs;have hk:k < A.length:=(List.getElem?_eq_some_iff.1 hp).1;have hfv:=gcell_mono hGi hf;refine callV_func (caps:=[.pointer (some ⟨bi,0,none⟩),.pointer (some ⟨bf,0,none⟩)]) en49pq ?_;refine enterL (N:=11) (T:=[(0,_),(1,_),(2,_)]) Tryz.func49 rfl Tryz.ntmps49 rfl rfl hO ?_;intro a H;refine c_seqR (fun _ K1=>?_);refine s_box (cs:=[_,_]) H wn rfl rfl rfl ?_;clear H;intro b3 a w hb3 H;refine kH H (Ra rfl (Kz K1 (SR fun _ K2=>Ro ty3run 1 rfl rfl (Rd rfl ?_))));clear H K1;intro a H;rw [Int.sub_add_cancel] at H;refine s_store ty3run 1 (vs:=[_]) _ H wn rfl rfl rfl rfl rfl rfl rfl rfl ?_;clear H;intro w H;dsimp only [List.set,setRow] at H;refine K2 _ _ ?_;clear K2;refine kP H (SR fun _ K3=>Rg ty113pq rfl (by assumption) ?_);clear H;intro a H;refine kH H (Ro ty3run 1 rfl rfl ?_);clear H;intro a H;refine s_loada ty45pq (cs:=[_,_]) H wn rfl rfl (H.hp.ocells 0 rfl rfl) rfl ?_;clear H;intro a H;refine s_callv (Li:=[_,_]) (L:=Lu) H wn rfl rfl (hcb k _ _ _ _ ⟨ixP k p,by rw [List.getElem?_mapIdx,hp];rfl,rfl⟩ hGi hJ (Hp.owns (Li:=[_,_]) H.hp)) rfl ?_;clear H;rintro v10 G10 Lu10 a w ⟨b10,rfl,hb1,hb2⟩ hm10 H;refine kH H (Ra rfl (Kz K3 ?_));clear H K3;intro a H;refine lr H Tryz.results49 rfl ?_;exact H.hp.retD (L':=(bi,.cells #[vi k] 3 (0,0)) :: Lu10) (List.Sublist.cons _ (List.Sublist.refl _)) ⟨_,rfl,fun e=>⟨Lu10,by simp,hb1 e⟩,fun e=>⟨_,Lu10,rfl,hb2 e⟩⟩
/-- A document's value. -/
structure DocV where
 (f p d y r s1 s2 s3 s4:Option Addr × Nat × Nat)
 (ins move:Int)
abbrev sl3 (x:Option Addr × Nat × Nat):Value:=.slice x.1 x.2.1 x.2.2
abbrev DocV.cells (D:DocV):List Value:=[sl3 D.f,sl3 D.p,vi D.ins,vi D.move,sl3 D.d,sl3 D.y,sl3 D.r,sl3 D.s1,sl3 D.s2,sl3 D.s3,sl3 D.s4]
abbrev DocV.val (D:DocV):Value:=.agg D.cells.toArray
theorem positions1_iter {G:GH} {bd:Nat} {D:DocV} {l:List ItemD} (hb:G bd=some (.cells D.cells.toArray 38 (0,0))) (hv:RepV G (.sl 11 (l.map ItemD.dat)) (sl3 D.f)) (hz:zItems l≤4294967296) :
  Iter Tryz.prog G (.func (.func 47) #[] #[.pointer (some ⟨bd,0,none⟩)]) ((vItems 0 0 l).mapIdx ixP):=by
 intro J Jx fv G1 L w0 hfv hGi hJm hJx hJ hO hcb;refine callV_func (caps:=[.pointer (some ⟨bd,0,none⟩)]) en47pq ?_;have hfl:gcell G1 bd 0=some (sl3 D.f):=gcell_mono hGi (by unfold gcell;rw [hb];rfl);have hvl:=vItems_len 0 0 l;refine enterL (N:=8) (T:=[(0,_),(1,_)]) Tryz.func47 rfl Tryz.ntmps47 rfl rfl hO ?_;intro a H;refine c_seqR (fun _ K1=>?_);refine s_box (cs:=[fv]) H wn rfl hfv rfl ?_;clear H;intro b2 a w hb2 H;refine K1 _ _ ?_;clear K1;refine c_seqR (fun _ K2=>?_);refine s_alloc ty3run H wn rfl ?_;clear H;intro b3 a w hb3 H;refine s_store ty3run 0 (vs:=[_]) _ H wn rfl rfl rfl rfl rfl rfl rfl rfl ?_;clear H;intro w H;dsimp only [List.set,setRow] at H;refine K2 _ _ ?_;clear K2;have H:=H.pickT (Pl:=[_,_]) (Pl':=[_,_]) [1,0] (by decide) rfl;obtain ⟨G2,hm2,hb2,H⟩:=H.giveBox;replace hfl:=gcell_mono hm2 hfl;refine kP H (SC (Rf fd38_0pq rfl (Rg ty22run rfl (by assumption) ?_)));clear H;intro a H;refine s_makeFunc H wn rfl rfl ?_;clear H;intro a H;refine s_callL en48pos (Li:=[]) (L:=(b3,_) :: L) H wn rfl (visit_ok 4294967297 (by omega) _ G2 ((vItems 0 0 l).map posP) (J50 b3 J) (X50 b3 Jx) G2 _ _ 0 l 0 _ (fun _ _ h=>h) (clo50 (bf:=b2) (by omega) (by unfold gcell;rw [hb2];rfl) (fun k args G L w h1 h2=>hcb k args G L w h1 (fun b o h=>h2 b o (hm2 b o h)))) (fun k G G' L hm ⟨Lu,e,h⟩=>⟨Lu,e,hJm k G G' Lu hm h⟩) (fun G G' L hm ⟨i,Lu,e,h⟩=>⟨i,Lu,e,hJx G G' Lu hm h⟩) ⟨L,rfl,hJm _ _ _ _ hm2 hJ⟩ (Hp.owns (Li:=[]) H.hp) (hv.mono fun b o h=>hm2 b o (hGi b o h)) (by omega) (fun i a h=>by rw [Nat.zero_add,List.getElem?_map,h];rfl)) rfl ?_;clear H;rintro v7 G7 L7 a w ⟨b7,rfl,h1,h2⟩ hm7 H;refine wl_nil ?_;refine (leave0 H Tryz.results47 ?_).2
 cases b7
 ·obtain ⟨i,Lu,rfl,h⟩:=h2 rfl;exact H.hp.retD (L':=Lu) (List.Sublist.cons _ (List.Sublist.refl _)) (.inr h)
 obtain ⟨Lu,rfl,h⟩:=h1 rfl;exact H.hp.retD (L':=Lu) (List.Sublist.cons _ (List.Sublist.refl _)) (.inl (by simpa using h))
theorem positions_spec (G:GH) (w0:World) (hG:Hold G w0) (D:DocV) (l:List ItemD) (hv:RepV G (.sl 11 (l.map ItemD.dat)) (sl3 D.f)) (hz:zItems l≤4294967296) :
  Calls Tryz.prog 30 #[D.val] w0 (Ret w0 G fun v G'=>∃ bd,v=.func (.func 47) #[] #[.pointer (some ⟨bd,0,none⟩)]∧Iter Tryz.prog G' v ((vItems 0 0 l).mapIdx ixP)):=by
 refine eN [(0,_)] Tryz.func30 rfl Tryz.ntmps30 rfl rfl hG ?_;intro a H;refine c_seqR (fun _ K1=>?_);refine s_box (cs:=[_,_,_,_,_,_,_,_,_,_,_]) H wn rfl rfl rfl ?_;clear H;intro b1 a w hb1 H;refine kH H (Ra rfl (Kz K1 (SR fun _ K2=>?_)));clear H K1;intro a H;refine s_makeFunc H wn rfl rfl ?_;clear H;intro a H;refine kH H (Ra rfl (Kz K2 ?_));clear H K2;intro a H;refine c_ret ?_;obtain ⟨G2,hm2,hb2,H⟩:=H.giveBox;refine lv H Tryz.results30 rfl ?_;exact H.hp.ret ⟨b1,rfl,positions1_iter hb2 (hv.mono hm2) hz⟩
/-- How many positions a document has. -/
def posN (l:List ItemD):Nat:=(vItems 0 0 l).length
theorem ix_at {A:List (Int × Int)} {k:Nat} {args:List Value} {g:GH} (h:AtAP (A.mapIdx ixP) k args g):∃ hk:k < A.length,args=[vi k,.agg #[vi A[k].1,vi A[k].2]]:=by
 obtain ⟨p,hp,hargs⟩:=h;rw [List.getElem?_mapIdx] at hp;obtain ⟨q,hq,rfl⟩:=Option.map_eq_some_iff.1 hp;obtain ⟨hk,rfl⟩:=List.getElem?_eq_some_iff.1 hq;exact ⟨hk,hargs⟩
theorem count_pos (G:GH) (w0:World) (hG:Hold G w0) (D:DocV) (l:List ItemD) (hv:RepV G (.sl 11 (l.map ItemD.dat)) (sl3 D.f)) (hz:zItems l≤4294967296) :
  Calls Tryz.prog 11 #[D.val] w0 (Ret w0 G fun v G'=>v=vi (posN l)):=by
 have hvl:=vItems_len 0 0 l;refine eN [(0,_)] Tryz.func11 rfl Tryz.ntmps11 rfl rfl hG ?_;intro a H;refine c_seqR (fun _ K1=>?_);refine s_box (cs:=[_,_,_,_,_,_,_,_,_,_,_]) H wn rfl rfl rfl ?_;clear H;intro b1 a w hb1 H;refine kH H (Ra rfl (Kz K1 (SR fun _ K2=>?_)));clear H K1;intro a H;refine s_alloc ty3run H wn rfl ?_;clear H;intro b3 a w hb3 H;refine s_store ty3run 0 (vs:=[_]) _ H wn rfl rfl rfl rfl rfl rfl rfl rfl ?_;clear H;intro w H;dsimp only [List.set,setRow] at H;refine K2 _ _ ?_;clear K2;refine c_seq (fun _ K3=>?_);refine c_seqR (fun _ K4=>?_);refine s_loada ty38pq (cs:=[_,_,_,_,_,_,_,_,_,_,_]) H wn rfl rfl (H.hp.ocells 1 rfl rfl) rfl ?_;clear H;intro a H;refine s_call en30pq H wn rfl (positions_spec _ _ H.hp.ro D l hv hz) rfl ?_;clear H;rintro v5 G5 a w ⟨bd,rfl,hit⟩ hm5 H;refine K4 _ _ ?_;clear K4;refine c_block ?_;skip;refine c_rangeJ (ι:=Unit) (κ:=Empty) (Lc:=[(_,_)]) (fun (k:Nat) (gh:Unit)=>[(b3,.cells #[vi k] 3 (0,0))]) (fun (k:Nat) (gh:Unit)=>[]) (fun (k:Nat) (gh:Unit) (g:GH)=>True) (fun x=>x.elim) (fun x=>x.elim) (fun x=>x.elim) (fun x=>x.elim) (()) (by exact H.pickT (Pl:=[_,_]) (Pl':=[_,_]) [1,0] (by decide) rfl) rfl en47pq (hit) (fun _ _ h=>h) rfl (fun k args g h=>by obtain ⟨_,rfl⟩:=ix_at h;rfl) (fun _ _ _ _ _ h=>h) (fun x=>x.elim) (trivial) ?_ ?_ ?_
 ·clear H;intro l3 rdy bsy bk k args gh G3 w3 F3 B3 a hk3 hm3 hI hbeg3 hnext3 hstop3 H;obtain ⟨hk,rfl⟩:=ix_at hk3;dsimp only [asg,List.cons_append,List.nil_append] at H;refine c_skip ?_;refine hbeg3 _ _ _ _ _ _ (by exact H) ?_;clear H;intro w H;refine kP H (SB (SC (Ro ty3run 2 rfl rfl (Rd rfl ?_))));clear H;intro a H;refine s_store ty3run 2 (vs:=[_]) _ H wn rfl rfl rfl rfl rfl rfl rfl rfl ?_;clear H;intro w H;dsimp only [List.set,setRow] at H;refine wl_nil ?_;refine hnext3 (()) _ _ _ _ _ (by exact H) ?_
  trivial
 ·clear H;intro Dk3 gh Gd3 a w hm3 hI H;dsimp only [List.cons_append,List.nil_append,List.append_nil] at H;refine K3 _ _ ?_;clear K3;refine kP H (SR fun _ K5=>Ro ty3run 2 rfl rfl (Ra rfl (Kz K5 ?_)));clear H K5;intro a H;refine c_ret ?_;refine (leaveM H 0 rfl ?_).1;clear H;intro a w H;dsimp only [List.eraseIdx_cons_succ,List.eraseIdx_cons_zero] at H;refine lv H Tryz.results11 rfl ?_;exact H.hp.ret (by simp [posN])
 intro Dk x;exact x.elim
end
section
open Go.RowKit
theorem en105doc:∀ args w,(callFunc 105 args).run Tryz.prog w=.ok (.enter 105 args) w:=enters Tryz.func105 rfl (by kernel_rfl)
theorem ty103doc:Ty Tryz.prog 103 3 16 [.bool false,.bool false,.int .i64 0] true:=⟨by kernel_rfl,by kernel_rfl⟩
theorem sr112doc:Srt Tryz.prog 112 [(0,1),(1,3)] [.slice none 0 0,.bool false,.bool false,.int .i64 0]:=⟨by kernel_rfl,by kernel_rfl⟩
theorem fd103_2doc:Fld Tryz.prog 103 2 2:=⟨by kernel_rfl⟩
theorem sr103doc:Srt Tryz.prog 103 [(0,1),(1,1),(2,1)] [.bool false,.bool false,.int .i64 0]:=⟨by kernel_rfl,by kernel_rfl⟩
theorem fd103_1doc:Fld Tryz.prog 103 1 1:=⟨by kernel_rfl⟩
theorem ty4doc:Ty Tryz.prog 4 1 1 [.bool false] false:=⟨by kernel_rfl,by kernel_rfl⟩
theorem en75doc:∀ args w,(callFunc 75 args).run Tryz.prog w=.ok (.enter 75 args) w:=enters Tryz.func75 rfl (by kernel_rfl)
theorem en104doc:∀ args w,(callFunc 104 args).run Tryz.prog w=.ok (.enter 104 args) w:=enters Tryz.func104 rfl (by kernel_rfl)
/-- A flow and its place. -/
structure FlowD where
 id:Int
 items:List ItemD
 body:Bool
 note:Bool
 tables:Int
mutual
def wItem (note:Bool) (t:Int):ItemD→List FlowD
 | .mk k _ i _ _ f r=>if k=6 then ⟨i,f,false,true,t⟩ :: wItems true t f else if k=7 then wRows note t r else []
def wItems (note:Bool) (t:Int):List ItemD→List FlowD
 | []=>[]
 | x :: l=>wItem note t x++wItems note t l
def wRows (note:Bool) (t:Int):List RowD→List FlowD
 | []=>[]
 | r :: l=>wRow note t r++wRows note t l
def wRow (note:Bool) (t:Int):RowD→List FlowD
 | .mk _ cs=>wCells note t cs
def wCells (note:Bool) (t:Int):List CellD→List FlowD
 | []=>[]
 | c :: l=>wCell note t c++wCells note t l
def wCell (note:Bool) (t:Int):CellD→List FlowD
 | .mk i _ f=>⟨i,f,false,note,t+1⟩ :: wItems note (t+1) f
end
theorem wItem_eq (note:Bool) (t:Int) (x:ItemD):wItem note t x=if x.kind=6 then ⟨x.id,x.flow,false,true,t⟩ :: wItems true t x.flow else if x.kind=7 then wRows note t x.rows else []:=by cases x;rw [wItem];rfl
theorem wRow_eq (note:Bool) (t:Int) (x:RowD):wRow note t x=wCells note t x.cells:=by cases x;rw [wRow];rfl
theorem wCell_eq (note:Bool) (t:Int) (x:CellD):wCell note t x=⟨x.id,x.flow,false,note,t+1⟩ :: wItems note (t+1) x.flow:=by cases x;rw [wCell];rfl
/-- What is called at a flow. -/
def flP (a:FlowD):AP:=fun args g=>∃ v,args=[vi a.id,.agg #[v,.bool a.body,.bool a.note,vi a.tables]]∧RepV g (.sl 11 (a.items.map ItemD.dat)) v
def WalkOk (n:Nat):Prop:=∀ (fv:Value) (Gi:GH) (xs:List AP) (J:Nat→GH→OL→Prop) (Jx:GH→OL→Prop) (G:GH) (L:OL) (w0:World) (j:Nat) (l:List ItemD) (id:Int) (body note:Bool) (t:Int) (v:Value),
 (∀ b o,Gi b=some o→G b=some o)→Cback Tryz.prog fv Gi xs J Jx→JMono J→XMono Jx→J j G L→Owns G L w0→RepV G (.sl 11 (l.map ItemD.dat)) v→zItems l < n→0≤t→t+zItems l≤4294967296→(∀ i a,(⟨id,l,body,note,t⟩ :: wItems note t l)[i]?=some a→xs[j+i]?=some (flP a)) →
 Calls Tryz.prog 105 #[vi id,v,.agg #[.bool body,.bool note,vi t],fv] w0 (RetL w0 G L fun u G' L'=>∃ b,u=.bool b∧(b=true→J (j+((wItems note t l).length+1)) G' L')∧(b=false→Jx G' L'))
set_option maxHeartbeats 1000000 in
theorem walk_step {n:Nat} (ih:WalkOk n) (hn:n≤4294967296):WalkOk (n+1):=by
 intro fv Gi xs J Jx G L w0 j0 l id body note t v hGi hcb hJm hJx hJ0 hO hv hz ht0 ht1 hx0;obtain ⟨A,c,rfl,hc1,hc2,hg⟩:=hv.slice;rw [List.length_map] at *;have hll:=zItems_length l;have hnow0:Now xs flP J (j0+((wItems note t l).length+1)) j0 (⟨id,l,body,note,t⟩ :: wItems note t l) G L:=⟨hJ0,hx0,rfl⟩;refine enterL (N:=74) (T:=[(0,_),(1,_),(2,_),(3,_)]) Tryz.func105 rfl Tryz.ntmps105 rfl rfl hO ?_;intro a H;refine c_seqR (fun _ K1=>?_);refine s_box (cs:=[_,_,_]) H wn rfl rfl rfl ?_;clear H;intro b6 a w hb6 H;refine kH H (Ra rfl (Kz K1 (SQ fun _ K2=>SR fun _ K3=>Rm rfl (Rm rfl (Rm rfl ?_)))));clear H K1;intro a H;refine s_loada ty103doc (cs:=[_,_,_]) H wn rfl rfl (H.hp.ocells 0 rfl rfl) rfl ?_;clear H;intro a H;refine s_build sr112doc [_,_,_,_] H wn rfl rfl rfl rfl ?_;clear H;intro a H;refine s_callv (Li:=[_]) (L:=L) H wn rfl rfl (hcb _ _ _ _ _ ⟨_,hnow0.head,_,rfl,hv⟩ hGi hnow0.now (Hp.owns (Li:=[_]) H.hp)) rfl ?_;clear H;rintro v20 G20 Lt20 a w ⟨b20,rfl,hb1,hb2⟩ hm20 H;refine kH H (Rn rfl (Kz K3 ?_));clear H K3;intro a H;refine c_cond H rfl ?_ ?_
 ·intro h21
  try have p21:=dT h21
  refine kP H (SR fun _ K4=>Ra rfl (Kz K4 ?_));clear H K4;intro a H;refine lr H Tryz.results105 rfl ?_
  first
   | exact H.hp.retD (L':=Lt20) (by repeat (first|exact List.Sublist.refl _|apply List.Sublist.cons)) ⟨_,rfl,fun e=>(by cases e),fun _=>hb2 (by simpa using h21)⟩
   | exact H.hp.retD (L':=Lt40) (by repeat (first|exact List.Sublist.refl _|apply List.Sublist.cons)) ⟨_,rfl,fun e=>(by cases e),fun _=>hb4 (by simpa using h41)⟩
   | exact H.hp.retD (L':=Lt69) (by repeat (first|exact List.Sublist.refl _|apply List.Sublist.cons)) ⟨_,rfl,fun e=>(by cases e),fun _=>hb6 (by simpa using h70)⟩
   | exact H.hp.retD (L':=Lt) (by repeat (first|exact List.Sublist.refl _|apply List.Sublist.cons)) ⟨_,rfl,fun _=>(by rw [List.drop_of_length_le (by omega),wItems] at hnow;have:=hnow.len;simp only [List.length_nil,Nat.add_zero] at this;rw [← this];exact hnow.now),fun e=>(by cases e)⟩
 intro h21
 try have p21:=dF h21
 refine kP H (Kc K2 (SQ fun _ K5=>SR fun _ K6=>Rm rfl (Rl un22run rfl (Rm rfl (Kz K6 (SB ?_))))));clear H K2 K6;intro a H;skip;refine c_loopS (ι:=Nat × Nat × OL × GH) (Tc:=[(3,_),(6,_),(22,_),(23,_)]) (Lc:=[(_,_)]) (fun (gh:Nat × Nat × OL × GH)=>[(24,vi gh.1)]) (fun (gh:Nat × Nat × OL × GH)=>[]++gh.2.2.1) (fun (gh:Nat × Nat × OL × GH)=>gh.2.2.2) (fun (gh:Nat × Nat × OL × GH)=>gh.1≤l.length∧(∀ b o,G b=some o→gh.2.2.2 b=some o)∧Now xs flP J (j0+((wItems note t l).length+1)) gh.2.1 (wItems note t (l.drop gh.1)) gh.2.2.2 gh.2.2.1) (fun (gh:Nat × Nat × OL × GH)=>l.length - gh.1) ((0,j0+1,Lt20,G20)) (by exact (H).sub ⟨rfl,rfl,rfl,rfl,rfl,trivial⟩) ?_ ?_
 ·exact ⟨by omega,hm20,hnow0.step (hb1 (by simpa using h21))⟩
 clear H;intro gh a w hI H;obtain ⟨k,j1,Lt,g⟩:=gh;dsimp only at hI H;obtain ⟨hk,hgm,hnow⟩:=hI;dsimp only [List.cons_append,List.nil_append,List.append_nil] at H;refine kP H (SR fun _ K7=>Rc rfl (Kz K7 (SQ fun _ K8=>?_)));clear H K7;intro a H;refine c_cond H rfl ?_ ?_
 ·intro h25
  try have p25:=dT h25
  have hk2:k < l.length:=by omega
  obtain ⟨b,o,pA,pn,pc,dA,dn,dc,yA,yn,yc,fA,fn,fc,rA,rn,rc,rfl,hrow,hhd,hfl,hrw⟩:=flow_get hk2 hg;replace hrow:=fun j u hj=>gcell_mono hgm (hrow j u hj);have hrn:=hrw.len;rw [List.length_map] at hrn;subst hrn;have hrs:=zRows_length l[k].rows;have hsz1:=zItems_get hk2;rw [List.drop_eq_getElem_cons hk2] at hnow
  simp only [wItems,wItem_eq] at hnow
  refine kP H (Kc K8 (SQ fun _ K9=>SB (SR fun _ K10=>Ri un22run ty85run rfl rfl ?_)));clear H K8;intro a H;refine s_loada ty85run (cs:=[_,_,_,_,_,_,_,_,_,_,_]) H wn rfl rfl (fun j v hj=>H.hp.gcell (hrow j v hj)) rfl ?_;clear H;intro a H;refine s_alloc ty85run H wn rfl ?_;clear H;intro b10 a w hb10 H;refine s_store ty85run 0 (vs:=[_,_,_,_,_,_,_,_,_,_,_]) _ H wn rfl rfl rfl rfl rfl rfl rfl rfl ?_;clear H;intro w H;dsimp only [List.set,setRow] at H;refine K10 _ _ ?_;clear K10;refine kP H (SR fun _ K11=>Rf fd85_0run rfl (Ro ty3run 0 rfl rfl (Kz K11 (SB (SR fun _ K12=>Rc rfl (Ra rfl (Kz K12 ?_)))))));clear H K11 K12;intro a H;refine c_cond H rfl ?_ ?_
  ·intro h30
   try have p30:=dT h30
   rw [if_pos p30] at hnow;refine kP H (SR fun _ K13=>Rf fd85_2pos rfl (Ro ty3run 0 rfl rfl (Rf fd85_5run rfl (Ro ty22run 0 rfl rfl (Rf fd103_2doc rfl (Ro ty3run 1 rfl rfl ?_))))));clear H;intro a H;refine s_build sr103doc [_,_,_] H wn rfl rfl rfl rfl ?_;clear H;intro a H;refine kH H (Rm rfl ?_);clear H;intro a H;refine s_callL en105doc (Li:=[_,_]) (L:=Lt) H wn rfl (ih fv Gi xs J Jx _ _ _ j1 l[k].flow l[k].id false true t _ (fun b o h=>hgm b o (hGi b o h)) hcb hJm hJx hnow.now (Hp.owns (Li:=[_,_]) H.hp) (hfl.mono hgm) (by omega) ht0 (by omega) hnow.part) rfl ?_;clear H;rintro v40 G40 Lt40 a w ⟨b40,rfl,hb3,hb4⟩ hm40 H;refine kH H (Rn rfl (Kz K13 ?_));clear H K13;intro a H;refine c_cond H rfl ?_ ?_
   ·intro h41
    try have p41:=dT h41
    refine kP H (SR fun _ K14=>Ra rfl (Kz K14 ?_));clear H K14;intro a H;refine lr H Tryz.results105 rfl ?_
    first
     | exact H.hp.retD (L':=Lt20) (by repeat (first|exact List.Sublist.refl _|apply List.Sublist.cons)) ⟨_,rfl,fun e=>(by cases e),fun _=>hb2 (by simpa using h21)⟩
     | exact H.hp.retD (L':=Lt40) (by repeat (first|exact List.Sublist.refl _|apply List.Sublist.cons)) ⟨_,rfl,fun e=>(by cases e),fun _=>hb4 (by simpa using h41)⟩
     | exact H.hp.retD (L':=Lt69) (by repeat (first|exact List.Sublist.refl _|apply List.Sublist.cons)) ⟨_,rfl,fun e=>(by cases e),fun _=>hb6 (by simpa using h70)⟩
     | exact H.hp.retD (L':=Lt) (by repeat (first|exact List.Sublist.refl _|apply List.Sublist.cons)) ⟨_,rfl,fun _=>(by rw [List.drop_of_length_le (by omega),wItems] at hnow;have:=hnow.len;simp only [List.length_nil,Nat.add_zero] at this;rw [← this];exact hnow.now),fun e=>(by cases e)⟩
   intro h41
   try have p41:=dF h41
   refine kP H (Kc K9 (SC (Rd rfl (Rm rfl ?_))));clear H K9;intro a H;refine wl_nil ?_;refine loop_end ((k+1,j1+((wItems true t l[k].flow).length+1),Lt40,G40)) (by exact (H.pickT (Pl:=[_,_]) (Pl':=[_]) [1] (by decide) rfl).sub ⟨rfl,rfl,rfl,rfl,rfl,trivial⟩) ?_ ?_
   ·(try dsimp only);exact ⟨by omega,fun b o h=>hm40 b o (hgm b o h),hnow.jump (hb3 (by simpa using h41))⟩
   first|omega|(dsimp only;omega)
  intro h30
  try have p30:=dF h30
  refine kP H (SR fun _ K15=>Rc rfl (Ra rfl (Kz K15 ?_)));clear H K15;intro a H;refine c_cond H rfl ?_ ?_
  ·intro h42
   try have p42:=dT h42
   rw [if_neg p30,if_pos p42] at hnow;refine kP H (SR fun _ K16=>Rf fd85_6run rfl (Ro ty83run 0 rfl rfl (Rl un83run rfl (Rm rfl (Kz K16 (SB ?_))))));clear H K16;intro a H;skip;refine c_loopS (ι:=Nat × Nat × OL × GH) (Tc:=[(3,_),(6,_),(22,_),(23,_),(24,_),(45,_),(46,_)]) (Lc:=[(_,_),(_,_)]) (fun (gh:Nat × Nat × OL × GH)=>[(47,vi gh.1)]) (fun (gh:Nat × Nat × OL × GH)=>[]++gh.2.2.1) (fun (gh:Nat × Nat × OL × GH)=>gh.2.2.2) (fun (gh:Nat × Nat × OL × GH)=>gh.1≤l[k].rows.length∧(∀ b o,G b=some o→gh.2.2.2 b=some o)∧Now xs flP J (j0+((wItems note t l).length+1)) gh.2.1 (wRows note t (l[k].rows.drop gh.1)++wItems note t (l.drop (k+1))) gh.2.2.2 gh.2.2.1) (fun (gh:Nat × Nat × OL × GH)=>l[k].rows.length - gh.1) ((0,j1,Lt,g)) (by exact (H).sub ⟨rfl,rfl,rfl,rfl,rfl,rfl,rfl,rfl,trivial⟩) ?_ ?_
   ·exact ⟨by omega,hgm,hnow⟩
   clear H;intro gh a w hI H;obtain ⟨rk,j3,Lt3,g3⟩:=gh;dsimp only at hI H;obtain ⟨hrk,hgm3,hnow3⟩:=hI;dsimp only [List.cons_append,List.nil_append,List.append_nil] at H;refine kP H (SR fun _ K17=>Rc rfl (Kz K17 (SQ fun _ K18=>?_)));clear H K17;intro a H;refine c_cond H rfl ?_ ?_
   ·intro h48
    try have p48:=dT h48
    have hk3:rk < l[k].rows.length:=by omega
    obtain ⟨b2,o2,qA,qn,qc,eA,en,ec,zA,zn,zc,cA,cn,cc,rfl,hrow,hrh,hcl⟩:=row_get hk3 hrw.at_;replace hrow:=fun j u hj=>gcell_mono hgm3 (hrow j u hj);have hcn:=hcl.len;rw [List.length_map] at hcn;subst hcn;have hsz2:=zRows_get hk3;have hcs:=zCells_length l[k].rows[rk].cells;rw [List.drop_eq_getElem_cons hk3] at hnow3
    simp only [wRows,wRow_eq,List.append_assoc] at hnow3
    refine kP H (Kc K18 (SQ fun _ K19=>SB (SR fun _ K20=>Ri un83run ty88run rfl rfl ?_)));clear H K18;intro a H;refine s_loada ty88run (cs:=[_,_,_,_,_,_]) H wn rfl rfl (fun j v hj=>H.hp.gcell (hrow j v hj)) rfl ?_;clear H;intro a H;refine s_alloc ty88run H wn rfl ?_;clear H;intro b12 a w hb12 H;refine s_store ty88run 0 (vs:=[_,_,_,_,_,_]) _ H wn rfl rfl rfl rfl rfl rfl rfl rfl ?_;clear H;intro w H;dsimp only [List.set,setRow] at H;refine K20 _ _ ?_;clear K20;refine kP H (SR fun _ K21=>Rf fd88_1run rfl (Ro ty86run 0 rfl rfl (Rl un86run rfl (Rm rfl (Kz K21 (SB ?_))))));clear H K21;intro a H;skip;refine c_loopS (ι:=Nat × Nat × OL × GH) (Tc:=[(3,_),(6,_),(22,_),(23,_),(24,_),(45,_),(46,_),(47,_),(52,_),(53,_)]) (Lc:=[(_,_),(_,_),(_,_)]) (fun (gh:Nat × Nat × OL × GH)=>[(54,vi gh.1)]) (fun (gh:Nat × Nat × OL × GH)=>[]++gh.2.2.1) (fun (gh:Nat × Nat × OL × GH)=>gh.2.2.2) (fun (gh:Nat × Nat × OL × GH)=>gh.1≤l[k].rows[rk].cells.length∧(∀ b o,G b=some o→gh.2.2.2 b=some o)∧Now xs flP J (j0+((wItems note t l).length+1)) gh.2.1 (wCells note t (l[k].rows[rk].cells.drop gh.1)++(wRows note t (l[k].rows.drop (rk+1))++wItems note t (l.drop (k+1)))) gh.2.2.2 gh.2.2.1) (fun (gh:Nat × Nat × OL × GH)=>l[k].rows[rk].cells.length - gh.1) ((0,j3,Lt3,g3)) (by exact (H).sub ⟨rfl,rfl,rfl,rfl,rfl,rfl,rfl,rfl,rfl,rfl,rfl,trivial⟩) ?_ ?_
    ·exact ⟨by omega,hgm3,hnow3⟩
    clear H;intro gh a w hI H;obtain ⟨ck,j4,Lt4,g4⟩:=gh;dsimp only at hI H;obtain ⟨hck,hgm4,hnow4⟩:=hI;dsimp only [List.cons_append,List.nil_append,List.append_nil] at H;refine kP H (SR fun _ K22=>Rc rfl (Kz K22 (SQ fun _ K23=>?_)));clear H K22;intro a H;refine c_cond H rfl ?_ ?_
    ·intro h55
     try have p55:=dT h55
     have hk4:ck < l[k].rows[rk].cells.length:=by omega
     obtain ⟨b3,o3,sA,sn,sc,tA,tn,tc,uA,un,uc,gA,gn,gc,rfl,hrow,hch,hcf⟩:=cell_get hk4 hcl.at_;replace hrow:=fun j u hj=>gcell_mono hgm4 (hrow j u hj);have hsz3:=zCells_get hk4;rw [List.drop_eq_getElem_cons hk4] at hnow4
     simp only [wCells,wCell_eq,List.append_assoc] at hnow4
     refine kP H (Kc K23 (SQ fun _ K24=>SB (SR fun _ K25=>Ri un86run ty90run rfl rfl ?_)));clear H K23;intro a H;refine s_loada ty90run (cs:=[_,_,_,_,_,_,_]) H wn rfl rfl (fun j v hj=>H.hp.gcell (hrow j v hj)) rfl ?_;clear H;intro a H;refine s_alloc ty90run H wn rfl ?_;clear H;intro b14 a w hb14 H;refine s_store ty90run 0 (vs:=[_,_,_,_,_,_,_]) _ H wn rfl rfl rfl rfl rfl rfl rfl rfl ?_;clear H;intro w H;dsimp only [List.set,setRow] at H;refine K25 _ _ ?_;clear K25;refine kP H (SR fun _ K26=>Rf fd90_0run rfl (Ro ty3run 0 rfl rfl (Rf fd90_2run rfl (Ro ty22run 0 rfl rfl (Rf fd103_1doc rfl (Ro ty4doc 3 rfl rfl (Rf fd103_2doc rfl (Ro ty3run 3 rfl rfl (Rd rfl ?_)))))))));clear H;intro a H;refine s_build sr103doc [_,_,_] H wn rfl rfl rfl rfl ?_;clear H;intro a H;refine kH H (Rm rfl ?_);clear H;intro a H;refine s_callL en105doc (Li:=[_,_,_,_]) (L:=Lt4) H wn rfl (ih fv Gi xs J Jx _ _ _ j4 l[k].rows[rk].cells[ck].flow l[k].rows[rk].cells[ck].id false note (t+1) _ (fun b o h=>hgm4 b o (hGi b o h)) hcb hJm hJx hnow4.now (Hp.owns (Li:=[_,_,_,_]) H.hp) (hcf.mono hgm4) (by omega) (by omega) (by omega) hnow4.part) rfl ?_;clear H;rintro v69 G69 Lt69 a w ⟨b69,rfl,hb5,hb6⟩ hm69 H;refine kH H (Rn rfl (Kz K26 ?_));clear H K26;intro a H;refine c_cond H rfl ?_ ?_
     ·intro h70
      try have p70:=dT h70
      refine kP H (SR fun _ K27=>Ra rfl (Kz K27 ?_));clear H K27;intro a H;refine lr H Tryz.results105 rfl ?_
      first
       | exact H.hp.retD (L':=Lt20) (by repeat (first|exact List.Sublist.refl _|apply List.Sublist.cons)) ⟨_,rfl,fun e=>(by cases e),fun _=>hb2 (by simpa using h21)⟩
       | exact H.hp.retD (L':=Lt40) (by repeat (first|exact List.Sublist.refl _|apply List.Sublist.cons)) ⟨_,rfl,fun e=>(by cases e),fun _=>hb4 (by simpa using h41)⟩
       | exact H.hp.retD (L':=Lt69) (by repeat (first|exact List.Sublist.refl _|apply List.Sublist.cons)) ⟨_,rfl,fun e=>(by cases e),fun _=>hb6 (by simpa using h70)⟩
       | exact H.hp.retD (L':=Lt) (by repeat (first|exact List.Sublist.refl _|apply List.Sublist.cons)) ⟨_,rfl,fun _=>(by rw [List.drop_of_length_le (by omega),wItems] at hnow;have:=hnow.len;simp only [List.length_nil,Nat.add_zero] at this;rw [← this];exact hnow.now),fun e=>(by cases e)⟩
     intro h70
     try have p70:=dF h70
     refine kP H (Kc K24 (SC (Rd rfl (Rm rfl ?_))));clear H K24;intro a H;refine wl_nil ?_;refine loop_end ((ck+1,j4+((wItems note (t+1) l[k].rows[rk].cells[ck].flow).length+1),Lt69,G69)) (by exact (H.pickT (Pl:=[_,_,_,_]) (Pl':=[_,_,_]) [1,2,3] (by decide) rfl).sub ⟨rfl,rfl,rfl,rfl,rfl,rfl,rfl,rfl,rfl,rfl,rfl,trivial⟩) ?_ ?_
     ·(try dsimp only);exact ⟨by omega,fun b o h=>hm69 b o (hgm4 b o h),hnow4.jump (hb5 (by simpa using h70))⟩
     first|omega|(dsimp only;omega)
    intro h55
    try have p55:=dF h55
    refine c_exit ?_;refine K19 _ _ ?_;clear K19;refine kP H (SC (Rd rfl (Rm rfl ?_)));clear H;intro a H;refine wl_nil ?_;refine loop_end ((rk+1,j4,Lt4,g4)) (by exact (H.pickT (Pl:=[_,_,_]) (Pl':=[_,_]) [1,2] (by decide) rfl).sub ⟨rfl,rfl,rfl,rfl,rfl,rfl,rfl,rfl,trivial⟩) ?_ ?_
    ·(try dsimp only);exact ⟨by omega,hgm4,by rw [List.drop_of_length_le (by omega),wCells,List.nil_append] at hnow4;exact hnow4⟩
    first|omega|(dsimp only;omega)
   intro h48
   try have p48:=dF h48
   refine c_exit ?_;refine K9 _ _ ?_;clear K9;refine kP H (SC (Rd rfl (Rm rfl ?_)));clear H;intro a H;refine wl_nil ?_;refine loop_end ((k+1,j3,Lt3,g3)) (by exact (H.pickT (Pl:=[_,_]) (Pl':=[_]) [1] (by decide) rfl).sub ⟨rfl,rfl,rfl,rfl,rfl,trivial⟩) ?_ ?_
   ·(try dsimp only);exact ⟨by omega,hgm3,by rw [List.drop_of_length_le (by omega),wRows,List.nil_append] at hnow3;exact hnow3⟩
   first|omega|(dsimp only;omega)
  intro h42
  try have p42:=dF h42
  refine kP H (Kc K9 (SC (Rd rfl (Rm rfl ?_))));clear H K9;intro a H;refine wl_nil ?_;refine loop_end ((k+1,j1,Lt,g)) (by exact (H.pickT (Pl:=[_,_]) (Pl':=[_]) [1] (by decide) rfl).sub ⟨rfl,rfl,rfl,rfl,rfl,trivial⟩) ?_ ?_
  ·(try dsimp only);exact ⟨by omega,hgm,by rw [if_neg p30,if_neg p42,List.nil_append] at hnow;exact hnow⟩
  first|omega|(dsimp only;omega)
 intro h25
 try have p25:=dF h25
 refine c_exit ?_;refine K5 _ _ ?_;clear K5;refine kP H (SR fun _ K28=>Ra rfl (Kz K28 ?_));clear H K28;intro a H;refine lr H Tryz.results105 rfl ?_
 first
  | exact H.hp.retD (L':=Lt20) (by repeat (first|exact List.Sublist.refl _|apply List.Sublist.cons)) ⟨_,rfl,fun e=>(by cases e),fun _=>hb2 (by simpa using h21)⟩
  | exact H.hp.retD (L':=Lt40) (by repeat (first|exact List.Sublist.refl _|apply List.Sublist.cons)) ⟨_,rfl,fun e=>(by cases e),fun _=>hb4 (by simpa using h41)⟩
  | exact H.hp.retD (L':=Lt69) (by repeat (first|exact List.Sublist.refl _|apply List.Sublist.cons)) ⟨_,rfl,fun e=>(by cases e),fun _=>hb6 (by simpa using h70)⟩
  | exact H.hp.retD (L':=Lt) (by repeat (first|exact List.Sublist.refl _|apply List.Sublist.cons)) ⟨_,rfl,fun _=>(by rw [List.drop_of_length_le (by omega),wItems] at hnow;have:=hnow.len;simp only [List.length_nil,Nat.add_zero] at this;rw [← this];exact hnow.now),fun e=>(by cases e)⟩
theorem walk_ok:∀ n:Nat,n≤4294967297→WalkOk n
 | 0,_=>fun _ _ _ _ _ _ _ _ _ _ _ _ _ _ _ _ _ _ _ _ _ _ h=>absurd h (by omega)
 | n+1,hn=>walk_step (walk_ok n (by omega)) (by omega)
/-- All flows of a document. -/
def flowsD (l:List ItemD):List FlowD:=⟨0,l,true,false,0⟩ :: wItems false 0 l
theorem flows1_iter {G:GH} {ba bl bp:Nat} {l:List ItemD} {v:Value} {id t:Int} {body note:Bool} (h1:gcell G ba 0=some (vi id)) (h2:gcell G bl 0=some v) (h3:G bp=some (.cells #[.bool body,.bool note,vi t] 103 (0,0))) (hv:RepV G (.sl 11 (l.map ItemD.dat)) v) (hz:zItems l≤4294967296) (ht0:0≤t) (ht1:t+zItems l≤4294967296) :
  Iter Tryz.prog G (.func (.func 104) #[] #[.pointer (some ⟨ba,0,none⟩),.pointer (some ⟨bl,0,none⟩),.pointer (some ⟨bp,0,none⟩)]) ((⟨id,l,body,note,t⟩ :: wItems note t l).map flP):=by
 intro J Jx fv G1 L w0 hfv hGi hJm hJx hJ hO hcb;refine callV_func (caps:=[.pointer (some ⟨ba,0,none⟩),.pointer (some ⟨bl,0,none⟩),.pointer (some ⟨bp,0,none⟩)]) en104doc ?_;replace h1:=gcell_mono hGi h1;replace h2:=gcell_mono hGi h2
 have hrow:∀ j u,[.bool body,.bool note,vi t][j]?=some u→gcell G1 bp (0+j)=some u:=by
  intro j u hj;refine gcell_mono hGi ?_
  unfold gcell;rw [h3];simpa using hj
 refine enterL (N:=10) (T:=[(0,_),(1,_),(2,_),(3,_)]) Tryz.func104 rfl Tryz.ntmps104 rfl rfl hO ?_;intro a H;refine kP H (SC (Rg ty3run rfl (by assumption) ?_));clear H;intro a H;refine kH H (Rg ty22run rfl (by assumption) ?_);clear H;intro a H;refine s_loada ty103doc (cs:=[_,_,_]) H wn rfl rfl (fun j v hj=>H.hp.gcell (hrow j v hj)) rfl ?_;clear H;intro a H;refine kH H (Rm rfl ?_);clear H;intro a H;refine s_callL en105doc (Li:=[]) (L:=L) H wn rfl (walk_ok 4294967297 (by omega) _ G1 _ J Jx G1 _ _ 0 l id body note t _ (fun _ _ h=>h) hcb hJm hJx hJ (Hp.owns (Li:=[]) H.hp) (hv.mono hGi) (by omega) ht0 ht1 (fun i a h=>by rw [Nat.zero_add,List.getElem?_map,h];rfl)) rfl ?_;clear H;rintro v9 G9 L9 a w ⟨b9,rfl,h1,h2⟩ hm9 H;refine wl_nil ?_;refine (leave0 H Tryz.results104 ?_).2
 cases b9
 ·exact H.hp.retL (.inr (h2 rfl))
 exact H.hp.retL (.inl (by simpa using h1 rfl))
theorem flows_spec (G:GH) (w0:World) (hG:Hold G w0) (l:List ItemD) (v:Value) (id t:Int) (body note:Bool) (hv:RepV G (.sl 11 (l.map ItemD.dat)) v) (hz:zItems l≤4294967296) (ht0:0≤t) (ht1:t+zItems l≤4294967296) :
  Calls Tryz.prog 75 #[vi id,v,.agg #[.bool body,.bool note,vi t]] w0 (Ret w0 G fun u G'=>∃ ba bl bp,u=.func (.func 104) #[] #[.pointer (some ⟨ba,0,none⟩),.pointer (some ⟨bl,0,none⟩),.pointer (some ⟨bp,0,none⟩)]∧Iter Tryz.prog G' u ((⟨id,l,body,note,t⟩ :: wItems note t l).map flP)):=by
 obtain ⟨A,c,rfl,hc1,hc2,hg⟩:=hv.slice;refine eN [(0,_),(1,_),(2,_)] Tryz.func75 rfl Tryz.ntmps75 rfl rfl hG ?_;intro a H;refine c_seqR (fun _ K1=>?_);refine s_box (cs:=[_]) H wn rfl rfl rfl ?_;clear H;intro b3 a w hb3 H;refine s_box (cs:=[_]) H wn rfl rfl rfl ?_;clear H;intro b4 a w hb4 H;refine s_box (cs:=[_,_,_]) H wn rfl rfl rfl ?_;clear H;intro b5 a w hb5 H;refine kH H (Ra rfl (Kz K1 (SR fun _ K2=>?_)));clear H K1;intro a H;refine s_makeFunc H wn rfl rfl ?_;clear H;intro a H;refine kH H (Ra rfl (Kz K2 ?_));clear H K2;intro a H;refine c_ret ?_;obtain ⟨G2,hm2,hb5,H⟩:=H.giveBox;obtain ⟨G3,hm3,hb4,H⟩:=H.giveBox;obtain ⟨G4,hm4,hb3,H⟩:=H.giveBox;refine lv H Tryz.results75 rfl ?_;exact H.hp.ret ⟨b3,b4,b5,rfl,flows1_iter (by unfold gcell;rw [hb3];rfl) (gcell_mono hm4 (by unfold gcell;rw [hb4];rfl)) (hm4 _ _ (hm3 _ _ hb5)) (hv.mono fun b o h=>hm4 _ _ (hm3 _ _ (hm2 _ _ h))) hz ht0 ht1⟩
theorem of_spec (G:GH) (w0:World) (hG:Hold G w0) (D:DocV) (l:List ItemD) (hv:RepV G (.sl 11 (l.map ItemD.dat)) (sl3 D.f)) (hz:zItems l≤4294967296) :
  Calls Tryz.prog 46 #[D.val] w0 (Ret w0 G fun u G'=>∃ ba bl bp,u=.func (.func 104) #[] #[.pointer (some ⟨ba,0,none⟩),.pointer (some ⟨bl,0,none⟩),.pointer (some ⟨bp,0,none⟩)]∧Iter Tryz.prog G' u ((flowsD l).map flP)):=by
 refine eN [(0,_)] Tryz.func46 rfl Tryz.ntmps46 rfl rfl hG ?_;intro a H;refine c_seqR (fun _ K1=>?_);refine s_box (cs:=[_,_,_,_,_,_,_,_,_,_,_]) H wn rfl rfl rfl ?_;clear H;intro b1 a w hb1 H;refine kH H (Ra rfl (Kz K1 (SR fun _ K2=>Rf fd38_0pq rfl (Ro ty22run 0 rfl rfl ?_))));clear H K1;intro a H;refine s_build sr103doc [_,_,_] H wn rfl rfl rfl rfl ?_;clear H;intro a H;refine s_call en75doc H wn rfl (flows_spec _ _ H.hp.ro l _ 0 0 true false hv hz (by omega) (by omega)) rfl ?_;clear H;rintro v6 G6 a w ⟨ba,bl,bp,rfl,hit⟩ hm6 H;refine kH H (Ra rfl (Kz K2 ?_));clear H K2;intro a H;refine lr H Tryz.results46 rfl ?_;exact H.hp.ret ⟨ba,bl,bp,rfl,hit⟩
end
section
open Go.RowKit
theorem en46dq:∀ args w,(callFunc 46 args).run Tryz.prog w=.ok (.enter 46 args) w:=enters Tryz.func46 rfl (by kernel_rfl)
theorem ty112dq:Ty Tryz.prog 112 4 40 [.slice none 0 0,.bool false,.bool false,.int .i64 0] true:=⟨by kernel_rfl,by kernel_rfl⟩
theorem fd112_0dq:Fld Tryz.prog 112 0 0:=⟨by kernel_rfl⟩
theorem en31dq:∀ args w,(callFunc 31 args).run Tryz.prog w=.ok (.enter 31 args) w:=enters Tryz.func31 rfl (by kernel_rfl)
theorem fd53_0dq:Fld Tryz.prog 53 0 0:=⟨by kernel_rfl⟩
theorem en33dq:∀ args w,(callFunc 33 args).run Tryz.prog w=.ok (.enter 33 args) w:=enters Tryz.func33 rfl (by kernel_rfl)
theorem fd53_1dq:Fld Tryz.prog 53 1 1:=⟨by kernel_rfl⟩
theorem fd53_2dq:Fld Tryz.prog 53 2 2:=⟨by kernel_rfl⟩
theorem fd45_0dq:Fld Tryz.prog 45 0 0:=⟨by kernel_rfl⟩
theorem fd45_1dq:Fld Tryz.prog 45 1 1:=⟨by kernel_rfl⟩
theorem sr53dq:Srt Tryz.prog 53 [(0,1),(1,1),(2,1)] [.int .i64 0,.int .i64 0,.int .i64 0]:=⟨by kernel_rfl,by kernel_rfl⟩
theorem en16dq:∀ args w,(callFunc 16 args).run Tryz.prog w=.ok (.enter 16 args) w:=enters Tryz.func16 rfl (by kernel_rfl)
mutual
theorem wItem_sz {note:Bool} {t:Int} {f:FlowD}:∀ {x:ItemD},f∈wItem note t x→zItems f.items < szR x.dat
 | .mk k c i tx h fl r,hf=>by
  have h4:=zItem_eq (.mk k c i tx h fl r)
  simp only [ItemD.text,ItemD.head,ItemD.flow,ItemD.rows] at h4
  rw [wItem] at hf
  split at hf
  ·rcases List.mem_cons.1 hf with rfl|hf
   ·show zItems fl < _;omega
   have:=wItems_sz hf;omega
  split at hf
  ·have:=wRows_sz hf;omega
  cases hf
theorem wItems_sz {note:Bool} {t:Int} {f:FlowD}:∀ {l:List ItemD},f∈wItems note t l→zItems f.items≤zItems l
 | [],hf=>by simp [wItems] at hf
 | x :: l,hf=>by
  rw [wItems] at hf
  simp only [zItems,List.map_cons,szRs]
  rcases List.mem_append.1 hf with hf|hf
  ·have:=wItem_sz hf;simp only [zItems] at this;omega
  have:=wItems_sz hf;simp only [zItems] at this;omega
theorem wRows_sz {note:Bool} {t:Int} {f:FlowD}:∀ {l:List RowD},f∈wRows note t l→zItems f.items≤zRows l
 | [],hf=>by simp [wRows] at hf
 | x :: l,hf=>by
  rw [wRows] at hf
  simp only [zRows,List.map_cons,szRs]
  rcases List.mem_append.1 hf with hf|hf
  ·have:=wRow_sz hf;simp only [zItems] at *;omega
  have:=wRows_sz hf;simp only [zItems,zRows] at *;omega
theorem wRow_sz {note:Bool} {t:Int} {f:FlowD}:∀ {x:RowD},f∈wRow note t x→zItems f.items≤szR x.dat
 | .mk h cs,hf=>by
  have h4:=zRow_eq (.mk h cs)
  simp only [RowD.head,RowD.cells] at h4
  rw [wRow] at hf;have:=wCells_sz hf;omega
theorem wCells_sz {note:Bool} {t:Int} {f:FlowD}:∀ {l:List CellD},f∈wCells note t l→zItems f.items≤zCells l
 | [],hf=>by simp [wCells] at hf
 | x :: l,hf=>by
  rw [wCells] at hf
  simp only [zCells,List.map_cons,szRs]
  rcases List.mem_append.1 hf with hf|hf
  ·have:=wCell_sz hf;simp only [zItems] at *;omega
  have:=wCells_sz hf;simp only [zItems,zCells] at *;omega
theorem wCell_sz {note:Bool} {t:Int} {f:FlowD}:∀ {x:CellD},f∈wCell note t x→zItems f.items≤szR x.dat
 | .mk i h fl,hf=>by
  have h4:=zCell_eq (.mk i h fl)
  simp only [CellD.head,CellD.flow] at h4
  rw [wCell] at hf
  rcases List.mem_cons.1 hf with rfl|hf
  ·show zItems fl≤_;omega
  have:=wItems_sz hf;omega
end
theorem flowsD_sz {f:FlowD} {l:List ItemD} (h:f∈flowsD l):zItems f.items≤zItems l:=by
 rcases List.mem_cons.1 h with rfl|h
 ·exact Nat.le_refl _
 exact wItems_sz h
/-- The flow with an id. -/
def flowOf (l:List ItemD) (id:Int):Option (List ItemD):=((flowsD l).find? fun f=>decide (f.id=id)).map FlowD.items
theorem flowOf_sz {f:List ItemD} {l:List ItemD} {id:Int} (h:flowOf l id=some f):zItems f≤zItems l:=by
 obtain ⟨a,ha,rfl⟩:=Option.map_eq_some_iff.1 h;exact flowsD_sz (List.mem_of_find?_eq_some ha)
theorem find_next {α:Type} {p:α→Bool} {A:List α} {k:Nat} (hk:k < A.length) (h:(A.take k).find? p=none) (hp:p A[k]=false):(A.take (k+1)).find? p=none:=by
 rw [List.take_succ_eq_append_getElem hk,List.find?_append,h]
 simp [hp]
theorem find_stop {α:Type} {p:α→Bool} {A:List α} {k:Nat} (hk:k < A.length) (h:(A.take k).find? p=none) (hp:p A[k]=true):A.find? p=some A[k]:=by
 have e:A.find? p=(A.take k++A.drop k).find? p:=by rw [List.take_append_drop]
 rw [e,List.find?_append,h,List.drop_eq_getElem_cons hk,List.find?_cons,hp]
 rfl
theorem find_done {α:Type} {p:α→Bool} {A:List α} (h:(A.take A.length).find? p=none):A.find? p=none:=by rwa [List.take_length] at h
theorem fl_at {A:List FlowD} {k:Nat} {args:List Value} {g:GH} (h:AtAP (A.map flP) k args g):∃ (hk:k < A.length) (a:Option Addr) (n c:Nat),args=[vi A[k].id,.agg #[.slice a n c,.bool A[k].body,.bool A[k].note,vi A[k].tables]]∧RepV g (.sl 11 (A[k].items.map ItemD.dat)) (.slice a n c):=by
 obtain ⟨p,hp,hargs⟩:=h;rw [List.getElem?_map] at hp;obtain ⟨q,hq,rfl⟩:=Option.map_eq_some_iff.1 hp;obtain ⟨hk,rfl⟩:=List.getElem?_eq_some_iff.1 hq;obtain ⟨v,h1,h2⟩:=hargs;obtain ⟨a,n,c,rfl⟩:=h2.form;exact ⟨hk,a,n,c,h1,h2⟩
theorem flow_spec (G:GH) (w0:World) (hG:Hold G w0) (D:DocV) (l:List ItemD) (id:Int) (hv:RepV G (.sl 11 (l.map ItemD.dat)) (sl3 D.f)) (hz:zItems l≤4294967296) :
  Calls Tryz.prog 31 #[D.val,vi id] w0 (Ret w0 G fun u G'=>∃ v,u=.tuple #[v,.bool (flowOf l id).isSome]∧RepV G' (.sl 11 (((flowOf l id).getD []).map ItemD.dat)) v):=by
 refine eN [(0,_),(1,_)] Tryz.func31 rfl Tryz.ntmps31 rfl rfl hG ?_;intro a H;refine c_seqR (fun _ K1=>?_);refine s_box (cs:=[_,_,_,_,_,_,_,_,_,_,_]) H wn rfl rfl rfl ?_;clear H;intro b2 a w hb2 H;refine s_box (cs:=[_]) H wn rfl rfl rfl ?_;clear H;intro b3 a w hb3 H;refine s_alloc ty22run H wn rfl ?_;clear H;intro b4 a w hb4 H;refine s_alloc ty4doc H wn rfl ?_;clear H;intro b5 a w hb5 H;refine K1 _ _ ?_;clear K1;refine c_seq (fun _ K2=>?_);refine c_seqR (fun _ K3=>?_);refine s_loada ty38pq (cs:=[_,_,_,_,_,_,_,_,_,_,_]) H wn rfl rfl (H.hp.ocells 3 rfl rfl) rfl ?_;clear H;intro a H;refine s_call en46dq H wn rfl (of_spec _ _ H.hp.ro D l hv hz) rfl ?_;clear H;rintro v9 G9 a w ⟨ba,bl,bp,rfl,hit⟩ hm9 H;refine K3 _ _ ?_;clear K3;refine c_block ?_;skip;refine c_rangeJ (ι:=Unit) (κ:=Value) (Lc:=[(_,_),(_,_)]) (fun (k:Nat) (gh:Unit)=>[(b4,.cells #[.slice none 0 0] 22 (0,0)),(b5,.cells #[.bool false] 4 (0,0))]) (fun (k:Nat) (gh:Unit)=>[]) (fun (k:Nat) (gh:Unit) (g:GH)=>((flowsD l).take k).find? (fun f=>decide (f.id=id))=none) (fun (gx:Value)=>Code.ret) (fun (gx:Value)=>[(b4,.cells #[gx] 22 (0,0)),(b5,.cells #[.bool true] 4 (0,0))]) (fun (gx:Value)=>[]) (fun (gx:Value) (g:GH)=>∃ f,flowOf l id=some f∧RepV g (.sl 11 (f.map ItemD.dat)) gx) (()) (by exact H.pickT (Pl:=[_,_,_,_]) (Pl':=[_,_,_,_]) [2,3,1,0] (by decide) rfl) rfl en104doc (hit) (fun _ _ h=>h) rfl (fun k args g h=>by obtain ⟨_,_,_,_,rfl,_⟩:=fl_at h;rfl) (fun _ _ _ _ _ h=>h) (fun x G G' hm h=>let ⟨f,h1,h2⟩:=h;⟨f,h1,h2.mono hm⟩) (rfl) ?_ ?_ ?_
 ·clear H;intro l2 rdy bsy bk k args gh G2 w2 F2 B2 a hk2 hm2 hI hbeg2 hnext2 hstop2 H;obtain ⟨hk,vA,vn,vc,rfl,hrep⟩:=fl_at hk2;dsimp only [asg,List.cons_append,List.nil_append] at H;refine kP H (SR fun _ K4=>Ra rfl (Kz K4 (SC ?_)));clear H K4;intro a H;refine s_alloc ty112dq H wn rfl ?_;clear H;intro b7 a w hb7 H;refine s_store ty112dq 0 (vs:=[_,_,_,_]) _ H wn rfl rfl rfl rfl rfl rfl rfl rfl ?_;clear H;intro w H;dsimp only [List.set,setRow] at H;refine wl_nil ?_;refine hbeg2 _ _ _ _ _ _ (by exact H.pickT (Pl:=[_,_,_,_,_,_]) (Pl':=[_,_,_,_,_,_]) [1,0,2,3,4,5] (by decide) rfl) ?_;clear H;intro w H;refine kP H (SB (SR fun _ K5=>Rm rfl (Ro ty3run 2 rfl rfl (Rc rfl (Kz K5 ?_)))));clear H K5;intro a H;refine c_cond H rfl ?_ ?_
  ·intro h14
   try have p14:=dT h14
   refine kP H (SR fun _ K6=>Rf fd112_0dq rfl (Ro ty22run 1 rfl rfl ?_));clear H;intro a H;refine s_call en50run H wn rfl (clone_spec _ _ H.hp.ro _ _ hrep (by have:=flowsD_sz (List.getElem_mem hk);omega)) rfl ?_;clear H;rintro v17 G17 a w hp17 hm17 H;obtain ⟨A17,n17,c17,rfl⟩:=hp17.form;refine s_store ty22run 4 (vs:=[_]) _ H wn rfl rfl rfl rfl rfl rfl rfl rfl ?_;clear H;intro w H;dsimp only [List.set,setRow] at H;refine s_store ty4doc 5 (vs:=[_]) _ H wn rfl rfl rfl rfl rfl rfl rfl rfl ?_;clear H;intro w H;dsimp only [List.set,setRow] at H;refine K6 _ _ ?_;clear K6;refine c_ret ?_;refine (hstop2 (.slice A17 n17 c17) _ _ _ _ _ (by exact H.pickT (Pl:=[_,_,_,_,_,_]) (Pl':=[_,_,_,_,_]) [0,2,3,4,5] (by decide) rfl) ?_).1 rfl;exact ⟨_,by unfold flowOf;rw [find_stop hk hI h14];rfl,hp17⟩
  intro h14
  try have p14:=dF h14
  refine c_skip ?_;refine hnext2 (()) _ _ _ _ _ (by exact H.pickT (Pl:=[_,_,_,_,_,_]) (Pl':=[_,_,_,_,_]) [0,2,3,4,5] (by decide) rfl) ?_;exact find_next hk hI h14
 ·clear H;intro Dk2 gh Gd2 a w hm2 hI H;dsimp only [List.cons_append,List.nil_append,List.append_nil] at H;refine K2 _ _ ?_;clear K2;refine c_seqR (fun _ K7=>?_);refine s_store ty22run 3 (vs:=[_]) _ H wn rfl rfl rfl rfl rfl rfl rfl rfl ?_;clear H;intro w H;dsimp only [List.set,setRow] at H;refine s_store ty4doc 4 (vs:=[_]) _ H wn rfl rfl rfl rfl rfl rfl rfl rfl ?_;clear H;intro w H;dsimp only [List.set,setRow] at H;refine K7 _ _ ?_;clear K7;refine c_ret ?_;refine (leaveM H 0 rfl ?_).1;clear H;intro a w H;dsimp only [List.eraseIdx_cons_succ,List.eraseIdx_cons_zero] at H;refine (leaveT H Tryz.results31 (.cons (rv_cell ty22run H rfl (H.hp.ocell 2 rfl rfl)) (.cons (rv_cell ty4doc H rfl (H.hp.ocell 3 rfl rfl)) .nil)) ?_).1;exact H.hp.ret ⟨_,by unfold flowOf;rw [find_done (by simpa using hI)];rfl,by unfold flowOf;rw [find_done (by simpa using hI)];exact RepV.nil_ rfl (by decide)⟩
 clear H;intro Dk2 gx Gd2 a w hm2 hI H;obtain ⟨x,hgh⟩:∃ x,x=gx:=⟨_,rfl⟩;subst hgh;dsimp only [List.cons_append,List.nil_append,List.append_nil] at H;obtain ⟨f,hf,hrep⟩:=hI;obtain ⟨xA,xn,xc,rfl⟩:=hrep.form;refine c_ret ?_;refine (leaveM H 0 rfl ?_).1;clear H;intro a w H;dsimp only [List.eraseIdx_cons_succ,List.eraseIdx_cons_zero] at H;refine (leaveT H Tryz.results31 (.cons (rv_cell ty22run H rfl (H.hp.ocell 2 rfl rfl)) (.cons (rv_cell ty4doc H rfl (H.hp.ocell 3 rfl rfl)) .nil)) ?_).1;exact H.hp.ret ⟨_,by rw [hf];rfl,by rw [hf];exact hrep⟩
theorem length_spec (G:GH) (w0:World) (hG:Hold G w0) (D:DocV) (l:List ItemD) (id:Int) (hv:RepV G (.sl 11 (l.map ItemD.dat)) (sl3 D.f)) (hz:zItems l≤4294967296) :
  Calls Tryz.prog 33 #[D.val,vi id] w0 (Ret w0 G fun u G'=>u=.tuple #[vi (lenS ((flowOf l id).getD [])),.bool (flowOf l id).isSome]):=by
 have hsz:zItems ((flowOf l id).getD [])≤zItems l:=by
  cases h:flowOf l id with
  | none=>exact Nat.zero_le _
  | some f=>exact flowOf_sz h
 refine eN [(0,_),(1,_)] Tryz.func33 rfl Tryz.ntmps33 rfl rfl hG ?_;intro a H;refine c_seqR (fun _ K1=>?_);refine s_box (cs:=[_,_,_,_,_,_,_,_,_,_,_]) H wn rfl rfl rfl ?_;clear H;intro b2 a w hb2 H;refine kH H (Ra rfl (Ra rfl (Kz K1 (SR fun _ K2=>?_))));clear H K1;intro a H;refine s_loada ty38pq (cs:=[_,_,_,_,_,_,_,_,_,_,_]) H wn rfl rfl (H.hp.ocells 0 rfl rfl) rfl ?_;clear H;intro a H;refine kH H (Rm rfl ?_);clear H;intro a H;refine s_call en31dq H wn rfl (flow_spec _ _ H.hp.ro D l id hv hz) rfl ?_;clear H;rintro v13 G13 a w ⟨v,rfl,hr⟩ hm13 H;refine kH H (Rm rfl ?_);clear H;intro a H;(iterate 2 refine s_extract H wn rfl rfl rfl ?_;clear H;intro a H);refine kH H (Ra rfl (Ra rfl (Kz K2 (SR fun _ K3=>Rm rfl ?_))));clear H K2;intro a H;refine s_call en32pos H wn rfl (len_spec _ _ H.hp.ro _ _ hr (by omega)) rfl ?_;clear H;rintro v18 G18 a w ⟨rfl,rfl⟩ hm18 H;refine kH H (Rm rfl ?_);clear H;intro a H;(iterate 2 refine s_extract H wn rfl rfl rfl ?_;clear H;intro a H);refine kH H (Ra rfl (Ra rfl (Kz K3 (SR fun _ K4=>Rm rfl (Rm rfl (Ra rfl (Ra rfl (Kz K4 ?_))))))));clear H K3 K4;intro a H;refine c_ret ?_;refine (leaveT H Tryz.results33 (.cons (rv_tmp H rfl) (.cons (rv_tmp H rfl) .nil)) ?_).1;exact H.hp.ret rfl
/-- The error of a range. -/
def chkR (l:List ItemD) (flow from_ to:Int):Int :=
 if (flowOf l flow).isSome=true then if from_ < 0∨to < from_∨lenS ((flowOf l flow).getD []) < to then 2 else 0 else 8
theorem checkRange_spec (G:GH) (w0:World) (hG:Hold G w0) (D:DocV) (l:List ItemD) (flow from_ to:Int) (hv:RepV G (.sl 11 (l.map ItemD.dat)) (sl3 D.f)) (hz:zItems l≤4294967296) :
  Calls Tryz.prog 16 #[D.val,.agg #[vi flow,vi from_,vi to]] w0 (Ret w0 G fun u G'=>u=vi (chkR l flow from_ to)):=by
 refine eN [(0,_),(1,_)] Tryz.func16 rfl Tryz.ntmps16 rfl rfl hG ?_;intro a H;refine c_seqR (fun _ K1=>?_);refine s_box (cs:=[_,_,_,_,_,_,_,_,_,_,_]) H wn rfl rfl rfl ?_;clear H;intro b2 a w hb2 H;refine s_box (cs:=[_,_,_]) H wn rfl rfl rfl ?_;clear H;intro b3 a w hb3 H;refine kH H (Ra rfl (Kz K1 (SR fun _ K2=>?_)));clear H K1;intro a H;refine s_loada ty38pq (cs:=[_,_,_,_,_,_,_,_,_,_,_]) H wn rfl rfl (H.hp.ocells 1 rfl rfl) rfl ?_;clear H;intro a H;refine kH H (Rf fd53_0dq rfl (Ro ty3run 0 rfl rfl ?_));clear H;intro a H;refine s_call en33dq H wn rfl (length_spec _ _ H.hp.ro D l flow hv hz) rfl ?_;clear H;rintro v11 G11 a w rfl hm11 H;refine kH H (Rm rfl ?_);clear H;intro a H;(iterate 2 refine s_extract H wn rfl rfl rfl ?_;clear H;intro a H);refine kH H (Ra rfl (Ra rfl (Kz K2 (SQ fun _ K3=>SB (SR fun _ K4=>Rm rfl (Rn rfl (Ra rfl (Kz K4 ?_))))))));clear H K2 K4;intro a H;refine c_cond H rfl ?_ ?_
 ·intro h14
  try have p14:=dT h14
  refine kP H (SR fun _ K5=>Ra rfl (Kz K5 ?_));clear H K5;intro a H;refine lr H Tryz.results16 rfl ?_;exact H.hp.ret (by unfold chkR;congr 1;simp_all)
 intro h14
 try have p14:=dF h14
 refine kP H (SR fun _ K6=>Rf fd53_1dq rfl (Ro ty3run 0 rfl rfl (Rc rfl (Rm rfl ?_))));clear H;intro a H;refine s_split H 21 rfl ?_ ?_
 ·intro h21
  try have p21:=dT h21
  refine kH H (Ks h21 rfl (Ks h21 rfl (Ks h21 rfl (Ks h21 rfl (Ks h21 rfl (Pt h21 rfl (Rm rfl (Ks rfl rfl (Ks rfl rfl (Ks rfl rfl (Ks rfl rfl (Pt rfl rfl (Ra rfl (Kz K6 ?_))))))))))))));clear H K6;intro a H;refine c_cond_t H rfl rfl ?_;refine kP H (SR fun _ K7=>Ra rfl (Kz K7 ?_));clear H K7;intro a H;refine lr H Tryz.results16 rfl ?_;exact H.hp.ret (by unfold chkR;congr 1;simp_all)
 intro h21
 try have p21:=dF h21
 refine kH H (YF fd53_2dq h21 rfl (YO ty3run 0 h21 rfl rfl (YF fd53_1dq h21 rfl (YO ty3run 0 h21 rfl rfl (YC h21 rfl (Pf h21 rfl (Rm rfl ?_)))))));clear H;intro a H;refine s_split H 28 rfl ?_ ?_
 ·intro h28
  try have p28:=dT h28
  refine kH H (Ks h28 rfl (Ks h28 rfl (Ks h28 rfl (Ks h28 rfl (Pt h28 rfl (Ra rfl (Kz K6 ?_)))))));clear H K6;intro a H;refine c_cond_t H rfl rfl ?_;refine kP H (SR fun _ K8=>Ra rfl (Kz K8 ?_));clear H K8;intro a H;refine lr H Tryz.results16 rfl ?_;exact H.hp.ret (by unfold chkR;congr 1;simp_all)
 intro h28
 try have p28:=dF h28
 refine kH H (YF fd53_2dq h28 rfl (YO ty3run 0 h28 rfl rfl (YM h28 rfl (YC h28 rfl (Pf h28 rfl (Ra rfl (Kz K6 ?_)))))));clear H K6;intro a H;refine c_cond H rfl ?_ ?_
 ·intro h17
  try have p17:=dT h17
  refine kP H (SR fun _ K9=>Ra rfl (Kz K9 ?_));clear H K9;intro a H;refine lr H Tryz.results16 rfl ?_;exact H.hp.ret (by unfold chkR;congr 1;simp_all)
 intro h17
 try have p17:=dF h17
 refine kP H (Kc K3 (SR fun _ K10=>Ra rfl (Kz K10 ?_)));clear H K3 K10;intro a H;refine lr H Tryz.results16 rfl ?_;exact H.hp.ret (by unfold chkR;congr 1;simp_all)
theorem check_spec (G:GH) (w0:World) (hG:Hold G w0) (D:DocV) (l:List ItemD) (flow at_:Int) (hv:RepV G (.sl 11 (l.map ItemD.dat)) (sl3 D.f)) (hz:zItems l≤4294967296) :
  Calls Tryz.prog 14 #[D.val,.agg #[vi flow,vi at_]] w0 (Ret w0 G fun u G'=>u=vi (chkR l flow at_ at_)):=by
 refine eN [(0,_),(1,_)] Tryz.func14 rfl Tryz.ntmps14 rfl rfl hG ?_;intro a H;refine c_seqR (fun _ K1=>?_);refine s_box (cs:=[_,_,_,_,_,_,_,_,_,_,_]) H wn rfl rfl rfl ?_;clear H;intro b2 a w hb2 H;refine s_box (cs:=[_,_]) H wn rfl rfl rfl ?_;clear H;intro b3 a w hb3 H;refine kH H (Ra rfl (Kz K1 (SR fun _ K2=>?_)));clear H K1;intro a H;refine s_loada ty38pq (cs:=[_,_,_,_,_,_,_,_,_,_,_]) H wn rfl rfl (H.hp.ocells 1 rfl rfl) rfl ?_;clear H;intro a H;refine kH H (Rf fd45_0dq rfl (Ro ty3run 0 rfl rfl (Rf fd45_1dq rfl (Ro ty3run 0 rfl rfl (Rf fd45_1dq rfl (Ro ty3run 0 rfl rfl ?_))))));clear H;intro a H;refine s_build sr53dq [_,_,_] H wn rfl rfl rfl rfl ?_;clear H;intro a H;refine s_call en16dq H wn rfl (checkRange_spec _ _ H.hp.ro D l flow at_ at_ hv hz) rfl ?_;clear H;rintro v13 G13 a w rfl hm13 H;refine kH H (Ra rfl (Kz K2 ?_));clear H K2;intro a H;refine lr H Tryz.results14 rfl ?_;exact H.hp.ret rfl
end
section
open Go.RowKit
def getI (xs:Array Value) (o:Nat):Option Int:=match xs[o]? with|some (.int .i64 n)=>some n|_=>none
def isI (u:Option TypeDesc):Bool:=match u with|some (.int .i64)=>true|_=>false
structure EqI (P:Program) (t:TypeId) (offs:List Nat):Prop where
 und:P.underlying t=some (.struct (P.fieldsOf t))
 held:P.stoodInHeld t=false
 guard:P.eqGuardType P.depth t=false
 flds:(P.fieldsOf t).toList.map (·.offset)=offs
 ok:(P.fieldsOf t).toList.all (fun f=>decide (f.name ≠ "_") && P.plainKey f.type && isI (P.underlying f.type))=true
theorem run_eqFields_int {P:Program} {w:World} {d:Nat} {xs ys:Array Value}:∀ fs:List Field,fs.all (fun f=>decide (f.name ≠ "_") && P.plainKey f.type && isI (P.underlying f.type))=true →
  (fs.map (·.offset)).all (fun o=>(getI xs o).isSome && (getI ys o).isSome)=true→(Op.eqFields (d+1) xs ys fs).run P w=.ok ((fs.map (·.offset)).all fun o=>getI xs o == getI ys o) w
 | [],_,_=>by simp [Op.eqFields]
 | f :: fs,h1,h2=>by
  simp only [List.all_cons,Bool.and_eq_true,decide_eq_true_eq,List.map_cons] at h1 h2
  obtain ⟨⟨⟨hn,hp⟩,hi⟩,h1⟩:=h1
  obtain ⟨⟨hx,hy⟩,h2⟩:=h2
  have ih:=run_eqFields_int (w:=w) (d:=d) fs (by simpa using h1) h2
  unfold isI at hi
  split at hi
  ·rename_i hu
   unfold getI at hx hy
   split at hx
   ·rename_i m hxm
    split at hy
    ·rename_i m2 hym
     have e1:getI xs f.offset=some m:=by unfold getI;rw [hxm]
     have e2:getI ys f.offset=some m2:=by unfold getI;rw [hym]
     simp only [Op.eqFields,hn,ne_eq,not_false_eq_true,if_true,Sem.run_bind,run_part_plain w hp hxm,run_part_plain w hp hym,Result.andThen_ok,run_equalIn_int w d f.type .i64 .i64 m m2 hu,List.map_cons,List.all_cons,e1,e2]
     by_cases e:m=m2
     ·subst e;simp [ih,List.all_map]
     ·simp [e]
    ·simp at hy
   ·simp at hx
  ·simp at hi
/-- The same for ints and bools: what a field holds. -/
def getV (xs:Array Value) (o:Nat × Bool):Option (Int × Bool):=match xs[o.1]?,o.2 with|some (.int .i64 n),false=>some (n,false)|some (.bool b),true=>some (0,b)|_,_=>none
def isV (u:Option TypeDesc) (b:Bool):Bool:=match u,b with|some (.int .i64),false=>true|some .bool,true=>true|_,_=>false
structure EqS (P:Program) (t:TypeId) (offs:List (Nat × Bool)):Prop where
 und:P.underlying t=some (.struct (P.fieldsOf t))
 held:P.stoodInHeld t=false
 guard:P.eqGuardType P.depth t=false
 flds:(P.fieldsOf t).toList.map (fun f=>(f.offset,isV (P.underlying f.type) true))=offs
 ok:(P.fieldsOf t).toList.all (fun f=>decide (f.name ≠ "_") && P.plainKey f.type && isV (P.underlying f.type) (isV (P.underlying f.type) true))=true
theorem run_eqFields_val {P:Program} {w:World} {d:Nat} {xs ys:Array Value}:∀ fs:List Field,fs.all (fun f=>decide (f.name ≠ "_") && P.plainKey f.type && isV (P.underlying f.type) (isV (P.underlying f.type) true))=true →
  (fs.map (fun f=>(f.offset,isV (P.underlying f.type) true))).all (fun o=>(getV xs o).isSome && (getV ys o).isSome)=true→(Op.eqFields (d+1) xs ys fs).run P w=.ok ((fs.map (fun f=>(f.offset,isV (P.underlying f.type) true))).all fun o=>getV xs o == getV ys o) w
 | [],_,_=>by simp [Op.eqFields]
 | f :: fs,h1,h2=>by
  simp only [List.all_cons,Bool.and_eq_true,decide_eq_true_eq,List.map_cons] at h1 h2
  obtain ⟨⟨⟨hn,hp⟩,hi⟩,h1⟩:=h1
  obtain ⟨⟨hx,hy⟩,h2⟩:=h2
  have ih:=run_eqFields_val (w:=w) (d:=d) fs (by simpa using h1) h2
  obtain ⟨kb,hkb⟩:∃ kb,kb=isV (P.underlying f.type) true:=⟨_,rfl⟩
  rw [← hkb] at hi hx hy
  cases kb with
  | false =>
   have hu:P.underlying f.type=some (.int .i64):=by clear hkb ih h1 h2 hx hy;unfold isV at hi;split at hi <;> simp_all
   obtain ⟨m,hxm⟩:∃ m,xs[f.offset]?=some (.int .i64 m):=by clear hkb ih h1 h2 hi hy;unfold getV at hx;split at hx <;> simp_all
   obtain ⟨m2,hym⟩:∃ m,ys[f.offset]?=some (.int .i64 m):=by clear hkb ih h1 h2 hi hx;unfold getV at hy;split at hy <;> simp_all
   have e1:getV xs (f.offset,false)=some (m,false):=by unfold getV;rw [hxm]
   have e2:getV ys (f.offset,false)=some (m2,false):=by unfold getV;rw [hym]
   simp only [Op.eqFields,hn,ne_eq,not_false_eq_true,if_true,Sem.run_bind,run_part_plain w hp hxm,run_part_plain w hp hym,Result.andThen_ok,run_equalIn_int w d f.type .i64 .i64 m m2 hu,List.map_cons,List.all_cons,← hkb,e1,e2]
   by_cases e:m=m2
   ·subst e;simp [ih,List.all_map]
   ·simp [e]
  | true =>
   have hu:P.underlying f.type=some .bool:=by clear hkb ih h1 h2 hx hy;unfold isV at hi;split at hi <;> simp_all
   obtain ⟨m,hxm⟩:∃ m,xs[f.offset]?=some (.bool m):=by clear hkb ih h1 h2 hi hy;unfold getV at hx;split at hx <;> simp_all
   obtain ⟨m2,hym⟩:∃ m,ys[f.offset]?=some (.bool m):=by clear hkb ih h1 h2 hi hx;unfold getV at hy;split at hy <;> simp_all
   have e1:getV xs (f.offset,true)=some (0,m):=by unfold getV;rw [hxm]
   have e2:getV ys (f.offset,true)=some (0,m2):=by unfold getV;rw [hym]
   simp only [Op.eqFields,hn,ne_eq,not_false_eq_true,if_true,Sem.run_bind,run_part_plain w hp hxm,run_part_plain w hp hym,Result.andThen_ok,run_equalIn_bool' w d f.type m m2 hu,List.map_cons,List.all_cons,← hkb,e1,e2]
   by_cases e:m=m2
   ·subst e;simp [ih,List.all_map]
   ·simp [e]
section
variable {N:Nat} {D:List Deferred} {w0:World} {F:Nat→Prop} {G0 G:GH} {L:List (Nat × Obj)} {T:List (Nat × Value)}
variable {r:Option Nat} {P:Program} {ops:Array Oper} {Q:Exit→Act→World→Prop} {rest:List Oper} {a:Act} {w:World}
variable {d:Nat} {ty:TypeId} {pos:String} {aft:Array Edge} {g:Option (Nat × Bool)}
theorem s_eqagg {t yt:TypeId} {offs:List Nat} (he:EqI P t offs) {x y:Operand} {xs ys:Array Value} (H:St N D w0 F G0 G L T a w) (hw:Region.wanted ⟨some d,.binOp .eql t x y yt,ty,pos,aft,g⟩ (yielded ops a.tmps)=true) (hx:ev T x=some (.agg xs)) (hy:ev T y=some (.agg ys))
  (hi:offs.all (fun o=>(getI xs o).isSome && (getI ys o).isSome)=true) (hd:Nat.blt d N=true)
  (k:∀ a',St N D w0 F G0 G L ((d,.bool (offs.all fun o=>getI xs o == getI ys o)) :: T) a' w→WL r P ops Q rest a' w):WL r P ops Q (⟨some d,.binOp .eql t x y yt,ty,pos,aft,g⟩ :: rest) a w:=by
 refine wl_value (v:=.bool (offs.all fun o=>getI xs o == getI ys o)) (w':=w) hw rfl ?_ (k _ (H.put hd _ H.hp))
 have h1:=run_eqFields_int (P:=P) (w:=w) (d:=9998) (xs:=xs) (ys:=ys) _ he.ok (by rw [he.flds];exact hi)
 rw [he.flds] at h1
 simp only [execOp,H.ev hx,H.ev hy,Sem.run_bind,run_eqGuard_agg w .eql t x y xs ys he.guard,Result.andThen_ok,run_eql_struct,run_equalIn_struct w 9999 t xs ys he.und he.held,h1]
 rfl
theorem s_eqstr {t yt:TypeId} {x y:Operand} {p q:ByteArray} (H:St N D w0 F G0 G L T a w) (hw:Region.wanted ⟨some d,.binOp .eql t x y yt,ty,pos,aft,g⟩ (yielded ops a.tmps)=true) (hx:ev T x=some (.string p)) (hy:ev T y=some (.string q)) (hd:Nat.blt d N=true)
  (k:∀ a',St N D w0 F G0 G L ((d,.bool (p.toList == q.toList)) :: T) a' w→WL r P ops Q rest a' w):WL r P ops Q (⟨some d,.binOp .eql t x y yt,ty,pos,aft,g⟩ :: rest) a w:=by
 refine wl_value (v:=.bool (p.toList == q.toList)) (w':=w) hw rfl ?_ (k _ (H.put hd _ H.hp))
 simp [execOp,H.ev hx,H.ev hy,Sem.run_bind,eqGuard,binOp,Op.stringOp]
theorem s_eqs {op:BinOp} {t yt:TypeId} {offs:List (Nat × Bool)} (ho:op=.eql∨op=.neq) (he:EqS P t offs) {x y:Operand} {xs ys:Array Value} (H:St N D w0 F G0 G L T a w) (hw:Region.wanted ⟨some d,.binOp op t x y yt,ty,pos,aft,g⟩ (yielded ops a.tmps)=true) (hx:ev T x=some (.agg xs)) (hy:ev T y=some (.agg ys))
  (hi:offs.all (fun o=>(getV xs o).isSome && (getV ys o).isSome)=true) (hd:Nat.blt d N=true)
  (k:∀ a',St N D w0 F G0 G L ((d,.bool (if op=.eql then offs.all fun o=>getV xs o == getV ys o else !(offs.all fun o=>getV xs o == getV ys o))) :: T) a' w→WL r P ops Q rest a' w):WL r P ops Q (⟨some d,.binOp op t x y yt,ty,pos,aft,g⟩ :: rest) a w:=by
 have h1:=run_eqFields_val (P:=P) (w:=w) (d:=9998) (xs:=xs) (ys:=ys) _ he.ok (by rw [he.flds];exact hi)
 rw [he.flds] at h1
 rcases ho with rfl|rfl
 ·refine wl_value (v:=_) (w':=w) hw rfl ?_ (k _ (H.put hd _ H.hp))
  simp only [execOp,H.ev hx,H.ev hy,Sem.run_bind,run_eqGuard_agg w .eql t x y xs ys he.guard,Result.andThen_ok,run_eql_struct,run_equalIn_struct w 9999 t xs ys he.und he.held,h1]
  rfl
 ·refine wl_value (v:=_) (w':=w) hw rfl ?_ (k _ (H.put hd _ H.hp))
  simp only [execOp,H.ev hx,H.ev hy,Sem.run_bind,run_eqGuard_agg w .neq t x y xs ys he.guard,Result.andThen_ok,run_neq_struct,run_equalIn_struct w 9999 t xs ys he.und he.held,h1]
  rfl
end
end
section
open Go.RowKit
theorem ty46idx:Ty Tryz.prog 46 1 8 [.int .i64 0] false:=⟨by kernel_rfl,by kernel_rfl⟩
theorem en14idx:∀ args w,(callFunc 14 args).run Tryz.prog w=.ok (.enter 14 args) w:=enters Tryz.func14 rfl (by kernel_rfl)
theorem eqi45idx:EqI Tryz.prog 45 [0,1]:=⟨by kernel_rfl,by kernel_rfl,by kernel_rfl,by kernel_rfl,by kernel_rfl⟩
theorem idx_next {α:Type} {p:α→Bool} {A:List α} {k:Nat} (hk:k < A.length) (h:(A.take k).findIdx? p=none) (hp:p A[k]=false):(A.take (k+1)).findIdx? p=none:=by
 rw [List.findIdx?_eq_none_iff] at h ⊢;rw [List.take_succ_eq_append_getElem hk];intro x hx
 rcases List.mem_append.1 hx with hx|hx
 ·exact h x hx
 rw [List.mem_singleton.1 hx];exact hp
theorem idx_stop {α:Type} {p:α→Bool} {A:List α} {k:Nat} (hk:k < A.length) (h:(A.take k).findIdx? p=none) (hp:p A[k]=true):A.findIdx? p=some k:=by
 have e:A.findIdx? p=(A.take k++A.drop k).findIdx? p:=by rw [List.take_append_drop]
 rw [e,List.findIdx?_append,h,List.drop_eq_getElem_cons hk,List.findIdx?_cons,hp]
 simp;omega
theorem idx_done {α:Type} {p:α→Bool} {A:List α} (h:(A.take A.length).findIdx? p=none):A.findIdx? p=none:=by rwa [List.take_length] at h
/-- What Index gives. -/
def ixS (l:List ItemD) (f t:Int):Int × Int :=
 if chkR l f t t=0 then match (vItems 0 0 l).findIdx? (fun q=>q.1 == f && q.2 == t) with|some i=>(i,0)|none=>(0,8) else (0,chkR l f t t)
theorem index_spec (G:GH) (w0:World) (hG:Hold G w0) (D:DocV) (l:List ItemD) (f t:Int) (hv:RepV G (.sl 11 (l.map ItemD.dat)) (sl3 D.f)) (hz:zItems l≤4294967296) :
  Calls Tryz.prog 13 #[D.val,.agg #[vi f,vi t]] w0 (Ret w0 G fun u G'=>u=.tuple #[vi (ixS l f t).1,vi (ixS l f t).2]):=by
 refine eN [(0,_),(1,_)] Tryz.func13 rfl Tryz.ntmps13 rfl rfl hG ?_;intro a H;refine c_seqR (fun _ K1=>?_);refine s_box (cs:=[_,_,_,_,_,_,_,_,_,_,_]) H wn rfl rfl rfl ?_;clear H;intro b2 a w hb2 H;refine s_box (cs:=[_,_]) H wn rfl rfl rfl ?_;clear H;intro b3 a w hb3 H;refine s_alloc ty3run H wn rfl ?_;clear H;intro b4 a w hb4 H;refine s_alloc ty46idx H wn rfl ?_;clear H;intro b5 a w hb5 H;refine K1 _ _ ?_;clear K1;refine c_seq (fun _ K2=>?_);refine c_seqR (fun _ K3=>?_);refine s_loada ty38pq (cs:=[_,_,_,_,_,_,_,_,_,_,_]) H wn rfl rfl (H.hp.ocells 3 rfl rfl) rfl ?_;clear H;intro a H;refine s_loada ty45pq (cs:=[_,_]) H wn rfl rfl (H.hp.ocells 2 rfl rfl) rfl ?_;clear H;intro a H;refine s_call en14idx H wn rfl (check_spec _ _ H.hp.ro D l f t hv hz) rfl ?_;clear H;rintro v11 G11 a w rfl hm11 H;refine kH H (Ra rfl (Kz K3 (SR fun _ K4=>Rm rfl (Rc rfl (Kz K4 ?_)))));clear H K3 K4;intro a H;refine c_cond H rfl ?_ ?_
 ·intro h13
  try have p13:=dT h13
  refine kP H (SR fun _ K5=>Rm rfl ?_);clear H;intro a H;refine s_store ty3run 1 (vs:=[_]) _ H wn rfl rfl rfl rfl rfl rfl rfl rfl ?_;clear H;intro w H;dsimp only [List.set,setRow] at H;refine s_store ty46idx 0 (vs:=[_]) _ H wn rfl rfl rfl rfl rfl rfl rfl rfl ?_;clear H;intro w H;dsimp only [List.set,setRow] at H;refine K5 _ _ ?_;clear K5;refine c_ret ?_;refine (leaveT H Tryz.results13 (.cons (rv_cell ty3run H rfl (H.hp.ocell 1 rfl rfl)) (.cons (rv_cell ty46idx H rfl (H.hp.ocell 0 rfl rfl)) .nil)) ?_).1;exact H.hp.ret (by rw [ixS,if_neg p13];rfl)
 intro h13
 try have p13:=dF h13
 refine kP H (Kc K2 (SQ fun _ K6=>SR fun _ K7=>?_));clear H K2;intro a H;refine s_loada ty38pq (cs:=[_,_,_,_,_,_,_,_,_,_,_]) H wn rfl rfl (H.hp.ocells 3 rfl rfl) rfl ?_;clear H;intro a H;refine s_call en30pq H wn rfl (positions_spec _ _ H.hp.ro D l (hv.mono hm11) hz) rfl ?_;clear H;rintro v16 G16 a w ⟨bd,rfl,hit⟩ hm16 H;refine K7 _ _ ?_;clear K7;refine c_block ?_;skip;refine c_rangeJ (ι:=Unit) (κ:=Nat) (Lc:=[(_,_),(_,_)]) (fun (k:Nat) (gh:Unit)=>[(b4,.cells #[vi 0] 3 (0,0)),(b5,.cells #[vi 0] 46 (0,0))]) (fun (k:Nat) (gh:Unit)=>[]) (fun (k:Nat) (gh:Unit) (g:GH)=>((vItems 0 0 l).take k).findIdx? (fun q=>q.1 == f && q.2 == t)=none) (fun (gx:Nat)=>Code.ret) (fun (gx:Nat)=>[(b4,.cells #[vi gx] 3 (0,0)),(b5,.cells #[vi 0] 46 (0,0))]) (fun (gx:Nat)=>[]) (fun (gx:Nat) (g:GH)=>(vItems 0 0 l).findIdx? (fun q=>q.1 == f && q.2 == t)=some gx) (()) (by exact H.pickT (Pl:=[_,_,_,_]) (Pl':=[_,_,_,_]) [2,3,1,0] (by decide) rfl) rfl en47pq (hit) (fun _ _ h=>h) rfl (fun k args g h=>by obtain ⟨_,rfl⟩:=ix_at h;rfl) (fun _ _ _ _ _ h=>h) (fun _ _ _ _ h=>h) (rfl) ?_ ?_ ?_
 ·clear H;intro l5 rdy bsy bk k args gh G5 w5 F5 B5 a hk5 hm5 hI hbeg5 hnext5 hstop5 H;obtain ⟨hk,rfl⟩:=ix_at hk5;dsimp only [asg,List.cons_append,List.nil_append] at H;refine kP H (SR fun _ K8=>Ra rfl (Kz K8 (SC ?_)));clear H K8;intro a H;refine s_alloc ty45pq H wn rfl ?_;clear H;intro b8 a w hb8 H;refine s_store ty45pq 0 (vs:=[_,_]) _ H wn rfl rfl rfl rfl rfl rfl rfl rfl ?_;clear H;intro w H;dsimp only [List.set,setRow] at H;refine wl_nil ?_;refine hbeg5 _ _ _ _ _ _ (by exact H.pickT (Pl:=[_,_,_,_,_,_]) (Pl':=[_,_,_,_,_,_]) [1,0,2,3,4,5] (by decide) rfl) ?_;clear H;intro w H;refine c_block ?_;refine c_seqR (fun _ K9=>?_);refine s_loada ty45pq (cs:=[_,_]) H wn rfl rfl (H.hp.ocells 1 rfl rfl) rfl ?_;clear H;intro a H;refine s_loada ty45pq (cs:=[_,_]) H wn rfl rfl (H.hp.ocells 2 rfl rfl) rfl ?_;clear H;intro a H;refine s_eqagg eqi45idx H wn rfl rfl rfl rfl ?_;clear H;intro a H;refine K9 _ _ ?_;clear K9;refine c_cond H rfl ?_ ?_
  ·intro h21
   try have p21:=dT h21
   refine kP H (SR fun _ K10=>Rm rfl ?_);clear H;intro a H;refine s_store ty3run 4 (vs:=[_]) _ H wn rfl rfl rfl rfl rfl rfl rfl rfl ?_;clear H;intro w H;dsimp only [List.set,setRow] at H;refine s_store ty46idx 5 (vs:=[_]) _ H wn rfl rfl rfl rfl rfl rfl rfl rfl ?_;clear H;intro w H;dsimp only [List.set,setRow] at H;refine K10 _ _ ?_;clear K10;refine c_ret ?_;refine (hstop5 (k) _ _ _ _ _ (by exact H.pickT (Pl:=[_,_,_,_,_,_]) (Pl':=[_,_,_,_,_]) [0,2,3,4,5] (by decide) rfl) ?_).1 rfl;exact idx_stop hk hI (by simpa [getI] using h21)
  intro h21
  try have p21:=dF h21
  refine c_skip ?_;refine hnext5 (()) _ _ _ _ _ (by exact H.pickT (Pl:=[_,_,_,_,_,_]) (Pl':=[_,_,_,_,_]) [0,2,3,4,5] (by decide) rfl) ?_;exact idx_next hk hI (by simpa [getI] using h21)
 ·clear H;intro Dk5 gh Gd5 a w hm5 hI H;dsimp only [List.cons_append,List.nil_append,List.append_nil] at H;refine K6 _ _ ?_;clear K6;refine c_seqR (fun _ K11=>?_);refine s_store ty3run 3 (vs:=[_]) _ H wn rfl rfl rfl rfl rfl rfl rfl rfl ?_;clear H;intro w H;dsimp only [List.set,setRow] at H;refine s_store ty46idx 4 (vs:=[_]) _ H wn rfl rfl rfl rfl rfl rfl rfl rfl ?_;clear H;intro w H;dsimp only [List.set,setRow] at H;refine K11 _ _ ?_;clear K11;refine c_ret ?_;refine (leaveM H 0 rfl ?_).1;clear H;intro a w H;dsimp only [List.eraseIdx_cons_succ,List.eraseIdx_cons_zero] at H;refine (leaveT H Tryz.results13 (.cons (rv_cell ty3run H rfl (H.hp.ocell 2 rfl rfl)) (.cons (rv_cell ty46idx H rfl (H.hp.ocell 3 rfl rfl)) .nil)) ?_).1;exact H.hp.ret (by rw [ixS,if_pos (by omega),idx_done (by simpa using hI)];rfl)
 clear H;intro Dk5 gx Gd5 a w hm5 hI H;obtain ⟨x,hgh⟩:∃ x,x=gx:=⟨_,rfl⟩;subst hgh;dsimp only [List.cons_append,List.nil_append,List.append_nil] at H;refine c_ret ?_;refine (leaveM H 0 rfl ?_).1;clear H;intro a w H;dsimp only [List.eraseIdx_cons_succ,List.eraseIdx_cons_zero] at H;refine (leaveT H Tryz.results13 (.cons (rv_cell ty3run H rfl (H.hp.ocell 2 rfl rfl)) (.cons (rv_cell ty46idx H rfl (H.hp.ocell 3 rfl rfl)) .nil)) ?_).1;exact H.hp.ret (by rw [ixS,if_pos (by omega),hI];rfl)
/-- What Of gives. -/
def ofS (l:List ItemD) (i:Int):(Int × Int) × Int :=
 if 0≤i then match (vItems 0 0 l)[i.toNat]? with|some p=>(p,0)|none=>((0,0),2) else ((0,0),2)
theorem of_pos (G:GH) (w0:World) (hG:Hold G w0) (D:DocV) (l:List ItemD) (i:Int) (hv:RepV G (.sl 11 (l.map ItemD.dat)) (sl3 D.f)) (hz:zItems l≤4294967296) :
  Calls Tryz.prog 12 #[D.val,vi i] w0 (Ret w0 G fun u G'=>u=.tuple #[.agg #[vi (ofS l i).1.1,vi (ofS l i).1.2],vi (ofS l i).2]):=by
 refine eN [(0,_),(1,_)] Tryz.func12 rfl Tryz.ntmps12 rfl rfl hG ?_;intro a H;refine c_seqR (fun _ K1=>?_);refine s_box (cs:=[_,_,_,_,_,_,_,_,_,_,_]) H wn rfl rfl rfl ?_;clear H;intro b2 a w hb2 H;refine s_box (cs:=[_]) H wn rfl rfl rfl ?_;clear H;intro b3 a w hb3 H;refine s_alloc ty45pq H wn rfl ?_;clear H;intro b4 a w hb4 H;refine s_alloc ty46idx H wn rfl ?_;clear H;intro b5 a w hb5 H;refine K1 _ _ ?_;clear K1;refine c_seq (fun _ K2=>?_);refine c_seqR (fun _ K3=>?_);refine s_loada ty38pq (cs:=[_,_,_,_,_,_,_,_,_,_,_]) H wn rfl rfl (H.hp.ocells 3 rfl rfl) rfl ?_;clear H;intro a H;refine s_call en30pq H wn rfl (positions_spec _ _ H.hp.ro D l hv hz) rfl ?_;clear H;rintro v9 G9 a w ⟨bd,rfl,hit⟩ hm9 H;refine K3 _ _ ?_;clear K3;refine c_block ?_;skip;refine c_rangeJ (ι:=Unit) (κ:=Int × Int) (Lc:=[(_,_),(_,_)]) (fun (k:Nat) (gh:Unit)=>[(b4,.cells #[vi 0,vi 0] 45 (0,0)),(b5,.cells #[vi 0] 46 (0,0))]) (fun (k:Nat) (gh:Unit)=>[]) (fun (k:Nat) (gh:Unit) (g:GH)=>∀ j < k,(j:Int)≠i) (fun (gx:Int × Int)=>Code.ret) (fun (gx:Int × Int)=>[(b4,.cells #[vi gx.1,vi gx.2] 45 (0,0)),(b5,.cells #[vi 0] 46 (0,0))]) (fun (gx:Int × Int)=>[]) (fun (gx:Int × Int) (g:GH)=>0≤i∧(vItems 0 0 l)[i.toNat]?=some gx) (()) (by exact H.pickT (Pl:=[_,_,_,_]) (Pl':=[_,_,_,_]) [2,3,1,0] (by decide) rfl) rfl en47pq (hit) (fun _ _ h=>h) rfl (fun k args g h=>by obtain ⟨_,rfl⟩:=ix_at h;rfl) (fun _ _ _ _ _ h=>h) (fun _ _ _ _ h=>h) (fun j hj=>absurd hj (by omega)) ?_ ?_ ?_
 ·clear H;intro l2 rdy bsy bk k args gh G2 w2 F2 B2 a hk2 hm2 hI hbeg2 hnext2 hstop2 H;obtain ⟨hk,rfl⟩:=ix_at hk2;dsimp only [asg,List.cons_append,List.nil_append] at H;refine kP H (SR fun _ K4=>Ra rfl (Kz K4 (SC ?_)));clear H K4;intro a H;refine s_alloc ty45pq H wn rfl ?_;clear H;intro b7 a w hb7 H;refine s_store ty45pq 0 (vs:=[_,_]) _ H wn rfl rfl rfl rfl rfl rfl rfl rfl ?_;clear H;intro w H;dsimp only [List.set,setRow] at H;refine wl_nil ?_;refine hbeg2 _ _ _ _ _ _ (by exact H.pickT (Pl:=[_,_,_,_,_,_]) (Pl':=[_,_,_,_,_,_]) [1,0,2,3,4,5] (by decide) rfl) ?_;clear H;intro w H;refine kP H (SB (SR fun _ K5=>Rm rfl (Ro ty3run 2 rfl rfl (Rc rfl (Kz K5 ?_)))));clear H K5;intro a H;refine c_cond H rfl ?_ ?_
  ·intro h14
   try have p14:=dT h14
   refine c_seqR (fun _ K6=>?_);refine s_loada ty45pq (cs:=[_,_]) H wn rfl rfl (H.hp.ocells 1 rfl rfl) rfl ?_;clear H;intro a H;refine s_store ty45pq 4 (vs:=[_,_]) _ H wn rfl rfl rfl rfl rfl rfl rfl rfl ?_;clear H;intro w H;dsimp only [List.set,setRow] at H;refine s_store ty46idx 5 (vs:=[_]) _ H wn rfl rfl rfl rfl rfl rfl rfl rfl ?_;clear H;intro w H;dsimp only [List.set,setRow] at H;refine K6 _ _ ?_;clear K6;refine c_ret ?_;refine (hstop2 ((vItems 0 0 l)[k]) _ _ _ _ _ (by exact H.pickT (Pl:=[_,_,_,_,_,_]) (Pl':=[_,_,_,_,_]) [0,2,3,4,5] (by decide) rfl) ?_).1 rfl;exact ⟨by omega,by rw [show i.toNat=k by omega];exact List.getElem?_eq_getElem hk⟩
  intro h14
  try have p14:=dF h14
  refine c_skip ?_;refine hnext2 (()) _ _ _ _ _ (by exact H.pickT (Pl:=[_,_,_,_,_,_]) (Pl':=[_,_,_,_,_]) [0,2,3,4,5] (by decide) rfl) ?_;intro j hj
  by_cases e:j=k
  ·rw [e];exact p14
  exact hI j (by omega)
 ·clear H;intro Dk2 gh Gd2 a w hm2 hI H;dsimp only [List.cons_append,List.nil_append,List.append_nil] at H;refine K2 _ _ ?_;clear K2;refine c_seqR (fun _ K7=>?_);refine s_build sr45pos [_,_] H wn rfl rfl rfl rfl ?_;clear H;intro a H;refine s_store ty45pq 3 (vs:=[_,_]) _ H wn rfl rfl rfl rfl rfl rfl rfl rfl ?_;clear H;intro w H;dsimp only [List.set,setRow] at H;refine s_store ty46idx 4 (vs:=[_]) _ H wn rfl rfl rfl rfl rfl rfl rfl rfl ?_;clear H;intro w H;dsimp only [List.set,setRow] at H;refine K7 _ _ ?_;clear K7;refine c_ret ?_;refine (leaveM H 0 rfl ?_).1;clear H;intro a w H;dsimp only [List.eraseIdx_cons_succ,List.eraseIdx_cons_zero] at H;refine (leaveT H Tryz.results12 (.cons (rv_cella ty45pq (cs:=[_,_]) H rfl rfl (H.hp.ocells 2 rfl rfl)) (.cons (rv_cell ty46idx H rfl (H.hp.ocell 3 rfl rfl)) .nil)) ?_).1
  have h2:ofS l i=((0,0),2):=by
   unfold ofS;split
   ·rename_i h0
    have h1:(vItems 0 0 l)[i.toNat]?=none:=by
     rw [List.getElem?_eq_none_iff];exact Nat.le_of_not_lt fun hn=>hI i.toNat (by simpa using hn) (by omega)
    rw [h1]
   rfl
  exact H.hp.ret (by rw [h2];rfl)
 clear H;intro Dk2 gx Gd2 a w hm2 hI H;obtain ⟨x,hgh⟩:∃ x,x=gx:=⟨_,rfl⟩;subst hgh;dsimp only [List.cons_append,List.nil_append,List.append_nil] at H;refine c_ret ?_;refine (leaveM H 0 rfl ?_).1;clear H;intro a w H;dsimp only [List.eraseIdx_cons_succ,List.eraseIdx_cons_zero] at H;refine (leaveT H Tryz.results12 (.cons (rv_cella ty45pq (cs:=[_,_]) H rfl rfl (H.hp.ocells 2 rfl rfl)) (.cons (rv_cell ty46idx H rfl (H.hp.ocell 3 rfl rfl)) .nil)) ?_).1;exact H.hp.ret (by rw [ofS,if_pos hI.1,hI.2];rfl)
end
section
open Go.RowKit
theorem sizB:Siz Tryz.prog 226:=⟨by kernel_rfl⟩
theorem cellsU8:Tryz.prog.cellsOf 5=1:=by kernel_rfl
theorem noEsc (v:Value) (w:World):(callFunc 151 #[v]).run Tryz.prog w=.ok (.value v) w:=run_noEsc Tryz.func151 (by kernel_rfl) (by kernel_rfl) (by kernel_rfl) (by kernel_rfl) v w
theorem un224bld:Tryz.prog.underlying 224=some (.pointer 226):=by kernel_rfl
theorem un238bld:Tryz.prog.underlying 238=some .unsafePointer:=by kernel_rfl
theorem fd226_0bld:Fld Tryz.prog 226 0 0:=⟨by kernel_rfl⟩
theorem ty224bld:Ty Tryz.prog 224 1 8 [.pointer none] false:=⟨by kernel_rfl,by kernel_rfl⟩
theorem un240bld:Tryz.prog.underlying 240=some (.pointer 5):=by kernel_rfl
theorem fd226_1bld:Fld Tryz.prog 226 1 1:=⟨by kernel_rfl⟩
theorem ty221bld:Ty Tryz.prog 221 1 24 [.slice none 0 0] false:=⟨by kernel_rfl,by kernel_rfl⟩
theorem un221bld:Tryz.prog.underlying 221=some (.slice 5):=by kernel_rfl
end
section
open Go.RowKit
/-- The least index from i on, below j, at which a test holds (halving). -/
def hvF (p:Nat→Bool):Nat→Nat→Nat→Nat
 | 0,i,_=>i
 | f+1,i,j=>if i < j then (if p ((i+j) / 2) then hvF p f i ((i+j) / 2) else hvF p f ((i+j) / 2+1) j) else i
theorem hv_step {p:Nat→Bool} {f i j:Nat} (hf:j - i≤f) (h:i < j):hvF p f i j=if p ((i+j) / 2) then hvF p (f - 1) i ((i+j) / 2) else hvF p (f - 1) ((i+j) / 2+1) j:=by
 match f,hf with
 | 0,hf=>omega
 | f+1,_=>rw [hvF,if_pos h];rfl
theorem hv_end {p:Nat→Bool} {f i j:Nat} (h:¬ i < j):hvF p f i j=i:=by
 match f with
 | 0=>rfl
 | f+1=>rw [hvF,if_neg h]
theorem hv_wrap {z:Int} (h1:0≤z) (h2:z < 18446744073709551616):IntKind.u64.wrap z=z:=by
 simp only [IntKind.wrap,IntKind.bits,IntKind.signed,Bool.false_and,Bool.false_eq_true,if_false]
 omega
theorem hv_shr (n:Nat):((n:Nat):Int).fdiv (2 ^ 1)=((n / 2:Nat):Int):=by
 rw [Int.fdiv_eq_ediv_of_nonneg _ (by decide)];omega
/-- How two numbers compare. -/
def cmp3 (a b:Int):Int:=if a < b then -1 else if b < a then 1 else 0
theorem cmp3_lt {a b:Int}:cmp3 a b < 0↔a < b:=by
 unfold cmp3
 split
 ·simp [*]
 ·split <;> simp_all
theorem cmp3_eq {a b:Int}:cmp3 a b=0↔a=b:=by
 unfold cmp3
 split
 ·omega
 ·split <;> omega
/-- The place that halving finds for a number, and whether the number is there. -/
def bsK (ks:List Int) (t:Int):Nat:=hvF (fun h=>decide (¬ ks.getD h 0 < t)) ks.length 0 ks.length
def hasK (ks:List Int) (t:Int):Bool:=decide (ks[bsK ks t]?=some t)
theorem hasK_lt {ks:List Int} {t:Int} (h:hasK ks t=true):bsK ks t < ks.length:=by
 have:=of_decide_eq_true h
 exact (List.getElem?_eq_some_iff.1 this).1
theorem hasK_in {ks:List Int} {t:Int} {n:Nat} (e:bsK ks t=n) (h:n < ks.length):hasK ks t=decide (cmp3 ks[n] t=0):=by
 unfold hasK
 rw [e,List.getElem?_eq_getElem h]
 simp [cmp3_eq]
theorem hasK_off {ks:List Int} {t:Int} {n:Nat} (e:bsK ks t=n) (h:¬ n < ks.length):hasK ks t=false:=by
 unfold hasK
 rw [e,List.getElem?_eq_none (by omega)]
 simp
theorem getD_map {α:Type} {f:α→Int} {l:List α} {n:Nat} (h:n < l.length):(l.map f).getD n 0=f l[n]:=by
 simp [List.getD,h]
end
section
open Go.RowKit
/-- A field of one cell in a struct. -/
structure VFld (P:Program) (s n off:Nat):Prop where
 h:(match P.underlying s with|some (.struct fs)=>(fs[n]?).bind fun f=>((P.underlying f.type).map (fun|.struct _=>true|.array _ _=>true|_=>false)).map fun g=>(f.offset,g)|_=>none)=some (off,false)
theorem VFld.parts {P:Program} {s n off:Nat} (h:VFld P s n off):∃ fs fl u,P.underlying s=some (.struct fs)∧fs[n]?=some fl∧P.underlying fl.type=some u∧(match u with|.struct _=>true|.array _ _=>true|_=>false)=false∧fl.offset=off:=by
 obtain ⟨h⟩:=h
 split at h
 ·rename_i fs hs
  obtain ⟨fl,hf,h2⟩:=Option.bind_eq_some_iff.1 h
  obtain ⟨b,hb,h3⟩:=Option.map_eq_some_iff.1 h2
  obtain ⟨u,hu,h4⟩:=Option.map_eq_some_iff.1 hb
  simp only [Prod.mk.injEq] at h3
  refine ⟨fs,fl,u,hs,hf,hu,?_,h3.1⟩
  rw [← h3.2,← h4]
  cases u <;> rfl
 ·cases h
section
variable {N:Nat} {D:List Deferred} {w0:World} {F:Nat→Prop} {G0 G:GH} {L Li Lo:OL} {T:List (Nat × Value)}
variable {r:Option Nat} {P:Program} {ops:Array Oper} {Q:Exit→Act→World→Prop} {rest:List Oper} {a:Act} {w:World}
variable {d:Nat} {ty:TypeId} {pos:String} {aft:Array Edge} {g:Option (Nat × Bool)}
/-- The rest of a string. -/
theorem s_strFrom {t:TypeId} {x y:Operand} {s:ByteArray} {ky:IntKind} {p:Int} (lo:Nat) (ht:P.underlying t=some .string) (H:St N D w0 F G0 G L T a w) (hw:Region.wanted ⟨some d,.slice t x (some y) none none,ty,pos,aft,g⟩ (yielded ops a.tmps)=true) (hx:ev T x=some (.string s)) (hy:ev T y=some (.int ky p)) (hp:p=(lo:Int)) (h1:lo≤s.size) (hd:Nat.blt d N=true)
  (k:∀ a',St N D w0 F G0 G L ((d,.string (s.extract lo s.size)) :: T) a' w→WL r P ops Q rest a' w):WL r P ops Q (⟨some d,.slice t x (some y) none none,ty,pos,aft,g⟩ :: rest) a w:=by
 subst hp
 have hr:=run_slice_string_l (P:=P) w t s ht ky (lo:Int) (by omega) (by omega)
 rw [Int.toNat_natCast] at hr
 refine wl_value (v:=.string (s.extract lo s.size)) (w':=w) hw rfl ?_ (k _ (H.put hd _ H.hp))
 simp only [execOp,H.ev hx,Option.map_some,Option.map_none,H.ev hy,Sem.run_bind,run_sliceAt_string w t _ _ _ _ ht,hr,Result.andThen_ok,Sem.run_pure]
end
end
section
open Go.RowKit
theorem un212prk:Tryz.prog.underlying 212=some (.slice 197):=by kernel_rfl
theorem ty197prk:Ty Tryz.prog 197 6 56 [.int .i64 0,.int .i64 0,.int .i64 0,.int .i64 0,.int .i64 0,.string ⟨#[]⟩] true:=⟨by kernel_rfl,by kernel_rfl⟩
theorem sr197prk:Srt Tryz.prog 197 [(0,1),(1,1),(2,1),(3,1),(4,1),(5,1)] [.int .i64 0,.int .i64 0,.int .i64 0,.int .i64 0,.int .i64 0,.string ⟨#[]⟩]:=⟨by kernel_rfl,by kernel_rfl⟩
theorem en58prk:∀ args w,(callFunc 58 args).run Tryz.prog w=.ok (.enter 58 args) w:=enters Tryz.func58 rfl (by kernel_rfl)
structure KeyD where
 num:Int
 grp:Int
 low:Int
 high:Int
 std:Int
 name:ByteArray
def KeyD.dat (x:KeyD):List Dat:=[li x.num,li x.grp,li x.low,li x.high,li x.std,.lf (.string x.name)]
def KeyD.cells (x:KeyD):List Value:=[vi x.num,vi x.grp,vi x.low,vi x.high,vi x.std,.string x.name]
def PropD.cells (x:PropD):List Value:=[vi x.key,vi x.value]
theorem key_row (G:GH) (x:KeyD):RepRow G x.dat x.cells:=by
 simp only [KeyD.dat,KeyD.cells,RepRow]
 exact ⟨_,_,rfl,by simp [RepV,Value.oneCell'],_,_,rfl,by simp [RepV,Value.oneCell'],_,_,rfl,by simp [RepV,Value.oneCell'],_,_,rfl,by simp [RepV,Value.oneCell'],_,_,rfl,by simp [RepV,Value.oneCell'],_,_,rfl,by simp [RepV,Value.oneCell'],rfl⟩
theorem key_of {G:GH} {x:KeyD} {cs:List Value} (h:RepRow G x.dat cs):cs=x.cells:=by
 simp only [KeyD.dat,RepRow,RepV] at h
 obtain ⟨v1,_,rfl,⟨rfl,-⟩,v2,_,rfl,⟨rfl,-⟩,v3,_,rfl,⟨rfl,-⟩,v4,_,rfl,⟨rfl,-⟩,v5,_,rfl,⟨rfl,-⟩,v6,_,rfl,⟨rfl,-⟩,rfl⟩:=h
 rfl
theorem prop_of {G:GH} {x:PropD} {cs:List Value} (h:RepRow G x.dat cs):cs=x.cells:=by
 simp only [PropD.dat,RepRow,RepV] at h
 obtain ⟨v1,_,rfl,⟨rfl,-⟩,v2,_,rfl,⟨rfl,-⟩,rfl⟩:=h
 rfl
theorem key_cat (G:GH):∀ (B A:List KeyD),RepCat G 6 (A.map KeyD.dat) (A.map KeyD.cells).flatten→RepCat G 6 ((A++B).map KeyD.dat) ((A++B).map KeyD.cells).flatten
 | [],A,h=>by rw [List.append_nil];exact h
 | x :: B,A,h=>by
  have h2:=h.snoc (key_row G x) rfl;have h3:=key_cat G B (A++[x]) (by simpa using h2)
  simpa using h3
theorem keys_cat (G:GH) (A:List KeyD):RepCat G 6 (A.map KeyD.dat) (A.map KeyD.cells).flatten:=key_cat G A [] RepCat.nil
theorem key_at {G:GH} {l:List KeyD} {A:Option Addr} {n c k:Nat} (hv:RepV G (.sl 6 (l.map KeyD.dat)) (.slice A n c)) (hk:k < l.length):∃ b o,A=some ⟨b,o,none⟩∧(∀ j u,[vi l[k].num,vi l[k].grp,vi l[k].low,vi l[k].high,vi l[k].std,.string l[k].name][j]?=some u→gcell G b (o+k*6+j)=some u):=by
 obtain ⟨A',c',he,_,_,hg⟩:=hv.slice
 injection he with e1 e2 e3
 subst e1;obtain ⟨b,o,cs,h1,h2,h3,h4⟩:=hg k l[k].dat (by simp [hk]);obtain rfl:=key_of h4;exact ⟨b,o,h1,h3⟩
theorem prop_at {G:GH} {l:List PropD} {A:Option Addr} {n c k:Nat} (hv:RepV G (.sl 2 (l.map PropD.dat)) (.slice A n c)) (hk:k < l.length):∃ b o,A=some ⟨b,o,none⟩∧(∀ j u,[vi l[k].key,vi l[k].value][j]?=some u→gcell G b (o+k*2+j)=some u):=by
 obtain ⟨A',c',he,_,_,hg⟩:=hv.slice
 injection he with e1 e2 e3
 subst e1;obtain ⟨b,o,cs,h1,h2,h3,h4⟩:=hg k l[k].dat (by simp [hk]);obtain rfl:=prop_of h4;exact ⟨b,o,h1,h3⟩
def keyT:List KeyD:=[⟨1,1,0,1073741824,0,⟨#[99,104,97,114,97,99,116,101,114,45,115,116,121,108,101]⟩⟩,⟨2,1,0,1,0,⟨#[98,111,108,100]⟩⟩,⟨3,1,0,1,0,⟨#[105,116,97,108,105,99]⟩⟩,⟨4,1,0,3,0,⟨#[117,110,100,101,114,108,105,110,101]⟩⟩,⟨5,1,2,1638,22,⟨#[115,105,122,101]⟩⟩,⟨6,1,0,16777215,0,⟨#[99,111,108,111,114]⟩⟩,⟨7,1,0,63,0,⟨#[102,111,110,116]⟩⟩,⟨8,1,0,255,0,⟨#[108,97,110,103,117,97,103,101]⟩⟩,⟨9,1,-400,400,0,⟨#[114,97,105,115,101]⟩⟩,⟨10,1,0,1,0,⟨#[104,105,100,100,101,110]⟩⟩,⟨20,2,0,1073741824,0,⟨#[112,97,114,97,103,114,97,112,104,45,115,116,121,108,101]⟩⟩,⟨21,2,0,3,0,⟨#[97,108,105,103,110]⟩⟩,⟨22,2,-31680,31680,0,⟨#[108,101,102,116]⟩⟩,⟨23,2,-31680,31680,0,⟨#[114,105,103,104,116]⟩⟩,⟨24,2,-31680,31680,0,⟨#[102,105,114,115,116]⟩⟩,⟨25,2,0,31680,0,⟨#[98,101,102,111,114,101]⟩⟩,⟨26,2,0,31680,0,⟨#[97,102,116,101,114]⟩⟩,⟨27,2,0,31680,0,⟨#[108,101,97,100,105,110,103]⟩⟩,⟨28,2,0,1,0,⟨#[107,101,101,112,45,110,101,120,116]⟩⟩,⟨29,2,0,1,0,⟨#[107,101,101,112,45,108,105,110,101,115]⟩⟩,⟨30,2,0,1,1,⟨#[119,105,100,111,119]⟩⟩,⟨31,2,0,1,0,⟨#[112,97,103,101,45,98,101,102,111,114,101]⟩⟩,⟨32,2,0,9,0,⟨#[111,117,116,108,105,110,101]⟩⟩,⟨33,2,0,1073741824,0,⟨#[108,105,115,116]⟩⟩,⟨34,2,1,9,1,⟨#[108,101,118,101,108]⟩⟩,⟨35,2,0,32767,0,⟨#[114,101,115,116,97,114,116]⟩⟩,⟨36,2,1,31680,720,⟨#[116,97,98,45,115,116,111,112]⟩⟩,⟨37,2,0,1,0,⟨#[104,121,112,104,101,110,97,116,101]⟩⟩,⟨40,3,720,31680,12240,⟨#[112,97,103,101,45,119,105,100,116,104]⟩⟩,⟨41,3,720,31680,15840,⟨#[112,97,103,101,45,104,101,105,103,104,116]⟩⟩,⟨42,3,0,31680,1440,⟨#[116,111,112]⟩⟩,⟨43,3,0,31680,1440,⟨#[98,111,116,116,111,109]⟩⟩,⟨44,3,0,31680,1440,⟨#[105,110,110,101,114]⟩⟩,⟨45,3,0,31680,1440,⟨#[111,117,116,101,114]⟩⟩,⟨46,3,0,32767,0,⟨#[102,105,114,115,116,45,112,97,103,101]⟩⟩,⟨47,3,1,6,1,⟨#[112,97,103,101,45,102,111,114,109,97,116]⟩⟩,⟨50,4,0,1,0,⟨#[104,101,97,100,101,114]⟩⟩,⟨51,4,0,1,0,⟨#[99,97,110,116,45,115,112,108,105,116]⟩⟩,⟨52,4,0,31680,0,⟨#[114,111,119,45,104,101,105,103,104,116]⟩⟩,⟨60,5,1,32,1,⟨#[99,111,108,117,109,110,45,115,112,97,110]⟩⟩,⟨61,5,0,2,0,⟨#[118,101,114,116,105,99,97,108,45,109,101,114,103,101]⟩⟩,⟨62,5,0,31680,0,⟨#[99,101,108,108,45,119,105,100,116,104]⟩⟩,⟨63,5,0,16777215,16777215,⟨#[115,104,97,100,101]⟩⟩,⟨70,6,0,31680,0,⟨#[116,97,98,108,101,45,119,105,100,116,104]⟩⟩,⟨71,6,0,2,0,⟨#[116,97,98,108,101,45,97,108,105,103,110]⟩⟩]
set_option maxRecDepth 20000 in
theorem ktable_spec (G:GH) (w0:World) (hG:Hold G w0):Calls Tryz.prog 130 #[] w0 (Ret w0 G fun u G'=>RepV G' (.sl 6 (keyT.map KeyD.dat)) u):=by
 refine eN [] Tryz.func130 rfl Tryz.ntmps130 rfl rfl hG ?_;intro a H;refine kP H (SR fun _ K1=>Ra rfl (Kz K1 (SR fun _ K2=>?_)));clear H K1;intro a H;(iterate 45 refine s_build sr197prk [_,_,_,_,_,_] H wn rfl rfl rfl rfl ?_;clear H;intro a H);refine s_buildAll un212prk ty197prk (keyT.map KeyD.cells) H wn rfl rfl rfl rfl rfl rfl rfl ?_;clear H;intro b46 a w hb46 H;refine kH H (Ra rfl (Kz K2 ?_));clear H K2;intro a H;refine lr H Tryz.results130 rfl ?_;obtain ⟨Gz,hmz,hbz,H⟩:=H.giveBox;exact H.hp.ret (RepV.of_row (n:=45) (cap:=45) hbz rfl (Nat.le_refl _) (show 45≤maxLen by decide) (List.take_of_length_le (Nat.le_refl _)) (keys_cat _ _))
theorem isNaN_spec (G:GH) (w0:World) (hG:Hold G w0) (x:Int):Calls Tryz.prog 58 #[vi x] w0 (Ret w0 G fun u G'=>u=.bool false∧G=G'):=by
 refine eN [(0,_)] Tryz.func58 rfl Tryz.ntmps58 rfl rfl hG ?_;intro a H;refine kP H (SR fun _ K1=>Ra rfl (Kz K1 (SR fun _ K2=>Rm rfl (Rm rfl (Rc rfl (Ra rfl (Kz K2 ?_)))))));clear H K1 K2;intro a H;refine lr H Tryz.results58 rfl ?_;exact H.hp.ret ⟨by simp,rfl⟩
theorem cmp3_val {x y z:Int} (h:(x < y∧z=-1)∨(y < x∧z=1)∨(x=y∧z=0)):z=cmp3 x y:=by
 unfold cmp3;split
 ·omega
 split <;> omega
theorem compare_spec (G:GH) (w0:World) (hG:Hold G w0) (x y:Int):Calls Tryz.prog 38 #[vi x,vi y] w0 (Ret w0 G fun u G'=>u=vi (cmp3 x y)):=by
 refine eN [(0,_),(1,_)] Tryz.func38 rfl Tryz.ntmps38 rfl rfl hG ?_;intro a H;refine kP H (SR fun _ K1=>Ra rfl (Kz K1 (SR fun _ K2=>Rm rfl ?_)));clear H K1;intro a H;refine s_call en58prk H wn rfl (isNaN_spec _ _ H.hp.ro x) rfl ?_;clear H;rintro v8 G8 a w ⟨rfl,-⟩ hm8 H;refine kH H (Ra rfl (Kz K2 (SR fun _ K3=>Rm rfl ?_)));clear H K2;intro a H;refine s_call en58prk H wn rfl (isNaN_spec _ _ H.hp.ro y) rfl ?_;clear H;rintro v10 G10 a w ⟨rfl,-⟩ hm10 H;refine kH H (Ra rfl (Kz K3 (SQ fun _ K4=>SR fun _ K5=>Rm rfl (Kz K5 ?_))));clear H K3 K5;intro a H;refine c_cond H rfl ?_ ?_
 ·intro h11
  try have p11:=dT h11
  cases h11
 intro h11
 try have p11:=dF h11
 refine kP H (Kc K4 (SQ fun _ K6=>SR fun _ K7=>Rm rfl (Kz K7 ?_)));clear H K4 K7;intro a H;refine c_cond H rfl ?_ ?_
 ·intro h13
  try have p13:=dT h13
  cases h13
 intro h13
 try have p13:=dF h13
 refine kP H (Kc K6 (SQ fun _ K8=>SR fun _ K9=>Rm rfl (Rm rfl (Rc rfl (Kz K9 ?_)))));clear H K6 K9;intro a H;refine c_cond H rfl ?_ ?_
 ·intro h16
  try have p16:=dT h16
  refine kP H (SR fun _ K10=>Ra rfl (Kz K10 ?_));clear H K10;intro a H;refine lr H Tryz.results38 rfl ?_;exact H.hp.ret (congrArg vi (cmp3_val (by omega)))
 intro h16
 try have p16:=dF h16
 refine kP H (Kc K8 (SQ fun _ K11=>SR fun _ K12=>Rm rfl (Rm rfl (Rc rfl (Kz K12 ?_)))));clear H K8 K12;intro a H;refine c_cond H rfl ?_ ?_
 ·intro h19
  try have p19:=dT h19
  refine kP H (SR fun _ K13=>Ra rfl (Kz K13 ?_));clear H K13;intro a H;refine lr H Tryz.results38 rfl ?_;exact H.hp.ret (congrArg vi (cmp3_val (by omega)))
 intro h19
 try have p19:=dF h19
 refine kP H (Kc K11 (SR fun _ K14=>Ra rfl (Kz K14 ?_)));clear H K11 K14;intro a H;refine lr H Tryz.results38 rfl ?_;exact H.hp.ret (congrArg vi (cmp3_val (by omega)))
end
section
open Go.RowKit
theorem fd197_0prp:Fld Tryz.prog 197 0 0:=⟨by kernel_rfl⟩
theorem en38prp:∀ args w,(callFunc 38 args).run Tryz.prog w=.ok (.enter 38 args) w:=enters Tryz.func38 rfl (by kernel_rfl)
theorem un219prp:Tryz.prog.underlying 219=some (.int .u64):=by kernel_rfl
theorem en132prp:∀ args w,(callFunc 132 args).run Tryz.prog w=.ok (.enter 132 args) w:=enters Tryz.func132 rfl (by kernel_rfl)
theorem cbkey_spec (G:GH) (w0:World) (hG:Hold G w0) (x:KeyD) (t:Int):CallV Tryz.prog (.func (.func 132) #[] #[]) [.agg x.cells.toArray,vi t] w0 (Ret w0 G fun u G'=>u=vi (cmp3 x.num t)):=by
 refine callV_func (caps:=[]) en132prp ?_;refine eN [(0,_),(1,_)] Tryz.func132 rfl Tryz.ntmps132 rfl rfl hG ?_;intro a H;refine c_seqR (fun _ K1=>?_);refine s_box (cs:=[_,_,_,_,_,_]) H wn rfl rfl rfl ?_;clear H;intro b2 a w hb2 H;refine kH H (Ra rfl (Kz K1 (SR fun _ K2=>Rf fd197_0prp rfl (Ro ty3run 0 rfl rfl (Rm rfl ?_)))));clear H K1;intro a H;refine s_call en38prp H wn rfl (compare_spec _ _ H.hp.ro x.num t) rfl ?_;clear H;rintro v8 G8 a w rfl hm8 H;refine kH H (Ra rfl (Kz K2 ?_));clear H K2;intro a H;refine lr H Tryz.results132 rfl ?_;exact H.hp.ret rfl
theorem bskey_spec (G:GH) (w0:World) (hG:Hold G w0) (l:List KeyD) (t:Int) (v:Value) (hv:RepV G (.sl 6 (l.map KeyD.dat)) v) (hl:l.length≤4294967296) :
  Calls Tryz.prog 131 #[v,vi t,.func (.func 132) #[] #[]] w0 (Ret w0 G fun u G'=>u=.tuple #[vi (bsK (l.map KeyD.num) t),.bool (hasK (l.map KeyD.num) t)]):=by
 obtain ⟨A,c,rfl,hc1,hc2,-⟩:=hv.slice;rw [List.length_map] at *;obtain ⟨p,hp⟩:∃ p:Nat→Bool,p=fun h=>decide (¬ (l.map KeyD.num).getD h 0 < t):=⟨_,rfl⟩
 have hbs:bsK (l.map KeyD.num) t=hvF p l.length 0 l.length:=by rw [hp,bsK,List.length_map]
 refine eN [(0,_),(1,_),(2,_)] Tryz.func131 rfl Tryz.ntmps131 rfl rfl hG ?_;intro a H;refine kP H (SR fun _ K1=>Ra rfl (Ra rfl (Kz K1 (SR fun _ K2=>Rm rfl (Rl un212prk rfl (Ra rfl (Kz K2 (SR fun _ K3=>Rm rfl (Ra rfl (Ra rfl (Kz K3 ?_)))))))))));clear H K1 K2 K3;intro a H;refine c_seq (fun _ K4=>?_);refine c_block ?_;skip;refine c_loopS (ι:=Nat × Nat × Nat × GH) (Tc:=[(0,_),(1,_),(2,_),(8,_)]) (Lc:=[]) (fun (gh:Nat × Nat × Nat × GH)=>[(9,vi gh.1),(10,vi gh.2.1)]) (fun (gh:Nat × Nat × Nat × GH)=>[]) (fun (gh:Nat × Nat × Nat × GH)=>gh.2.2.2) (fun (gh:Nat × Nat × Nat × GH)=>gh.1≤gh.2.1∧gh.2.1≤l.length∧gh.2.1 - gh.1≤gh.2.2.1∧hvF p gh.2.2.1 gh.1 gh.2.1=bsK (l.map KeyD.num) t∧(∀ b o,G b=some o→gh.2.2.2 b=some o)) (fun (gh:Nat × Nat × Nat × GH)=>gh.2.1 - gh.1) ((0,l.length,l.length,G)) (by exact (H).sub ⟨rfl,rfl,rfl,rfl,rfl,rfl,trivial⟩) ?_ ?_
 ·exact ⟨Nat.zero_le _,Nat.le_refl _,Nat.sub_le _ _,hbs.symm,fun _ _ h=>h⟩
 clear H;intro gh a w hI H;obtain ⟨i,j,f,g⟩:=gh;dsimp only at hI H;obtain ⟨hij,hj,hf1,heq,hgm⟩:=hI;have hvg:=hv.mono hgm;dsimp only [List.cons_append,List.nil_append,List.append_nil] at H;refine kP H (SQ fun _ K5=>SR fun _ K6=>Rm rfl (Rm rfl (Rc rfl (Kz K6 ?_))));clear H K6;intro a H;refine c_cond H rfl ?_ ?_
 ·intro h17
  try have p17:=dT h17
  have hlt:i < j:=by omega
  rw [hv_step hf1 hlt] at heq;obtain ⟨m,hm⟩:∃ m,m=(i+j) / 2:=⟨_,rfl⟩;rw [← hm] at heq
  have hml:m < l.length:=by omega
  obtain ⟨b,o,rfl,hrow⟩:=key_at hvg hml
  have hpm:p m=decide (¬ l[m].num < t):=by rw [hp];dsimp only;rw [getD_map hml]
  rw [hpm] at heq;refine kP H (Kc K5 (SB (SR fun _ K7=>Rm rfl (Rm rfl (Rd rfl ?_)))));clear H K5;intro a H;rw [show ((i:Int)+(j:Int))=((i+j:Nat):Int) by push_cast;rfl] at H;refine s_conv ((i+j:Nat):Int) un219prp un3cp H wn rfl (hv_wrap (by omega) (by omega)) rfl ?_;clear H;intro a H;refine s_shr _ H wn rfl rfl rfl (by decide) rfl ?_;clear H;intro a H;rw [hv_shr,← hm] at H;refine s_conv (m:Int) un3cp un219prp H wn rfl (i64_wrap (by omega) (by omega)) rfl ?_;clear H;intro a H;refine kH H (Ra rfl (Kz K7 (SR fun _ K8=>Rm rfl (Rm rfl (Rm rfl (Ri un212prk ty197prk rfl rfl ?_))))));clear H K7;intro a H;refine s_loada ty197prk (cs:=[_,_,_,_,_,_]) H wn rfl rfl (fun j v hj=>H.hp.gcell (hrow j v hj)) rfl ?_;clear H;intro a H;refine kH H (Rm rfl ?_);clear H;intro a H;refine s_callv0 H wn rfl rfl (cbkey_spec _ _ H.hp.ro l[m] t) rfl ?_;clear H;rintro v30 G30 a w rfl hm30 H;refine kH H (Rc rfl (Kz K8 ?_));clear H K8;intro a H;refine c_cond H rfl ?_ ?_
  ·intro h31
   try have p31:=dT h31
   rw [if_neg (by simpa using cmp3_lt.1 p31)] at heq;refine kP H (SC (Rm rfl (Rd rfl (Ra rfl ?_))));clear H;intro a H;refine wl_nil ?_;refine loop_end ((m+1,j,f - 1,G30)) (by exact (H).sub ⟨rfl,rfl,rfl,rfl,rfl,rfl,trivial⟩) ?_ ?_
   ·(try dsimp only);exact ⟨by omega,hj,by omega,heq,fun b o h=>hm30 b o (hgm b o h)⟩
   first|omega|(dsimp only;omega)
  intro h31
  try have p31:=dF h31
  rw [if_pos (by simpa using fun h=>p31 (cmp3_lt.2 h))] at heq;refine kP H (SC (Rm rfl (Ra rfl ?_)));clear H;intro a H;refine wl_nil ?_;refine loop_end ((i,m,f - 1,G30)) (by exact (H).sub ⟨rfl,rfl,rfl,rfl,rfl,rfl,trivial⟩) ?_ ?_
  ·(try dsimp only);exact ⟨by omega,by omega,by omega,heq,fun b o h=>hm30 b o (hgm b o h)⟩
  first|omega|(dsimp only;omega)
 intro h17
 try have p17:=dF h17
 refine c_exit ?_;refine K4 _ _ ?_;clear K4;refine c_seq (fun _ K9=>?_);rw [hv_end (by omega)] at heq;refine kP H (SC (Rm rfl (Rm rfl (Rm rfl (Rc rfl (Rm rfl ?_))))));clear H;intro a H;refine s_split H 39 rfl ?_ ?_
 ·intro h39
  try have p39:=dT h39
  have hil:i < l.length:=by omega
  obtain ⟨b,o,rfl,hrow⟩:=key_at hvg hil;refine kH H (YM h39 rfl (YM h39 rfl (YM h39 rfl (YI un212prk ty197prk h39 rfl rfl ?_))));clear H;intro a H;refine s_loada ty197prk (cs:=[_,_,_,_,_,_]) H (wg H rfl rfl h39) rfl rfl (fun j v hj=>H.hp.gcell (hrow j v hj)) rfl ?_;clear H;intro a H;refine kH H (YM h39 rfl ?_);clear H;intro a H;refine s_callv0 H (wg H rfl rfl h39) rfl rfl (cbkey_spec _ _ H.hp.ro l[i] t) rfl ?_;clear H;rintro v46 G46 a w rfl hm46 H;refine kH H (YC h39 rfl (Pt h39 rfl (Ra rfl (Ra rfl (Kn K9 ?_)))));clear H K9;intro a H;refine c_ret ?_;refine (leaveT H Tryz.results131 (.cons (rv_tmp H rfl) (.cons (rv_tmp H rfl) .nil)) ?_).1;exact H.hp.ret (by rw [hasK_in heq.symm (by rw [List.length_map];omega),← heq];simp)
 intro h39
 try have p39:=dF h39
 refine kH H (Ks h39 rfl (Ks h39 rfl (Ks h39 rfl (Ks h39 rfl (Ks h39 rfl (Ks h39 rfl (Ks h39 rfl (Ks h39 rfl (Pf h39 rfl (Ra rfl (Ra rfl (Kn K9 ?_))))))))))));clear H K9;intro a H;refine c_ret ?_;refine (leaveT H Tryz.results131 (.cons (rv_tmp H rfl) (.cons (rv_tmp H rfl) .nil)) ?_).1;exact H.hp.ret (by rw [hasK_off heq.symm (by rw [List.length_map];omega),← heq])
end
section
open Go.RowKit
theorem en52plc:∀ args w,(callFunc 52 args).run Tryz.prog w=.ok (.enter 52 args) w:=enters Tryz.func52 rfl (by kernel_rfl)
theorem en81plc:∀ args w,(callFunc 81 args).run Tryz.prog w=.ok (.enter 81 args) w:=enters Tryz.func81 rfl (by kernel_rfl)
theorem ty159plc:Ty Tryz.prog 159 1 8 [.nilFunc] false:=⟨by kernel_rfl,by kernel_rfl⟩
theorem en82plc:∀ args w,(callFunc 82 args).run Tryz.prog w=.ok (.enter 82 args) w:=enters Tryz.func82 rfl (by kernel_rfl)
theorem en111plc:∀ args w,(callFunc 111 args).run Tryz.prog w=.ok (.enter 111 args) w:=enters Tryz.func111 rfl (by kernel_rfl)
/-- How far an item moves the positions on. -/
def adv (x:ItemD):Nat:=if x.kind=1 then cntS x.text else 1
mutual
def pItem (flow at_:Int):ItemD→List ((Int × Int) × ItemD)
 | .mk k c i t h f r=>if k=6 then ((flow,at_),.mk k c i t h f r) :: pItems i 0 f else if k=7 then ((flow,at_),.mk k c i t h f r) :: pRows r else []
/-- The notes and tables of a flow, and those in them, with their positions. -/
def pItems (flow:Int):Int→List ItemD→List ((Int × Int) × ItemD)
 | _,[]=>[]
 | at_,x :: l=>pItem flow at_ x++pItems flow (at_+adv x) l
def pRows:List RowD→List ((Int × Int) × ItemD)
 | []=>[]
 | r :: l=>pRow r++pRows l
def pRow:RowD→List ((Int × Int) × ItemD)
 | .mk _ cs=>pCells cs
def pCells:List CellD→List ((Int × Int) × ItemD)
 | []=>[]
 | c :: l=>pCell c++pCells l
def pCell:CellD→List ((Int × Int) × ItemD)
 | .mk i _ f=>pItems i 0 f
end
def innerC (x:ItemD):List CellD:=if x.kind=7 then x.rows.flatMap RowD.cells else [.mk x.id ⟨[],⟨0,0,[],[]⟩⟩ x.flow]
theorem pCell_eq (x:CellD):pCell x=pItems x.id 0 x.flow:=by cases x;simp [pCell,CellD.id,CellD.flow]
theorem pRow_eq (x:RowD):pRow x=pCells x.cells:=by cases x;simp [pRow,RowD.cells]
theorem pCells_append:∀ a b:List CellD,pCells (a++b)=pCells a++pCells b
 | [],b=>by simp [pCells]
 | x :: a,b=>by simp [pCells,pCells_append a b]
theorem pRows_flat:∀ l:List RowD,pRows l=pCells (l.flatMap RowD.cells)
 | []=>by simp [pRows,pCells]
 | x :: l=>by simp [pRows,pRow_eq,pCells_append,pRows_flat l]
theorem pItem_eq (flow at_:Int) (x:ItemD):pItem flow at_ x=if x.kind=6∨x.kind=7 then ((flow,at_),x) :: pCells (innerC x) else []:=by
 obtain ⟨k,c,i,t,h,f,r⟩:=x
 simp only [pItem,innerC,ItemD.kind,ItemD.rows,ItemD.id,ItemD.flow]
 by_cases h6:k=6
 ·subst h6;simp [pCells,pCell]
 by_cases h7:k=7
 ·subst h7;simp [pRows_flat]
 simp [h6,h7]
theorem innerC_sz {x:ItemD} {c:CellD} (h:c∈innerC x):zItems c.flow < szR x.dat:=by
 have h4:=zItem_eq x
 unfold innerC at h
 split at h
 ·obtain ⟨r,hr,hc⟩:=List.mem_flatMap.1 h;have h1:=zRows_mem hr;have h2:=zCells_mem hc;have h3:=zRow_eq r;have h5:=zCell_eq c
  omega
 rw [List.mem_singleton.1 h];show zItems x.flow < _;omega
/-- What is called at a note or table. -/
def plP (a:(Int × Int) × ItemD):AP:=fun args g=>∃ cs,args=[.agg #[vi a.1.1,vi a.1.2],.agg cs.toArray]∧RepRow g a.2.dat cs
theorem pl_at {A:List ((Int × Int) × ItemD)} {k:Nat} {args:List Value} {g:GH} (h:AtAP (A.map plP) k args g):∃ (hk:k < A.length) (cs:List Value),args=[.agg #[vi A[k].1.1,vi A[k].1.2],.agg cs.toArray]∧RepRow g A[k].2.dat cs:=by
 obtain ⟨p,hp,hargs⟩:=h;rw [List.getElem?_map] at hp;obtain ⟨q,hq,rfl⟩:=Option.map_eq_some_iff.1 hp;obtain ⟨hk,rfl⟩:=List.getElem?_eq_some_iff.1 hq;exact ⟨hk,hargs⟩
def PlacedOk (n:Nat):Prop:=∀ (G:GH) (l:List ItemD) (id:Int) (bl bi:Nat) (v:Value),zItems l < n→gcell G bl 0=some v→gcell G bi 0=some (vi id)→RepV G (.sl 11 (l.map ItemD.dat)) v →
 Iter Tryz.prog G (.func (.func 81) #[] #[.pointer (some ⟨bl,0,none⟩),.pointer (some ⟨bi,0,none⟩)]) ((pItems id 0 l).map plP)
theorem placed_spec' {n:Nat} (ih:PlacedOk n) (G:GH) (w0:World) (hG:Hold G w0) (l:List ItemD) (id:Int) (v:Value) (hz:zItems l < n) (hv:RepV G (.sl 11 (l.map ItemD.dat)) v) :
  Calls Tryz.prog 52 #[vi id,v] w0 (Ret w0 G fun u G'=>∃ bl bi,u=.func (.func 81) #[] #[.pointer (some ⟨bl,0,none⟩),.pointer (some ⟨bi,0,none⟩)]∧Iter Tryz.prog G' u ((pItems id 0 l).map plP)):=by
 obtain ⟨A,c,rfl,hc1,hc2,hg⟩:=hv.slice;refine eN [(0,_),(1,_)] Tryz.func52 rfl Tryz.ntmps52 rfl rfl hG ?_;intro a H;refine c_seqR (fun _ K1=>?_);refine s_box (cs:=[_]) H wn rfl rfl rfl ?_;clear H;intro b2 a w hb2 H;refine s_box (cs:=[_]) H wn rfl rfl rfl ?_;clear H;intro b3 a w hb3 H;refine kH H (Ra rfl (Kz K1 (SR fun _ K2=>?_)));clear H K1;intro a H;refine s_makeFunc H wn rfl rfl ?_;clear H;intro a H;refine kH H (Ra rfl (Kz K2 ?_));clear H K2;intro a H;refine c_ret ?_;obtain ⟨G2,hm2,hb3,H⟩:=H.giveBox;obtain ⟨G3,hm3,hb2,H⟩:=H.giveBox;refine lv H Tryz.results52 rfl ?_;exact H.hp.ret ⟨b3,b2,rfl,ih _ _ _ _ _ _ hz (gcell_mono hm3 (by unfold gcell;rw [hb3];rfl)) (by unfold gcell;rw [hb2];rfl) (hv.mono fun b o h=>hm3 _ _ (hm2 _ _ h))⟩
theorem flat_len:∀ l:List RowD,(l.flatMap RowD.cells).length≤zRows l
 | []=>Nat.le_refl _
 | x :: l=>by
  have h1:=flat_len l;have h2:=zCells_length x.cells;have h3:=zRow_eq x
  simp only [List.flatMap_cons,List.length_append,zRows,List.map_cons,szRs] at *;omega
theorem zRows_take (l:List RowD) (k:Nat):zRows (l.take k)≤zRows l:=by
 have h:zRows l=zRows (l.take k++l.drop k):=by rw [List.take_append_drop]
 rw [h];simp only [zRows,List.map_append,szRs_append];omega
theorem pCells_cons (c:CellD) (l:List CellD):pCells (c :: l)=pItems c.id 0 c.flow++pCells l:=by rw [pCells,pCell_eq]
set_option maxHeartbeats 1000000 in
theorem within1_iter {n:Nat} (ih:PlacedOk n) (hn:n≤4294967296) {G:GH} {x:ItemD} {bx:Nat} {cs:List Value} (hsz:szR x.dat≤n) (hb:G bx=some (.cells cs.toArray 85 (0,0))) (hv:RepRow G x.dat cs) :
  Iter Tryz.prog G (.func (.func 111) #[] #[.pointer (some ⟨bx,0,none⟩)]) ((pCells (innerC x)).map plP):=by
 intro J Jx fv G1 L w0 hfv hGi hJm hJx hJ hO hcb;refine callV_func (caps:=[.pointer (some ⟨bx,0,none⟩)]) en111plc ?_;obtain ⟨pA,pn,pc,dA,dn,dc,yA,yn,yc,fA,fn,fc,rA,rn,rc,rfl,hh,hf,hr⟩:=hv.item;have hsz1:=zItem_eq x;have hrn:=hr.len;rw [List.length_map] at hrn;subst hrn;have hrs:=zRows_length x.rows
 have hrow:∀ j u,[vi x.kind,vi x.code,vi x.id,.string x.text,.slice pA pn pc,vi x.head.marks.ins,vi x.head.marks.move,.slice dA dn dc,.slice yA yn yc,.slice fA fn fc,.slice rA x.rows.length rc][j]?=some u→gcell G1 bx (0+j)=some u:=by
  intro j u hj;refine gcell_mono hGi ?_
  unfold gcell;rw [hb];simpa using hj
 have hfc:gcell G1 bx 0=some (vi x.kind)∧gcell G1 bx 2=some (vi x.id)∧gcell G1 bx 9=some (.slice fA fn fc)∧gcell G1 bx 10=some (.slice rA x.rows.length rc):=⟨hrow 0 _ rfl,hrow 2 _ rfl,hrow 9 _ rfl,hrow 10 _ rfl⟩;obtain ⟨hc0,hc2,hc9,hc10⟩:=hfc
 have hml:4294967297≤maxLen:=by decide
 refine enterL (N:=50) (T:=[(0,_),(1,_)]) Tryz.func111 rfl Tryz.ntmps111 rfl rfl hO ?_;intro a H;refine c_seqR (fun _ K1=>?_);refine s_box (cs:=[fv]) H wn rfl hfv rfl ?_;clear H;intro b2 a w hb2 H;refine K1 _ _ ?_;clear K1;refine kP H (SR fun _ K2=>Rf fd85_2pos rfl (Rg ty3run rfl (by assumption) ?_));clear H;intro a H;refine kH H (Rf fd85_5run rfl (Rg ty22run rfl (by assumption) ?_));clear H;intro a H;refine s_build sr90run [_,_,_,_,_,_,_] H wn rfl rfl rfl rfl ?_;clear H;intro a H;refine s_buildSlice un86run ty90run [_,_,_,_,_,_,_] [_,_,_,_,_,_,_] H wn rfl rfl rfl rfl rfl (by intro i q h;match i,h with|0,h=>exact h|n+1,h=>simp at h) rfl rfl ?_;clear H;intro b15 a w hb15 H;refine kH H (Ra rfl (Kz K2 (SQ fun _ K3=>SR fun _ K4=>Rf fd85_0run rfl (Rg ty3run rfl (by assumption) ?_))));clear H K2;intro a H;refine kH H (Rc rfl (Kz K4 ?_));clear H K4;intro a H;refine c_cond H rfl ?_ ?_
 ·intro h18
  try have p18:=dT h18
  refine kP H (SR fun _ K5=>Ra rfl (Kz K5 (SR fun _ K6=>Rf fd85_6run rfl (Rg ty83run rfl (by assumption) ?_))));clear H K5;intro a H;refine kH H (Rl un83run rfl (Rm rfl (Kz K6 (SB ?_))));clear H K6;intro a H;skip;refine c_loopS (ι:=Nat × Value × List Value × OL) (Tc:=[(2,_),(20,_),(21,_)]) (Lc:=[(_,_)]) (fun (gh:Nat × Value × List Value × OL)=>[(3,gh.2.1),(22,vi gh.1)]) (fun (gh:Nat × Value × List Value × OL)=>[]++(L++gh.2.2.2)) (fun (gh:Nat × Value × List Value × OL)=>G1) (fun (gh:Nat × Value × List Value × OL)=>gh.1≤x.rows.length∧IsRow 90 7 gh.2.1 ((x.rows.take gh.1).flatMap RowD.cells).length gh.2.2.1 gh.2.2.2∧RepCat G1 7 (((x.rows.take gh.1).flatMap RowD.cells).map CellD.dat) gh.2.2.1) (fun (gh:Nat × Value × List Value × OL)=>x.rows.length - gh.1) ((0,.slice none 0 0,[],[])) (by exact (St.nilT (A:=[_]) (H.pickT (Pl:=[_,_]) (Pl':=[_]) [1] (by decide) rfl)).sub ⟨rfl,rfl,rfl,rfl,rfl,trivial⟩) ?_ ?_
  ·exact ⟨by omega,IsRow.nil,by simpa using RepCat.nil⟩
  clear H;intro gh a w hI H;obtain ⟨rk,v3,xs,Lo⟩:=gh;dsimp only at hI H;obtain ⟨hrk,hrw3,hcat⟩:=hI;dsimp only [List.cons_append,List.nil_append,List.append_nil] at H;refine kP H (SR fun _ K7=>Rc rfl (Kz K7 (SQ fun _ K8=>?_)));clear H K7;intro a H;refine c_cond H rfl ?_ ?_
  ·intro h23
   try have p23:=dT h23
   have hk2:rk < x.rows.length:=by omega
   obtain ⟨b,o,qA,qn,qc,eA,en,ec,zA,zn,zc,cA,cn,cc,rfl,hrow,hrh,hcl⟩:=row_get hk2 hr.at_;replace hrow:=fun j u hj=>gcell_mono hGi (hrow j u hj);have hcn2:=hcl.len;rw [List.length_map] at hcn2;subst hcn2;have hsz2:=flat_len (x.rows.take (rk+1));have hsz3:=zRows_take x.rows (rk+1);rw [List.take_succ_eq_append_getElem hk2,List.flatMap_append,List.length_append,List.flatMap_singleton] at hsz2;rw [List.take_succ_eq_append_getElem hk2] at hsz3;refine kP H (Kc K8 (SQ fun _ K9=>SB (SR fun _ K10=>Ri un83run ty88run rfl rfl ?_)));clear H K8;intro a H;refine s_loada ty88run (cs:=[_,_,_,_,_,_]) H wn rfl rfl (fun j v hj=>H.hp.gcell (hrow j v hj)) rfl ?_;clear H;intro a H;refine s_alloc ty88run H wn rfl ?_;clear H;intro b5 a w hb5 H;refine s_store ty88run 0 (vs:=[_,_,_,_,_,_]) _ H wn rfl rfl rfl rfl rfl rfl rfl rfl ?_;clear H;intro w H;dsimp only [List.set,setRow] at H;refine K10 _ _ ?_;clear K10;refine kP H (SC (Rm rfl (Rf fd88_1run rfl (Ro ty86run 0 rfl rfl ?_))));clear H;intro a H;refine s_appendG (Li:=[_,_]++L) (Lo:=Lo) un86run ty90run rfl rfl (St.un (A:=[_,_]) H) wn rfl rfl hrw3 (hcl.mono hGi) (by omega) (by omega) rfl ?_;clear H;intro v29 Lo29 news a w hrw29 hcn H;refine kH H (Ra rfl ?_);clear H;intro a H;refine wl_nil ?_;replace H:=H.assoc.pickT (Pl:=[_,_]) (Pl':=[_]) [1] (by decide) rfl;refine K9 _ _ ?_;clear K9;refine kP H (SC (Rd rfl (Rm rfl ?_)));clear H;intro a H;refine wl_nil ?_;refine loop_end ((rk+1,v29,xs++news,Lo29)) (by exact H.sub ⟨rfl,rfl,rfl,rfl,rfl,trivial⟩) ?_ ?_
   ·(try dsimp only);exact ⟨by omega,by rw [List.take_succ_eq_append_getElem hk2,List.flatMap_append,List.length_append,List.flatMap_singleton];exact hrw29,by rw [List.take_succ_eq_append_getElem hk2,List.flatMap_append,List.map_append,List.flatMap_singleton];exact hcat.append hcn⟩
   first|omega|(dsimp only;omega)
  intro h23
  try have p23:=dF h23
  have hrk2:rk=x.rows.length:=by omega
  subst hrk2;rw [List.take_length] at hrw3 hcat;obtain ⟨G3,hm3,hin,H⟩:=(St.un (A:=[_]) H).giveRow (rows:=((x.rows.flatMap RowD.cells)).map CellD.dat) hrw3 (by simp) hcat
  replace hin:RepV G3 (.sl 7 ((innerC x).map CellD.dat)) v3:=by rw [innerC,if_pos p18];exact hin
  obtain ⟨iA,ni,ic,rfl⟩:=hin.form;have hni2:=hin.len;rw [List.length_map] at hni2
  have hisz:(innerC x).length≤4294967296:=by
   have h1:=flat_len x.rows;rw [innerC,if_pos p18];omega
  refine c_exit ?_;refine K3 _ _ ?_;clear K3;refine kP H (SR fun _ K11=>Rm rfl (Rl un86run rfl (Rm rfl (Kz K11 (SB ?_)))));clear H K11;intro a H;skip;refine c_loopD (ι:=Nat × Nat × OL × GH × List Nat) (Tc:=[(2,_),(31,_),(32,_)]) (Lc:=[(_,_)]) (fun (gh:Nat × Nat × OL × GH × List Nat)=>mkD gh.2.2.2.2) (fun (gh:Nat × Nat × OL × GH × List Nat)=>[(33,vi gh.1)]) (fun (gh:Nat × Nat × OL × GH × List Nat)=>[]++(mkL gh.2.2.2.2++gh.2.2.1)) (fun (gh:Nat × Nat × OL × GH × List Nat)=>gh.2.2.2.1) (fun (gh:Nat × Nat × OL × GH × List Nat)=>gh.1≤(innerC x).length∧(∀ b o,G3 b=some o→gh.2.2.2.1 b=some o)∧Now ((pCells (innerC x)).map plP) plP J (pCells (innerC x)).length gh.2.1 (pCells ((innerC x).drop gh.1)) gh.2.2.2.1 gh.2.2.1) (fun (gh:Nat × Nat × OL × GH × List Nat)=>(innerC x).length - gh.1) ((0,0,L,G3,[])) (by exact (H).sub ⟨rfl,rfl,rfl,rfl,trivial⟩) ?_ ?_
  ·exact ⟨by omega,fun _ _ h=>h,⟨hJm _ _ _ _ hm3 hJ,fun i a h=>by rw [Nat.zero_add,List.getElem?_map];rw [List.drop_zero] at h;rw [h];rfl,by simp⟩⟩
  clear H;intro gh a w hI H;obtain ⟨ck,j1,Lt,g,ds⟩:=gh;dsimp only at hI H;obtain ⟨hck,hgm,hnow⟩:=hI;dsimp only [List.cons_append,List.nil_append,List.append_nil] at H;refine kP H (SR fun _ K12=>Rc rfl (Kz K12 (SQ fun _ K13=>?_)));clear H K12;intro a H;refine c_cond H rfl ?_ ?_
  ·intro h34
   try have p34:=dT h34
   have hk3:ck < (innerC x).length:=by omega
   obtain ⟨b,o,sA,sn,sc,tA,tn,tc,uA,un,uc,gA,gn,gc,hiA2,hrow,hch,hcf⟩:=cell_get hk3 hin.at_;subst hiA2;replace hrow:=fun j u hj=>gcell_mono hgm (hrow j u hj);rw [List.drop_eq_getElem_cons hk3,pCells_cons] at hnow;refine kP H (Kc K13 (SQ fun _ K14=>SB (SR fun _ K15=>Ri un86run ty90run rfl rfl ?_)));clear H K13;intro a H;refine s_loada ty90run (cs:=[_,_,_,_,_,_,_]) H wn rfl rfl (fun j v hj=>H.hp.gcell (hrow j v hj)) rfl ?_;clear H;intro a H;refine s_alloc ty90run H wn rfl ?_;clear H;intro b7 a w hb7 H;refine s_store ty90run 0 (vs:=[_,_,_,_,_,_,_]) _ H wn rfl rfl rfl rfl rfl rfl rfl rfl ?_;clear H;intro w H;dsimp only [List.set,setRow] at H;refine K15 _ _ ?_;clear K15;refine kP H (SR fun _ K16=>Rf fd90_0run rfl (Ro ty3run 0 rfl rfl (Rf fd90_2run rfl (Ro ty22run 0 rfl rfl ?_))));clear H;intro a H;refine s_call en52plc H wn rfl (placed_spec' ih _ _ H.hp.ro (innerC x)[ck].flow (innerC x)[ck].id _ (by have:=innerC_sz (List.getElem_mem hk3);omega) (hcf.mono hgm)) rfl ?_;clear H;rintro v41 G41 a w ⟨bl,bi,rfl,hit⟩ hm41 H;refine K16 _ _ ?_;clear K16;refine c_block ?_;skip;refine c_rangeJ (ι:=OL) (κ:=OL) (Lc:=[(_,_),(_,_)]) (fun (k:Nat) (gh:OL)=>[]) (fun (k:Nat) (gh:OL)=>(mkL ds++gh)) (fun (k:Nat) (gh:OL) (g:GH)=>J (j1+k) g gh) (fun (gx:OL)=>Code.ret) (fun (gx:OL)=>[]) (fun (gx:OL)=>(mkL ds++gx)) (fun (gx:OL) (g:GH)=>Jx g gx) (Lt) (by exact H) rfl en81plc (hit) (fun _ _ h=>h) rfl (fun k args g h=>by obtain ⟨_,_,rfl,_⟩:=pl_at h;rfl) (fun k i G G' hm h=>hJm _ _ _ _ hm h) (fun x G G' hm h=>hJx _ _ _ hm h) (hJm _ _ _ _ hm41 hnow.now) ?_ ?_ ?_
   ·clear H;intro l13 rdy bsy bk k args gh G13 w13 F13 B13 a hk13 hm13 hI hbeg13 hnext13 hstop13 H;obtain ⟨Lt1,hgh⟩:∃ x,x=gh:=⟨_,rfl⟩;subst hgh;obtain ⟨hk,cs8,rfl,hrep8⟩:=pl_at hk13;obtain ⟨aA,an,ac,bA,bn,bc,dA8,dn8,dc8,eA8,en8,ec8,iA8,in8,ic8,rfl,-⟩:=hrep8.item;dsimp only [asg,List.cons_append,List.nil_append] at H;refine c_seqR (fun _ K17=>?_);refine s_alloc ty45pq H wn rfl ?_;clear H;intro b8 a w hb8 H;refine s_store ty45pq 0 (vs:=[_,_]) _ H wn rfl rfl rfl rfl rfl rfl rfl rfl ?_;clear H;intro w H;dsimp only [List.set,setRow] at H;refine K17 _ _ ?_;clear K17;refine c_region ?_;refine s_alloc ty85run H wn rfl ?_;clear H;intro b9 a w hb9 H;refine s_store ty85run 0 (vs:=[_,_,_,_,_,_,_,_,_,_,_]) _ H wn rfl rfl rfl rfl rfl rfl rfl rfl ?_;clear H;intro w H;dsimp only [List.set,setRow] at H;refine wl_nil ?_;refine hbeg13 _ _ _ _ _ _ (by exact H.pickT (Pl:=[_,_,_,_,_]) (Pl':=[_,_,_,_,_]) [2,0,1,3,4] (by decide) rfl) ?_;clear H;intro w H;refine kP H (SB (SR fun _ K18=>Ro ty159plc 4 rfl rfl ?_));clear H;intro a H;refine s_loada ty45pq (cs:=[_,_]) H wn rfl rfl (H.hp.ocells 2 rfl rfl) rfl ?_;clear H;intro a H;refine s_loada ty85run (cs:=[_,_,_,_,_,_,_,_,_,_,_]) H wn rfl rfl (H.hp.ocells 1 rfl rfl) rfl ?_;clear H;intro a H;refine s_callv (Li:=([_,_,_,_,_]++bk)++mkL ds) (L:=Lt1) (St.un (A:=[_,_,_,_,_]++bk) (St.un (A:=[_,_,_,_,_]) H)) wn rfl rfl (hcb (j1+k) _ _ _ _ ⟨_,hnow.part k _ (List.getElem?_eq_getElem hk),_,rfl,hrep8⟩ (fun b o h=>hm13 b o (hm41 b o (hgm b o (hm3 b o h)))) hI (Hp.owns (Li:=([_,_,_,_,_]++bk)++mkL ds) (St.un (A:=[_,_,_,_,_]++bk) (St.un (A:=[_,_,_,_,_]) H)).hp)) rfl ?_;clear H;rintro v47 G47 Lt47 a w ⟨b47,rfl,hb1,hb2⟩ hm47 H
    simp only [List.append_assoc,List.cons_append,List.nil_append] at H
    refine kH H (Rn rfl (Kz K18 ?_));clear H K18;intro a H;refine c_cond H rfl ?_ ?_
    ·intro h48
     try have p48:=dT h48
     refine c_ret ?_;refine (hstop13 (Lt47) _ _ _ _ _ (by exact H.pickT (Pl:=[_,_,_,_,_]) (Pl':=[_,_,_]) [0,3,4] (by decide) rfl) ?_).1 rfl;exact hb2 (by simpa using h48)
    intro h48
    try have p48:=dF h48
    refine c_skip ?_;refine hnext13 (Lt47) _ _ _ _ _ (by exact H.pickT (Pl:=[_,_,_,_,_]) (Pl':=[_,_,_]) [0,3,4] (by decide) rfl) ?_;exact hb1 (by simpa using h48)
   ·clear H;intro Dk13 gh Gd13 a w hm13 hI H;obtain ⟨Lt1,hgh⟩:∃ x,x=gh:=⟨_,rfl⟩;subst hgh;dsimp only [List.cons_append,List.nil_append,List.append_nil] at H;refine K14 _ _ ?_;clear K14;refine kP H (SC (Rd rfl (Rm rfl ?_)));clear H;intro a H;refine wl_nil ?_;refine loopD_end ((ck+1,j1+(pItems (innerC x)[ck].id 0 (innerC x)[ck].flow).length,Lt1,Gd13,Dk13 :: ds)) (by exact (H.pickT (Pl:=[_,_,_]) (Pl':=[_,_]) [2,0] (by decide) rfl).sub ⟨rfl,rfl,rfl,rfl,trivial⟩) ?_ ?_
    ·(try dsimp only);exact ⟨by omega,fun b o h=>hm13 b o (hm41 b o (hgm b o h)),hnow.jump (by simpa using hI)⟩
    first|omega|(dsimp only;omega)
   clear H;intro Dk13 gx Gd13 a w hm13 hI H;obtain ⟨Lx,hgh⟩:∃ x,x=gx:=⟨_,rfl⟩;subst hgh;dsimp only [List.cons_append,List.nil_append,List.append_nil] at H;refine c_ret ?_;refine (leaveM H 0 rfl ?_).1;clear H;intro a w H;dsimp only [List.eraseIdx_cons_succ,List.eraseIdx_cons_zero] at H;refine (leaveMs (Lh:=[_,_]) _ H ?_).1;clear H;intro a w H;dsimp only [List.cons_append,List.nil_append] at H;refine (leave0 H Tryz.results111 ?_).1
   first
    | exact H.hp.retD (L':=Lx) (by repeat (first|exact List.Sublist.refl _|apply List.Sublist.cons)) (.inr hI)
    | exact H.hp.retD (L':=Lt) (by repeat (first|exact List.Sublist.refl _|apply List.Sublist.cons)) (.inl (by rw [List.drop_of_length_le (by omega),pCells] at hnow;have:=hnow.len;simp only [List.length_nil,Nat.add_zero] at this;rw [List.length_map,← this];exact hnow.now))
  intro h34
  try have p34:=dF h34
  refine c_exit ?_;refine (leaveMs (Lh:=[_]) _ H ?_).2;clear H;intro a w H;dsimp only [List.cons_append,List.nil_append] at H;refine (leave0 H Tryz.results111 ?_).1
  first
   | exact H.hp.retD (L':=Lx) (by repeat (first|exact List.Sublist.refl _|apply List.Sublist.cons)) (.inr hI)
   | exact H.hp.retD (L':=Lt) (by repeat (first|exact List.Sublist.refl _|apply List.Sublist.cons)) (.inl (by rw [List.drop_of_length_le (by omega),pCells] at hnow;have:=hnow.len;simp only [List.length_nil,Nat.add_zero] at this;rw [List.length_map,← this];exact hnow.now))
 intro h18
 try have p18:=dF h18
 obtain ⟨G3,hm3,hin,H⟩:=H.giveOne (sz:=7) (d:=(CellD.mk x.id ⟨[],⟨0,0,[],[]⟩⟩ x.flow).dat) rfl (RepRow.mkCell (x:=CellD.mk x.id ⟨[],⟨0,0,[],[]⟩⟩ x.flow) ⟨RepV.nil_ rfl (by decide),RepV.nil_ rfl (by decide),RepV.nil_ rfl (by decide)⟩ (hf.mono hGi))
 replace hin:RepV G3 (.sl 7 ((innerC x).map CellD.dat)) (.slice (some ⟨b15,0,none⟩) 1 1):=by rw [innerC,if_neg p18];exact hin
 obtain ⟨iA,hiA⟩:∃ z,z=some (Addr.mk b15 0 none):=⟨_,rfl⟩;obtain ⟨ni,hni⟩:∃ z,z=1:=⟨_,rfl⟩;obtain ⟨ic,hic⟩:∃ z,z=1:=⟨_,rfl⟩;rw [← hiA] at hin H;have hni2:=hin.len;rw [List.length_map] at hni2
 have hisz:(innerC x).length≤4294967296:=by omega
 refine kP H (Kc K3 (SR fun _ K19=>Rm rfl (Rl un86run rfl (Rm rfl (Kz K19 (SB ?_))))));clear H K3 K19;intro a H;skip;refine c_loopD (ι:=Nat × Nat × OL × GH × List Nat) (Tc:=[(2,_),(31,_),(32,_)]) (Lc:=[(_,_)]) (fun (gh:Nat × Nat × OL × GH × List Nat)=>mkD gh.2.2.2.2) (fun (gh:Nat × Nat × OL × GH × List Nat)=>[(33,vi gh.1)]) (fun (gh:Nat × Nat × OL × GH × List Nat)=>[]++(mkL gh.2.2.2.2++gh.2.2.1)) (fun (gh:Nat × Nat × OL × GH × List Nat)=>gh.2.2.2.1) (fun (gh:Nat × Nat × OL × GH × List Nat)=>gh.1≤(innerC x).length∧(∀ b o,G3 b=some o→gh.2.2.2.1 b=some o)∧Now ((pCells (innerC x)).map plP) plP J (pCells (innerC x)).length gh.2.1 (pCells ((innerC x).drop gh.1)) gh.2.2.2.1 gh.2.2.1) (fun (gh:Nat × Nat × OL × GH × List Nat)=>(innerC x).length - gh.1) ((0,0,L,G3,[])) (by exact (H).sub ⟨rfl,rfl,rfl,rfl,trivial⟩) ?_ ?_
 ·exact ⟨by omega,fun _ _ h=>h,⟨hJm _ _ _ _ hm3 hJ,fun i a h=>by rw [Nat.zero_add,List.getElem?_map];rw [List.drop_zero] at h;rw [h];rfl,by simp⟩⟩
 clear H;intro gh a w hI H;obtain ⟨ck,j1,Lt,g,ds⟩:=gh;dsimp only at hI H;obtain ⟨hck,hgm,hnow⟩:=hI;dsimp only [List.cons_append,List.nil_append,List.append_nil] at H;refine kP H (SR fun _ K20=>Rc rfl (Kz K20 (SQ fun _ K21=>?_)));clear H K20;intro a H;refine c_cond H rfl ?_ ?_
 ·intro h34
  try have p34:=dT h34
  have hk3:ck < (innerC x).length:=by omega
  obtain ⟨b,o,sA,sn,sc,tA,tn,tc,uA,un,uc,gA,gn,gc,hiA2,hrow,hch,hcf⟩:=cell_get hk3 hin.at_;subst hiA2;replace hrow:=fun j u hj=>gcell_mono hgm (hrow j u hj);rw [List.drop_eq_getElem_cons hk3,pCells_cons] at hnow;refine kP H (Kc K21 (SQ fun _ K22=>SB (SR fun _ K23=>Ri un86run ty90run rfl rfl ?_)));clear H K21;intro a H;refine s_loada ty90run (cs:=[_,_,_,_,_,_,_]) H wn rfl rfl (fun j v hj=>H.hp.gcell (hrow j v hj)) rfl ?_;clear H;intro a H;refine s_alloc ty90run H wn rfl ?_;clear H;intro b7 a w hb7 H;refine s_store ty90run 0 (vs:=[_,_,_,_,_,_,_]) _ H wn rfl rfl rfl rfl rfl rfl rfl rfl ?_;clear H;intro w H;dsimp only [List.set,setRow] at H;refine K23 _ _ ?_;clear K23;refine kP H (SR fun _ K24=>Rf fd90_0run rfl (Ro ty3run 0 rfl rfl (Rf fd90_2run rfl (Ro ty22run 0 rfl rfl ?_))));clear H;intro a H;refine s_call en52plc H wn rfl (placed_spec' ih _ _ H.hp.ro (innerC x)[ck].flow (innerC x)[ck].id _ (by have:=innerC_sz (List.getElem_mem hk3);omega) (hcf.mono hgm)) rfl ?_;clear H;rintro v41 G41 a w ⟨bl,bi,rfl,hit⟩ hm41 H;refine K24 _ _ ?_;clear K24;refine c_block ?_;skip;refine c_rangeJ (ι:=OL) (κ:=OL) (Lc:=[(_,_),(_,_)]) (fun (k:Nat) (gh:OL)=>[]) (fun (k:Nat) (gh:OL)=>(mkL ds++gh)) (fun (k:Nat) (gh:OL) (g:GH)=>J (j1+k) g gh) (fun (gx:OL)=>Code.ret) (fun (gx:OL)=>[]) (fun (gx:OL)=>(mkL ds++gx)) (fun (gx:OL) (g:GH)=>Jx g gx) (Lt) (by exact H) rfl en81plc (hit) (fun _ _ h=>h) rfl (fun k args g h=>by obtain ⟨_,_,rfl,_⟩:=pl_at h;rfl) (fun k i G G' hm h=>hJm _ _ _ _ hm h) (fun x G G' hm h=>hJx _ _ _ hm h) (hJm _ _ _ _ hm41 hnow.now) ?_ ?_ ?_
  ·clear H;intro l13 rdy bsy bk k args gh G13 w13 F13 B13 a hk13 hm13 hI hbeg13 hnext13 hstop13 H;obtain ⟨Lt1,hgh⟩:∃ x,x=gh:=⟨_,rfl⟩;subst hgh;obtain ⟨hk,cs8,rfl,hrep8⟩:=pl_at hk13;obtain ⟨aA,an,ac,bA,bn,bc,dA8,dn8,dc8,eA8,en8,ec8,iA8,in8,ic8,rfl,-⟩:=hrep8.item;dsimp only [asg,List.cons_append,List.nil_append] at H;refine c_seqR (fun _ K25=>?_);refine s_alloc ty45pq H wn rfl ?_;clear H;intro b8 a w hb8 H;refine s_store ty45pq 0 (vs:=[_,_]) _ H wn rfl rfl rfl rfl rfl rfl rfl rfl ?_;clear H;intro w H;dsimp only [List.set,setRow] at H;refine K25 _ _ ?_;clear K25;refine c_region ?_;refine s_alloc ty85run H wn rfl ?_;clear H;intro b9 a w hb9 H;refine s_store ty85run 0 (vs:=[_,_,_,_,_,_,_,_,_,_,_]) _ H wn rfl rfl rfl rfl rfl rfl rfl rfl ?_;clear H;intro w H;dsimp only [List.set,setRow] at H;refine wl_nil ?_;refine hbeg13 _ _ _ _ _ _ (by exact H.pickT (Pl:=[_,_,_,_,_]) (Pl':=[_,_,_,_,_]) [2,0,1,3,4] (by decide) rfl) ?_;clear H;intro w H;refine kP H (SB (SR fun _ K26=>Ro ty159plc 4 rfl rfl ?_));clear H;intro a H;refine s_loada ty45pq (cs:=[_,_]) H wn rfl rfl (H.hp.ocells 2 rfl rfl) rfl ?_;clear H;intro a H;refine s_loada ty85run (cs:=[_,_,_,_,_,_,_,_,_,_,_]) H wn rfl rfl (H.hp.ocells 1 rfl rfl) rfl ?_;clear H;intro a H;refine s_callv (Li:=([_,_,_,_,_]++bk)++mkL ds) (L:=Lt1) (St.un (A:=[_,_,_,_,_]++bk) (St.un (A:=[_,_,_,_,_]) H)) wn rfl rfl (hcb (j1+k) _ _ _ _ ⟨_,hnow.part k _ (List.getElem?_eq_getElem hk),_,rfl,hrep8⟩ (fun b o h=>hm13 b o (hm41 b o (hgm b o (hm3 b o h)))) hI (Hp.owns (Li:=([_,_,_,_,_]++bk)++mkL ds) (St.un (A:=[_,_,_,_,_]++bk) (St.un (A:=[_,_,_,_,_]) H)).hp)) rfl ?_;clear H;rintro v47 G47 Lt47 a w ⟨b47,rfl,hb1,hb2⟩ hm47 H
   simp only [List.append_assoc,List.cons_append,List.nil_append] at H
   refine kH H (Rn rfl (Kz K26 ?_));clear H K26;intro a H;refine c_cond H rfl ?_ ?_
   ·intro h48
    try have p48:=dT h48
    refine c_ret ?_;refine (hstop13 (Lt47) _ _ _ _ _ (by exact H.pickT (Pl:=[_,_,_,_,_]) (Pl':=[_,_,_]) [0,3,4] (by decide) rfl) ?_).1 rfl;exact hb2 (by simpa using h48)
   intro h48
   try have p48:=dF h48
   refine c_skip ?_;refine hnext13 (Lt47) _ _ _ _ _ (by exact H.pickT (Pl:=[_,_,_,_,_]) (Pl':=[_,_,_]) [0,3,4] (by decide) rfl) ?_;exact hb1 (by simpa using h48)
  ·clear H;intro Dk13 gh Gd13 a w hm13 hI H;obtain ⟨Lt1,hgh⟩:∃ x,x=gh:=⟨_,rfl⟩;subst hgh;dsimp only [List.cons_append,List.nil_append,List.append_nil] at H;refine K22 _ _ ?_;clear K22;refine kP H (SC (Rd rfl (Rm rfl ?_)));clear H;intro a H;refine wl_nil ?_;refine loopD_end ((ck+1,j1+(pItems (innerC x)[ck].id 0 (innerC x)[ck].flow).length,Lt1,Gd13,Dk13 :: ds)) (by exact (H.pickT (Pl:=[_,_,_]) (Pl':=[_,_]) [2,0] (by decide) rfl).sub ⟨rfl,rfl,rfl,rfl,trivial⟩) ?_ ?_
   ·(try dsimp only);exact ⟨by omega,fun b o h=>hm13 b o (hm41 b o (hgm b o h)),hnow.jump (by simpa using hI)⟩
   first|omega|(dsimp only;omega)
  clear H;intro Dk13 gx Gd13 a w hm13 hI H;obtain ⟨Lx,hgh⟩:∃ x,x=gx:=⟨_,rfl⟩;subst hgh;dsimp only [List.cons_append,List.nil_append,List.append_nil] at H;refine c_ret ?_;refine (leaveM H 0 rfl ?_).1;clear H;intro a w H;dsimp only [List.eraseIdx_cons_succ,List.eraseIdx_cons_zero] at H;refine (leaveMs (Lh:=[_,_]) _ H ?_).1;clear H;intro a w H;dsimp only [List.cons_append,List.nil_append] at H;refine (leave0 H Tryz.results111 ?_).1
  first
   | exact H.hp.retD (L':=Lx) (by repeat (first|exact List.Sublist.refl _|apply List.Sublist.cons)) (.inr hI)
   | exact H.hp.retD (L':=Lt) (by repeat (first|exact List.Sublist.refl _|apply List.Sublist.cons)) (.inl (by rw [List.drop_of_length_le (by omega),pCells] at hnow;have:=hnow.len;simp only [List.length_nil,Nat.add_zero] at this;rw [List.length_map,← this];exact hnow.now))
 intro h34
 try have p34:=dF h34
 refine c_exit ?_;refine (leaveMs (Lh:=[_]) _ H ?_).2;clear H;intro a w H;dsimp only [List.cons_append,List.nil_append] at H;refine (leave0 H Tryz.results111 ?_).1
 first
  | exact H.hp.retD (L':=Lx) (by repeat (first|exact List.Sublist.refl _|apply List.Sublist.cons)) (.inr hI)
  | exact H.hp.retD (L':=Lt) (by repeat (first|exact List.Sublist.refl _|apply List.Sublist.cons)) (.inl (by rw [List.drop_of_length_le (by omega),pCells] at hnow;have:=hnow.len;simp only [List.length_nil,Nat.add_zero] at this;rw [List.length_map,← this];exact hnow.now))
theorem within_spec {n:Nat} (ih:PlacedOk n) (hn:n≤4294967296) (G:GH) (w0:World) (hG:Hold G w0) (x:ItemD) (cs:List Value) (hsz:szR x.dat≤n) (hv:RepRow G x.dat cs) :
  Calls Tryz.prog 82 #[.agg cs.toArray] w0 (Ret w0 G fun u G'=>∃ bx,u=.func (.func 111) #[] #[.pointer (some ⟨bx,0,none⟩)]∧Iter Tryz.prog G' u ((pCells (innerC x)).map plP)):=by
 obtain ⟨pA,pn,pc,dA,dn,dc,yA,yn,yc,fA,fn,fc,rA,rn,rc,hcs,-⟩:=hv.item;have hv2:=hv;rw [hcs] at hv2 ⊢;refine eN [(0,_)] Tryz.func82 rfl Tryz.ntmps82 rfl rfl hG ?_;intro a H;refine c_seqR (fun _ K1=>?_);refine s_box (cs:=[_,_,_,_,_,_,_,_,_,_,_]) H wn rfl rfl rfl ?_;clear H;intro b1 a w hb1 H;refine kH H (Ra rfl (Kz K1 (SR fun _ K2=>?_)));clear H K1;intro a H;refine s_makeFunc H wn rfl rfl ?_;clear H;intro a H;refine kH H (Ra rfl (Kz K2 ?_));clear H K2;intro a H;refine c_ret ?_;obtain ⟨G2,hm2,hb1,H⟩:=H.giveBox;refine lv H Tryz.results82 rfl ?_;exact H.hp.ret ⟨b1,rfl,within1_iter ih hn hsz hb1 (hv2.mono hm2)⟩
theorem adv_le (x:ItemD):adv x < szR x.dat:=by
 have h1:=zItem_eq x;have h2:=cntS_le x.text
 unfold adv;split <;> omega
set_option maxHeartbeats 1000000 in
theorem placed_step {n:Nat} (ih:PlacedOk n) (hn:n≤4294967296):PlacedOk (n+1):=by
 intro G l id bl bi v hz hbl hbi hv J Jx fv G1 L w0 hfv hGi hJm hJx hJ hO hcb;refine callV_func (caps:=[.pointer (some ⟨bl,0,none⟩),.pointer (some ⟨bi,0,none⟩)]) en81plc ?_;obtain ⟨A,c,rfl,hc1,hc2,hg⟩:=hv.slice;rw [List.length_map] at *;have hll:=zItems_length l;replace hbl:=gcell_mono hGi hbl;replace hbi:=gcell_mono hGi hbi;refine enterL (N:=55) (T:=[(0,_),(1,_),(2,_)]) Tryz.func81 rfl Tryz.ntmps81 rfl rfl hO ?_;intro a H;refine c_seqR (fun _ K1=>?_);refine s_box (cs:=[fv]) H wn rfl hfv rfl ?_;clear H;intro b3 a w hb3 H;refine K1 _ _ ?_;clear K1;refine kP H (SR fun _ K2=>Ra rfl (Kz K2 (SR fun _ K3=>Rg ty22run rfl (by assumption) ?_)));clear H K2;intro a H;refine kH H (Rl un22run rfl (Rm rfl (Kz K3 (SB ?_))));clear H K3;intro a H;skip;refine c_loopD (ι:=Nat × Int × Nat × OL × GH × List Nat) (Tc:=[(2,_),(3,_),(12,_),(13,_)]) (Lc:=[(_,_)]) (fun (gh:Nat × Int × Nat × OL × GH × List Nat)=>mkD gh.2.2.2.2.2) (fun (gh:Nat × Int × Nat × OL × GH × List Nat)=>[(4,vi gh.2.1),(14,vi gh.1)]) (fun (gh:Nat × Int × Nat × OL × GH × List Nat)=>[]++(mkL gh.2.2.2.2.2++gh.2.2.2.1)) (fun (gh:Nat × Int × Nat × OL × GH × List Nat)=>gh.2.2.2.2.1) (fun (gh:Nat × Int × Nat × OL × GH × List Nat)=>gh.1≤l.length∧(∀ b o,G1 b=some o→gh.2.2.2.2.1 b=some o)∧Now ((pItems id 0 l).map plP) plP J (pItems id 0 l).length gh.2.2.1 (pItems id gh.2.1 (l.drop gh.1)) gh.2.2.2.2.1 gh.2.2.2.1∧0≤gh.2.1∧gh.2.1+zItems (l.drop gh.1)≤n) (fun (gh:Nat × Int × Nat × OL × GH × List Nat)=>l.length - gh.1) ((0,0,0,L,G1,[])) (by exact (H).sub ⟨rfl,rfl,rfl,rfl,rfl,rfl,trivial⟩) ?_ ?_
 ·exact ⟨by omega,fun _ _ h=>h,⟨hJ,fun i a h=>by rw [Nat.zero_add,List.getElem?_map];rw [List.drop_zero] at h;rw [h];rfl,by simp⟩,Int.le_refl _,by simp;omega⟩
 clear H;intro gh a w hI H;obtain ⟨k,at_,j1,Lt,g,ds⟩:=gh;dsimp only at hI H;obtain ⟨hk,hgm,hnow,hat0,hat⟩:=hI;dsimp only [List.cons_append,List.nil_append,List.append_nil] at H;refine kP H (SR fun _ K4=>Rc rfl (Kz K4 (SQ fun _ K5=>?_)));clear H K4;intro a H;refine c_cond H rfl ?_ ?_
 ·intro h15
  try have p15:=dT h15
  have hk2:k < l.length:=by omega
  obtain ⟨b,o,pA,pn,pc,dA,dn,dc,yA,yn,yc,fA,fn,fc,rA,rn,rc,rfl,hrow,hhd,hfl,hrw⟩:=flow_get hk2 hg;have hgm0:∀ b o,G b=some o→g b=some o:=fun b o h=>hgm b o (hGi b o h);replace hrow:=fun j u hj=>gcell_mono hgm0 (hrow j u hj);have hbi2:=gcell_mono hgm hbi;have hsz1:=zItem_eq l[k];have hsz2:=zItems_mem (List.getElem_mem hk2);have hadv:=adv_le l[k];rw [List.drop_eq_getElem_cons hk2] at hnow hat;rw [zItems,List.map_cons,szRs] at hat;rw [pItems] at hnow;refine kP H (Kc K5 (SQ fun _ K6=>SB (SR fun _ K7=>Ri un22run ty85run rfl rfl ?_)));clear H K5;intro a H;refine s_loada ty85run (cs:=[_,_,_,_,_,_,_,_,_,_,_]) H wn rfl rfl (fun j v hj=>H.hp.gcell (hrow j v hj)) rfl ?_;clear H;intro a H;refine s_alloc ty85run H wn rfl ?_;clear H;intro b6 a w hb6 H;refine s_store ty85run 0 (vs:=[_,_,_,_,_,_,_,_,_,_,_]) _ H wn rfl rfl rfl rfl rfl rfl rfl rfl ?_;clear H;intro w H;dsimp only [List.set,setRow] at H;refine K7 _ _ ?_;clear K7;refine kP H (SR fun _ K8=>Rg ty3run rfl (by assumption) ?_);clear H;intro a H;refine kH H (Rm rfl ?_);clear H;intro a H;refine s_build sr45pos [_,_] H wn rfl rfl rfl rfl ?_;clear H;intro a H;refine s_alloc ty45pq H wn rfl ?_;clear H;intro b7 a w hb7 H;refine s_store ty45pq 0 (vs:=[_,_]) _ H wn rfl rfl rfl rfl rfl rfl rfl rfl ?_;clear H;intro w H;dsimp only [List.set,setRow] at H;refine K8 _ _ ?_;clear K8;refine kP H (SR fun _ K9=>Rm rfl (Rd rfl (Ra rfl (Kz K9 (SR fun _ K10=>Rf fd85_0run rfl (Ro ty3run 1 rfl rfl (Kz K10 (SB (SR fun _ K11=>Rc rfl (Ra rfl (Kz K11 ?_)))))))))));clear H K9 K10 K11;intro a H;refine c_cond H rfl ?_ ?_
  ·intro h25
   try have p25:=dT h25
   have hcl:=cntS_le l[k].text;refine kP H (SR fun _ K12=>Rf fd85_3run rfl (Ro ty9run 1 rfl rfl ?_));clear H;intro a H;refine s_call en57run H wn rfl (count_spec _ _ H.hp.ro _ (by omega)) rfl ?_;clear H;rintro v30 G30 a w ⟨rfl,rfl⟩ hm30 H;refine kH H (Rm rfl ?_);clear H;intro a H;(iterate 2 refine s_extract H wn rfl rfl rfl ?_;clear H;intro a H);refine kH H (Ra rfl (Ra rfl (Kz K12 (SC (Rm rfl (Rm rfl (Rs rfl (Rd rfl (Ra rfl ?_)))))))));clear H K12;intro a H
   have e:at_+1+((cntS l[k].text:Int) - 1)=at_+(adv l[k]:Int):=by rw [adv,if_pos p25];omega
   rw [e] at H;refine kH H (Kn K6 (SC (Rd rfl (Rm rfl ?_))));clear H K6;intro a H;refine wl_nil ?_;refine loopD_end ((k+1,at_+adv l[k],j1,Lt,g,ds)) (by exact (H.pickT (Pl:=[_,_,_]) (Pl':=[_]) [2] (by decide) rfl).sub ⟨rfl,rfl,rfl,rfl,rfl,rfl,trivial⟩) ?_ ?_
   ·(try dsimp only);exact ⟨by omega,hgm,by rw [pItem_eq,if_neg (by omega),List.nil_append] at hnow;exact hnow,by omega,by show at_+(adv l[k]:Int)+(szRs ((l.drop (k+1)).map ItemD.dat):Nat)≤n;omega⟩
   first|omega|(dsimp only;omega)
  intro h25
  try have p25:=dF h25
  have e:at_+1=at_+(adv l[k]:Int):=by rw [adv,if_neg p25];rfl
  rw [e] at H;refine kP H (SQ fun _ K13=>SR fun _ K14=>Rc rfl (Ra rfl (Kz K14 ?_)));clear H K14;intro a H;refine c_cond H rfl ?_ ?_
  ·intro h37
   try have p37:=dT h37
   have h67:l[k].kind=6∨l[k].kind=7:=by first|exact .inl p37|exact .inr p37
   rw [pItem_eq,if_pos h67] at hnow;refine c_skip ?_;refine K13 _ _ ?_;clear K13;refine c_cond_t H rfl h37 ?_;refine kP H (SQ fun _ K15=>SR fun _ K16=>Ro ty159plc 2 rfl rfl ?_);clear H;intro a H;refine s_loada ty45pq (cs:=[_,_]) H wn rfl rfl (H.hp.ocells 0 rfl rfl) rfl ?_;clear H;intro a H;refine s_loada ty85run (cs:=[_,_,_,_,_,_,_,_,_,_,_]) H wn rfl rfl (H.hp.ocells 1 rfl rfl) rfl ?_;clear H;intro a H;refine s_callv (Li:=[_,_,_]++mkL ds) (L:=Lt) (St.un (A:=[_,_,_]) H) wn rfl rfl (hcb j1 _ _ _ _ ⟨_,hnow.head,_,rfl,RepRow.mkItem (hhd.mono hgm0) (hfl.mono hgm0) (hrw.mono hgm0)⟩ hgm hnow.now (Hp.owns (Li:=[_,_,_]++mkL ds) (St.un (A:=[_,_,_]) H).hp)) rfl ?_;clear H;rintro v43 G43 Lt43 a w ⟨b43,rfl,hb1,hb2⟩ hm43 H
   simp only [List.append_assoc,List.cons_append,List.nil_append] at H
   refine kH H (Rn rfl (Kz K16 ?_));clear H K16;intro a H;refine c_cond H rfl ?_ ?_
   ·intro h44
    try have p44:=dT h44
    refine c_ret ?_;refine (leaveMs (Lh:=[_,_,_]) _ H ?_).1;clear H;intro a w H;dsimp only [List.cons_append,List.nil_append] at H;refine (leave0 H Tryz.results81 ?_).1
    first
     | exact H.hp.retD (L':=Lx) (by repeat (first|exact List.Sublist.refl _|apply List.Sublist.cons)) (.inr hI)
     | exact H.hp.retD (L':=Lt43) (by repeat (first|exact List.Sublist.refl _|apply List.Sublist.cons)) (.inr (hb2 (by simpa using h44)))
     | exact H.hp.retD (L':=Lt) (by repeat (first|exact List.Sublist.refl _|apply List.Sublist.cons)) (.inl (by rw [List.drop_of_length_le (by omega),pItems] at hnow;have:=hnow.len;simp only [List.length_nil,Nat.add_zero] at this;(try rw [List.length_map]);rw [← this];exact hnow.now))
   intro h44
   try have p44:=dF h44
   have hnow2:=hnow.step (hb1 (by simpa using h44));refine c_skip ?_;refine K15 _ _ ?_;clear K15;refine c_seqR (fun _ K17=>?_);refine s_loada ty85run (cs:=[_,_,_,_,_,_,_,_,_,_,_]) H wn rfl rfl (H.hp.ocells 1 rfl rfl) rfl ?_;clear H;intro a H;refine s_call en82plc H wn rfl (within_spec ih hn _ _ H.hp.ro l[k] _ (by omega) (RepRow.mkItem (hhd.mono fun b o h=>hm43 b o (hgm0 b o h)) (hfl.mono fun b o h=>hm43 b o (hgm0 b o h)) (hrw.mono fun b o h=>hm43 b o (hgm0 b o h)))) rfl ?_;clear H;rintro v46 G46 a w ⟨bx,rfl,hit⟩ hm46 H;refine K17 _ _ ?_;clear K17;refine c_block ?_;skip;refine c_rangeJ (ι:=OL) (κ:=OL) (Lc:=[(_,_),(_,_),(_,_)]) (fun (k:Nat) (gh:OL)=>[]) (fun (k:Nat) (gh:OL)=>(mkL ds++gh)) (fun (k:Nat) (gh:OL) (g:GH)=>J (j1+1+k) g gh) (fun (gx:OL)=>Code.ret) (fun (gx:OL)=>[]) (fun (gx:OL)=>(mkL ds++gx)) (fun (gx:OL) (g:GH)=>Jx g gx) (Lt43) (by exact H) rfl en111plc (hit) (fun _ _ h=>h) rfl (fun k args g h=>by obtain ⟨_,_,rfl,_⟩:=pl_at h;rfl) (fun k i G G' hm h=>hJm _ _ _ _ hm h) (fun x G G' hm h=>hJx _ _ _ hm h) (hJm _ _ _ _ hm46 hnow2.now) ?_ ?_ ?_
   ·clear H;intro l15 rdy bsy bk k args gh G15 w15 F15 B15 a hk15 hm15 hI hbeg15 hnext15 hstop15 H;obtain ⟨Lt1,hgh⟩:∃ x,x=gh:=⟨_,rfl⟩;subst hgh;obtain ⟨hk8,cs8,rfl,hrep8⟩:=pl_at hk15;obtain ⟨aA,an,ac,bA,bn,bc,dA8,dn8,dc8,eA8,en8,ec8,iA8,in8,ic8,rfl,-⟩:=hrep8.item;dsimp only [asg,List.cons_append,List.nil_append] at H;refine c_seqR (fun _ K18=>?_);refine s_alloc ty45pq H wn rfl ?_;clear H;intro b10 a w hb10 H;refine s_store ty45pq 0 (vs:=[_,_]) _ H wn rfl rfl rfl rfl rfl rfl rfl rfl ?_;clear H;intro w H;dsimp only [List.set,setRow] at H;refine K18 _ _ ?_;clear K18;refine c_region ?_;refine s_alloc ty85run H wn rfl ?_;clear H;intro b11 a w hb11 H;refine s_store ty85run 0 (vs:=[_,_,_,_,_,_,_,_,_,_,_]) _ H wn rfl rfl rfl rfl rfl rfl rfl rfl ?_;clear H;intro w H;dsimp only [List.set,setRow] at H;refine wl_nil ?_;refine hbeg15 _ _ _ _ _ _ (by exact H.pickT (Pl:=[_,_,_,_,_,_]) (Pl':=[_,_,_,_,_,_]) [2,0,1,3,4,5] (by decide) rfl) ?_;clear H;intro w H;refine kP H (SB (SR fun _ K19=>Ro ty159plc 5 rfl rfl ?_));clear H;intro a H;refine s_loada ty45pq (cs:=[_,_]) H wn rfl rfl (H.hp.ocells 2 rfl rfl) rfl ?_;clear H;intro a H;refine s_loada ty85run (cs:=[_,_,_,_,_,_,_,_,_,_,_]) H wn rfl rfl (H.hp.ocells 1 rfl rfl) rfl ?_;clear H;intro a H;refine s_callv (Li:=([_,_,_,_,_,_]++bk)++mkL ds) (L:=Lt1) (St.un (A:=[_,_,_,_,_,_]++bk) (St.un (A:=[_,_,_,_,_,_]) H)) wn rfl rfl (hcb (j1+1+k) _ _ _ _ ⟨_,hnow2.part k _ (List.getElem?_eq_getElem hk8),_,rfl,hrep8⟩ (fun b o h=>hm15 b o (hm46 b o (hm43 b o (hgm b o h)))) hI (Hp.owns (Li:=([_,_,_,_,_,_]++bk)++mkL ds) (St.un (A:=[_,_,_,_,_,_]++bk) (St.un (A:=[_,_,_,_,_,_]) H)).hp)) rfl ?_;clear H;rintro v52 G52 Lt52 a w ⟨b52,rfl,hb3,hb4⟩ hm52 H
    simp only [List.append_assoc,List.cons_append,List.nil_append] at H
    refine kH H (Rn rfl (Kz K19 ?_));clear H K19;intro a H;refine c_cond H rfl ?_ ?_
    ·intro h53
     try have p53:=dT h53
     refine c_ret ?_;refine (hstop15 (Lt52) _ _ _ _ _ (by exact H.pickT (Pl:=[_,_,_,_,_,_]) (Pl':=[_,_,_,_]) [0,3,4,5] (by decide) rfl) ?_).1 rfl;exact hb4 (by simpa using h53)
    intro h53
    try have p53:=dF h53
    refine c_skip ?_;refine hnext15 (Lt52) _ _ _ _ _ (by exact H.pickT (Pl:=[_,_,_,_,_,_]) (Pl':=[_,_,_,_]) [0,3,4,5] (by decide) rfl) ?_;exact hb3 (by simpa using h53)
   ·clear H;intro Dk15 gh Gd15 a w hm15 hI H;obtain ⟨Lt1,hgh⟩:∃ x,x=gh:=⟨_,rfl⟩;subst hgh;dsimp only [List.cons_append,List.nil_append,List.append_nil] at H;refine K6 _ _ ?_;clear K6;refine kP H (SC (Rd rfl (Rm rfl ?_)));clear H;intro a H;refine wl_nil ?_;refine loopD_end ((k+1,at_+adv l[k],j1+1+(pCells (innerC l[k])).length,Lt1,Gd15,Dk15 :: ds)) (by exact (H.pickT (Pl:=[_,_,_,_]) (Pl':=[_,_]) [3,0] (by decide) rfl).sub ⟨rfl,rfl,rfl,rfl,rfl,rfl,trivial⟩) ?_ ?_
    ·(try dsimp only);exact ⟨by omega,fun b o h=>hm15 b o (hm46 b o (hm43 b o (hgm b o h))),hnow2.jump (by simpa using hI),by omega,by show at_+(adv l[k]:Int)+(szRs ((l.drop (k+1)).map ItemD.dat):Nat)≤n;omega⟩
    first|omega|(dsimp only;omega)
   clear H;intro Dk15 gx Gd15 a w hm15 hI H;obtain ⟨Lx,hgh⟩:∃ x,x=gx:=⟨_,rfl⟩;subst hgh;dsimp only [List.cons_append,List.nil_append,List.append_nil] at H;refine c_ret ?_;refine (leaveM H 0 rfl ?_).1;clear H;intro a w H;dsimp only [List.eraseIdx_cons_succ,List.eraseIdx_cons_zero] at H;refine (leaveMs (Lh:=[_,_,_]) _ H ?_).1;clear H;intro a w H;dsimp only [List.cons_append,List.nil_append] at H;refine (leave0 H Tryz.results81 ?_).1
   first
    | exact H.hp.retD (L':=Lx) (by repeat (first|exact List.Sublist.refl _|apply List.Sublist.cons)) (.inr hI)
    | exact H.hp.retD (L':=Lt43) (by repeat (first|exact List.Sublist.refl _|apply List.Sublist.cons)) (.inr (hb2 (by simpa using h44)))
    | exact H.hp.retD (L':=Lt) (by repeat (first|exact List.Sublist.refl _|apply List.Sublist.cons)) (.inl (by rw [List.drop_of_length_le (by omega),pItems] at hnow;have:=hnow.len;simp only [List.length_nil,Nat.add_zero] at this;(try rw [List.length_map]);rw [← this];exact hnow.now))
  intro h37
  try have p37:=dF h37
  first
   | (have hn6:¬ l[k].kind=6:=p37)
   | (have hn7:¬ l[k].kind=7:=p37)
  refine kP H (SC (Rc rfl (Ra rfl (Kn K13 ?_))));clear H K13;intro a H;refine c_cond H rfl ?_ ?_
  ·intro h37
   try have p37:=dT h37
   have h67:l[k].kind=6∨l[k].kind=7:=by first|exact .inl p37|exact .inr p37
   rw [pItem_eq,if_pos h67] at hnow;refine kP H (SQ fun _ K20=>SR fun _ K21=>Ro ty159plc 2 rfl rfl ?_);clear H;intro a H;refine s_loada ty45pq (cs:=[_,_]) H wn rfl rfl (H.hp.ocells 0 rfl rfl) rfl ?_;clear H;intro a H;refine s_loada ty85run (cs:=[_,_,_,_,_,_,_,_,_,_,_]) H wn rfl rfl (H.hp.ocells 1 rfl rfl) rfl ?_;clear H;intro a H;refine s_callv (Li:=[_,_,_]++mkL ds) (L:=Lt) (St.un (A:=[_,_,_]) H) wn rfl rfl (hcb j1 _ _ _ _ ⟨_,hnow.head,_,rfl,RepRow.mkItem (hhd.mono hgm0) (hfl.mono hgm0) (hrw.mono hgm0)⟩ hgm hnow.now (Hp.owns (Li:=[_,_,_]++mkL ds) (St.un (A:=[_,_,_]) H).hp)) rfl ?_;clear H;rintro v43 G43 Lt43 a w ⟨b43,rfl,hb1,hb2⟩ hm43 H
   simp only [List.append_assoc,List.cons_append,List.nil_append] at H
   refine kH H (Rn rfl (Kz K21 ?_));clear H K21;intro a H;refine c_cond H rfl ?_ ?_
   ·intro h44
    try have p44:=dT h44
    refine c_ret ?_;refine (leaveMs (Lh:=[_,_,_]) _ H ?_).1;clear H;intro a w H;dsimp only [List.cons_append,List.nil_append] at H;refine (leave0 H Tryz.results81 ?_).1
    first
     | exact H.hp.retD (L':=Lx) (by repeat (first|exact List.Sublist.refl _|apply List.Sublist.cons)) (.inr hI)
     | exact H.hp.retD (L':=Lt43) (by repeat (first|exact List.Sublist.refl _|apply List.Sublist.cons)) (.inr (hb2 (by simpa using h44)))
     | exact H.hp.retD (L':=Lt) (by repeat (first|exact List.Sublist.refl _|apply List.Sublist.cons)) (.inl (by rw [List.drop_of_length_le (by omega),pItems] at hnow;have:=hnow.len;simp only [List.length_nil,Nat.add_zero] at this;(try rw [List.length_map]);rw [← this];exact hnow.now))
   intro h44
   try have p44:=dF h44
   have hnow2:=hnow.step (hb1 (by simpa using h44));refine c_skip ?_;refine K20 _ _ ?_;clear K20;refine c_seqR (fun _ K22=>?_);refine s_loada ty85run (cs:=[_,_,_,_,_,_,_,_,_,_,_]) H wn rfl rfl (H.hp.ocells 1 rfl rfl) rfl ?_;clear H;intro a H;refine s_call en82plc H wn rfl (within_spec ih hn _ _ H.hp.ro l[k] _ (by omega) (RepRow.mkItem (hhd.mono fun b o h=>hm43 b o (hgm0 b o h)) (hfl.mono fun b o h=>hm43 b o (hgm0 b o h)) (hrw.mono fun b o h=>hm43 b o (hgm0 b o h)))) rfl ?_;clear H;rintro v46 G46 a w ⟨bx,rfl,hit⟩ hm46 H;refine K22 _ _ ?_;clear K22;refine c_block ?_;skip;refine c_rangeJ (ι:=OL) (κ:=OL) (Lc:=[(_,_),(_,_),(_,_)]) (fun (k:Nat) (gh:OL)=>[]) (fun (k:Nat) (gh:OL)=>(mkL ds++gh)) (fun (k:Nat) (gh:OL) (g:GH)=>J (j1+1+k) g gh) (fun (gx:OL)=>Code.ret) (fun (gx:OL)=>[]) (fun (gx:OL)=>(mkL ds++gx)) (fun (gx:OL) (g:GH)=>Jx g gx) (Lt43) (by exact H) rfl en111plc (hit) (fun _ _ h=>h) rfl (fun k args g h=>by obtain ⟨_,_,rfl,_⟩:=pl_at h;rfl) (fun k i G G' hm h=>hJm _ _ _ _ hm h) (fun x G G' hm h=>hJx _ _ _ hm h) (hJm _ _ _ _ hm46 hnow2.now) ?_ ?_ ?_
   ·clear H;intro l15 rdy bsy bk k args gh G15 w15 F15 B15 a hk15 hm15 hI hbeg15 hnext15 hstop15 H;obtain ⟨Lt1,hgh⟩:∃ x,x=gh:=⟨_,rfl⟩;subst hgh;obtain ⟨hk8,cs8,rfl,hrep8⟩:=pl_at hk15;obtain ⟨aA,an,ac,bA,bn,bc,dA8,dn8,dc8,eA8,en8,ec8,iA8,in8,ic8,rfl,-⟩:=hrep8.item;dsimp only [asg,List.cons_append,List.nil_append] at H;refine c_seqR (fun _ K23=>?_);refine s_alloc ty45pq H wn rfl ?_;clear H;intro b10 a w hb10 H;refine s_store ty45pq 0 (vs:=[_,_]) _ H wn rfl rfl rfl rfl rfl rfl rfl rfl ?_;clear H;intro w H;dsimp only [List.set,setRow] at H;refine K23 _ _ ?_;clear K23;refine c_region ?_;refine s_alloc ty85run H wn rfl ?_;clear H;intro b11 a w hb11 H;refine s_store ty85run 0 (vs:=[_,_,_,_,_,_,_,_,_,_,_]) _ H wn rfl rfl rfl rfl rfl rfl rfl rfl ?_;clear H;intro w H;dsimp only [List.set,setRow] at H;refine wl_nil ?_;refine hbeg15 _ _ _ _ _ _ (by exact H.pickT (Pl:=[_,_,_,_,_,_]) (Pl':=[_,_,_,_,_,_]) [2,0,1,3,4,5] (by decide) rfl) ?_;clear H;intro w H;refine kP H (SB (SR fun _ K24=>Ro ty159plc 5 rfl rfl ?_));clear H;intro a H;refine s_loada ty45pq (cs:=[_,_]) H wn rfl rfl (H.hp.ocells 2 rfl rfl) rfl ?_;clear H;intro a H;refine s_loada ty85run (cs:=[_,_,_,_,_,_,_,_,_,_,_]) H wn rfl rfl (H.hp.ocells 1 rfl rfl) rfl ?_;clear H;intro a H;refine s_callv (Li:=([_,_,_,_,_,_]++bk)++mkL ds) (L:=Lt1) (St.un (A:=[_,_,_,_,_,_]++bk) (St.un (A:=[_,_,_,_,_,_]) H)) wn rfl rfl (hcb (j1+1+k) _ _ _ _ ⟨_,hnow2.part k _ (List.getElem?_eq_getElem hk8),_,rfl,hrep8⟩ (fun b o h=>hm15 b o (hm46 b o (hm43 b o (hgm b o h)))) hI (Hp.owns (Li:=([_,_,_,_,_,_]++bk)++mkL ds) (St.un (A:=[_,_,_,_,_,_]++bk) (St.un (A:=[_,_,_,_,_,_]) H)).hp)) rfl ?_;clear H;rintro v52 G52 Lt52 a w ⟨b52,rfl,hb3,hb4⟩ hm52 H
    simp only [List.append_assoc,List.cons_append,List.nil_append] at H
    refine kH H (Rn rfl (Kz K24 ?_));clear H K24;intro a H;refine c_cond H rfl ?_ ?_
    ·intro h53
     try have p53:=dT h53
     refine c_ret ?_;refine (hstop15 (Lt52) _ _ _ _ _ (by exact H.pickT (Pl:=[_,_,_,_,_,_]) (Pl':=[_,_,_,_]) [0,3,4,5] (by decide) rfl) ?_).1 rfl;exact hb4 (by simpa using h53)
    intro h53
    try have p53:=dF h53
    refine c_skip ?_;refine hnext15 (Lt52) _ _ _ _ _ (by exact H.pickT (Pl:=[_,_,_,_,_,_]) (Pl':=[_,_,_,_]) [0,3,4,5] (by decide) rfl) ?_;exact hb3 (by simpa using h53)
   ·clear H;intro Dk15 gh Gd15 a w hm15 hI H;obtain ⟨Lt1,hgh⟩:∃ x,x=gh:=⟨_,rfl⟩;subst hgh;dsimp only [List.cons_append,List.nil_append,List.append_nil] at H;refine K6 _ _ ?_;clear K6;refine kP H (SC (Rd rfl (Rm rfl ?_)));clear H;intro a H;refine wl_nil ?_;refine loopD_end ((k+1,at_+adv l[k],j1+1+(pCells (innerC l[k])).length,Lt1,Gd15,Dk15 :: ds)) (by exact (H.pickT (Pl:=[_,_,_,_]) (Pl':=[_,_]) [3,0] (by decide) rfl).sub ⟨rfl,rfl,rfl,rfl,rfl,rfl,trivial⟩) ?_ ?_
    ·(try dsimp only);exact ⟨by omega,fun b o h=>hm15 b o (hm46 b o (hm43 b o (hgm b o h))),hnow2.jump (by simpa using hI),by omega,by show at_+(adv l[k]:Int)+(szRs ((l.drop (k+1)).map ItemD.dat):Nat)≤n;omega⟩
    first|omega|(dsimp only;omega)
   clear H;intro Dk15 gx Gd15 a w hm15 hI H;obtain ⟨Lx,hgh⟩:∃ x,x=gx:=⟨_,rfl⟩;subst hgh;dsimp only [List.cons_append,List.nil_append,List.append_nil] at H;refine c_ret ?_;refine (leaveM H 0 rfl ?_).1;clear H;intro a w H;dsimp only [List.eraseIdx_cons_succ,List.eraseIdx_cons_zero] at H;refine (leaveMs (Lh:=[_,_,_]) _ H ?_).1;clear H;intro a w H;dsimp only [List.cons_append,List.nil_append] at H;refine (leave0 H Tryz.results81 ?_).1
   first
    | exact H.hp.retD (L':=Lx) (by repeat (first|exact List.Sublist.refl _|apply List.Sublist.cons)) (.inr hI)
    | exact H.hp.retD (L':=Lt43) (by repeat (first|exact List.Sublist.refl _|apply List.Sublist.cons)) (.inr (hb2 (by simpa using h44)))
    | exact H.hp.retD (L':=Lt) (by repeat (first|exact List.Sublist.refl _|apply List.Sublist.cons)) (.inl (by rw [List.drop_of_length_le (by omega),pItems] at hnow;have:=hnow.len;simp only [List.length_nil,Nat.add_zero] at this;(try rw [List.length_map]);rw [← this];exact hnow.now))
  intro h37
  try have p37:=dF h37
  first
   | (have hn6:¬ l[k].kind=6:=p37)
   | (have hn7:¬ l[k].kind=7:=p37)
  refine kP H (Kc K6 (SC (Rd rfl (Rm rfl ?_))));clear H K6;intro a H;refine wl_nil ?_;refine loopD_end ((k+1,at_+adv l[k],j1,Lt,g,ds)) (by exact (H.pickT (Pl:=[_,_,_]) (Pl':=[_]) [2] (by decide) rfl).sub ⟨rfl,rfl,rfl,rfl,rfl,rfl,trivial⟩) ?_ ?_
  ·(try dsimp only);exact ⟨by omega,hgm,by rw [pItem_eq,if_neg (by omega),List.nil_append] at hnow;exact hnow,by omega,by show at_+(adv l[k]:Int)+(szRs ((l.drop (k+1)).map ItemD.dat):Nat)≤n;omega⟩
  first|omega|(dsimp only;omega)
 intro h15
 try have p15:=dF h15
 refine c_exit ?_;refine (leaveMs (Lh:=[_]) _ H ?_).2;clear H;intro a w H;dsimp only [List.cons_append,List.nil_append] at H;refine (leave0 H Tryz.results81 ?_).1
 first
  | exact H.hp.retD (L':=Lx) (by repeat (first|exact List.Sublist.refl _|apply List.Sublist.cons)) (.inr hI)
  | exact H.hp.retD (L':=Lt43) (by repeat (first|exact List.Sublist.refl _|apply List.Sublist.cons)) (.inr (hb2 (by simpa using h44)))
  | exact H.hp.retD (L':=Lt) (by repeat (first|exact List.Sublist.refl _|apply List.Sublist.cons)) (.inl (by rw [List.drop_of_length_le (by omega),pItems] at hnow;have:=hnow.len;simp only [List.length_nil,Nat.add_zero] at this;(try rw [List.length_map]);rw [← this];exact hnow.now))
theorem placed_ok:∀ n:Nat,n≤4294967297→PlacedOk n
 | 0,_=>fun _ _ _ _ _ _ h=>absurd h (by omega)
 | n+1,hn=>placed_step (placed_ok n (by omega)) (by omega)
theorem placed_spec (G:GH) (w0:World) (hG:Hold G w0) (l:List ItemD) (id:Int) (v:Value) (hz:zItems l≤4294967296) (hv:RepV G (.sl 11 (l.map ItemD.dat)) v) :
  Calls Tryz.prog 52 #[vi id,v] w0 (Ret w0 G fun u G'=>∃ bl bi,u=.func (.func 81) #[] #[.pointer (some ⟨bl,0,none⟩),.pointer (some ⟨bi,0,none⟩)]∧Iter Tryz.prog G' u ((pItems id 0 l).map plP)) :=
 placed_spec' (placed_ok 4294967297 (by omega)) G w0 hG l id v (by omega) hv
end
section
open Go.RowKit
theorem en83plr:∀ args w,(callFunc 83 args).run Tryz.prog w=.ok (.enter 83 args) w:=enters Tryz.func83 rfl (by kernel_rfl)
theorem en84plr:∀ args w,(callFunc 84 args).run Tryz.prog w=.ok (.enter 84 args) w:=enters Tryz.func84 rfl (by kernel_rfl)
theorem en55plr:∀ args w,(callFunc 55 args).run Tryz.prog w=.ok (.enter 55 args) w:=enters Tryz.func55 rfl (by kernel_rfl)
theorem en53plr:∀ args w,(callFunc 53 args).run Tryz.prog w=.ok (.enter 53 args) w:=enters Tryz.func53 rfl (by kernel_rfl)
theorem en56plr:∀ args w,(callFunc 56 args).run Tryz.prog w=.ok (.enter 56 args) w:=enters Tryz.func56 rfl (by kernel_rfl)
theorem en54plr:∀ args w,(callFunc 54 args).run Tryz.prog w=.ok (.enter 54 args) w:=enters Tryz.func54 rfl (by kernel_rfl)
/-- What a test of elements owes. -/
def Tester (fv:Value) (G:GH) (d:List Dat) (b:Bool):Prop:=∀ (G1:GH) (w1:World) (cs:List Value),(∀ b o,G b=some o→G1 b=some o)→Hold G1 w1→RepRow G1 d cs →
 CallV Tryz.prog fv [.agg cs.toArray] w1 (Ret w1 G1 fun u G'=>u=.bool b)
def ixI (o:Option Nat):Int:=match o with|some i=>i|none=>-1
theorem indexFuncRow (G:GH) (w0:World) (hG:Hold G w0) (l:List RowD) (p:RowD→Bool) (v fv:Value) (hv:RepV G (.sl 6 (l.map RowD.dat)) v) (hf:∀ x∈l,Tester fv G x.dat (p x)) :
  Calls Tryz.prog 83 #[v,fv] w0 (Ret w0 G fun u G'=>u=vi (ixI (l.findIdx? p))):=by
 obtain ⟨A,c,rfl,hc1,hc2,hg⟩:=hv.slice;have hml:maxLen=9223372036854775807:=rfl;rw [List.length_map] at *;refine eN [(0,_),(1,_)] Tryz.func83 rfl Tryz.ntmps83 rfl rfl hG ?_;intro a H;refine kP H (SR fun _ K1=>Ra rfl (Kz K1 (SQ fun _ K2=>SR fun _ K3=>Rm rfl (Rl un83run rfl (Rm rfl (Kz K3 (SB ?_)))))));clear H K1 K3;intro a H;skip;refine c_loopS (ι:=Nat × GH) (Tc:=[(0,_),(1,_),(7,_)]) (Lc:=[]) (fun (gh:Nat × GH)=>[(8,vi gh.1)]) (fun (gh:Nat × GH)=>[]) (fun (gh:Nat × GH)=>gh.2) (fun (gh:Nat × GH)=>gh.1≤l.length∧(l.take gh.1).findIdx? p=none∧(∀ b o,G b=some o→gh.2 b=some o)) (fun (gh:Nat × GH)=>l.length - gh.1) ((0,G)) (by exact (H).sub ⟨rfl,rfl,rfl,rfl,trivial⟩) ?_ ?_
 ·exact ⟨by omega,rfl,fun _ _ h=>h⟩
 clear H;intro gh a w hI H;obtain ⟨k,g⟩:=gh;dsimp only at hI H;obtain ⟨hk,hno,hgm⟩:=hI;dsimp only [List.cons_append,List.nil_append,List.append_nil] at H;refine kP H (SR fun _ K4=>Rc rfl (Kz K4 (SQ fun _ K5=>?_)));clear H K4;intro a H;refine c_cond H rfl ?_ ?_
 ·intro h9
  try have p9:=dT h9
  have hk2:k < l.length:=by omega
  obtain ⟨b,o,cs,rfl,hcl,hrow,hrep⟩:=hg k l[k].dat (by simp [hk2]);obtain ⟨pA,pn,pc,dA,dn,dc,yA,yn,yc,fA,fn,fc,rfl,-⟩:=hrep.row;replace hrow:=fun j u hj=>gcell_mono hgm (hrow j u hj);refine kP H (Kc K5 (SQ fun _ K6=>SB (SR fun _ K7=>Rm rfl (Ra rfl (Kz K7 (SR fun _ K8=>Rm rfl (Rm rfl (Rm rfl (Ri un83run ty88run rfl rfl ?_)))))))));clear H K5 K7;intro a H;refine s_loada ty88run (cs:=[_,_,_,_,_,_]) H wn rfl rfl (fun j v hj=>H.hp.gcell (hrow j v hj)) rfl ?_;clear H;intro a H;refine s_callv0 H wn rfl rfl (hf _ (List.getElem_mem hk2) _ _ _ hgm H.hp.ro (hrep.mono hgm)) rfl ?_;clear H;rintro v16 G16 a w rfl hm16 H;refine K8 _ _ ?_;clear K8;refine c_cond H rfl ?_ ?_
  ·intro h16
   try have p16:=dT h16
   refine kP H (SR fun _ K9=>Rm rfl (Ra rfl (Kz K9 ?_)));clear H K9;intro a H;refine lr H Tryz.results83 rfl ?_
   first
    | exact H.hp.ret (by rw [idx_stop hk2 hno h16];rfl)
    | exact H.hp.ret (by rw [show l.take k=l from List.take_of_length_le (by omega)] at hno;rw [hno];rfl)
  intro h16
  try have p16:=dF h16
  refine kP H (Kc K6 (SC (Rd rfl (Rm rfl ?_))));clear H K6;intro a H;refine wl_nil ?_;refine loop_end ((k+1,G16)) (by exact (H).sub ⟨rfl,rfl,rfl,rfl,trivial⟩) ?_ ?_
  ·(try dsimp only);exact ⟨by omega,idx_next hk2 hno h16,fun b o h=>hm16 b o (hgm b o h)⟩
  first|omega|(dsimp only;omega)
 intro h9
 try have p9:=dF h9
 refine c_exit ?_;refine K2 _ _ ?_;clear K2;refine kP H (SR fun _ K10=>Ra rfl (Kz K10 ?_));clear H K10;intro a H;refine lr H Tryz.results83 rfl ?_
 first
  | exact H.hp.ret (by rw [idx_stop hk2 hno h16];rfl)
  | exact H.hp.ret (by rw [show l.take k=l from List.take_of_length_le (by omega)] at hno;rw [hno];rfl)
theorem containsFuncRow (G:GH) (w0:World) (hG:Hold G w0) (l:List RowD) (p:RowD→Bool) (v fv:Value) (hv:RepV G (.sl 6 (l.map RowD.dat)) v) (hf:∀ x∈l,Tester fv G x.dat (p x)) :
  Calls Tryz.prog 53 #[v,fv] w0 (Ret w0 G fun u G'=>u=.bool (l.findIdx? p).isSome):=by
 refine eN [(0,_),(1,_)] Tryz.func53 rfl Tryz.ntmps53 rfl rfl hG ?_;intro a H;refine kP H (SR fun _ K1=>Ra rfl (Kz K1 (SR fun _ K2=>Rm rfl (Rm rfl ?_))));clear H K1;intro a H;refine s_call en83plr H wn rfl (indexFuncRow _ _ H.hp.ro l p _ _ hv hf) rfl ?_;clear H;rintro v7 G7 a w rfl hm7 H;refine kH H (Rc rfl (Ra rfl (Kz K2 ?_)));clear H K2;intro a H;refine lr H Tryz.results53 rfl ?_
 exact H.hp.ret (by cases h:l.findIdx? p <;> simp [ixI])
theorem indexFuncCell (G:GH) (w0:World) (hG:Hold G w0) (l:List CellD) (p:CellD→Bool) (v fv:Value) (hv:RepV G (.sl 7 (l.map CellD.dat)) v) (hf:∀ x∈l,Tester fv G x.dat (p x)) :
  Calls Tryz.prog 84 #[v,fv] w0 (Ret w0 G fun u G'=>u=vi (ixI (l.findIdx? p))):=by
 obtain ⟨A,c,rfl,hc1,hc2,hg⟩:=hv.slice;have hml:maxLen=9223372036854775807:=rfl;rw [List.length_map] at *;refine eN [(0,_),(1,_)] Tryz.func84 rfl Tryz.ntmps84 rfl rfl hG ?_;intro a H;refine kP H (SR fun _ K1=>Ra rfl (Kz K1 (SQ fun _ K2=>SR fun _ K3=>Rm rfl (Rl un86run rfl (Rm rfl (Kz K3 (SB ?_)))))));clear H K1 K3;intro a H;skip;refine c_loopS (ι:=Nat × GH) (Tc:=[(0,_),(1,_),(7,_)]) (Lc:=[]) (fun (gh:Nat × GH)=>[(8,vi gh.1)]) (fun (gh:Nat × GH)=>[]) (fun (gh:Nat × GH)=>gh.2) (fun (gh:Nat × GH)=>gh.1≤l.length∧(l.take gh.1).findIdx? p=none∧(∀ b o,G b=some o→gh.2 b=some o)) (fun (gh:Nat × GH)=>l.length - gh.1) ((0,G)) (by exact (H).sub ⟨rfl,rfl,rfl,rfl,trivial⟩) ?_ ?_
 ·exact ⟨by omega,rfl,fun _ _ h=>h⟩
 clear H;intro gh a w hI H;obtain ⟨k,g⟩:=gh;dsimp only at hI H;obtain ⟨hk,hno,hgm⟩:=hI;dsimp only [List.cons_append,List.nil_append,List.append_nil] at H;refine kP H (SR fun _ K4=>Rc rfl (Kz K4 (SQ fun _ K5=>?_)));clear H K4;intro a H;refine c_cond H rfl ?_ ?_
 ·intro h9
  try have p9:=dT h9
  have hk2:k < l.length:=by omega
  obtain ⟨b,o,cs,rfl,hcl,hrow,hrep⟩:=hg k l[k].dat (by simp [hk2]);obtain ⟨pA,pn,pc,dA,dn,dc,yA,yn,yc,fA,fn,fc,rfl,-⟩:=hrep.cell;replace hrow:=fun j u hj=>gcell_mono hgm (hrow j u hj);refine kP H (Kc K5 (SQ fun _ K6=>SB (SR fun _ K7=>Rm rfl (Ra rfl (Kz K7 (SR fun _ K8=>Rm rfl (Rm rfl (Rm rfl (Ri un86run ty90run rfl rfl ?_)))))))));clear H K5 K7;intro a H;refine s_loada ty90run (cs:=[_,_,_,_,_,_,_]) H wn rfl rfl (fun j v hj=>H.hp.gcell (hrow j v hj)) rfl ?_;clear H;intro a H;refine s_callv0 H wn rfl rfl (hf _ (List.getElem_mem hk2) _ _ _ hgm H.hp.ro (hrep.mono hgm)) rfl ?_;clear H;rintro v16 G16 a w rfl hm16 H;refine K8 _ _ ?_;clear K8;refine c_cond H rfl ?_ ?_
  ·intro h16
   try have p16:=dT h16
   refine kP H (SR fun _ K9=>Rm rfl (Ra rfl (Kz K9 ?_)));clear H K9;intro a H;refine lr H Tryz.results84 rfl ?_
   first
    | exact H.hp.ret (by rw [idx_stop hk2 hno h16];rfl)
    | exact H.hp.ret (by rw [show l.take k=l from List.take_of_length_le (by omega)] at hno;rw [hno];rfl)
  intro h16
  try have p16:=dF h16
  refine kP H (Kc K6 (SC (Rd rfl (Rm rfl ?_))));clear H K6;intro a H;refine wl_nil ?_;refine loop_end ((k+1,G16)) (by exact (H).sub ⟨rfl,rfl,rfl,rfl,trivial⟩) ?_ ?_
  ·(try dsimp only);exact ⟨by omega,idx_next hk2 hno h16,fun b o h=>hm16 b o (hgm b o h)⟩
  first|omega|(dsimp only;omega)
 intro h9
 try have p9:=dF h9
 refine c_exit ?_;refine K2 _ _ ?_;clear K2;refine kP H (SR fun _ K10=>Ra rfl (Kz K10 ?_));clear H K10;intro a H;refine lr H Tryz.results84 rfl ?_
 first
  | exact H.hp.ret (by rw [idx_stop hk2 hno h16];rfl)
  | exact H.hp.ret (by rw [show l.take k=l from List.take_of_length_le (by omega)] at hno;rw [hno];rfl)
theorem containsFuncCell (G:GH) (w0:World) (hG:Hold G w0) (l:List CellD) (p:CellD→Bool) (v fv:Value) (hv:RepV G (.sl 7 (l.map CellD.dat)) v) (hf:∀ x∈l,Tester fv G x.dat (p x)) :
  Calls Tryz.prog 55 #[v,fv] w0 (Ret w0 G fun u G'=>u=.bool (l.findIdx? p).isSome):=by
 refine eN [(0,_),(1,_)] Tryz.func55 rfl Tryz.ntmps55 rfl rfl hG ?_;intro a H;refine kP H (SR fun _ K1=>Ra rfl (Kz K1 (SR fun _ K2=>Rm rfl (Rm rfl ?_))));clear H K1;intro a H;refine s_call en84plr H wn rfl (indexFuncCell _ _ H.hp.ro l p _ _ hv hf) rfl ?_;clear H;rintro v7 G7 a w rfl hm7 H;refine kH H (Rc rfl (Ra rfl (Kz K2 ?_)));clear H K2;intro a H;refine lr H Tryz.results55 rfl ?_
 exact H.hp.ret (by cases h:l.findIdx? p <;> simp [ixI])
def inRow (id:Int) (r:RowD):Bool:=(r.cells.findIdx? fun c=>decide (c.id=id)).isSome
def isAt (id:Int) (x:ItemD):Bool:=decide (x.id=id) || (x.rows.findIdx? (inRow id)).isSome
theorem place11 {G:GH} {bi:Nat} {id:Int} (hb:gcell G bi 0=some (vi id)) (c:CellD):Tester (.func (.func 56) #[] #[.pointer (some ⟨bi,0,none⟩)]) G c.dat (decide (c.id=id)):=by
 intro G1 w0 cs hm hG hr;refine callV_func (caps:=[.pointer (some ⟨bi,0,none⟩)]) en56plr ?_;obtain ⟨pA,pn,pc,dA,dn,dc,yA,yn,yc,fA,fn,fc,rfl,-⟩:=hr.cell;replace hb:=gcell_mono hm hb;refine eN [(0,_),(1,_)] Tryz.func56 rfl Tryz.ntmps56 rfl rfl hG ?_;intro a H;refine c_seqR (fun _ K1=>?_);refine s_box (cs:=[_,_,_,_,_,_,_]) H wn rfl rfl rfl ?_;clear H;intro b2 a w hb2 H;refine kH H (Ra rfl (Kz K1 (SR fun _ K2=>Rf fd90_0run rfl (Ro ty3run 0 rfl rfl (Rg ty3run rfl (by assumption) ?_)))));clear H K1;intro a H;refine kH H (Rc rfl (Ra rfl (Kz K2 ?_)));clear H K2;intro a H;refine lr H Tryz.results56 rfl ?_;exact H.hp.ret rfl
theorem place1 {G:GH} {bi:Nat} {id:Int} (hb:gcell G bi 0=some (vi id)) (r:RowD):Tester (.func (.func 54) #[] #[.pointer (some ⟨bi,0,none⟩)]) G r.dat (inRow id r):=by
 intro G1 w0 cs hm hG hr;refine callV_func (caps:=[.pointer (some ⟨bi,0,none⟩)]) en54plr ?_;obtain ⟨pA,pn,pc,dA,dn,dc,yA,yn,yc,fA,fn,fc,rfl,-,hcl⟩:=hr.row;replace hb:=gcell_mono hm hb;refine eN [(0,_),(1,_)] Tryz.func54 rfl Tryz.ntmps54 rfl rfl hG ?_;intro a H;refine c_seqR (fun _ K1=>?_);refine s_box (cs:=[_,_,_,_,_,_]) H wn rfl rfl rfl ?_;clear H;intro b2 a w hb2 H;refine kH H (Ra rfl (Kz K1 (SR fun _ K2=>Rf fd88_1run rfl (Ro ty86run 0 rfl rfl ?_))));clear H K1;intro a H;refine s_makeFunc H wn rfl rfl ?_;clear H;intro a H;refine s_call en55plr H wn rfl (containsFuncCell _ _ H.hp.ro r.cells (fun c=>decide (c.id=id)) _ _ hcl (fun c _=>place11 hb c)) rfl ?_;clear H;rintro v7 G7 a w rfl hm7 H;refine kH H (Ra rfl (Kz K2 ?_));clear H K2;intro a H;refine lr H Tryz.results54 rfl ?_;exact H.hp.ret rfl
/-- Where a flow stands. -/
def placeS (l:List ItemD) (id:Int):Option (Int × Int):=((pItems 0 0 l).find? fun a=>isAt id a.2).map (·.1)
theorem place_spec (G:GH) (w0:World) (hG:Hold G w0) (D:DocV) (l:List ItemD) (id:Int) (hv:RepV G (.sl 11 (l.map ItemD.dat)) (sl3 D.f)) (hz:zItems l≤4294967296) :
  Calls Tryz.prog 34 #[D.val,vi id] w0 (Ret w0 G fun u G'=>u=.tuple #[.agg #[vi ((placeS l id).getD (0,0)).1,vi ((placeS l id).getD (0,0)).2],.bool (placeS l id).isSome]):=by
 refine eN [(0,_),(1,_)] Tryz.func34 rfl Tryz.ntmps34 rfl rfl hG ?_;intro a H;refine c_seqR (fun _ K1=>?_);refine s_box (cs:=[_,_,_,_,_,_,_,_,_,_,_]) H wn rfl rfl rfl ?_;clear H;intro b2 a w hb2 H;refine s_box (cs:=[_]) H wn rfl rfl rfl ?_;clear H;intro b3 a w hb3 H;refine s_alloc ty45pq H wn rfl ?_;clear H;intro b4 a w hb4 H;refine s_alloc ty4doc H wn rfl ?_;clear H;intro b5 a w hb5 H;refine K1 _ _ ?_;clear K1;refine c_seq (fun _ K2=>?_);refine c_seq (fun _ K3=>?_);have H:=H.pickT (Pl:=[_,_,_,_]) (Pl':=[_,_,_,_]) [2,0,1,3] (by decide) rfl;obtain ⟨Ga,hma,hb3,H⟩:=H.giveBox
 have hbi:gcell Ga b3 0=some (vi id):=by unfold gcell;rw [hb3];rfl
 refine kP H (SC (Rf fd38_0pq rfl (Ro ty22run 2 rfl rfl ?_)));clear H;intro a H;refine s_call en52plc H wn rfl (placed_spec _ _ H.hp.ro l 0 _ hz (hv.mono hma)) rfl ?_;clear H;rintro v11 G11 a w ⟨bl,bi,rfl,hit⟩ hm11 H;refine wl_nil ?_;refine K3 _ _ ?_;clear K3;refine c_block ?_;skip;refine c_rangeJ (ι:=Unit) (κ:=Int × Int) (Lc:=[(_,_)]) (fun (k:Nat) (gh:Unit)=>[(b4,.cells #[vi 0,vi 0] 45 (0,0)),(b5,.cells #[.bool false] 4 (0,0))]) (fun (k:Nat) (gh:Unit)=>[]) (fun (k:Nat) (gh:Unit) (g:GH)=>((pItems 0 0 l).take k).find? (fun a=>isAt id a.2)=none) (fun (gx:Int × Int)=>Code.ret) (fun (gx:Int × Int)=>[(b4,.cells #[vi gx.1,vi gx.2] 45 (0,0)),(b5,.cells #[.bool true] 4 (0,0))]) (fun (gx:Int × Int)=>[]) (fun (gx:Int × Int) (g:GH)=>placeS l id=some gx) (()) (by exact H.pickT (Pl:=[_,_,_]) (Pl':=[_,_,_]) [2,1,0] (by decide) rfl) rfl en81plc (hit) (fun _ _ h=>h) rfl (fun k args g h=>by obtain ⟨_,_,rfl,_⟩:=pl_at h;rfl) (fun _ _ _ _ _ h=>h) (fun _ _ _ _ h=>h) (rfl) ?_ ?_ ?_
 ·clear H;intro l2 rdy bsy bk k args gh G2 w2 F2 B2 a hk2 hm2 hI hbeg2 hnext2 hstop2 H;obtain ⟨hk,cs8,rfl,hrep8⟩:=pl_at hk2;obtain ⟨aA,an,ac,bA,bn,bc,dA8,dn8,dc8,eA8,en8,ec8,iA8,in8,ic8,rfl,hh8,hf8,hr8⟩:=hrep8.item;dsimp only [asg,List.cons_append,List.nil_append] at H;replace hbi:=gcell_mono hm2 (gcell_mono hm11 hbi);refine c_seqR (fun _ K4=>?_);refine s_alloc ty45pq H wn rfl ?_;clear H;intro b6 a w hb6 H;refine s_store ty45pq 0 (vs:=[_,_]) _ H wn rfl rfl rfl rfl rfl rfl rfl rfl ?_;clear H;intro w H;dsimp only [List.set,setRow] at H;refine K4 _ _ ?_;clear K4;refine c_region ?_;refine s_alloc ty85run H wn rfl ?_;clear H;intro b7 a w hb7 H;refine s_store ty85run 0 (vs:=[_,_,_,_,_,_,_,_,_,_,_]) _ H wn rfl rfl rfl rfl rfl rfl rfl rfl ?_;clear H;intro w H;dsimp only [List.set,setRow] at H;refine wl_nil ?_;refine hbeg2 _ _ _ _ _ _ (by exact H.pickT (Pl:=[_,_,_,_,_,_]) (Pl':=[_,_,_,_,_,_]) [2,0,1,3,4,5] (by decide) rfl) ?_;clear H;intro w H;refine kP H (SB (SR fun _ K5=>Rf fd85_6run rfl (Ro ty83run 1 rfl rfl ?_)));clear H;intro a H;refine s_makeFunc H wn rfl rfl ?_;clear H;intro a H;refine s_call en53plr H wn rfl (containsFuncRow _ _ H.hp.ro _ (inRow id) _ _ hr8 (fun r _=>place1 hbi r)) rfl ?_;clear H;rintro v17 G17 a w rfl hm17 H;replace hbi:=gcell_mono hm17 hbi;refine kH H (Ra rfl (Kz K5 (SR fun _ K6=>Rf fd85_2pos rfl (Ro ty3run 1 rfl rfl (Rg ty3run rfl (by assumption) ?_)))));clear H K5;intro a H;refine kH H (Rc rfl (Rm rfl ?_));clear H;intro a H;refine s_split H 22 rfl ?_ ?_
  ·intro h22
   try have p22:=dT h22
   refine kH H (Ks h22 rfl (Pt h22 rfl (Kz K6 ?_)));clear H K6;intro a H;refine c_cond_t H rfl rfl ?_;refine c_seqR (fun _ K7=>?_);refine s_loada ty45pq (cs:=[_,_]) H wn rfl rfl (H.hp.ocells 2 rfl rfl) rfl ?_;clear H;intro a H;refine s_store ty45pq 4 (vs:=[_,_]) _ H wn rfl rfl rfl rfl rfl rfl rfl rfl ?_;clear H;intro w H;dsimp only [List.set,setRow] at H;refine s_store ty4doc 5 (vs:=[_]) _ H wn rfl rfl rfl rfl rfl rfl rfl rfl ?_;clear H;intro w H;dsimp only [List.set,setRow] at H;refine K7 _ _ ?_;clear K7;refine c_ret ?_;refine (hstop2 ((pItems 0 0 l)[k].1) _ _ _ _ _ (by exact H.pickT (Pl:=[_,_,_,_,_,_]) (Pl':=[_,_,_,_]) [0,3,4,5] (by decide) rfl) ?_).1 rfl;exact (by unfold placeS;rw [find_stop hk hI (by unfold isAt;simp_all)];rfl)
  intro h22
  try have p22:=dF h22
  refine kH H (YM h22 rfl (Pf h22 rfl (Kz K6 ?_)));clear H K6;intro a H;refine c_cond H rfl ?_ ?_
  ·intro h24
   try have p24:=dT h24
   refine c_seqR (fun _ K8=>?_);refine s_loada ty45pq (cs:=[_,_]) H wn rfl rfl (H.hp.ocells 2 rfl rfl) rfl ?_;clear H;intro a H;refine s_store ty45pq 4 (vs:=[_,_]) _ H wn rfl rfl rfl rfl rfl rfl rfl rfl ?_;clear H;intro w H;dsimp only [List.set,setRow] at H;refine s_store ty4doc 5 (vs:=[_]) _ H wn rfl rfl rfl rfl rfl rfl rfl rfl ?_;clear H;intro w H;dsimp only [List.set,setRow] at H;refine K8 _ _ ?_;clear K8;refine c_ret ?_;refine (hstop2 ((pItems 0 0 l)[k].1) _ _ _ _ _ (by exact H.pickT (Pl:=[_,_,_,_,_,_]) (Pl':=[_,_,_,_]) [0,3,4,5] (by decide) rfl) ?_).1 rfl;exact (by unfold placeS;rw [find_stop hk hI (by unfold isAt;simp_all)];rfl)
  intro h24
  try have p24:=dF h24
  refine c_skip ?_;refine hnext2 (()) _ _ _ _ _ (by exact H.pickT (Pl:=[_,_,_,_,_,_]) (Pl':=[_,_,_,_]) [0,3,4,5] (by decide) rfl) ?_;exact find_next hk hI (by unfold isAt;simp_all)
 ·clear H;intro Dk2 gh Gd2 a w hm2 hI H;dsimp only [List.cons_append,List.nil_append,List.append_nil] at H;refine K2 _ _ ?_;clear K2;refine c_seqR (fun _ K9=>?_);refine s_build sr45pos [_,_] H wn rfl rfl rfl rfl ?_;clear H;intro a H;refine s_store ty45pq 2 (vs:=[_,_]) _ H wn rfl rfl rfl rfl rfl rfl rfl rfl ?_;clear H;intro w H;dsimp only [List.set,setRow] at H;refine s_store ty4doc 3 (vs:=[_]) _ H wn rfl rfl rfl rfl rfl rfl rfl rfl ?_;clear H;intro w H;dsimp only [List.set,setRow] at H;refine K9 _ _ ?_;clear K9;refine c_ret ?_;refine (leaveM H 0 rfl ?_).1;clear H;intro a w H;dsimp only [List.eraseIdx_cons_succ,List.eraseIdx_cons_zero] at H;refine (leaveT H Tryz.results34 (.cons (rv_cella ty45pq (cs:=[_,_]) H rfl rfl (H.hp.ocells 1 rfl rfl)) (.cons (rv_cell ty4doc H rfl (H.hp.ocell 2 rfl rfl)) .nil)) ?_).1
  have h:placeS l id=none:=by unfold placeS;rw [find_done (by simpa using hI)];rfl
  exact H.hp.ret (by rw [h];rfl)
 clear H;intro Dk2 gx Gd2 a w hm2 hI H;obtain ⟨x,hgh⟩:∃ x,x=gx:=⟨_,rfl⟩;subst hgh;dsimp only [List.cons_append,List.nil_append,List.append_nil] at H;refine c_ret ?_;refine (leaveM H 0 rfl ?_).1;clear H;intro a w H;dsimp only [List.eraseIdx_cons_succ,List.eraseIdx_cons_zero] at H;refine (leaveT H Tryz.results34 (.cons (rv_cella ty45pq (cs:=[_,_]) H rfl rfl (H.hp.ocells 1 rfl rfl)) (.cons (rv_cell ty4doc H rfl (H.hp.ocell 2 rfl rfl)) .nil)) ?_).1;exact H.hp.ret (by rw [hI];rfl)
end
end Go.Proofs.YthichnnlceeofaaGreat
