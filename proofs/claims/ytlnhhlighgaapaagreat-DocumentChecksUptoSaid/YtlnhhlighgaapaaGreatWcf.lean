/-
  What the claim stands on, part 6: Package obeluslaw13: SmallSettings. Package run: Text of texts; package paragraph: Text, Own of a block that is not there. Package paragraph: Sections. The example of layer 15, and what it gives. The examples of layer 14. The examples of layer 14 hold. Package obeluslaw13: SmallItems gives an answer. Package obeluslaw13: the model's check, Small. Package document: visit, ids. Package document: ids, Fresh, Units, Flows. The example of layer 13, and what it gives. The examples of layer 13 hold. The law of documents: what Check gives. From what the form reads to documents in memory. From what the form reads to settings and documents in memory.
-/
import Derived.Test.YtlnhhlighgaapaaGreatWce
import Derived.ProofKit
import Derived.Deep.Slices
import Derived.Laws.StructEq
namespace Go.Proofs.YtlnhhlighgaapaaGreat
section
open Go.RowKit
theorem smallStg_spec (G:GH) (w0:World) (hG:Hold G w0) (s:StgD) (a b c d:Value) (hR:StgR G s a b c d) (hsl:s.styles.length≤4294967296) (hz:StgZ s) :
  Calls Tryz.prog 16 #[.agg #[a,b,c,d]] w0 (Ret w0 G fun u G'=>∃ r,u=.bool r):=by
 obtain ⟨sA,sc,rfl,-,-,-⟩:=hR.st.slice;obtain ⟨lA,lc,rfl,-,-,-⟩:=hR.li.slice;obtain ⟨cA,cc,rfl,-,-,-⟩:=hR.cm.slice;obtain ⟨vA,vc,rfl,-,-,-⟩:=hR.va.slice;have hl1:=hz.ln
 simp only [List.length_map] at hR ⊢
 refine eN [(0,_)] Tryz.func16 rfl Tryz.ntmps16 rfl rfl hG ?_;intro a H;refine c_seqR (fun _ K1=>?_);refine s_box (cs:=[_,_,_,_]) H wn rfl rfl rfl ?_;clear H;intro b1 a w hb1 H;refine kH H (Ra rfl (Kz K1 (SQ fun _ K2=>SQ fun _ K3=>?_)));clear H K1;intro a H;obtain ⟨Ga,hma,hb1',H⟩:=H.giveBox
 have hc0:gcell Ga b1 0=some (.slice sA s.styles.length sc):=by unfold gcell;rw [hb1'];rfl
 have hc1:gcell Ga b1 1=some (.slice lA s.lists.length lc):=by unfold gcell;rw [hb1'];rfl
 have hc2:gcell Ga b1 2=some (.slice cA s.comments.length cc):=by unfold gcell;rw [hb1'];rfl
 have hc3:gcell Ga b1 3=some (.slice vA s.vars.length vc):=by unfold gcell;rw [hb1'];rfl
 have hst:=hR.st.mono hma;have hli:=hR.li.mono hma;refine kP H (SC (Rf fd46_0dsv rfl (Rg ty41chn rfl (by assumption) ?_)));clear H;intro a H;refine kH H (Rl un41sty rfl (Rc rfl (Rm rfl ?_)));clear H;intro a H;refine s_split H 9 rfl ?_ ?_
 ·intro h9
  try have p9:=dT h9
  refine kH H (Ks h9 rfl (Ks h9 rfl (Ks h9 rfl (Ks h9 rfl (Pt h9 rfl (Rm rfl (Ks rfl rfl (Ks rfl rfl (Ks rfl rfl (Ks rfl rfl (Pt rfl rfl (Rm rfl (Ks rfl rfl (Ks rfl rfl (Ks rfl rfl (Ks rfl rfl ?_))))))))))))))));clear H;intro a H;refine kH H (Pt rfl rfl (Kn K3 ?_));clear H K3;intro a H;refine c_cond_t H rfl rfl ?_;refine kP H (SR fun _ K4=>Ra rfl (Kz K4 ?_));clear H K4;intro a H;refine lr H Tryz.results16 rfl ?_;exact H.hp.ret ⟨_,rfl⟩
 intro h9
 try have p9:=dF h9
 refine kH H (YF fd46_1dsv h9 rfl (YR ty42dst h9 rfl (by assumption) ?_));clear H;intro a H;refine kH H (YL un42dst h9 rfl (YC h9 rfl (Pf h9 rfl (Rm rfl ?_))));clear H;intro a H;refine s_split H 15 rfl ?_ ?_
 ·intro h15
  try have p15:=dT h15
  refine kH H (Ks h15 rfl (Ks h15 rfl (Ks h15 rfl (Ks h15 rfl (Pt h15 rfl (Rm rfl (Ks rfl rfl (Ks rfl rfl (Ks rfl rfl (Ks rfl rfl (Pt rfl rfl (Kn K3 ?_))))))))))));clear H K3;intro a H;refine c_cond_t H rfl rfl ?_;refine kP H (SR fun _ K5=>Ra rfl (Kz K5 ?_));clear H K5;intro a H;refine lr H Tryz.results16 rfl ?_;exact H.hp.ret ⟨_,rfl⟩
 intro h15
 try have p15:=dF h15
 refine kH H (YF fd46_2dsv h15 rfl (YR ty43dsc h15 rfl (by assumption) ?_));clear H;intro a H;refine kH H (YL un43dsc h15 rfl (YC h15 rfl (Pf h15 rfl (Rm rfl ?_))));clear H;intro a H;refine s_split H 21 rfl ?_ ?_
 ·intro h21
  try have p21:=dT h21
  refine kH H (Ks h21 rfl (Ks h21 rfl (Ks h21 rfl (Ks h21 rfl (Pt h21 rfl (Kn K3 ?_))))));clear H K3;intro a H;refine c_cond_t H rfl rfl ?_;refine kP H (SR fun _ K6=>Ra rfl (Kz K6 ?_));clear H K6;intro a H;refine lr H Tryz.results16 rfl ?_;exact H.hp.ret ⟨_,rfl⟩
 intro h21
 try have p21:=dF h21
 refine kH H (YF fd46_3dsv h21 rfl (YR ty44dsv h21 rfl (by assumption) ?_));clear H;intro a H;refine kH H (YL un44dsv h21 rfl (YC h21 rfl (Pf h21 rfl (Kn K3 ?_))));clear H K3;intro a H;refine c_cond H rfl ?_ ?_
 ·intro h26
  try have p26:=dT h26
  refine kP H (SR fun _ K7=>Ra rfl (Kz K7 ?_));clear H K7;intro a H;refine lr H Tryz.results16 rfl ?_;exact H.hp.ret ⟨_,rfl⟩
 intro h26
 try have p26:=dF h26
 refine kP H (Kc K2 (SQ fun _ K8=>SR fun _ K9=>Ra rfl (Kz K9 (SB ?_))));clear H K2 K9;intro a H;skip;refine c_loopS (ι:=Nat) (Tc:=[(1,_)]) (Lc:=[]) (fun (gh:Nat)=>[(3,vi gh)]) (fun (gh:Nat)=>[]) (fun (gh:Nat)=>Ga) (fun (gh:Nat)=>gh≤s.styles.length) (fun (gh:Nat)=>s.styles.length - gh) (0) (by exact (H).sub ⟨rfl,rfl,trivial⟩) ?_ ?_
 ·exact Nat.zero_le _
 clear H;intro gh a w hI H;obtain ⟨k,hgh⟩:∃ x,x=gh:=⟨_,rfl⟩;subst hgh;have hk:=hI;dsimp only [List.cons_append,List.nil_append,List.append_nil] at H;refine kP H (SQ fun _ K10=>SR fun _ K11=>Rm rfl (Rf fd46_0dsv rfl (Rg ty41chn rfl (by assumption) ?_)));clear H;intro a H;refine kH H (Rl un41sty rfl (Rc rfl (Kz K11 ?_)));clear H K11;intro a H;refine c_cond H rfl ?_ ?_
 ·intro h31
  try have p31:=dT h31
  have hk2:k < s.styles.length:=by omega
  obtain ⟨b',o',pA,pc,rfl,hrow,-,-⟩:=style_at hst hk2;have hq:=hrow 5 _ rfl;refine kP H (Kc K10 (SQ fun _ K12=>SB (SR fun _ K13=>Rf fd46_0dsv rfl (Rg ty41chn rfl (by assumption) ?_))));clear H K10;intro a H;refine kH H (Rm rfl (Ri un41sty ty100sty rfl rfl (Rf fd100_5stz rfl (Rg ty25run rfl (by assumption) ?_))));clear H;intro a H;refine kH H (Rl un25run rfl (Rc rfl (Kz K13 ?_)));clear H K13;intro a H;refine c_cond H rfl ?_ ?_
  ·intro h41
   try have p41:=dT h41
   refine kP H (SR fun _ K14=>Ra rfl (Kz K14 ?_));clear H K14;intro a H;refine lr H Tryz.results16 rfl ?_;exact H.hp.ret ⟨_,rfl⟩
  intro h41
  try have p41:=dF h41
  refine kP H (Kc K12 (SC (Rm rfl (Rd rfl (Ra rfl ?_)))));clear H K12;intro a H;refine wl_nil ?_;refine loop_end ((k+1)) (by exact (H).sub ⟨rfl,rfl,trivial⟩) ?_ ?_
  ·omega
  first|omega|(dsimp only;omega)
 intro h31
 try have p31:=dF h31
 refine c_exit ?_;refine K8 _ _ ?_;clear K8;refine kP H (SQ fun _ K15=>SR fun _ K16=>Ra rfl (Kz K16 (SB ?_)));clear H K16;intro a H;skip;refine c_loopS (ι:=Nat) (Tc:=[(1,_)]) (Lc:=[]) (fun (gh:Nat)=>[(4,vi gh)]) (fun (gh:Nat)=>[]) (fun (gh:Nat)=>Ga) (fun (gh:Nat)=>gh≤s.lists.length) (fun (gh:Nat)=>s.lists.length - gh) (0) (by exact (H).sub ⟨rfl,rfl,trivial⟩) ?_ ?_
 ·exact Nat.zero_le _
 clear H;intro gh a w hI H;obtain ⟨n,hgh⟩:∃ x,x=gh:=⟨_,rfl⟩;subst hgh;have hn:=hI;dsimp only [List.cons_append,List.nil_append,List.append_nil] at H;refine kP H (SQ fun _ K17=>SR fun _ K18=>Rm rfl (Rf fd46_1dsv rfl (Rg ty42dst rfl (by assumption) ?_)));clear H;intro a H;refine kH H (Rl un42dst rfl (Rc rfl (Kz K18 ?_)));clear H K18;intro a H;refine c_cond H rfl ?_ ?_
 ·intro h46
  try have p46:=dT h46
  have hn2:n < s.lists.length:=by omega
  obtain ⟨b',o',B,d,rfl,hrow,-⟩:=li_at hli hn2;have hq:=hrow 1 _ rfl;refine kP H (Kc K17 (SQ fun _ K19=>SB (SR fun _ K20=>Rf fd46_1dsv rfl (Rg ty42dst rfl (by assumption) ?_))));clear H K17;intro a H;refine kH H (Rm rfl (Ri un42dst ty105dst rfl rfl (Rf fd105_1dst rfl (Rg ty103dst rfl (by assumption) ?_))));clear H;intro a H;refine kH H (Rl un103lcl rfl (Rc rfl (Kz K20 ?_)));clear H K20;intro a H;refine c_cond H rfl ?_ ?_
  ·intro h56
   try have p56:=dT h56
   refine kP H (SR fun _ K21=>Ra rfl (Kz K21 ?_));clear H K21;intro a H;refine lr H Tryz.results16 rfl ?_;exact H.hp.ret ⟨_,rfl⟩
  intro h56
  try have p56:=dF h56
  refine kP H (Kc K19 (SC (Rm rfl (Rd rfl (Ra rfl ?_)))));clear H K19;intro a H;refine wl_nil ?_;refine loop_end ((n+1)) (by exact (H).sub ⟨rfl,rfl,trivial⟩) ?_ ?_
  ·omega
  first|omega|(dsimp only;omega)
 intro h46
 try have p46:=dF h46
 refine c_exit ?_;refine K15 _ _ ?_;clear K15;refine kP H (SR fun _ K22=>Ra rfl (Kz K22 ?_));clear H K22;intro a H;refine lr H Tryz.results16 rfl ?_;exact H.hp.ret ⟨_,rfl⟩
end
section
open Go.RowKit
end
section
open Go.RowKit
structure PartD where
 from_:Int
 to:Int
 mark:Bool
 props:List PropD
def PartD.dat (a:PartD):List Dat:=[li a.from_,li a.to,.lf (.bool a.mark),.sl 2 (a.props.map PropD.dat)]
end
section
open Go.RowKit
theorem txt_ab:validS ⟨#[97,98]⟩=true∧cntFrom ⟨#[97,98]⟩ 0=2:=by
 have d0:decS ⟨#[97,98]⟩ 0=(97,1,true):=by decide
 have d1:decS ⟨#[97,98]⟩ 1=(98,1,true):=by decide
 have e2:firstS ⟨#[97,98]⟩ 2=-1:=by rw [firstS,dif_neg (by decide)]
 have e1:firstS ⟨#[97,98]⟩ 1=-1:=by rw [firstS,dif_pos (by decide),dif_pos (by rw [d1]),d1];exact e2
 have e0:firstS ⟨#[97,98]⟩ 0=-1:=by rw [firstS,dif_pos (by decide),dif_pos (by rw [d0]),d0];exact e1
 have c2:cntFrom ⟨#[97,98]⟩ 2=0:=by rw [cntFrom,if_neg (by decide)]
 have c1:cntFrom ⟨#[97,98]⟩ 1=1:=by rw [cntFrom,if_pos (by decide),c2];decide
 have c0:cntFrom ⟨#[97,98]⟩ 0=2:=by rw [cntFrom,if_pos (by decide),c1];decide
 exact ⟨by unfold validS;rw [e0];decide,c0⟩
abbrev hd0:HeadD:=⟨[],⟨0,0,[],[]⟩⟩
def exA:ItemD:=.mk 1 0 0 ⟨#[97,98]⟩ hd0 [] []
def exP:ItemD:=.mk 2 0 0 ⟨#[]⟩ hd0 [] []
theorem uA:unitsS exA=2∧unitsE exA=0:=by simp [unitsS,unitsE,exA,ItemD.kind,ItemD.text,cntS,utfS,txt_ab.1,txt_ab.2]
theorem uP:unitsS exP=1∧unitsE exP=0:=by simp [unitsS,unitsE,exP,ItemD.kind]
theorem nA:n1 exA=2:=by simp [n1,uA.1,uA.2]
theorem nP:n1 exP=1:=by simp [n1,uP.1,uP.2]
theorem hd0_rep {G:GH}:HeadR G hd0 (.slice none 0 0) (.slice none 0 0) (.slice none 0 0):=⟨RepV.nil_ rfl (by decide),RepV.nil_ rfl (by decide),RepV.nil_ rfl (by decide)⟩
end
section
open Go.RowKit
theorem sr35k14:Srt Tryz.prog 35 [(0,1),(1,1),(2,1),(3,1),(4,5),(9,1),(10,1)] [.int .i64 0,.int .i64 0,.int .i64 0,.string ⟨#[]⟩,.slice none 0 0,.int .i64 0,.int .i64 0,.slice none 0 0,.slice none 0 0,.slice none 0 0,.slice none 0 0]:=⟨by kernel_rfl,by kernel_rfl⟩
theorem txt_97:validS ⟨#[97]⟩=true∧cntFrom ⟨#[97]⟩ 0=1:=by
 have d0:decS ⟨#[97]⟩ 0=(97,1,true):=by decide
 have e1:firstS ⟨#[97]⟩ 1=-1:=by rw [firstS,dif_neg (by decide)]
 have e0:firstS ⟨#[97]⟩ 0=-1:=by rw [firstS,dif_pos (by decide),dif_pos (by rw [d0]),d0];exact e1
 have c1:cntFrom ⟨#[97]⟩ 1=0:=by rw [cntFrom,if_neg (by decide)]
 have c0:cntFrom ⟨#[97]⟩ 0=1:=by rw [cntFrom,if_pos (by decide),c1];decide
 exact ⟨by unfold validS;rw [e0];decide,c0⟩
def ex97:ItemD:=.mk 1 0 0 ⟨#[97]⟩ hd0 [] []
theorem u97:unitsS ex97=1∧unitsE ex97=0:=by simp [unitsS,unitsE,ex97,ItemD.kind,ItemD.text,cntS,utfS,txt_97.1,txt_97.2]
theorem txt_99:validS ⟨#[99]⟩=true∧cntFrom ⟨#[99]⟩ 0=1:=by
 have d0:decS ⟨#[99]⟩ 0=(99,1,true):=by decide
 have e1:firstS ⟨#[99]⟩ 1=-1:=by rw [firstS,dif_neg (by decide)]
 have e0:firstS ⟨#[99]⟩ 0=-1:=by rw [firstS,dif_pos (by decide),dif_pos (by rw [d0]),d0];exact e1
 have c1:cntFrom ⟨#[99]⟩ 1=0:=by rw [cntFrom,if_neg (by decide)]
 have c0:cntFrom ⟨#[99]⟩ 0=1:=by rw [cntFrom,if_pos (by decide),c1];decide
 exact ⟨by unfold validS;rw [e0];decide,c0⟩
def ex99:ItemD:=.mk 1 0 0 ⟨#[99]⟩ hd0 [] []
theorem u99:unitsS ex99=1∧unitsE ex99=0:=by simp [unitsS,unitsE,ex99,ItemD.kind,ItemD.text,cntS,utfS,txt_99.1,txt_99.2]
theorem n99:n1 ex99=1:=by simp [n1,u99.1,u99.2]
theorem txt_100:validS ⟨#[100]⟩=true∧cntFrom ⟨#[100]⟩ 0=1:=by
 have d0:decS ⟨#[100]⟩ 0=(100,1,true):=by decide
 have e1:firstS ⟨#[100]⟩ 1=-1:=by rw [firstS,dif_neg (by decide)]
 have e0:firstS ⟨#[100]⟩ 0=-1:=by rw [firstS,dif_pos (by decide),dif_pos (by rw [d0]),d0];exact e1
 have c1:cntFrom ⟨#[100]⟩ 1=0:=by rw [cntFrom,if_neg (by decide)]
 have c0:cntFrom ⟨#[100]⟩ 0=1:=by rw [cntFrom,if_pos (by decide),c1];decide
 exact ⟨by unfold validS;rw [e0];decide,c0⟩
def ex100:ItemD:=.mk 1 0 0 ⟨#[100]⟩ hd0 [] []
theorem u100:unitsS ex100=1∧unitsE ex100=0:=by simp [unitsS,unitsE,ex100,ItemD.kind,ItemD.text,cntS,utfS,txt_100.1,txt_100.2]
theorem n100:n1 ex100=1:=by simp [n1,u100.1,u100.2]
def cl0:CellD:=.mk 0 hd0 []
def rw0:RowD:=.mk hd0 [cl0]
def exT:ItemD:=.mk 7 0 0 ⟨#[]⟩ hd0 [] [rw0]
def exK:ItemD:=.mk 8 0 0 ⟨#[]⟩ hd0 [] []
theorem uT:unitsS exT=1∧unitsE exT=0:=by simp [unitsS,unitsE,exT,ItemD.kind]
theorem uK:unitsS exK=1∧unitsE exK=0:=by simp [unitsS,unitsE,exK,ItemD.kind]
theorem nT:n1 exT=1:=by simp [n1,uT.1,uT.2]
theorem nK:n1 exK=1:=by simp [n1,uK.1,uK.2]
def ex14:List ItemD:=[exA,exP,ex99,exT,exK,exT,ex100]
theorem h00:zHead hd0=5:=by simp [zHead_eq,szRs]
theorem zA:szR exA.dat=13:=by
 have h:=zItem_eq exA;rw [show exA.head=hd0 from rfl,h00,show exA.text.size=2 from rfl,show zItems exA.flow=0 from rfl,show zRows exA.rows=0 from rfl] at h;exact h
theorem d14:divS ex14=true:=by simp [divS,ex14,uA.2,uP.2,u99.2,uT.2,uK.2,u100.2]
theorem e14:lenE ex14=0:=by simp [lenE,d14]
def bl14:List BlkD:=[⟨1,0,3,true⟩,⟨1,3,4,false⟩,⟨2,4,5,false⟩,⟨4,5,6,false⟩,⟨2,6,7,false⟩,⟨1,7,8,false⟩]
theorem b14:blkS 0 0 true ex14=bl14:=by
 simp only [ex14,blkS,nA,nP,n99,nT,nK,n100]
 simp [exA,exP,ex99,exT,exK,ex100,ItemD.kind,restL,bl14]
theorem bs14:blocksS ex14=bl14:=by rw [blocksS,if_pos e14,b14]
theorem o14:offs 0 ex14=[(0,exA),(2,exP),(3,ex99),(4,exT),(5,exK),(6,exT),(7,ex100)]:=by
 simp [offs,ex14,uA.1,uP.1,u99.1,uT.1,uK.1]
theorem lf2:leftS 2 ex14=[exA]:=by simp [leftS,lA,o14,fitA,uA.1,uP.1,u99.1,uT.1,uK.1,u100.1]
theorem lf3:leftS 3 ex14=[exA,exP]:=by simp [leftS,lA,o14,fitA,uA.1,uP.1,u99.1,uT.1,uK.1,u100.1]
end
section
open Go.RowKit
theorem sr50k14b:Srt Tryz.prog 50 [(0,1),(1,5),(6,1),(7,4)] [.slice none 0 0,.slice none 0 0,.int .i64 0,.int .i64 0,.slice none 0 0,.slice none 0 0,.slice none 0 0,.slice none 0 0,.slice none 0 0,.slice none 0 0,.slice none 0 0]:=⟨by kernel_rfl,by kernel_rfl⟩
theorem hb3:(blocksS ex14).findIdx? (fun x=>decide ((⟨1,0,3,true⟩:BlkD)=x))=some 0:=by rw [bs14];decide
theorem hb2:(blocksS ex14).findIdx? (fun x=>decide ((⟨1,0,2,false⟩:BlkD)=x))=none:=by rw [bs14];decide
end
section
open Go.RowKit
theorem en133sml:∀ args w,(callFunc 133 args).run Tryz.prog w=.ok (.enter 133 args) w:=enters Tryz.func133 rfl (by kernel_rfl)
theorem en196sml:∀ args w,(callFunc 196 args).run Tryz.prog w=.ok (.enter 196 args) w:=enters Tryz.func196 rfl (by kernel_rfl)
theorem tdiv8 (n:Nat):0≤(n:Int).tdiv 8∧(n:Int).tdiv 8≤n:=by
 rw [Int.tdiv_eq_ediv_of_nonneg (by omega)];omega
abbrev bIs (b:Nat) (n:Int):Nat × Obj:=(b,.cells #[vi n] 3 (0,0))
/-- What a test of sizes gives back. -/
def SmQ (bl:Nat) (left:Int) (z:Nat) (u:Value) (_:GH) (L':OL):Prop:=∃ b lf,u=.bool b∧L'=[bIs bl lf]∧left - 4*(z:Int)≤lf∧lf≤left
def SmallF (n:Nat):Prop:=∀ (G:GH) (w0:World) (l:List ItemD) (v:Value) (lev left:Int) (bl:Nat),Owns G [bIs bl left] w0→RepV G (.sl 11 (l.map ItemD.dat)) v→zItems l < n→0≤lev→lev≤1000→left≤1000→-1000000000000≤left - 4*(zItems l:Int) →
 Calls Tryz.prog 133 #[v,vi lev,.pointer (some ⟨bl,0,none⟩)] w0 (RetL w0 G [bIs bl left] (SmQ bl left (zItems l)))
theorem zRows_append (l m:List RowD):zRows (l++m)=zRows l+zRows m:=by simp [zRows,szRs_append]
theorem zCells_append (l m:List CellD):zCells (l++m)=zCells l+zCells m:=by simp [zCells,szRs_append]
theorem zItems_succ {l:List ItemD} {k:Nat} (h:k < l.length):zItems (l.take (k+1))=zItems (l.take k)+(1+szR l[k].dat):=by rw [List.take_succ_eq_append_getElem h,zItems_append];simp [zItems,szRs]
theorem zRows_succ {l:List RowD} {k:Nat} (h:k < l.length):zRows (l.take (k+1))=zRows (l.take k)+(1+szR l[k].dat):=by rw [List.take_succ_eq_append_getElem h,zRows_append];simp [zRows,szRs]
theorem zCells_succ {l:List CellD} {k:Nat} (h:k < l.length):zCells (l.take (k+1))=zCells (l.take k)+(1+szR l[k].dat):=by rw [List.take_succ_eq_append_getElem h,zCells_append];simp [zCells,szRs]
theorem zItems_tk (l:List ItemD) (k:Nat):zItems (l.take k)≤zItems l:=zItems_sub (List.take_sublist k l)
theorem zRows_tk (l:List RowD) (k:Nat):zRows (l.take k)≤zRows l:=by
 have:=zRows_append (l.take k) (l.drop k);rw [List.take_append_drop] at this;omega
theorem zCells_tk (l:List CellD) (k:Nat):zCells (l.take k)≤zCells l:=by
 have:=zCells_append (l.take k) (l.drop k);rw [List.take_append_drop] at this;omega
theorem head_cells {G:GH} {b o:Nat} {x q1 q2 q3 q4 q5 f:Value} (h:∀ j u,[x,q1,q2,q3,q4,q5,f][j]?=some u→gcell G b (o+j)=some u):∀ j u,[q1,q2,q3,q4,q5][j]?=some u→gcell G b (o+1+j)=some u:=by
 intro j u hj;rw [Nat.add_assoc,Nat.add_comm 1 j];refine h (j+1) u ?_
 match j,hj with
 | 0,hj=>exact hj
 | 1,hj=>exact hj
 | 2,hj=>exact hj
 | 3,hj=>exact hj
 | 4,hj=>exact hj
 | n+5,hj=>simp at hj
set_option maxHeartbeats 1000000 in
theorem smallFlow_step {n:Nat} (ih:SmallF n) (hn:n≤4294967296)
  (hrows:∀ (G:GH) (w0:World) (l:List RowD) (v:Value) (lev left:Int) (bl:Nat),Owns G [bIs bl left] w0→RepV G (.sl 6 (l.map RowD.dat)) v→zRows l < n→0≤lev→lev≤1000→left≤1000→-1000000000000≤left - 4*(zRows l:Int) →
   Calls Tryz.prog 196 #[v,vi lev,.pointer (some ⟨bl,0,none⟩)] w0 (RetL w0 G [bIs bl left] (SmQ bl left (zRows l)))):SmallF (n+1):=by
 intro G w0 l v lev left bl hO hv hz hl0 hl1 hf1 hf0;obtain ⟨A,c,rfl,hc1,hc2,hg⟩:=hv.slice;rw [List.length_map] at *;have hll:=zItems_length l;refine enterL (N:=89) (T:=[(0,_),(1,_),(2,_)]) Tryz.func133 rfl Tryz.ntmps133 rfl rfl hO ?_;intro a H;refine kP H (SR fun _ K1=>Ra rfl (Kz K1 (SQ fun _ K2=>SR fun _ K3=>Ra rfl (Kz K3 (SB ?_)))));clear H K1 K3;intro a H;skip;refine c_loopS (ι:=Nat × Int × GH) (Tc:=[(0,_),(1,_),(2,_)]) (Lc:=[]) (fun (gh:Nat × Int × GH)=>[(7,vi gh.1)]) (fun (gh:Nat × Int × GH)=>[bIs bl gh.2.1]) (fun (gh:Nat × Int × GH)=>gh.2.2) (fun (gh:Nat × Int × GH)=>gh.1≤l.length∧left - 4*(zItems (l.take gh.1):Int)≤gh.2.1∧gh.2.1≤left∧(∀ b o,G b=some o→gh.2.2 b=some o)) (fun (gh:Nat × Int × GH)=>l.length - gh.1) ((0,left,G)) (by exact (H).sub ⟨rfl,rfl,rfl,rfl,trivial⟩) ?_ ?_
 ·exact ⟨by omega,by show left - 4*((0:Nat):Int)≤left;omega,Int.le_refl _,fun _ _ h=>h⟩
 clear H;intro gh a w hI H;obtain ⟨k,lf,g⟩:=gh;dsimp only at hI H;obtain ⟨hk,hlo,hhi,hgm⟩:=hI;have hzk:=zItems_tk l k;dsimp only [List.cons_append,List.nil_append,List.append_nil] at H;refine kP H (SQ fun _ K4=>SR fun _ K5=>Rm rfl (Rm rfl (Rl un32run rfl (Rc rfl (Kz K5 ?_)))));clear H K5;intro a H;refine c_cond H rfl ?_ ?_
 ·intro h11
  try have p11:=dT h11
  have hk2:k < l.length:=by omega
  obtain ⟨b,o,pA,pn,pc,dA,dn,dc,yA,yn,yc,fA,fn,fc,rA,rn,rc,rfl,hrow,hhd,hfl,hrw⟩:=flow_get hk2 hg;have r3:gcell g b (o+k*11+3)=some (.string l[k].text):=gcell_mono hgm (hrow 3 _ rfl);have r4:gcell g b (o+k*11+4+0)=some (.slice pA pn pc):=gcell_mono hgm (hrow 4 _ rfl);have r7:gcell g b (o+k*11+4+1+2)=some (.slice dA dn dc):=gcell_mono hgm (hrow 7 _ rfl);have r8:gcell g b (o+k*11+4+1+3)=some (.slice yA yn yc):=gcell_mono hgm (hrow 8 _ rfl);have r9:gcell g b (o+k*11+9)=some (.slice fA fn fc):=gcell_mono hgm (hrow 9 _ rfl);have r10:gcell g b (o+k*11+10)=some (.slice rA rn rc):=gcell_mono hgm (hrow 10 _ rfl);have q1:=tdiv8 pn;have q2:=tdiv8 dn;have q3:=tdiv8 yn;have hzi:=zItem_eq l[k];have hzh:=zHead_eq l[k].head;have l1:=hhd.props.len;have l2:=hhd.dels.len;have l3:=hhd.layers.len;have m1:=szRs_length (l[k].head.props.map PropD.dat);have m2:=szRs_length (l[k].head.marks.dels.map DelD.dat);have m3:=szRs_length (l[k].head.marks.layers.map LayerD.dat);have hzs:=zItems_succ hk2;have hzt:=zItems_tk l (k+1);refine kP H (Kc K4 (SQ fun _ K6=>SB (SQ fun _ K7=>?_)));clear H K4;intro a H;refine c_drawI (hmx) [[],[],[1],[1,2],[1,2,3],[],[],[5,6],[5,6,7],[5,6,7,8],[5,6,7,8,9],[5,6,7,8,9,10],[5,6,7,8,9,10,11],[1,2,3,4,5,6,7,8,9,10,11,12],[],[],[14,15],[14,15,16],[14,15,16,17],[14,15,16,17,18],[14,15,16,17,18,19],[14,15,16,17,18,19,20],[14,15,16,17,18,19,20,21],[1,2,3,4,5,6,7,8,9,10,11,12,13,14,15,16,17,18,19,20,21,22],[],[],[24,25],[24,25,26],[24,25,26,27],[24,25,26,27,28],[24,25,26,27,28,29],[24,25,26,27,28,29,30],[24,25,26,27,28,29,30,31],[1,2,3,4,5,6,7,8,9,10,11,12,13,14,15,16,17,18,19,20,21,22,23,24,25,26,27,28,29,30,31,32],(List.range 34),(List.range 35)] [35] (by kernel_rfl) (by kernel_rfl) (fun (ix_:Nat) (v:Value) (G:GH)=>match ix_ with|0=>v=.pointer (some ⟨bl,0,none⟩)|1=>v=.pointer (some ⟨bl,0,none⟩)|2=>v=.pointer (some ⟨bl,0,none⟩)|3=>v=vi lf|4=>v=vi (lf - 1)|5=>v=.slice (some ⟨b,o,none⟩) l.length c|6=>v=vi k|7=>v=.pointer (some ⟨b,o+k*11,none⟩)|8=>v=.pointer (some ⟨b,o+k*11+4,none⟩)|9=>v=.pointer (some ⟨b,o+k*11+4+0,none⟩)|10=>v=.slice pA pn pc|11=>v=vi pn|12=>v=vi ((pn:Int).tdiv 8)|13=>v=vi (lf - 1 - (pn:Int).tdiv 8)|14=>v=.slice (some ⟨b,o,none⟩) l.length c|15=>v=vi k|16=>v=.pointer (some ⟨b,o+k*11,none⟩)|17=>v=.pointer (some ⟨b,o+k*11+4,none⟩)|18=>v=.pointer (some ⟨b,o+k*11+4+1,none⟩)|19=>v=.pointer (some ⟨b,o+k*11+4+1+2,none⟩)|20=>v=.slice dA dn dc|21=>v=vi dn|22=>v=vi ((dn:Int).tdiv 8)|23=>v=vi (lf - 1 - (pn:Int).tdiv 8 - (dn:Int).tdiv 8)|24=>v=.slice (some ⟨b,o,none⟩) l.length c|25=>v=vi k|26=>v=.pointer (some ⟨b,o+k*11,none⟩)|27=>v=.pointer (some ⟨b,o+k*11+4,none⟩)|28=>v=.pointer (some ⟨b,o+k*11+4+1,none⟩)|29=>v=.pointer (some ⟨b,o+k*11+4+1+3,none⟩)|30=>v=.slice yA yn yc|31=>v=vi yn|32=>v=vi ((yn:Int).tdiv 8)|33=>v=vi (lf - 1 - (pn:Int).tdiv 8 - (dn:Int).tdiv 8 - (yn:Int).tdiv 8)|34=>v=.pointer (some ⟨bl,0,none⟩)|_=>True) (fun _ _ _ _ _ h=>h) H ?_ ?_
  ·clear H;refine al4 ?_ ?_ ?_ ?_ (al4 ?_ ?_ ?_ ?_ (al4 ?_ ?_ ?_ ?_ (al4 ?_ ?_ ?_ ?_ (al4 ?_ ?_ ?_ ?_ (al4 ?_ ?_ ?_ ?_ (al4 ?_ ?_ ?_ ?_ (al4 ?_ ?_ ?_ ?_ (al4 ?_ ?_ ?_ ?_ allI_nil))))))))
   ·exact Z0 rfl rfl fun _ _ _ _ _=>Rm rfl
   ·exact Z0 rfl rfl fun _ _ _ _ _=>Rm rfl
   ·exact Z1 1 15 rfl rfl fun _ _ _ _ _=>Rk rfl
   ·exact Z1 2 16 rfl rfl fun _ _ _ _ _=>Ro ty3run 0 rfl rfl
   ·exact Z1 3 17 rfl rfl fun _ _ _ _ _=>Rs rfl
   ·exact Z0 rfl rfl fun _ _ _ _ _=>Rm rfl
   ·exact Z0 rfl rfl fun _ _ _ _ _=>Rm rfl
   ·exact Z2 5 19 6 20 rfl rfl fun _ _ _ _ _=>Ri un32run ty35run rfl rfl
   ·exact Z1 7 21 rfl rfl fun _ _ _ _ _=>Rf fd35_4run rfl
   ·exact Z1 8 22 rfl rfl fun _ _ _ _ _=>Rf fd31_0run rfl
   ·exact Op1 9 23 rfl rfl fun _ _ _ _ hG _ H fin=>kH H (Rg ty25run rfl (gcell_mono hG r4) fun _ H=>fin H iJ rfl)
   ·exact Z1 10 24 rfl rfl fun _ _ _ _ _=>Rl un25run rfl
   ·refine Op1 11 25 rfl rfl fun _ a w G1 hG HT H fin=>?_;refine s_quo _ H wn rfl rfl (by omega) rfl (by omega) (by omega) rfl ?_;clear H;intro a H;exact fin H iJ rfl
   ·exact Z2 4 18 12 26 rfl rfl fun _ _ _ _ _=>Rs rfl
   ·exact Z0 rfl rfl fun _ _ _ _ _=>Rm rfl
   ·exact Z0 rfl rfl fun _ _ _ _ _=>Rm rfl
   ·exact Z2 14 28 15 29 rfl rfl fun _ _ _ _ _=>Ri un32run ty35run rfl rfl
   ·exact Z1 16 30 rfl rfl fun _ _ _ _ _=>Rf fd35_4run rfl
   ·exact Z1 17 31 rfl rfl fun _ _ _ _ _=>Rf fd31_1run rfl
   ·exact Z1 18 32 rfl rfl fun _ _ _ _ _=>Rf fd29_2run rfl
   ·exact Op1 19 33 rfl rfl fun _ _ _ _ hG _ H fin=>kH H (Rg ty26run rfl (gcell_mono hG r7) fun _ H=>fin H iJ rfl)
   ·exact Z1 20 34 rfl rfl fun _ _ _ _ _=>Rl un26run rfl
   ·refine Op1 21 35 rfl rfl fun _ a w G1 hG HT H fin=>?_;refine s_quo _ H wn rfl rfl (by omega) rfl (by omega) (by omega) rfl ?_;clear H;intro a H;exact fin H iJ rfl
   ·exact Z2 13 27 22 36 rfl rfl fun _ _ _ _ _=>Rs rfl
   ·exact Z0 rfl rfl fun _ _ _ _ _=>Rm rfl
   ·exact Z0 rfl rfl fun _ _ _ _ _=>Rm rfl
   ·exact Z2 24 38 25 39 rfl rfl fun _ _ _ _ _=>Ri un32run ty35run rfl rfl
   ·exact Z1 26 40 rfl rfl fun _ _ _ _ _=>Rf fd35_4run rfl
   ·exact Z1 27 41 rfl rfl fun _ _ _ _ _=>Rf fd31_1run rfl
   ·exact Z1 28 42 rfl rfl fun _ _ _ _ _=>Rf fd29_3run rfl
   ·exact Op1 29 43 rfl rfl fun _ _ _ _ hG _ H fin=>kH H (Rg ty27run rfl (gcell_mono hG r8) fun _ H=>fin H iJ rfl)
   ·exact Z1 30 44 rfl rfl fun _ _ _ _ _=>Rl un27run rfl
   ·refine Op1 31 45 rfl rfl fun _ a w G1 hG HT H fin=>?_;refine s_quo _ H wn rfl rfl (by omega) rfl (by omega) (by omega) rfl ?_;clear H;intro a H;exact fin H iJ rfl
   ·exact Z2 23 37 32 46 rfl rfl fun _ _ _ _ _=>Rs rfl
   ·exact Z1 0 14 rfl rfl fun _ _ _ _ _=>Rk rfl
   exact opB rfl
  clear H;intro a w G hGm4 H hv;obtain ⟨u47,hu47,hp47⟩:=hv 33 47 (by decide) rfl;obtain rfl:u47=vi (lf - 1 - (pn:Int).tdiv 8 - (dn:Int).tdiv 8 - (yn:Int).tdiv 8):=hp47;have H:=H.addS hu47;obtain ⟨u48,hu48,hp48⟩:=hv 34 48 (by decide) rfl;obtain rfl:u48=.pointer (some ⟨bl,0,none⟩):=hp48;have H:=H.addS hu48;clear hv;refine s_store ty3run 0 (vs:=[_]) _ H wn rfl rfl rfl rfl rfl rfl rfl rfl ?_;clear H;intro w H;dsimp only [List.set,setRow] at H;refine wl_nil ⟨rfl,?_⟩;refine K7 _ _ ?_;clear K7;refine kP H (SR fun _ K8=>Rm rfl (Rk rfl (Ro ty3run 0 rfl rfl (Rc rfl (Rm rfl ?_)))));clear H;intro a H;refine s_split H 53 rfl ?_ ?_
  ·intro h53
   try have p53:=dT h53
   refine kH H (Ks h53 rfl (Ks h53 rfl (Pt h53 rfl (Rm rfl (Ks rfl rfl (Ks rfl rfl (Ks rfl rfl (Ks rfl rfl (Ks rfl rfl (Ks rfl rfl (Ks rfl rfl (Pt rfl rfl (Rm rfl (Ks rfl rfl (Ks rfl rfl (Ks rfl rfl (Ks rfl rfl (Ks rfl rfl (Ks rfl rfl (Ks rfl rfl (Ks rfl rfl (Ks rfl rfl (Ks rfl rfl ?_)))))))))))))))))))))));clear H;intro a H;refine kH H (Pt rfl rfl (Rm rfl (Ks rfl rfl (Ks rfl rfl (Ks rfl rfl (Ks rfl rfl (Ks rfl rfl (Ks rfl rfl (Ks rfl rfl (Ks rfl rfl (Ks rfl rfl (Pt rfl rfl (Kz K8 ?_)))))))))))));clear H K8;intro a H;refine c_cond_t H rfl rfl ?_;refine kP H (SR fun _ K9=>Ra rfl (Kz K9 ?_));clear H K9;intro a H;refine lr H Tryz.results133 rfl ?_;exact H.hp.retL ⟨_,_,rfl,rfl,by omega,by omega⟩
  intro h53
  try have p53:=dF h53
  replace r3:=gcell_mono hGm4 r3;replace r9:=gcell_mono hGm4 r9;replace r10:=gcell_mono hGm4 r10;refine kH H (YM h53 rfl (YC h53 rfl (Pf h53 rfl (Rm rfl ?_))));clear H;intro a H;refine s_split H 57 rfl ?_ ?_
  ·intro h57
   try have p57:=dT h57
   refine kH H (Ks h57 rfl (Ks h57 rfl (Ks h57 rfl (Ks h57 rfl (Ks h57 rfl (Ks h57 rfl (Ks h57 rfl (Pt h57 rfl (Rm rfl (Ks rfl rfl (Ks rfl rfl (Ks rfl rfl (Ks rfl rfl (Ks rfl rfl (Ks rfl rfl (Ks rfl rfl (Ks rfl rfl (Ks rfl rfl (Ks rfl rfl ?_)))))))))))))))))));clear H;intro a H;refine kH H (Pt rfl rfl (Rm rfl (Ks rfl rfl (Ks rfl rfl (Ks rfl rfl (Ks rfl rfl (Ks rfl rfl (Ks rfl rfl (Ks rfl rfl (Ks rfl rfl (Ks rfl rfl (Pt rfl rfl (Kz K8 ?_)))))))))))));clear H K8;intro a H;refine c_cond_t H rfl rfl ?_;refine kP H (SR fun _ K10=>Ra rfl (Kz K10 ?_));clear H K10;intro a H;refine lr H Tryz.results133 rfl ?_;exact H.hp.retL ⟨_,_,rfl,rfl,by omega,by omega⟩
  intro h57
  try have p57:=dF h57
  refine kH H (YM h57 rfl (YM h57 rfl (YI un32run ty35run h57 rfl rfl (YF fd35_3run h57 rfl (YR ty9run h57 rfl (by assumption) ?_)))));clear H;intro a H;refine s_lens un9cp H (wg H rfl rfl h57) rfl rfl ?_;clear H;intro a H;refine kH H (YC h57 rfl (Pf h57 rfl (Rm rfl ?_)));clear H;intro a H;refine s_split H 66 rfl ?_ ?_
  ·intro h66
   try have p66:=dT h66
   refine kH H (Ks h66 rfl (Ks h66 rfl (Ks h66 rfl (Ks h66 rfl (Ks h66 rfl (Ks h66 rfl (Ks h66 rfl (Ks h66 rfl (Ks h66 rfl (Ks h66 rfl (Pt h66 rfl (Rm rfl (Ks rfl rfl (Ks rfl rfl (Ks rfl rfl (Ks rfl rfl (Ks rfl rfl (Ks rfl rfl (Ks rfl rfl (Ks rfl rfl (Ks rfl rfl ?_)))))))))))))))))))));clear H;intro a H;refine kH H (Pt rfl rfl (Kz K8 ?_));clear H K8;intro a H;refine c_cond_t H rfl rfl ?_;refine kP H (SR fun _ K11=>Ra rfl (Kz K11 ?_));clear H K11;intro a H;refine lr H Tryz.results133 rfl ?_;exact H.hp.retL ⟨_,_,rfl,rfl,by omega,by omega⟩
  intro h66
  try have p66:=dF h66
  refine kH H (YM h66 rfl (YM h66 rfl (YI un32run ty35run h66 rfl rfl (YF fd35_5run h66 rfl (YR ty32run h66 rfl (by assumption) ?_)))));clear H;intro a H;refine kH H (YM h66 rfl ?_);clear H;intro a H;refine s_sub _ H (wg H rfl rfl h66) rfl rfl rfl (by omega) (by omega) rfl ?_;clear H;intro a H;refine kH H (YM h66 rfl ?_);clear H;intro a H;refine s_callL en133sml (Li:=[]) (L:=[bIs bl _]) H (wg H rfl rfl h66) rfl (ih _ _ l[k].flow _ (lev - 1) _ bl (Hp.owns (Li:=[]) H.hp) (hfl.mono fun b o h=>hGm4 b o (hgm b o h)) (by omega) (by omega) (by omega) (by omega) (by omega)) rfl ?_;clear H;rintro v75 G75 L75 a w ⟨b75,lf75,rfl,rfl,hlo75,hhi75⟩ hm75 H;dsimp only [List.nil_append] at H;replace r10:=gcell_mono hm75 r10;refine kH H (YN h66 rfl (Pf h66 rfl (Rm rfl ?_)));clear H;intro a H;refine s_split H 78 rfl ?_ ?_
  ·intro h78
   try have p78:=dT h78
   refine kH H (Ks h78 rfl (Ks h78 rfl (Ks h78 rfl (Ks h78 rfl (Ks h78 rfl (Ks h78 rfl (Ks h78 rfl (Ks h78 rfl (Ks h78 rfl (Pt h78 rfl (Kz K8 ?_)))))))))));clear H K8;intro a H;refine c_cond_t H rfl rfl ?_;refine kP H (SR fun _ K12=>Ra rfl (Kz K12 ?_));clear H K12;intro a H;refine lr H Tryz.results133 rfl ?_;exact H.hp.retL ⟨_,_,rfl,rfl,by omega,by omega⟩
  intro h78
  try have p78:=dF h78
  refine kH H (YM h78 rfl (YM h78 rfl (YI un32run ty35run h78 rfl rfl (YF fd35_6run h78 rfl (YR ty33run h78 rfl (by assumption) ?_)))));clear H;intro a H;refine kH H (YM h78 rfl (YM h78 rfl ?_));clear H;intro a H;refine s_callL en196sml (Li:=[]) (L:=[bIs bl _]) H (wg H rfl rfl h78) rfl (hrows _ _ l[k].rows _ lev _ bl (Hp.owns (Li:=[]) H.hp) (hrw.mono fun b o h=>hm75 b o (hGm4 b o (hgm b o h))) (by omega) (by omega) (by omega) (by omega) (by omega)) rfl ?_;clear H;rintro v86 G86 L86 a w ⟨b86,lf86,rfl,rfl,hlo86,hhi86⟩ hm86 H;dsimp only [List.nil_append] at H;refine kH H (YN h78 rfl (Pf h78 rfl (Kz K8 ?_)));clear H K8;intro a H;refine c_cond H rfl ?_ ?_
  ·intro h88
   try have p88:=dT h88
   refine kP H (SR fun _ K13=>Ra rfl (Kz K13 ?_));clear H K13;intro a H;refine lr H Tryz.results133 rfl ?_;exact H.hp.retL ⟨_,_,rfl,rfl,by omega,by omega⟩
  intro h88
  try have p88:=dF h88
  refine kP H (Kc K6 (SC (Rm rfl (Rd rfl (Ra rfl ?_)))));clear H K6;intro a H;refine wl_nil ?_;refine loop_end ((k+1,lf86,G86)) (by exact (H).sub ⟨rfl,rfl,rfl,rfl,trivial⟩) ?_ ?_
  ·(try dsimp only);exact ⟨by omega,by omega,by omega,fun b o h=>hm86 b o (hm75 b o (hGm4 b o (hgm b o h)))⟩
  first|omega|(dsimp only;omega)
 intro h11
 try have p11:=dF h11
 refine c_exit ?_;refine K2 _ _ ?_;clear K2;refine kP H (SR fun _ K14=>Ra rfl (Kz K14 ?_));clear H K14;intro a H;refine lr H Tryz.results133 rfl ?_;exact H.hp.retL ⟨_,_,rfl,rfl,by omega,by omega⟩
set_option maxHeartbeats 1000000 in
theorem smallRows_step {n:Nat} (ih:SmallF n) (hn:n≤4294967296) (G:GH) (w0:World) (l:List RowD) (v:Value) (lev left:Int) (bl:Nat) (hO:Owns G [bIs bl left] w0) (hv:RepV G (.sl 6 (l.map RowD.dat)) v) (hz:zRows l < n) (hl0:0≤lev) (hl1:lev≤1000) (hf1:left≤1000) (hf0:-1000000000000≤left - 4*(zRows l:Int)) :
  Calls Tryz.prog 196 #[v,vi lev,.pointer (some ⟨bl,0,none⟩)] w0 (RetL w0 G [bIs bl left] (SmQ bl left (zRows l))):=by
 obtain ⟨A,c,rfl,hc1,hc2,hg⟩:=hv.slice;rw [List.length_map] at *;have hll:=zRows_length l;refine enterL (N:=121) (T:=[(0,_),(1,_),(2,_)]) Tryz.func196 rfl Tryz.ntmps196 rfl rfl hO ?_;intro a H;refine kP H (SR fun _ K1=>Ra rfl (Kz K1 (SQ fun _ K2=>SR fun _ K3=>Ra rfl (Kz K3 (SB ?_)))));clear H K1 K3;intro a H;skip;refine c_loopS (ι:=Nat × Int × GH) (Tc:=[(0,_),(1,_),(2,_)]) (Lc:=[]) (fun (gh:Nat × Int × GH)=>[(7,vi gh.1)]) (fun (gh:Nat × Int × GH)=>[bIs bl gh.2.1]) (fun (gh:Nat × Int × GH)=>gh.2.2) (fun (gh:Nat × Int × GH)=>gh.1≤l.length∧left - 4*(zRows (l.take gh.1):Int)≤gh.2.1∧gh.2.1≤left∧(∀ b o,G b=some o→gh.2.2 b=some o)) (fun (gh:Nat × Int × GH)=>l.length - gh.1) ((0,left,G)) (by exact (H).sub ⟨rfl,rfl,rfl,rfl,trivial⟩) ?_ ?_
 ·exact ⟨by omega,by show left - 4*((0:Nat):Int)≤left;omega,Int.le_refl _,fun _ _ h=>h⟩
 clear H;intro gh a w hI H;obtain ⟨k,lf,g⟩:=gh;dsimp only at hI H;obtain ⟨hk,hlo,hhi,hgm⟩:=hI;have hzk:=zRows_tk l k;dsimp only [List.cons_append,List.nil_append,List.append_nil] at H;refine kP H (SQ fun _ K4=>SR fun _ K5=>Rm rfl (Rm rfl (Rl un33run rfl (Rc rfl (Kz K5 ?_)))));clear H K5;intro a H;refine c_cond H rfl ?_ ?_
 ·intro h13
  try have p13:=dT h13
  have hk2:k < l.length:=by omega
  obtain ⟨b,o,pA,pn,pc,dA,dn,dc,yA,yn,yc,cA,cn,cc,rfl,hrow,hhd,hcl⟩:=row_get hk2 hg;have r0:gcell g b (o+k*6+0+0)=some (.slice pA pn pc):=gcell_mono hgm (hrow 0 _ rfl);have r3:gcell g b (o+k*6+0+1+2)=some (.slice dA dn dc):=gcell_mono hgm (hrow 3 _ rfl);have r4:gcell g b (o+k*6+0+1+3)=some (.slice yA yn yc):=gcell_mono hgm (hrow 4 _ rfl);have r5:gcell g b (o+k*6+5)=some (.slice cA cn cc):=gcell_mono hgm (hrow 5 _ rfl);have hcn:=hcl.len;rw [List.length_map] at hcn;subst hcn;have hcc:=hcl.slice;have q1:=tdiv8 pn;have q2:=tdiv8 dn;have q3:=tdiv8 yn;have hzi:=zRow_eq l[k];have hzh:=zHead_eq l[k].head;have l1:=hhd.props.len;have l2:=hhd.dels.len;have l3:=hhd.layers.len;have m1:=szRs_length (l[k].head.props.map PropD.dat);have m2:=szRs_length (l[k].head.marks.dels.map DelD.dat);have m3:=szRs_length (l[k].head.marks.layers.map LayerD.dat);have hzs:=zRows_succ hk2;have hzt:=zRows_tk l (k+1);have hcll:=zCells_length l[k].cells;refine kP H (Kc K4 (SQ fun _ K6=>SB (SQ fun _ K7=>?_)));clear H K4;intro a H;refine c_drawI (hmx) [[],[],[1],[1,2],[1,2,3],[],[],[5,6],[5,6,7],[5,6,7,8],[5,6,7,8,9],[5,6,7,8,9,10],[5,6,7,8,9,10,11],[1,2,3,4,5,6,7,8,9,10,11,12],[],[],[14,15],[14,15,16],[14,15,16,17],[14,15,16,17,18],[14,15,16,17,18,19],[14,15,16,17,18,19,20],[14,15,16,17,18,19,20,21],[1,2,3,4,5,6,7,8,9,10,11,12,13,14,15,16,17,18,19,20,21,22],[],[],[24,25],[24,25,26],[24,25,26,27],[24,25,26,27,28],[24,25,26,27,28,29],[24,25,26,27,28,29,30],[24,25,26,27,28,29,30,31],[1,2,3,4,5,6,7,8,9,10,11,12,13,14,15,16,17,18,19,20,21,22,23,24,25,26,27,28,29,30,31,32],(List.range 34),(List.range 35)] [35] (by kernel_rfl) (by kernel_rfl) (fun (ix_:Nat) (v:Value) (G:GH)=>match ix_ with|0=>v=.pointer (some ⟨bl,0,none⟩)|1=>v=.pointer (some ⟨bl,0,none⟩)|2=>v=.pointer (some ⟨bl,0,none⟩)|3=>v=vi lf|4=>v=vi (lf - 1)|5=>v=.slice (some ⟨b,o,none⟩) l.length c|6=>v=vi k|7=>v=.pointer (some ⟨b,o+k*6,none⟩)|8=>v=.pointer (some ⟨b,o+k*6+0,none⟩)|9=>v=.pointer (some ⟨b,o+k*6+0+0,none⟩)|10=>v=.slice pA pn pc|11=>v=vi pn|12=>v=vi ((pn:Int).tdiv 8)|13=>v=vi (lf - 1 - (pn:Int).tdiv 8)|14=>v=.slice (some ⟨b,o,none⟩) l.length c|15=>v=vi k|16=>v=.pointer (some ⟨b,o+k*6,none⟩)|17=>v=.pointer (some ⟨b,o+k*6+0,none⟩)|18=>v=.pointer (some ⟨b,o+k*6+0+1,none⟩)|19=>v=.pointer (some ⟨b,o+k*6+0+1+2,none⟩)|20=>v=.slice dA dn dc|21=>v=vi dn|22=>v=vi ((dn:Int).tdiv 8)|23=>v=vi (lf - 1 - (pn:Int).tdiv 8 - (dn:Int).tdiv 8)|24=>v=.slice (some ⟨b,o,none⟩) l.length c|25=>v=vi k|26=>v=.pointer (some ⟨b,o+k*6,none⟩)|27=>v=.pointer (some ⟨b,o+k*6+0,none⟩)|28=>v=.pointer (some ⟨b,o+k*6+0+1,none⟩)|29=>v=.pointer (some ⟨b,o+k*6+0+1+3,none⟩)|30=>v=.slice yA yn yc|31=>v=vi yn|32=>v=vi ((yn:Int).tdiv 8)|33=>v=vi (lf - 1 - (pn:Int).tdiv 8 - (dn:Int).tdiv 8 - (yn:Int).tdiv 8)|34=>v=.pointer (some ⟨bl,0,none⟩)|_=>True) (fun _ _ _ _ _ h=>h) H ?_ ?_
  ·clear H;refine al4 ?_ ?_ ?_ ?_ (al4 ?_ ?_ ?_ ?_ (al4 ?_ ?_ ?_ ?_ (al4 ?_ ?_ ?_ ?_ (al4 ?_ ?_ ?_ ?_ (al4 ?_ ?_ ?_ ?_ (al4 ?_ ?_ ?_ ?_ (al4 ?_ ?_ ?_ ?_ (al4 ?_ ?_ ?_ ?_ allI_nil))))))))
   ·exact Z0 rfl rfl fun _ _ _ _ _=>Rm rfl
   ·exact Z0 rfl rfl fun _ _ _ _ _=>Rm rfl
   ·exact Z1 1 17 rfl rfl fun _ _ _ _ _=>Rk rfl
   ·exact Z1 2 18 rfl rfl fun _ _ _ _ _=>Ro ty3run 0 rfl rfl
   ·exact Z1 3 19 rfl rfl fun _ _ _ _ _=>Rs rfl
   ·exact Z0 rfl rfl fun _ _ _ _ _=>Rm rfl
   ·exact Z0 rfl rfl fun _ _ _ _ _=>Rm rfl
   ·exact Z2 5 21 6 22 rfl rfl fun _ _ _ _ _=>Ri un33run ty171run rfl rfl
   ·exact Z1 7 23 rfl rfl fun _ _ _ _ _=>Rf fd171_0run rfl
   ·exact Z1 8 24 rfl rfl fun _ _ _ _ _=>Rf fd31_0run rfl
   ·exact Op1 9 25 rfl rfl fun _ _ _ _ hG _ H fin=>kH H (Rg ty25run rfl (gcell_mono hG r0) fun _ H=>fin H iJ rfl)
   ·exact Z1 10 26 rfl rfl fun _ _ _ _ _=>Rl un25run rfl
   ·refine Op1 11 27 rfl rfl fun _ a w G1 hG HT H fin=>?_;refine s_quo _ H wn rfl rfl (by omega) rfl (by omega) (by omega) rfl ?_;clear H;intro a H;exact fin H iJ rfl
   ·exact Z2 4 20 12 28 rfl rfl fun _ _ _ _ _=>Rs rfl
   ·exact Z0 rfl rfl fun _ _ _ _ _=>Rm rfl
   ·exact Z0 rfl rfl fun _ _ _ _ _=>Rm rfl
   ·exact Z2 14 30 15 31 rfl rfl fun _ _ _ _ _=>Ri un33run ty171run rfl rfl
   ·exact Z1 16 32 rfl rfl fun _ _ _ _ _=>Rf fd171_0run rfl
   ·exact Z1 17 33 rfl rfl fun _ _ _ _ _=>Rf fd31_1run rfl
   ·exact Z1 18 34 rfl rfl fun _ _ _ _ _=>Rf fd29_2run rfl
   ·exact Op1 19 35 rfl rfl fun _ _ _ _ hG _ H fin=>kH H (Rg ty26run rfl (gcell_mono hG r3) fun _ H=>fin H iJ rfl)
   ·exact Z1 20 36 rfl rfl fun _ _ _ _ _=>Rl un26run rfl
   ·refine Op1 21 37 rfl rfl fun _ a w G1 hG HT H fin=>?_;refine s_quo _ H wn rfl rfl (by omega) rfl (by omega) (by omega) rfl ?_;clear H;intro a H;exact fin H iJ rfl
   ·exact Z2 13 29 22 38 rfl rfl fun _ _ _ _ _=>Rs rfl
   ·exact Z0 rfl rfl fun _ _ _ _ _=>Rm rfl
   ·exact Z0 rfl rfl fun _ _ _ _ _=>Rm rfl
   ·exact Z2 24 40 25 41 rfl rfl fun _ _ _ _ _=>Ri un33run ty171run rfl rfl
   ·exact Z1 26 42 rfl rfl fun _ _ _ _ _=>Rf fd171_0run rfl
   ·exact Z1 27 43 rfl rfl fun _ _ _ _ _=>Rf fd31_1run rfl
   ·exact Z1 28 44 rfl rfl fun _ _ _ _ _=>Rf fd29_3run rfl
   ·exact Op1 29 45 rfl rfl fun _ _ _ _ hG _ H fin=>kH H (Rg ty27run rfl (gcell_mono hG r4) fun _ H=>fin H iJ rfl)
   ·exact Z1 30 46 rfl rfl fun _ _ _ _ _=>Rl un27run rfl
   ·refine Op1 31 47 rfl rfl fun _ a w G1 hG HT H fin=>?_;refine s_quo _ H wn rfl rfl (by omega) rfl (by omega) (by omega) rfl ?_;clear H;intro a H;exact fin H iJ rfl
   ·exact Z2 23 39 32 48 rfl rfl fun _ _ _ _ _=>Rs rfl
   ·exact Z1 0 16 rfl rfl fun _ _ _ _ _=>Rk rfl
   exact opB rfl
  clear H;intro a w G hGm4 H hv;obtain ⟨u49,hu49,hp49⟩:=hv 33 49 (by decide) rfl;obtain rfl:u49=vi (lf - 1 - (pn:Int).tdiv 8 - (dn:Int).tdiv 8 - (yn:Int).tdiv 8):=hp49;have H:=H.addS hu49;obtain ⟨u50,hu50,hp50⟩:=hv 34 50 (by decide) rfl;obtain rfl:u50=.pointer (some ⟨bl,0,none⟩):=hp50;have H:=H.addS hu50;clear hv;refine s_store ty3run 0 (vs:=[_]) _ H wn rfl rfl rfl rfl rfl rfl rfl rfl ?_;clear H;intro w H;dsimp only [List.set,setRow] at H;refine wl_nil ⟨rfl,?_⟩;refine K7 _ _ ?_;clear K7;refine c_seq (fun _ K8=>?_);refine c_seq (fun _ K9=>?_);obtain ⟨lf1,hlf1⟩:∃ x,x=lf - 1 - (pn:Int).tdiv 8 - (dn:Int).tdiv 8 - (yn:Int).tdiv 8:=⟨_,rfl⟩;rw [← hlf1] at H;have hgm1:∀ b o,g b=some o→G b=some o:=hGm4;obtain ⟨g1,hg1⟩:∃ x,x=G:=⟨_,rfl⟩;rw [← hg1] at H hgm1;refine kP H (SC (Ra rfl (Kn K9 (SB ?_))));clear H K9;intro a H;skip;refine c_loopS (ι:=Nat × Int × GH) (Tc:=[(0,_),(1,_),(2,_),(7,_)]) (Lc:=[]) (fun (gh:Nat × Int × GH)=>[(8,vi gh.1)]) (fun (gh:Nat × Int × GH)=>[bIs bl gh.2.1]) (fun (gh:Nat × Int × GH)=>gh.2.2) (fun (gh:Nat × Int × GH)=>gh.1≤l[k].cells.length∧lf1 - 4*(zCells (l[k].cells.take gh.1):Int)≤gh.2.1∧gh.2.1≤lf1∧(∀ b o,g b=some o→gh.2.2 b=some o)) (fun (gh:Nat × Int × GH)=>l[k].cells.length - gh.1) ((0,lf1,g1)) (by exact (H).sub ⟨rfl,rfl,rfl,rfl,rfl,trivial⟩) ?_ ?_
  ·exact ⟨by omega,by show lf1 - 4*((0:Nat):Int)≤lf1;omega,Int.le_refl _,hgm1⟩
  clear H;intro gh a w hI H;obtain ⟨j,lf2,g2⟩:=gh;dsimp only at hI H;obtain ⟨hj,hlo2,hhi2,hgm0⟩:=hI;have hgm2:=fun b o h=>hgm0 b o (hgm b o h);have hzk2:=zCells_tk l[k].cells j;replace r5:=gcell_mono hgm0 r5;dsimp only [List.cons_append,List.nil_append,List.append_nil] at H;refine kP H (SQ fun _ K10=>SR fun _ K11=>Rm rfl (Rm rfl (Rm rfl (Ri un33run ty171run rfl rfl (Rf fd171_1run rfl (Rg ty169run rfl (by assumption) ?_))))));clear H;intro a H;refine kH H (Rl un169run rfl (Rc rfl (Kz K11 ?_)));clear H K11;intro a H;refine c_cond H rfl ?_ ?_
  ·intro h58
   try have p58:=dT h58
   have hj2:j < l[k].cells.length:=by omega
   obtain ⟨b2,o2,qA,qn,qc,eA,en,ec,zA,zn,zc,fA,fn,fc,rfl,hrow2,hhd2,hfl2⟩:=cell_get hj2 hcl.at_;have t2:gcell g2 b2 (o2+j*7+6)=some (.slice fA fn fc):=gcell_mono hgm2 (hrow2 6 _ rfl);have p1:=tdiv8 qn;have p2:=tdiv8 en;have p3:=tdiv8 zn;have hzi2:=zCell_eq l[k].cells[j];have hzh2:=zHead_eq l[k].cells[j].head;have l4:=hhd2.props.len;have l5:=hhd2.dels.len;have l6:=hhd2.layers.len;have m4:=szRs_length (l[k].cells[j].head.props.map PropD.dat);have m5:=szRs_length (l[k].cells[j].head.marks.dels.map DelD.dat);have m6:=szRs_length (l[k].cells[j].head.marks.layers.map LayerD.dat);have hzs2:=zCells_succ hj2;have hzt2:=zCells_tk l[k].cells (j+1);refine kP H (Kc K10 (SQ fun _ K12=>SB (SR fun _ K13=>Rm rfl (Rm rfl (Ri un33run ty171run rfl rfl (Rf fd171_1run rfl (Rg ty169run rfl (by assumption) ?_)))))));clear H K10;intro a H;refine kH H (Rm rfl (Ri un169run ty174run rfl rfl (Rf fd174_1run rfl ?_)));clear H;intro a H;refine s_loada ty31run (cs:=[.slice qA qn qc,vi l[k].cells[j].head.marks.ins,vi l[k].cells[j].head.marks.move,.slice eA en ec,.slice zA zn zc]) H wn rfl rfl (fun i v hi=>H.hp.gcell (gcell_mono hgm2 (head_cells hrow2 i v hi))) rfl ?_;clear H;intro a H;refine s_alloc ty31run H wn rfl ?_;clear H;intro b9 a w hb9 H;refine s_store ty31run 0 (vs:=[_,_,_,_,_]) _ H wn rfl rfl rfl rfl rfl rfl rfl rfl ?_;clear H;intro w H;dsimp only [List.set,setRow] at H;refine K13 _ _ ?_;clear K13;refine c_seq (fun _ K14=>?_);refine c_drawI (hmx) [[],[],[1],[1,2],[1,2,3],[],[5],[5,6],[5,6,7],[1,2,3,4,5,6,7,8],[],[10],[10,11],[10,11,12],[10,11,12,13],[1,2,3,4,5,6,7,8,9,10,11,12,13,14],[],[16],[16,17],[16,17,18],[16,17,18,19],[1,2,3,4,5,6,7,8,9,10,11,12,13,14,15,16,17,18,19,20],(List.range 22),(List.range 23)] [23] (by kernel_rfl) (by kernel_rfl) (fun (ix_:Nat) (v:Value) (G:GH)=>match ix_ with|0=>v=.pointer (some ⟨bl,0,none⟩)|1=>v=.pointer (some ⟨bl,0,none⟩)|2=>v=.pointer (some ⟨bl,0,none⟩)|3=>v=vi lf2|4=>v=vi (lf2 - 1)|5=>v=.pointer (some ⟨b9,0,none⟩)|6=>v=.slice qA qn qc|7=>v=vi qn|8=>v=vi ((qn:Int).tdiv 8)|9=>v=vi (lf2 - 1 - (qn:Int).tdiv 8)|10=>v=.pointer (some ⟨b9,1,none⟩)|11=>v=.pointer (some ⟨b9,3,none⟩)|12=>v=.slice eA en ec|13=>v=vi en|14=>v=vi ((en:Int).tdiv 8)|15=>v=vi (lf2 - 1 - (qn:Int).tdiv 8 - (en:Int).tdiv 8)|16=>v=.pointer (some ⟨b9,1,none⟩)|17=>v=.pointer (some ⟨b9,4,none⟩)|18=>v=.slice zA zn zc|19=>v=vi zn|20=>v=vi ((zn:Int).tdiv 8)|21=>v=vi (lf2 - 1 - (qn:Int).tdiv 8 - (en:Int).tdiv 8 - (zn:Int).tdiv 8)|22=>v=.pointer (some ⟨bl,0,none⟩)|_=>True) (fun _ _ _ _ _ h=>h) H ?_ ?_
   ·clear H;refine al4 ?_ ?_ ?_ ?_ (al4 ?_ ?_ ?_ ?_ (al4 ?_ ?_ ?_ ?_ (al4 ?_ ?_ ?_ ?_ (al4 ?_ ?_ ?_ ?_ (al4 ?_ ?_ ?_ ?_ allI_nil)))))
    ·exact Z0 rfl rfl fun _ _ _ _ _=>Rm rfl
    ·exact Z0 rfl rfl fun _ _ _ _ _=>Rm rfl
    ·exact Z1 1 71 rfl rfl fun _ _ _ _ _=>Rk rfl
    ·exact Z1 2 72 rfl rfl fun _ _ _ _ _=>Ro ty3run 1 rfl rfl
    ·exact Z1 3 73 rfl rfl fun _ _ _ _ _=>Rs rfl
    ·exact Z0 rfl rfl fun _ _ _ _ _=>Rf fd31_0run rfl
    ·exact Z1 5 75 rfl rfl fun _ _ _ _ _=>Ro ty25run 0 rfl rfl
    ·exact Z1 6 76 rfl rfl fun _ _ _ _ _=>Rl un25run rfl
    ·refine Op1 7 77 rfl rfl fun _ a w G1 hG HT H fin=>?_;refine s_quo _ H wn rfl rfl (by omega) rfl (by omega) (by omega) rfl ?_;clear H;intro a H;exact fin H iJ rfl
    ·exact Z2 4 74 8 78 rfl rfl fun _ _ _ _ _=>Rs rfl
    ·exact Z0 rfl rfl fun _ _ _ _ _=>Rf fd31_1run rfl
    ·exact Z1 10 80 rfl rfl fun _ _ _ _ _=>Rf fd29_2run rfl
    ·exact Z1 11 81 rfl rfl fun _ _ _ _ _=>Ro ty26run 0 rfl rfl
    ·exact Z1 12 82 rfl rfl fun _ _ _ _ _=>Rl un26run rfl
    ·refine Op1 13 83 rfl rfl fun _ a w G1 hG HT H fin=>?_;refine s_quo _ H wn rfl rfl (by omega) rfl (by omega) (by omega) rfl ?_;clear H;intro a H;exact fin H iJ rfl
    ·exact Z2 9 79 14 84 rfl rfl fun _ _ _ _ _=>Rs rfl
    ·exact Z0 rfl rfl fun _ _ _ _ _=>Rf fd31_1run rfl
    ·exact Z1 16 86 rfl rfl fun _ _ _ _ _=>Rf fd29_3run rfl
    ·exact Z1 17 87 rfl rfl fun _ _ _ _ _=>Ro ty27run 0 rfl rfl
    ·exact Z1 18 88 rfl rfl fun _ _ _ _ _=>Rl un27run rfl
    ·refine Op1 19 89 rfl rfl fun _ a w G1 hG HT H fin=>?_;refine s_quo _ H wn rfl rfl (by omega) rfl (by omega) (by omega) rfl ?_;clear H;intro a H;exact fin H iJ rfl
    ·exact Z2 15 85 20 90 rfl rfl fun _ _ _ _ _=>Rs rfl
    ·exact Z1 0 70 rfl rfl fun _ _ _ _ _=>Rk rfl
    exact opB rfl
   clear H;intro a w G hGm9 H hv;obtain ⟨u91,hu91,hp91⟩:=hv 21 91 (by decide) rfl;obtain rfl:u91=vi (lf2 - 1 - (qn:Int).tdiv 8 - (en:Int).tdiv 8 - (zn:Int).tdiv 8):=hp91;have H:=H.addS hu91;obtain ⟨u92,hu92,hp92⟩:=hv 22 92 (by decide) rfl;obtain rfl:u92=.pointer (some ⟨bl,0,none⟩):=hp92;have H:=H.addS hu92;clear hv;refine s_store ty3run 1 (vs:=[_]) _ H wn rfl rfl rfl rfl rfl rfl rfl rfl ?_;clear H;intro w H;dsimp only [List.set,setRow] at H;refine wl_nil ⟨rfl,?_⟩;refine K14 _ _ ?_;clear K14;refine kP H (SR fun _ K15=>Rm rfl (Rk rfl (Ro ty3run 1 rfl rfl (Rc rfl (Rm rfl ?_)))));clear H;intro a H;refine s_split H 97 rfl ?_ ?_
   ·intro h97
    try have p97:=dT h97
    refine kH H (Ks h97 rfl (Ks h97 rfl (Pt h97 rfl (Rm rfl (Ks rfl rfl (Ks rfl rfl (Ks rfl rfl (Ks rfl rfl (Ks rfl rfl (Ks rfl rfl (Ks rfl rfl (Ks rfl rfl (Ks rfl rfl (Ks rfl rfl (Ks rfl rfl (Ks rfl rfl (Ks rfl rfl (Ks rfl rfl ?_))))))))))))))))));clear H;intro a H;refine kH H (Pt rfl rfl (Kz K15 ?_));clear H K15;intro a H;refine c_cond_t H rfl rfl ?_;refine kP H (SR fun _ K16=>Ra rfl (Kz K16 ?_));clear H K16;intro a H;refine lr H Tryz.results196 rfl ?_;exact H.hp.retD (L':=[bIs bl _]) (by repeat (first|exact List.Sublist.refl _|apply List.Sublist.cons)) ⟨_,_,rfl,rfl,by omega,by omega⟩
   intro h97
   try have p97:=dF h97
   replace r5:=gcell_mono hGm9 r5;replace t2:=gcell_mono hGm9 t2;refine kH H (YM h97 rfl (YC h97 rfl (Pf h97 rfl (Rm rfl ?_))));clear H;intro a H;refine s_split H 101 rfl ?_ ?_
   ·intro h101
    try have p101:=dT h101
    refine kH H (Ks h101 rfl (Ks h101 rfl (Ks h101 rfl (Ks h101 rfl (Ks h101 rfl (Ks h101 rfl (Ks h101 rfl (Ks h101 rfl (Ks h101 rfl (Ks h101 rfl (Ks h101 rfl (Ks h101 rfl (Ks h101 rfl (Ks h101 rfl ?_))))))))))))));clear H;intro a H;refine kH H (Pt h101 rfl (Kz K15 ?_));clear H K15;intro a H;refine c_cond_t H rfl rfl ?_;refine kP H (SR fun _ K17=>Ra rfl (Kz K17 ?_));clear H K17;intro a H;refine lr H Tryz.results196 rfl ?_;exact H.hp.retD (L':=[bIs bl _]) (by repeat (first|exact List.Sublist.refl _|apply List.Sublist.cons)) ⟨_,_,rfl,rfl,by omega,by omega⟩
   intro h101
   try have p101:=dF h101
   refine kH H (YM h101 rfl (YM h101 rfl (YI un33run ty171run h101 rfl rfl (YF fd171_1run h101 rfl (YR ty169run h101 rfl (by assumption) ?_)))));clear H;intro a H;refine kH H (YM h101 rfl (YI un169run ty174run h101 rfl rfl (YF fd174_2run h101 rfl (YR ty32run h101 rfl (by assumption) ?_))));clear H;intro a H;refine kH H (YM h101 rfl ?_);clear H;intro a H;refine s_sub _ H (wg H rfl rfl h101) rfl rfl rfl (by omega) (by omega) rfl ?_;clear H;intro a H;refine kH H (YM h101 rfl ?_);clear H;intro a H;refine s_callL en133sml (Li:=[_]) (L:=[bIs bl _]) (H.pickT (Pl:=[_,_]) (Pl':=[_,_]) [0,1] (by decide) rfl) (wg H rfl rfl h101) rfl (ih _ _ l[k].cells[j].flow _ (lev - 1) _ bl (Hp.owns (Li:=[_]) (H.pickT (Pl:=[_,_]) (Pl':=[_,_]) [0,1] (by decide) rfl).hp) (hfl2.mono fun b o h=>hGm9 b o (hgm2 b o h)) (by omega) (by omega) (by omega) (by omega) (by omega)) rfl ?_;clear H;rintro v114 G114 L114 a w ⟨b114,lf3,rfl,rfl,hlo3,hhi3⟩ hm114 H;dsimp only [List.cons_append,List.nil_append] at H;refine kH H (YN h101 rfl (Pf h101 rfl (Kz K15 ?_)));clear H K15;intro a H;refine c_cond H rfl ?_ ?_
   ·intro h116
    try have p116:=dT h116
    refine kP H (SR fun _ K18=>Ra rfl (Kz K18 ?_));clear H K18;intro a H;refine lr H Tryz.results196 rfl ?_;exact H.hp.retD (L':=[bIs bl _]) (by repeat (first|exact List.Sublist.refl _|apply List.Sublist.cons)) ⟨_,_,rfl,rfl,by omega,by omega⟩
   intro h116
   try have p116:=dF h116
   refine kP H (Kc K12 (SC (Rm rfl (Rd rfl (Ra rfl ?_)))));clear H K12;intro a H;refine wl_nil ?_;refine loop_end ((j+1,lf3,G114)) (by exact (H.pickT (Pl:=[_,_]) (Pl':=[_]) [1] (by decide) rfl).sub ⟨rfl,rfl,rfl,rfl,rfl,trivial⟩) ?_ ?_
   ·(try dsimp only);exact ⟨by omega,by omega,by omega,fun b o h=>hm114 b o (hGm9 b o (hgm0 b o h))⟩
   first|omega|(dsimp only;omega)
  intro h58
  try have p58:=dF h58
  refine c_exit ?_;refine K8 _ _ ?_;clear K8;refine kP H (SR fun _ K19=>Rm rfl (Rk rfl (Ro ty3run 0 rfl rfl (Rc rfl (Kz K19 ?_)))));clear H K19;intro a H;refine c_cond H rfl ?_ ?_
  ·intro h120
   try have p120:=dT h120
   refine kP H (SR fun _ K20=>Ra rfl (Kz K20 ?_));clear H K20;intro a H;refine lr H Tryz.results196 rfl ?_;exact H.hp.retD (L':=[bIs bl _]) (by repeat (first|exact List.Sublist.refl _|apply List.Sublist.cons)) ⟨_,_,rfl,rfl,by omega,by omega⟩
  intro h120
  try have p120:=dF h120
  refine kP H (Kc K6 (SC (Rm rfl (Rd rfl (Ra rfl ?_)))));clear H K6;intro a H;refine wl_nil ?_;refine loop_end ((k+1,lf2,g2)) (by exact (H).sub ⟨rfl,rfl,rfl,rfl,trivial⟩) ?_ ?_
  ·(try dsimp only);exact ⟨by omega,by omega,by omega,hgm2⟩
  first|omega|(dsimp only;omega)
 intro h13
 try have p13:=dF h13
 refine c_exit ?_;refine K2 _ _ ?_;clear K2;refine kP H (SR fun _ K21=>Ra rfl (Kz K21 ?_));clear H K21;intro a H;refine lr H Tryz.results196 rfl ?_;exact H.hp.retD (L':=[bIs bl _]) (by repeat (first|exact List.Sublist.refl _|apply List.Sublist.cons)) ⟨_,_,rfl,rfl,by omega,by omega⟩
theorem smallF_all:∀ n:Nat,n≤4294967296→SmallF n
 | 0,_=>fun _ _ _ _ _ _ _ _ _ hz=>absurd hz (Nat.not_lt_zero _)
 | n+1,h=>smallFlow_step (smallF_all n (by omega)) (by omega) (fun G w0 l v lev left bl hO hv hz h1 h2 h3 h4=>smallRows_step (smallF_all n (by omega)) (by omega) G w0 l v lev left bl hO hv hz h1 h2 h3 h4)
theorem smallItems_spec (G:GH) (w0:World) (hG:Hold G w0) (l:List ItemD) (v:Value) (hv:RepV G (.sl 11 (l.map ItemD.dat)) v) (hz:zItems l≤1073741824) :
  Calls Tryz.prog 61 #[v] w0 (Ret w0 G fun u G'=>∃ b,u=.bool b):=by
 refine eN [(0,_)] Tryz.func61 rfl Tryz.ntmps61 rfl rfl hG ?_;intro a H;refine kP H (SR fun _ K1=>Ra rfl (Kz K1 (SR fun _ K2=>?_)));clear H K1;intro a H;refine s_alloc ty3run H wn rfl ?_;clear H;intro b3 a w hb3 H;refine s_store ty3run 0 (vs:=[_]) _ H wn rfl rfl rfl rfl rfl rfl rfl rfl ?_;clear H;intro w H;dsimp only [List.set,setRow] at H;refine K2 _ _ ?_;clear K2;refine kP H (SR fun _ K3=>Rm rfl ?_);clear H;intro a H;refine s_callL en133sml (Li:=[]) (L:=[bIs b3 300]) H wn rfl (smallF_all 4294967296 (Nat.le_refl _) _ _ l v 12 300 b3 (Hp.owns (Li:=[]) H.hp) hv (by omega) (by decide) (by decide) (by decide) (by omega)) rfl ?_;clear H;rintro v5 G5 L5 a w ⟨b5,lf5,rfl,rfl,-,-⟩ hm5 H;refine kH H (Ra rfl (Kz K3 ?_));clear H K3;intro a H;refine lr H Tryz.results61 rfl ?_;exact H.hp.ret ⟨_,rfl⟩
end
section
open Go.RowKit
theorem en18mdk:∀ args w,(callFunc 18 args).run Tryz.prog w=.ok (.enter 18 args) w:=enters Tryz.func18 rfl (by kernel_rfl)
theorem sr143mdk:Srt Tryz.prog 143 [(0,11),(11,1),(12,1),(13,1)] [.slice none 0 0,.slice none 0 0,.int .i64 0,.int .i64 0,.slice none 0 0,.slice none 0 0,.slice none 0 0,.slice none 0 0,.slice none 0 0,.slice none 0 0,.slice none 0 0,.slice none 0 0,.slice none 0 0,.int .i64 0]:=⟨by kernel_rfl,by kernel_rfl⟩
theorem en61mdk:∀ args w,(callFunc 61 args).run Tryz.prog w=.ok (.enter 61 args) w:=enters Tryz.func61 rfl (by kernel_rfl)
theorem en16mdk:∀ args w,(callFunc 16 args).run Tryz.prog w=.ok (.enter 16 args) w:=enters Tryz.func16 rfl (by kernel_rfl)
theorem gc_of {G:GH} {b:Nat} {cs:List Value} {e:TypeId} {q:Nat × Nat} (h:G b=some (.cells cs.toArray e q)) (k:Nat) (ds:List Value) (hd:ds=(cs.drop k).take ds.length) (j:Nat) (v:Value) (hj:ds[j]?=some v):gcell G b (k+j)=some v:=by
 unfold gcell
 rw [h]
 show cs.toArray[k+j]?=some v
 rw [hd,List.getElem?_take] at hj
 split at hj
 ·simpa using hj
 cases hj
set_option maxHeartbeats 4000000 in
theorem mCheck_spec (G:GH) (w0:World) (hG:Hold G w0) (D:DocV) (d:DocD) (hR:DocR G D d) (hz:DocZ d) :
  Calls Tryz.prog 21 #[D.val] w0 (Ret w0 G fun u G'=>u=vi (chkDoc d)):=by
 obtain ⟨df,dp,dd,dy,⟨rA,rn,rc⟩,d1,d2,d3,d4,ins,mv⟩:=D;obtain ⟨hfl,hhd,hin,hmv,hrv,hst⟩:=hR;dsimp only at hfl hhd hin hmv hrv hst;subst hin;subst hmv;obtain ⟨zf,zh,zr,zt,zs,zg⟩:=hz;have hdl:=hhd.dels.len;rw [List.length_map] at hdl
 have hdn:d.fin.marks.dels.length≤4294967296:=by
  have h1:=zHead_eq d.fin;have h2:=szRs_length (d.fin.marks.dels.map DelD.dat);rw [List.length_map] at h2;omega
 have hrl:=hrv.len;rw [List.length_map] at hrl;dsimp only at hrl;subst hrl;refine eN [(0,_)] Tryz.func21 rfl Tryz.ntmps21 rfl rfl hG ?_;intro a H;refine c_seqR (fun _ K1=>?_);refine s_box (cs:=[_,_,_,_,_,_,_,_,_,_,_]) H wn rfl rfl rfl ?_;clear H;intro b1 a w hb1 H;refine kH H (Ra rfl (Kz K1 (SQ fun _ K2=>SQ fun _ K3=>?_)));clear H K1;intro a H;obtain ⟨Ga,hma,hb1',H⟩:=H.giveBox;have hgs:=fun j v hj=>gc_of hb1' 7 [sl3 d1,sl3 d2,sl3 d3,sl3 d4] rfl j v hj;have hgh:=fun j v hj=>gc_of hb1' 1 [sl3 dp,vi d.fin.marks.ins,vi d.fin.marks.move,sl3 dd,sl3 dy] rfl j v hj;have hgm:=fun j v hj=>gc_of hb1' 2 [vi d.fin.marks.ins,vi d.fin.marks.move,sl3 dd,sl3 dy] rfl j v hj
 have hgr:gcell Ga b1 6=some (.slice rA d.revs.length rc):=by unfold gcell;rw [hb1'];rfl
 have hgf:gcell Ga b1 0=some (sl3 df):=by unfold gcell;rw [hb1'];rfl
 have hga:=fun j v hj=>gc_of hb1' 0 [sl3 df,sl3 dp,vi d.fin.marks.ins,vi d.fin.marks.move,sl3 dd,sl3 dy,.slice rA d.revs.length rc,sl3 d1,sl3 d2,sl3 d3,sl3 d4] rfl j v hj;replace hfl:=hfl.mono hma;replace hhd:=hhd.mono hma;replace hrv:=hrv.mono hma;replace hst:=hst.mono hma;refine kP H (SC (Rf fd50_3nck rfl ?_));clear H;intro a H;refine s_loada ty46chd (cs:=[sl3 d1,sl3 d2,sl3 d3,sl3 d4]) H wn rfl rfl (fun j v hj=>H.hp.gcell (hgs j v hj)) rfl ?_;clear H;intro a H;refine s_call en18mdk H wn rfl (mset_spec _ _ H.hp.ro d.stg _ _ _ _ hst zg) rfl ?_;clear H;rintro v13 G13 a w rfl hm13 H;refine kH H (Ra rfl (Kn K3 (SR fun _ K4=>Rm rfl (Rc rfl (Kz K4 ?_)))));clear H K3 K4;intro a H;refine c_cond H rfl ?_ ?_
 ·intro h15
  try have p15:=dT h15
  refine c_seq (fun _ K5=>?_)
  have e:chkDoc d=chkStg d.stg:=by rw [chkDoc,firstE,firstE,if_pos p15,if_pos p15]
  refine kP H (SC (Rm rfl (Ra rfl (Kn K5 ?_))));clear H K5;intro a H;refine lr H Tryz.results21 rfl ?_;exact H.hp.ret (congrArg vi e.symm)
 intro h15
 try have p15:=dF h15
 have e1:chkStg d.stg=0:=Decidable.not_not.1 p15
 have hE1:chkDoc d=firstE [chkRvs d.revs,firstE [headE d.ckp 3 d.fin,whenE (mrkB d.fin.marks) 21],(itemsC d.ckp true false 0 d.flow ⟨0,[]⟩).1,whenE (decide (16384 < (itemsC d.ckp true false 0 d.flow ⟨0,[]⟩).2.n)) 9]:=by
  rw [chkDoc,firstE_z e1,firstE_one]
 replace hgr:=gcell_mono hm13 hgr;replace hrv:=hrv.mono hm13;refine kP H (Kc K2 (SQ fun _ K6=>SR fun _ K7=>Rf fd50_2nck rfl (Rg ty48nck rfl (by assumption) ?_)));clear H K2;intro a H;refine kH H (Rl un48nck rfl (Rc rfl (Kz K7 ?_)));clear H K7;intro a H;refine c_cond H rfl ?_ ?_
 ·intro h20
  try have p20:=dT h20
  refine c_seq (fun _ K8=>?_)
  have e:chkDoc d=9:=by
   have h:chkRvs d.revs=9:=lim_yes (m:=256) (by omega);rw [hE1,firstE_ne (by rw [h];decide),h]
  refine kP H (SC (Ra rfl (Kn K8 ?_)));clear H K8;intro a H;refine lr H Tryz.results21 rfl ?_;exact H.hp.ret (congrArg vi e.symm)
 intro h20
 try have p20:=dF h20
 have hRv:chkRvs d.revs=allE (revE d.revs) d.revs.length:=lim_no (m:=256) (by omega);refine kP H (Kc K6 (SQ fun _ K9=>SR fun _ K10=>Ra rfl (Kz K10 (SB ?_))));clear H K6 K10;intro a H;skip;refine c_loopS (ι:=Nat × GH) (Tc:=[(1,_)]) (Lc:=[]) (fun (gh:Nat × GH)=>[(4,vi gh.1)]) (fun (gh:Nat × GH)=>[]) (fun (gh:Nat × GH)=>gh.2) (fun (gh:Nat × GH)=>gh.1≤d.revs.length∧firstE (((List.range d.revs.length).map (revE d.revs)).drop gh.1)=allE (revE d.revs) d.revs.length∧(∀ b o,G13 b=some o→gh.2 b=some o)) (fun (gh:Nat × GH)=>d.revs.length - gh.1) ((0,G13)) (by exact (H).sub ⟨rfl,rfl,trivial⟩) ?_ ?_
 ·exact ⟨Nat.zero_le _,rfl,fun _ _ h=>h⟩
 clear H;intro gh a w hI H;obtain ⟨k,g⟩:=gh;dsimp only at hI H;obtain ⟨hk,he,hgm0⟩:=hI;have hgrg:=gcell_mono hgm0 hgr;have hrvg:=hrv.mono hgm0;dsimp only [List.cons_append,List.nil_append,List.append_nil] at H;refine kP H (SQ fun _ K11=>SR fun _ K12=>Rm rfl (Rf fd50_2nck rfl (Rg ty48nck rfl (by assumption) ?_)));clear H;intro a H;refine kH H (Rl un48nck rfl (Rc rfl (Kz K12 ?_)));clear H K12;intro a H;refine c_cond H rfl ?_ ?_
 ·intro h25
  try have p25:=dT h25
  have hk2:k < d.revs.length:=by omega
  have hk1:k - 1 < d.revs.length:=by omega
  obtain ⟨lb,lo,rfl,hrow⟩:=rv_at hrvg hk2;obtain ⟨_,_,hea,hrow'⟩:=rv_at hrvg hk1
  injection hea with hea
  injection hea with e1' e2'
  subst e1';subst e2';have hte:=zt _ (List.getElem_mem hk2);obtain ⟨x,hx⟩:∃ x,x=d.revs[k]:=⟨_,rfl⟩
  have hek:revE d.revs k=revE0 d.revs k x:=by unfold revE;rw [List.getElem?_eq_getElem hk2,hx]
  unfold revE0 at hek
  have hinc:inc13 x.id d.revs[k - 1].id (decide ((k:Int)=0))=incE (fun k=>(d.revs[k]?.map RvD.id).getD 0) k:=by
   rw [← inc13_eq];(try dsimp only);rw [List.getElem?_eq_getElem hk2,List.getElem?_eq_getElem hk1,hx];simp
  rw [← hx] at hrow hte
  have hst1:∀ e,revE d.revs k=e→e≠0→chkDoc d=e:=fun e h1 h2=>by
   have h3:chkRvs d.revs=e:=by rw [hRv,all_stop hk2 he (by rw [h1];exact h2),h1]
   rw [hE1,firstE_ne (by rw [h3];exact h2),h3]
  refine kP H (Kc K11 (SQ fun _ K13=>SB (SR fun _ K14=>Rf fd50_2nck rfl (Rg ty48nck rfl (by assumption) ?_))));clear H K11;intro a H;refine kH H (Rm rfl (Ri un48nck ty65nck rfl rfl ?_));clear H;intro a H;refine s_loada ty65nck (cs:=x.cells) H wn rfl rfl (fun j v hj=>H.hp.gcell (hrow j v hj)) rfl ?_;clear H;intro a H;refine s_alloc ty65nck H wn rfl ?_;clear H;intro b5 a w hb5 H;refine s_store ty65nck 0 (vs:=[_,_,_]) _ H wn rfl rfl rfl rfl rfl rfl rfl rfl ?_;clear H;intro w H;dsimp only [List.set,setRow] at H;refine K14 _ _ ?_;clear K14;refine c_seq (fun _ K15=>?_);refine c_seq (fun _ K16=>?_);refine c_drawI (hmx) [[],[0],[],[2],[],[4],[4,5],[2,3,4,5,6],[2,3,4,5,6,7],[2,3,4,5,6,7,8],[],[10],(List.range 12),(List.range 13)] [13] (by kernel_rfl) (by kernel_rfl) (fun (ix_:Nat) (v:Value) (G:GH)=>match ix_ with|0=>v=.pointer (some ⟨b5,0,none⟩)|1=>v=vi x.id|2=>v=.pointer (some ⟨b1,6,none⟩)|3=>v=.slice (some ⟨lb,lo,none⟩) d.revs.length rc|4=>v=vi k|5=>v=vi ((k:Int) - 1)|6=>v=vi ((k - 1:Nat):Int)|7=>v=.pointer (some ⟨lb,lo+(k - 1)*3,none⟩)|8=>v=.pointer (some ⟨lb,lo+(k - 1)*3+0,none⟩)|9=>v=vi d.revs[k - 1].id|10=>v=vi k|11=>v=.bool (decide ((k:Int)=0))|12=>v=vi (incE (fun k=>(d.revs[k]?.map RvD.id).getD 0) k)|_=>True) (fun _ _ _ _ _ h=>h) H ?_ ?_
  ·clear H;refine al4 ?_ ?_ ?_ ?_ (al4 ?_ ?_ ?_ ?_ (al4 ?_ ?_ ?_ ?_ (allI_cons ?_ (allI_cons ?_ allI_nil))))
   ·exact Z0 rfl rfl fun _ _ _ _ _=>Rf fd65_0nck rfl
   ·exact Z1 0 33 rfl rfl fun _ _ _ _ _=>Ro ty3run 0 rfl rfl
   ·exact Z0 rfl rfl fun _ _ _ _ _=>Rf fd50_2nck rfl
   ·exact Op1 2 35 rfl rfl fun _ _ _ _ hG _ H fin=>kH H (Rg ty48nck rfl (gcell_mono hG hgrg) fun _ H=>fin H iJ rfl)
   ·exact Z0 rfl rfl fun _ _ _ _ _=>Rm rfl
   ·exact Z1 4 37 rfl rfl fun _ _ _ _ _=>Rs rfl
   ·refine Op1 5 38 rfl rfl fun _ a w G1 hG HT H fin=>?_;refine s_max H wn rfl rfl rfl ?_;clear H;intro a H;exact fin H iJ (congrArg vi (by omega))
   ·exact Z2 3 36 6 39 rfl rfl fun _ _ _ _ _=>Ri un48nck ty65nck rfl rfl
   ·exact Z1 7 40 rfl rfl fun _ _ _ _ _=>Rf fd65_0nck rfl
   ·exact Op1 8 41 rfl rfl fun _ _ _ _ hG _ H fin=>kH H (Rg ty3run rfl (gcell_mono hG (hrow' 0 _ rfl)) fun _ H=>fin H iJ rfl)
   ·exact Z0 rfl rfl fun _ _ _ _ _=>Rm rfl
   ·exact Z1 10 43 rfl rfl fun _ _ _ _ _=>Rc rfl
   ·refine Op3 1 34 9 42 11 44 rfl rfl fun _ a w G1 hG HT H fin=>?_;refine s_call en56mst H wn rfl (inc13_spec _ _ H.hp.ro x.id d.revs[k - 1].id (decide ((k:Int)=0))) rfl ?_;clear H;rintro v45 G45 a w ⟨rfl,-⟩ hGm45 H;exact fin H hGm45 (congrArg vi hinc)
   exact opB rfl
  clear H;intro a w G hGm10 H hv;obtain ⟨u45,hu45,hp45⟩:=hv 12 45 (by decide) rfl;obtain rfl:u45=vi (incE (fun k=>(d.revs[k]?.map RvD.id).getD 0) k):=hp45;have H:=H.addS hu45;clear hv;refine kH H (Ra rfl ?_);clear H;intro a H;refine wl_nil ⟨rfl,?_⟩;refine K16 _ _ ?_;clear K16;refine kP H (SR fun _ K17=>Rm rfl (Rc rfl (Kz K17 ?_)));clear H K17;intro a H;refine c_cond H rfl ?_ ?_
  ·intro h47
   try have p47:=dT h47
   refine c_seq (fun _ K18=>?_);have e:chkDoc d=incE (fun k=>(d.revs[k]?.map RvD.id).getD 0) k:=hst1 _ (by rw [hek,firstE_ne p47]) p47;refine kP H (SC (Rm rfl (Ra rfl (Kn K18 ?_))));clear H K18;intro a H;refine lr H Tryz.results21 rfl ?_;exact H.hp.ret (congrArg vi e.symm)
  intro h47
  try have p47:=dF h47
  refine kP H (Kc K15 (SB (SR fun _ K19=>Rf fd65_1rvs rfl (Ro ty9run 0 rfl rfl ?_))));clear H K15;intro a H;refine s_call en58mst H wn rfl (author13_spec _ _ H.hp.ro x.author hte) rfl ?_;clear H;rintro v52 _ a w ⟨rfl,rfl⟩ - H;refine kH H (Rn rfl (Ra rfl (Kz K19 ?_)));clear H K19;intro a H;refine c_cond H rfl ?_ ?_
  ·intro h49
   try have p49:=dT h49
   refine c_seq (fun _ K20=>?_);have e:chkDoc d=39:=hst1 _ (by rw [hek,firstE_z (Decidable.not_not.1 p47),show (!autS x.author)=true from h49];rfl) (by decide);refine kP H (SC (Ra rfl (Kn K20 ?_)));clear H K20;intro a H;refine lr H Tryz.results21 rfl ?_;exact H.hp.ret (congrArg vi e.symm)
  intro h49
  try have p49:=dF h49
  have w39:whenE (!autS x.author) 39=0:=by rw [show (!autS x.author)=false from h49];rfl
  refine kP H (SR fun _ K21=>Rf fd65_2rvs rfl (Ro ty3run 0 rfl rfl (Rc rfl (Rm rfl ?_))));clear H;intro a H;refine s_split H 58 rfl ?_ ?_
  ·intro h58
   try have p58:=dT h58
   refine kH H (Ks h58 rfl (Ks h58 rfl (Ks h58 rfl (Pt h58 rfl (Ra rfl (Kz K21 ?_))))));clear H K21;intro a H;refine c_cond_t H rfl rfl ?_;refine c_seq (fun _ K22=>?_);have e:chkDoc d=40:=hst1 _ (by rw [hek,firstE_z (Decidable.not_not.1 p47),firstE_z w39,decide_eq_false (by omega)];rfl) (by decide);refine kP H (SC (Ra rfl (Kn K22 ?_)));clear H K22;intro a H;refine lr H Tryz.results21 rfl ?_;exact H.hp.ret (congrArg vi e.symm)
  intro h58
  try have p58:=dF h58
  refine kH H (YF fd65_2rvs h58 rfl (YO ty3run 0 h58 rfl rfl (YC h58 rfl (Pf h58 rfl (Ra rfl (Kz K21 ?_))))));clear H K21;intro a H;refine c_cond H rfl ?_ ?_
  ·intro h54
   try have p54:=dT h54
   refine c_seq (fun _ K23=>?_);have e:chkDoc d=40:=hst1 _ (by rw [hek,firstE_z (Decidable.not_not.1 p47),firstE_z w39,decide_eq_false (by omega)];rfl) (by decide);refine kP H (SC (Ra rfl (Kn K23 ?_)));clear H K23;intro a H;refine lr H Tryz.results21 rfl ?_;exact H.hp.ret (congrArg vi e.symm)
  intro h54
  try have p54:=dF h54
  have w40:whenE (!decide (0≤x.time∧x.time≤1099511627776)) 40=0:=by rw [decide_eq_true (by omega)];rfl
  refine kP H (Kc K13 (SC (Rm rfl (Rd rfl (Ra rfl ?_)))));clear H K13;intro a H;refine wl_nil ?_;refine loop_end ((k+1,_)) (by exact (H.pickT (Pl:=[_]) (Pl':=[]) [] (by decide) rfl).sub ⟨rfl,rfl,trivial⟩) ?_ ?_
  ·(try dsimp only);exact ⟨by omega,all_next hk2 he (by rw [hek,firstE_z (Decidable.not_not.1 p47),firstE_z w39,firstE_z w40];rfl),fun b o h=>hGm10 b o (hgm0 b o h)⟩
  first|omega|(dsimp only;omega)
 intro h25
 try have p25:=dF h25
 have hRv0:chkRvs d.revs=0:=by rw [hRv,all_done (by omega) he]
 rw [firstE_z hRv0] at hE1;have hgg:∀ b o,Ga b=some o→g b=some o:=fun b o h=>hgm0 b o (hm13 b o h);replace hhd:=hhd.mono hgg;replace hfl:=hfl.mono hgg;have hmk:MkG g ⟨df,dp,dd,dy,⟨rA,d.revs.length,rc⟩,d1,d2,d3,d4,d.fin.marks.ins,d.fin.marks.move⟩ d.stg.styles d.stg.lists d.revs:=⟨hst.st.mono hgg,hst.li.mono hgg,hrv.mono hgm0⟩;have hmz:MkZ d.stg.styles d.stg.lists d.revs:=⟨sty_fresh (firstE_zero e1 _ List.mem_cons_self),zs,zg.ln,zr⟩;have hgf':=gcell_mono hgg hgf;refine c_exit ?_;refine K9 _ _ ?_;clear K9;refine c_seqR (fun _ K24=>?_);refine s_loada ty50dq H wn rfl rfl (fun j v hj=>H.hp.gcell (gcell_mono hgg (hga j v hj))) rfl ?_;clear H;intro a H;refine s_build sr143mdk [_,_,_,_,_,_,_,_,_,_,_,_,_,_] H wn rfl rfl rfl rfl ?_;clear H;intro a H;refine s_box (cs:=[_,_,_,_,_,_,_,_,_,_,_,_,_,_]) H wn rfl rfl rfl ?_;clear H;intro b65 a w hb65 H;refine kH H (Ra rfl (Kz K24 (SQ fun _ K25=>SR fun _ K26=>Rm rfl (Rf fd50_1chd rfl ?_))));clear H K24;intro a H;refine s_loada ty31run (cs:=[sl3 dp,vi d.fin.marks.ins,vi d.fin.marks.move,sl3 dd,sl3 dy]) H wn rfl rfl (fun j v hj=>H.hp.gcell (gcell_mono hgg (hgh j v hj))) rfl ?_;clear H;intro a H;refine s_callL en67mro (Li:=[]) (L:=[mkB ⟨df,dp,dd,dy,⟨rA,d.revs.length,rc⟩,d1,d2,d3,d4,d.fin.marks.ins,d.fin.marks.move⟩ b65 (.slice none 0 0) 0]) H wn rfl (mHeadL_spec _ _ _ _ _ _ _ b65 (.slice none 0 0) 0 hmk hmz (Hp.owns (Li:=[]) H.hp) 3 d.fin _ _ _ hhd zh) rfl ?_;clear H;rintro v69 _ _ a w ⟨rfl,rfl,rfl⟩ - H;dsimp only [List.nil_append] at H;refine kH H (Ra rfl (Kz K26 (SR fun _ K27=>Rm rfl (Rc rfl (Kz K27 ?_)))));clear H K26 K27;intro a H;refine c_cond H rfl ?_ ?_
 ·intro h71
  try have p71:=dT h71
  refine c_seq (fun _ K28=>?_)
  have e:chkDoc d=headE d.ckp 3 d.fin:=by rw [hE1,firstE_ne p71,firstE_ne p71]
  refine kP H (SC (Rm rfl (Ra rfl (Kn K28 ?_))));clear H K28;intro a H;refine lr H Tryz.results21 rfl ?_;exact H.hp.ret (congrArg vi e.symm)
 intro h71
 try have p71:=dF h71
 rw [firstE_z (Decidable.not_not.1 p71),firstE_one] at hE1;refine kP H (Kc K25 (SQ fun _ K29=>SR fun _ K30=>Rf fd50_1chd rfl (Rf fd31_1run rfl ?_)));clear H K25;intro a H;refine s_loada ty29hea (cs:=[vi d.fin.marks.ins,vi d.fin.marks.move,sl3 dd,sl3 dy]) H wn rfl rfl (fun j v hj=>H.hp.gcell (gcell_mono hgg (hgm j v hj))) rfl ?_;clear H;intro a H;refine s_alloc ty29hea H wn rfl ?_;clear H;intro b9 a w hb9 H;refine s_store ty29hea 0 (vs:=[_,_,_,_]) _ H wn rfl rfl rfl rfl rfl rfl rfl rfl ?_;clear H;intro w H;dsimp only [List.set,setRow] at H;refine K30 _ _ ?_;clear K30;refine kP H (SR fun _ K31=>Rf fd29_0ehd rfl (Ro ty3run 0 rfl rfl (Rc rfl (Rm rfl ?_))));clear H;intro a H;refine s_split H 79 rfl ?_ ?_
 ·intro h79
  try have p79:=dT h79
  refine kH H (Ks h79 rfl (Ks h79 rfl (Ks h79 rfl (Pt h79 rfl (Rm rfl (Ks rfl rfl (Ks rfl rfl (Ks rfl rfl (Ks rfl rfl (Pt rfl rfl (Kz K31 ?_)))))))))));clear H K31;intro a H;refine c_cond_t H rfl rfl ?_;refine c_seq (fun _ K32=>?_)
  have e:chkDoc d=21:=by
   have h:mrkB d.fin.marks=true:=decide_eq_true (by simp_all);rw [hE1,h];rfl
  refine kP H (SC (Ra rfl (Kn K32 ?_)));clear H K32;intro a H;refine lr H Tryz.results21 rfl ?_;exact H.hp.ret (congrArg vi e.symm)
 intro h79
 try have p79:=dF h79
 refine kH H (YF fd29_1ehd h79 rfl (YO ty3run 0 h79 rfl rfl (YC h79 rfl (Pf h79 rfl (Rm rfl ?_)))));clear H;intro a H;refine s_split H 84 rfl ?_ ?_
 ·intro h84
  try have p84:=dT h84
  refine kH H (Ks h84 rfl (Ks h84 rfl (Ks h84 rfl (Ks h84 rfl (Pt h84 rfl (Kz K31 ?_))))));clear H K31;intro a H;refine c_cond_t H rfl rfl ?_;refine c_seq (fun _ K33=>?_)
  have e:chkDoc d=21:=by
   have h:mrkB d.fin.marks=true:=decide_eq_true (by simp_all);rw [hE1,h];rfl
  refine kP H (SC (Ra rfl (Kn K33 ?_)));clear H K33;intro a H;refine lr H Tryz.results21 rfl ?_;exact H.hp.ret (congrArg vi e.symm)
 intro h84
 try have p84:=dF h84
 refine kH H (YF fd29_2run h84 rfl (YO ty26run 0 h84 rfl rfl (YL un26run h84 rfl (YC h84 rfl (Pf h84 rfl (Kz K31 ?_))))));clear H K31;intro a H;refine c_cond H rfl ?_ ?_
 ·intro h89
  try have p89:=dT h89
  refine c_seq (fun _ K34=>?_)
  have e:chkDoc d=21:=by
   have h:mrkB d.fin.marks=true:=decide_eq_true (by simp_all);rw [hE1,h];rfl
  refine kP H (SC (Ra rfl (Kn K34 ?_)));clear H K34;intro a H;refine lr H Tryz.results21 rfl ?_;exact H.hp.ret (congrArg vi e.symm)
 intro h89
 try have p89:=dF h89
 have hmb:mrkB d.fin.marks=false:=decide_eq_false (by simp_all);rw [hmb,firstE_z (show whenE false 21=0 from rfl)] at hE1;refine kP H (Kc K29 (SQ fun _ K35=>SR fun _ K36=>Rm rfl (Rf fd50_0doc rfl ?_)));clear H K29;intro a H;refine s_load ty32run H wn rfl (H.hp.gcell hgf') rfl ?_;clear H;intro a H;refine s_callL en68mro (Li:=[_]) (L:=[mkB ⟨df,dp,dd,dy,⟨rA,d.revs.length,rc⟩,d1,d2,d3,d4,d.fin.marks.ins,d.fin.marks.move⟩ b65 (.slice none 0 0) 0]) H wn rfl (mFlow_ok 4294967297 (by omega) _ _ [] _ _ _ _ _ b65 _ ⟨0,[]⟩ d.flow _ true false 0 hmk hmz ⟨[],rfl,IsRow.nil⟩ (Hp.owns (Li:=[_]) H.hp) hfl (by omega) (by omega) (by omega) (by decide) (by dsimp only;omega) (by dsimp only [List.length_nil];omega)) rfl ?_;clear H;rintro v93 _ _ a w ⟨rfl,v5,L5,s5,rfl,rfl,hv5,h5⟩ - H;dsimp only [List.cons_append,List.nil_append] at H;refine kH H (Ra rfl (Kz K36 (SR fun _ K37=>Rm rfl (Rc rfl (Kz K37 ?_)))));clear H K36 K37;intro a H;refine c_cond H rfl ?_ ?_
 ·intro h95
  try have p95:=dT h95
  refine c_seq (fun _ K38=>?_)
  have e:chkDoc d=(itemsC d.ckp true false 0 d.flow ⟨0,[]⟩).1:=by rw [hE1,firstE_ne p95]
  refine kP H (SC (Rm rfl (Ra rfl (Kn K38 ?_))));clear H K38;intro a H;refine lr H Tryz.results21 rfl ?_;exact H.hp.ret (congrArg vi e.symm)
 intro h95
 try have p95:=dF h95
 rw [firstE_z (Decidable.not_not.1 p95),firstE_one] at hE1;have hs5:=h5 (Decidable.not_not.1 p95);subst hs5;refine kP H (Kc K35 (SQ fun _ K39=>SR fun _ K40=>Rm rfl (Rk rfl (Rf fd143_3mfl rfl (Ro ty3run 1 rfl rfl (Rc rfl (Kz K40 ?_)))))));clear H K35 K40;intro a H;refine c_cond H rfl ?_ ?_
 ·intro h101
  try have p101:=dT h101
  refine c_seq (fun _ K41=>?_)
  have e:chkDoc d=9:=by rw [hE1,decide_eq_true p101];rfl
  refine kP H (SC (Ra rfl (Kn K41 ?_)));clear H K41;intro a H;refine lr H Tryz.results21 rfl ?_;exact H.hp.ret (congrArg vi e.symm)
 intro h101
 try have p101:=dF h101
 refine c_skip ?_;refine K39 _ _ ?_;clear K39;refine c_seq (fun _ K42=>?_)
 have e:chkDoc d=0:=by rw [hE1,decide_eq_false p101];rfl
 refine kP H (SC (Ra rfl (Kn K42 ?_)));clear H K42;intro a H;refine lr H Tryz.results21 rfl ?_;exact H.hp.ret (congrArg vi e.symm)
theorem small13_spec (G:GH) (w0:World) (hG:Hold G w0) (D:DocV) (d:DocD) (hR:DocR G D d) (hz:DocZ d) :
  Calls Tryz.prog 19 #[D.val] w0 (Ret w0 G fun u G'=>∃ b,u=.bool b):=by
 obtain ⟨df,dp,dd,dy,dr,d1,d2,d3,d4,ins,mv⟩:=D;obtain ⟨hfl,hhd,hin,hmv,hrv,hst⟩:=hR;dsimp only at hfl hhd hin hmv hrv hst;subst hin;subst hmv;refine eN [(0,_)] Tryz.func19 rfl Tryz.ntmps19 rfl rfl hG ?_;intro a H;refine c_seqR (fun _ K1=>?_);refine s_box (cs:=[_,_,_,_,_,_,_,_,_,_,_]) H wn rfl rfl rfl ?_;clear H;intro b1 a w hb1 H;refine kH H (Ra rfl (Kz K1 (SQ fun _ K2=>?_)));clear H K1;intro a H;obtain ⟨Ga,hma,hb1',H⟩:=H.giveBox;have hgs:=fun j v hj=>gc_of hb1' 7 [sl3 d1,sl3 d2,sl3 d3,sl3 d4] rfl j v hj;have hgh:=fun j v hj=>gc_of hb1' 1 [sl3 dp,vi d.fin.marks.ins,vi d.fin.marks.move,sl3 dd,sl3 dy] rfl j v hj
 have hgr:gcell Ga b1 6=some (sl3 dr):=by unfold gcell;rw [hb1'];rfl
 have hgf:gcell Ga b1 0=some (sl3 df):=by unfold gcell;rw [hb1'];rfl
 replace hfl:=hfl.mono hma;replace hst:=hst.mono hma;refine kP H (SC (Rf fd50_1chd rfl ?_));clear H;intro a H;refine s_loada ty31run (cs:=[sl3 dp,vi d.fin.marks.ins,vi d.fin.marks.move,sl3 dd,sl3 dy]) H wn rfl rfl (fun j v hj=>H.hp.gcell (hgh j v hj)) rfl ?_;clear H;intro a H;refine s_alloc ty31run H wn rfl ?_;clear H;intro b3 a w hb3 H;refine s_store ty31run 0 (vs:=[_,_,_,_,_]) _ H wn rfl rfl rfl rfl rfl rfl rfl rfl ?_;clear H;intro w H;dsimp only [List.set,setRow] at H;refine kH H (Kn K2 (SR fun _ K3=>Rf fd50_0doc rfl (Rg ty32run rfl (by assumption) ?_)));clear H K2;intro a H;refine s_call en61mdk H wn rfl (smallItems_spec _ _ H.hp.ro d.flow _ hfl hz.fl) rfl ?_;clear H;rintro v8 G8 a w ⟨b8,rfl⟩ hm8 H;refine kH H (Rm rfl ?_);clear H;intro a H;refine s_split H 9 rfl ?_ ?_
 ·intro h9
  try have p9:=dT h9
  refine kH H (YF fd50_3nck h9 rfl ?_);clear H;intro a H;refine s_loada ty46chd (cs:=[sl3 d1,sl3 d2,sl3 d3,sl3 d4]) H (wg H rfl rfl h9) rfl rfl (fun j v hj=>H.hp.gcell (gcell_mono hm8 (hgs j v hj))) rfl ?_;clear H;intro a H;refine s_call en16mdk H (wg H rfl rfl h9) rfl (smallStg_spec _ _ H.hp.ro d.stg _ _ _ _ (hst.mono hm8) hz.sn hz.st) rfl ?_;clear H;rintro v12 G12 a w ⟨b12,rfl⟩ hm12 H;replace hgr:=gcell_mono hm12 (gcell_mono hm8 hgr);refine kH H (Pt h9 rfl (Rm rfl ?_));clear H;intro a H;refine s_split H 14 rfl ?_ ?_
  ·intro h14
   try have p14:=dT h14
   refine kH H (YF fd50_2nck h14 rfl (YR ty48nck h14 rfl hgr (YL un48nck h14 rfl (YC h14 rfl (Pt h14 rfl (Rm rfl ?_))))));clear H;intro a H;refine s_split H 20 rfl ?_ ?_
   ·intro h20
    try have p20:=dT h20
    refine kH H (YF fd31_0run h20 rfl (YO ty25run 0 h20 rfl rfl (YL un25run h20 rfl (YC h20 rfl (Pt h20 rfl (Rm rfl ?_))))));clear H;intro a H;refine s_split H 26 rfl ?_ ?_
    ·intro h26
     try have p26:=dT h26
     refine kH H (YF fd31_1run h26 rfl (YF fd29_3run h26 rfl (YO ty27run 0 h26 rfl rfl (YL un27run h26 rfl (YC h26 rfl (Pt h26 rfl (Rm rfl ?_)))))));clear H;intro a H;refine s_split H 33 rfl ?_ ?_
     ·intro h33
      try have p33:=dT h33
      refine kH H (YF fd31_1run h33 rfl (YF fd29_2run h33 rfl (YO ty26run 0 h33 rfl rfl (YL un26run h33 rfl (YC h33 rfl (Pt h33 rfl (Ra rfl (Kz K3 ?_))))))));clear H K3;intro a H;refine lr H Tryz.results19 rfl ?_;exact H.hp.ret ⟨_,rfl⟩
     intro h33
     try have p33:=dF h33
     refine kH H (Ks h33 rfl (Ks h33 rfl (Ks h33 rfl (Ks h33 rfl (Ks h33 rfl (Pf h33 rfl (Ra rfl (Kz K3 ?_))))))));clear H K3;intro a H;refine lr H Tryz.results19 rfl ?_;exact H.hp.ret ⟨_,rfl⟩
    intro h26
    try have p26:=dF h26
    refine kH H (Ks h26 rfl (Ks h26 rfl (Ks h26 rfl (Ks h26 rfl (Ks h26 rfl (Pf h26 rfl (Rm rfl (Ks rfl rfl (Ks rfl rfl (Ks rfl rfl (Ks rfl rfl (Ks rfl rfl (Pf rfl rfl (Ra rfl ?_))))))))))))));clear H;intro a H;refine K3 _ _ ?_;clear K3;refine lr H Tryz.results19 rfl ?_;exact H.hp.ret ⟨_,rfl⟩
   intro h20
   try have p20:=dF h20
   refine kH H (Ks h20 rfl (Ks h20 rfl (Ks h20 rfl (Ks h20 rfl (Pf h20 rfl (Rm rfl (Ks rfl rfl (Ks rfl rfl (Ks rfl rfl (Ks rfl rfl (Ks rfl rfl (Pf rfl rfl (Rm rfl (Ks rfl rfl (Ks rfl rfl (Ks rfl rfl (Ks rfl rfl (Ks rfl rfl ?_))))))))))))))))));clear H;intro a H;refine kH H (Pf rfl rfl (Ra rfl (Kz K3 ?_)));clear H K3;intro a H;refine lr H Tryz.results19 rfl ?_;exact H.hp.ret ⟨_,rfl⟩
  intro h14
  try have p14:=dF h14
  refine kH H (Ks h14 rfl (Ks h14 rfl (Ks h14 rfl (Ks h14 rfl (Pf h14 rfl (Rm rfl (Ks rfl rfl (Ks rfl rfl (Ks rfl rfl (Ks rfl rfl (Pf rfl rfl (Rm rfl (Ks rfl rfl (Ks rfl rfl (Ks rfl rfl (Ks rfl rfl (Ks rfl rfl ?_)))))))))))))))));clear H;intro a H;refine kH H (Pf rfl rfl (Rm rfl (Ks rfl rfl (Ks rfl rfl (Ks rfl rfl (Ks rfl rfl (Ks rfl rfl (Pf rfl rfl (Ra rfl (Kz K3 ?_))))))))));clear H K3;intro a H;refine lr H Tryz.results19 rfl ?_;exact H.hp.ret ⟨_,rfl⟩
 intro h9
 try have p9:=dF h9
 refine kH H (Ks h9 rfl (Ks h9 rfl (Ks h9 rfl (Pf h9 rfl (Rm rfl (Ks rfl rfl (Ks rfl rfl (Ks rfl rfl (Ks rfl rfl (Pf rfl rfl (Rm rfl (Ks rfl rfl (Ks rfl rfl (Ks rfl rfl (Ks rfl rfl ?_)))))))))))))));clear H;intro a H;refine kH H (Pf rfl rfl (Rm rfl (Ks rfl rfl (Ks rfl rfl (Ks rfl rfl (Ks rfl rfl (Ks rfl rfl (Pf rfl rfl (Rm rfl (Ks rfl rfl (Ks rfl rfl (Ks rfl rfl (Ks rfl rfl (Ks rfl rfl ?_))))))))))))));clear H;intro a H;refine kH H (Pf rfl rfl (Ra rfl (Kz K3 ?_)));clear H K3;intro a H;refine lr H Tryz.results19 rfl ?_;exact H.hp.ret ⟨_,rfl⟩
end
section
open Go.RowKit
theorem en189vis:∀ args w,(callFunc 189 args).run Tryz.prog w=.ok (.enter 189 args) w:=enters Tryz.func189 rfl (by kernel_rfl)
mutual
/-- The ids in items, in document order. -/
def iItem:ItemD→List Int
 | .mk k _ i _ _ f r=>(if k=6∨k=7 then [i] else [])++((if k=6 then iItems f else [])++(if k=7 then iRows r else []))
def iItems:List ItemD→List Int
 | []=>[]
 | x :: r=>iItem x++iItems r
def iRow:RowD→List Int
 | .mk _ c=>iCells c
def iRows:List RowD→List Int
 | []=>[]
 | x :: r=>iRow x++iRows r
def iCell:CellD→List Int
 | .mk i _ f=>i :: iItems f
def iCells:List CellD→List Int
 | []=>[]
 | x :: r=>iCell x++iCells r
end
theorem iItem_eq (x:ItemD):iItem x=(if x.kind=6∨x.kind=7 then [x.id] else [])++((if x.kind=6 then iItems x.flow else [])++(if x.kind=7 then iRows x.rows else [])):=by cases x;rw [iItem];rfl
theorem iRow_eq (x:RowD):iRow x=iCells x.cells:=by cases x;rw [iRow];rfl
theorem iCell_eq (x:CellD):iCell x=x.id :: iItems x.flow:=by cases x;rw [iCell];rfl
def idP (i:Int):AP:=fun args _=>args=[vi i]
def VisOk (n:Nat):Prop:=∀ (fv:Value) (Gi:GH) (xs:List AP) (J:Nat→GH→OL→Prop) (Jx:GH→OL→Prop) (G:GH) (L:OL) (w0:World) (j:Nat) (l:List ItemD) (v:Value),
 (∀ b o,Gi b=some o→G b=some o)→Cback Tryz.prog fv Gi xs J Jx→JMono J→XMono Jx→J j G L→Owns G L w0→RepV G (.sl 11 (l.map ItemD.dat)) v→zItems l < n→(∀ i a,(iItems l)[i]?=some a→xs[j+i]?=some (idP a)) →
 Calls Tryz.prog 189 #[v,fv] w0 (RetL w0 G L fun u G' L'=>∃ b,u=.bool b∧(b=true→J (j+(iItems l).length) G' L')∧(b=false→Jx G' L'))
set_option maxHeartbeats 1000000 in
theorem vis_step {n:Nat} (ih:VisOk n) (hn:n≤4294967296):VisOk (n+1):=by
 intro fv Gi xs J Jx G L w0 j0 l v hGi hcb hJm hJx hJ0 hO hv hz hx0;obtain ⟨A,c,rfl,hc1,hc2,hg⟩:=hv.slice;rw [List.length_map] at *;have hll:=zItems_length l;refine enterL (N:=74) (T:=[(0,_),(1,_)]) Tryz.func189 rfl Tryz.ntmps189 rfl rfl hO ?_;intro a H;refine kP H (SR fun _ K1=>Ra rfl (Kz K1 (SQ fun _ K2=>SR fun _ K3=>Rm rfl (Rl un32run rfl (Rm rfl (Kz K3 (SB ?_)))))));clear H K1 K3;intro a H;skip;refine c_loopS (ι:=Nat × Nat × OL × GH) (Tc:=[(1,_),(11,_),(12,_)]) (Lc:=[]) (fun (gh:Nat × Nat × OL × GH)=>[(13,vi gh.1)]) (fun (gh:Nat × Nat × OL × GH)=>[]++gh.2.2.1) (fun (gh:Nat × Nat × OL × GH)=>gh.2.2.2) (fun (gh:Nat × Nat × OL × GH)=>gh.1≤l.length∧(∀ b o,G b=some o→gh.2.2.2 b=some o)∧Now xs idP J (j0+(iItems l).length) gh.2.1 (iItems (l.drop gh.1)) gh.2.2.2 gh.2.2.1) (fun (gh:Nat × Nat × OL × GH)=>l.length - gh.1) ((0,j0,L,G)) (by exact (H).sub ⟨rfl,rfl,rfl,rfl,trivial⟩) ?_ ?_
 ·exact ⟨by omega,fun _ _ h=>h,⟨hJ0,hx0,rfl⟩⟩
 clear H;intro gh a w hI H;obtain ⟨k,j,Lt,g⟩:=gh;dsimp only at hI H;obtain ⟨hk,hgm,hnow⟩:=hI;dsimp only [List.cons_append,List.nil_append,List.append_nil] at H;refine kP H (SR fun _ K4=>Rc rfl (Kz K4 (SQ fun _ K5=>?_)));clear H K4;intro a H;refine c_cond H rfl ?_ ?_
 ·intro h14
  try have p14:=dT h14
  have hk2:k < l.length:=by omega
  obtain ⟨b,o,pA,pn,pc,dA,dn,dc,yA,yn,yc,fA,fn,fc,rA,rn,rc,rfl,hrow,hhd,hfl,hrw⟩:=flow_get hk2 hg;replace hrow:=fun j u hj=>gcell_mono hgm (hrow j u hj);have hrn:=hrw.len;rw [List.length_map] at hrn;subst hrn;have hrs:=zRows_length l[k].rows;have hsz1:=zItems_get hk2;rw [List.drop_eq_getElem_cons hk2] at hnow
  simp only [iItems,iItem_eq,List.append_assoc] at hnow
  refine kP H (Kc K5 (SQ fun _ K6=>SB (SR fun _ K7=>Ri un32run ty35run rfl rfl ?_)));clear H K5;intro a H;refine s_loada ty35run (cs:=[_,_,_,_,_,_,_,_,_,_,_]) H wn rfl rfl (fun j v hj=>H.hp.gcell (hrow j v hj)) rfl ?_;clear H;intro a H;refine s_alloc ty35run H wn rfl ?_;clear H;intro b6 a w hb6 H;refine s_store ty35run 0 (vs:=[_,_,_,_,_,_,_,_,_,_,_]) _ H wn rfl rfl rfl rfl rfl rfl rfl rfl ?_;clear H;intro w H;dsimp only [List.set,setRow] at H;refine K7 _ _ ?_;clear K7;refine kP H (SQ fun _ K8=>SR fun _ K9=>Rf fd35_0run rfl (Ro ty3run 0 rfl rfl (Rc rfl (Rm rfl ?_))));clear H;intro a H;refine s_split H 20 rfl ?_ ?_
  ·intro h20
   try have p20:=dT h20
   rw [if_pos (Or.inl p20),if_pos p20,if_neg (by omega)] at hnow
   simp only [List.cons_append,List.nil_append] at hnow
   refine kH H (Ks h20 rfl (Ks h20 rfl (Ks h20 rfl (Pt h20 rfl (Rm rfl ?_)))));clear H;intro a H;refine s_move H (wg H rfl rfl rfl) rfl rfl ?_;clear H;intro a H;refine s_field fd35_2doc H (wg H rfl rfl rfl) rfl rfl ?_;clear H;intro a H;refine s_load ty3run H (wg H rfl rfl rfl) rfl (H.hp.ocell 0 rfl rfl) rfl ?_;clear H;intro a H;refine s_callv (Li:=[_]) (L:=Lt) H (wg H rfl rfl rfl) rfl rfl (hcb _ _ _ _ _ ⟨_,hnow.head,rfl⟩ (fun b o h=>hgm b o (hGi b o h)) hnow.now (Hp.owns (Li:=[_]) H.hp)) rfl ?_;clear H;rintro v29 G29 Lt29 a w ⟨b29,rfl,hb1,hb2⟩ hm29 H;refine s_not H (wg H rfl rfl rfl) rfl rfl ?_;clear H;intro a H;refine kH H (Pt rfl rfl (Kz K9 ?_));clear H K9;intro a H;refine c_cond H rfl ?_ ?_
   ·intro h31
    try have p31:=dT h31
    refine kP H (SR fun _ K10=>Ra rfl (Kz K10 ?_));clear H K10;intro a H;refine lr H Tryz.results189 rfl ?_
    first
     | exact H.hp.retD (L':=Lt29) (by repeat (first|exact List.Sublist.refl _|apply List.Sublist.cons)) ⟨_,rfl,fun e=>(by cases e),fun _=>hb2 (by simpa using h31)⟩
     | exact H.hp.retD (L':=Lt39) (by repeat (first|exact List.Sublist.refl _|apply List.Sublist.cons)) ⟨_,rfl,fun e=>(by cases e),fun _=>hb4 (by simpa using h41)⟩
     | exact H.hp.retD (L':=Lt62) (by repeat (first|exact List.Sublist.refl _|apply List.Sublist.cons)) ⟨_,rfl,fun e=>(by cases e),fun _=>hb6 (by simpa using h64)⟩
     | exact H.hp.retD (L':=Lt68) (by repeat (first|exact List.Sublist.refl _|apply List.Sublist.cons)) ⟨_,rfl,fun e=>(by cases e),fun _=>hb8 (by simpa using h70)⟩
     | exact H.hp.retD (L':=Lt) (by repeat (first|exact List.Sublist.refl _|apply List.Sublist.cons)) ⟨_,rfl,fun _=>(by rw [List.drop_of_length_le (by omega),iItems] at hnow;have:=hnow.len;simp only [List.length_nil,Nat.add_zero] at this;rw [← this];exact hnow.now),fun e=>(by cases e)⟩
   intro h31
   try have p31:=dF h31
   have hnow2:=hnow.step (hb1 (by simpa using h31));have hgm2:∀ b o,G b=some o→G29 b=some o:=fun b o h=>hm29 b o (hgm b o h);refine kP H (Kc K8 (SQ fun _ K11=>SR fun _ K12=>Rf fd35_0run rfl (Ro ty3run 0 rfl rfl (Rc rfl (Rm rfl (YF fd35_5run h20 rfl (YO ty32run 0 h20 rfl rfl (YM h20 rfl ?_))))))));clear H K8;intro a H;refine s_callL en189vis (Li:=[_]) (L:=Lt29) H (wg H rfl rfl h20) rfl (ih fv Gi xs J Jx _ _ _ (j+1) l[k].flow _ (fun b o h=>hgm2 b o (hGi b o h)) hcb hJm hJx hnow2.now (Hp.owns (Li:=[_]) H.hp) (hfl.mono hgm2) (by omega) hnow2.part) rfl ?_;clear H;rintro v39 G39 Lt39 a w ⟨b39,rfl,hb3,hb4⟩ hm39 H;refine kH H (YN h20 rfl (Pt h20 rfl (Kz K12 ?_)));clear H K12;intro a H;refine c_cond H rfl ?_ ?_
   ·intro h41
    try have p41:=dT h41
    refine kP H (SR fun _ K13=>Ra rfl (Kz K13 ?_));clear H K13;intro a H;refine lr H Tryz.results189 rfl ?_
    first
     | exact H.hp.retD (L':=Lt29) (by repeat (first|exact List.Sublist.refl _|apply List.Sublist.cons)) ⟨_,rfl,fun e=>(by cases e),fun _=>hb2 (by simpa using h31)⟩
     | exact H.hp.retD (L':=Lt39) (by repeat (first|exact List.Sublist.refl _|apply List.Sublist.cons)) ⟨_,rfl,fun e=>(by cases e),fun _=>hb4 (by simpa using h41)⟩
     | exact H.hp.retD (L':=Lt62) (by repeat (first|exact List.Sublist.refl _|apply List.Sublist.cons)) ⟨_,rfl,fun e=>(by cases e),fun _=>hb6 (by simpa using h64)⟩
     | exact H.hp.retD (L':=Lt68) (by repeat (first|exact List.Sublist.refl _|apply List.Sublist.cons)) ⟨_,rfl,fun e=>(by cases e),fun _=>hb8 (by simpa using h70)⟩
     | exact H.hp.retD (L':=Lt) (by repeat (first|exact List.Sublist.refl _|apply List.Sublist.cons)) ⟨_,rfl,fun _=>(by rw [List.drop_of_length_le (by omega),iItems] at hnow;have:=hnow.len;simp only [List.length_nil,Nat.add_zero] at this;rw [← this];exact hnow.now),fun e=>(by cases e)⟩
   intro h41
   try have p41:=dF h41
   refine kP H (Kc K11 (SQ fun _ K14=>SR fun _ K15=>Rf fd35_0run rfl (Ro ty3run 0 rfl rfl (Rc rfl (Kz K15 ?_)))));clear H K11 K15;intro a H;refine c_cond H rfl ?_ ?_
   ·intro h44
    try have p44:=dT h44
    refine c_exit ?_;refine K6 _ _ ?_;clear K6;refine kP H (SC (Rd rfl (Rm rfl ?_)));clear H;intro a H;refine wl_nil ?_;refine loop_end ((k+1,j+1+(iItems l[k].flow).length,Lt39,G39)) (by exact (H.pickT (Pl:=[_]) (Pl':=[]) [] (by decide) rfl).sub ⟨rfl,rfl,rfl,rfl,trivial⟩) ?_ ?_
    ·(try dsimp only);exact ⟨by omega,fun b o h=>hm39 b o (hgm2 b o h),hnow2.jump (hb3 (by simpa using h41))⟩
    first|omega|(dsimp only;omega)
   intro h44
   try have p44:=dF h44
   exact absurd (show l[k].kind=7 by omega) (by omega)
  intro h20
  try have p20:=dF h20
  refine kH H (YF fd35_0run h20 rfl (YO ty3run 0 h20 rfl rfl (YC h20 rfl (Pf h20 rfl (Rm rfl ?_)))));clear H;intro a H;refine s_split H 25 rfl ?_ ?_
  ·intro h25
   try have p25:=dT h25
   rw [if_pos (Or.inr p25),if_neg p20,if_pos p25] at hnow
   simp only [List.cons_append,List.nil_append] at hnow
   refine kH H (YM h25 rfl (YF fd35_2doc h25 rfl (YO ty3run 0 h25 rfl rfl ?_)));clear H;intro a H;refine s_callv (Li:=[_]) (L:=Lt) H (wg H rfl rfl h25) rfl rfl (hcb _ _ _ _ _ ⟨_,hnow.head,rfl⟩ (fun b o h=>hgm b o (hGi b o h)) hnow.now (Hp.owns (Li:=[_]) H.hp)) rfl ?_;clear H;rintro v29 G29 Lt29 a w ⟨b29,rfl,hb1,hb2⟩ hm29 H;refine kH H (YN h25 rfl (Pt h25 rfl (Kz K9 ?_)));clear H K9;intro a H;refine c_cond H rfl ?_ ?_
   ·intro h31
    try have p31:=dT h31
    refine kP H (SR fun _ K16=>Ra rfl (Kz K16 ?_));clear H K16;intro a H;refine lr H Tryz.results189 rfl ?_
    first
     | exact H.hp.retD (L':=Lt29) (by repeat (first|exact List.Sublist.refl _|apply List.Sublist.cons)) ⟨_,rfl,fun e=>(by cases e),fun _=>hb2 (by simpa using h31)⟩
     | exact H.hp.retD (L':=Lt39) (by repeat (first|exact List.Sublist.refl _|apply List.Sublist.cons)) ⟨_,rfl,fun e=>(by cases e),fun _=>hb4 (by simpa using h41)⟩
     | exact H.hp.retD (L':=Lt62) (by repeat (first|exact List.Sublist.refl _|apply List.Sublist.cons)) ⟨_,rfl,fun e=>(by cases e),fun _=>hb6 (by simpa using h64)⟩
     | exact H.hp.retD (L':=Lt68) (by repeat (first|exact List.Sublist.refl _|apply List.Sublist.cons)) ⟨_,rfl,fun e=>(by cases e),fun _=>hb8 (by simpa using h70)⟩
     | exact H.hp.retD (L':=Lt) (by repeat (first|exact List.Sublist.refl _|apply List.Sublist.cons)) ⟨_,rfl,fun _=>(by rw [List.drop_of_length_le (by omega),iItems] at hnow;have:=hnow.len;simp only [List.length_nil,Nat.add_zero] at this;rw [← this];exact hnow.now),fun e=>(by cases e)⟩
   intro h31
   try have p31:=dF h31
   have hnow2:=hnow.step (hb1 (by simpa using h31));have hgm2:∀ b o,G b=some o→G29 b=some o:=fun b o h=>hm29 b o (hgm b o h);refine kP H (Kc K8 (SQ fun _ K17=>SR fun _ K18=>Rf fd35_0run rfl (Ro ty3run 0 rfl rfl (Rc rfl (Rm rfl (Ks h20 rfl (Ks h20 rfl (Ks h20 rfl (Ks h20 rfl (Ks h20 rfl (Pf h20 rfl (Kz K18 ?_))))))))))));clear H K8 K18;intro a H;refine c_cond_f H rfl rfl ?_;refine kP H (Kc K17 (SQ fun _ K19=>SR fun _ K20=>Rf fd35_0run rfl (Ro ty3run 0 rfl rfl (Rc rfl (Kz K20 ?_)))));clear H K17 K20;intro a H;refine c_cond H rfl ?_ ?_
   ·intro h44
    try have p44:=dT h44
    exact absurd p25 p44
   intro h44
   try have p44:=dF h44
   refine kP H (Kc K19 (SR fun _ K21=>Rf fd35_6run rfl (Ro ty33run 0 rfl rfl (Rl un33run rfl (Rm rfl (Kz K21 (SB ?_)))))));clear H K19 K21;intro a H;skip;refine c_loopS (ι:=Nat × Nat × OL × GH) (Tc:=[(1,_),(11,_),(12,_),(13,_),(46,_),(47,_)]) (Lc:=[(_,_)]) (fun (gh:Nat × Nat × OL × GH)=>[(48,vi gh.1)]) (fun (gh:Nat × Nat × OL × GH)=>[]++gh.2.2.1) (fun (gh:Nat × Nat × OL × GH)=>gh.2.2.2) (fun (gh:Nat × Nat × OL × GH)=>gh.1≤l[k].rows.length∧(∀ b o,G b=some o→gh.2.2.2 b=some o)∧Now xs idP J (j0+(iItems l).length) gh.2.1 (iRows (l[k].rows.drop gh.1)++iItems (l.drop (k+1))) gh.2.2.2 gh.2.2.1) (fun (gh:Nat × Nat × OL × GH)=>l[k].rows.length - gh.1) ((0,j+1,Lt29,G29)) (by exact (H).sub ⟨rfl,rfl,rfl,rfl,rfl,rfl,rfl,trivial⟩) ?_ ?_
   ·exact ⟨by omega,hgm2,hnow2⟩
   clear H;intro gh a w hI H;obtain ⟨rk,j3,Lt3,g3⟩:=gh;dsimp only at hI H;obtain ⟨hrk,hgm3,hnow3⟩:=hI;dsimp only [List.cons_append,List.nil_append,List.append_nil] at H;refine kP H (SR fun _ K22=>Rc rfl (Kz K22 (SQ fun _ K23=>?_)));clear H K22;intro a H;refine c_cond H rfl ?_ ?_
   ·intro h49
    try have p49:=dT h49
    have hk3:rk < l[k].rows.length:=by omega
    obtain ⟨b2,o2,qA,qn,qc,eA,en,ec,zA,zn,zc,cA,cn,cc,rfl,hrow,hrh,hcl⟩:=row_get hk3 hrw.at_;replace hrow:=fun j u hj=>gcell_mono hgm3 (hrow j u hj);have hcn:=hcl.len;rw [List.length_map] at hcn;subst hcn;have hsz2:=zRows_get hk3;have hcs:=zCells_length l[k].rows[rk].cells;rw [List.drop_eq_getElem_cons hk3] at hnow3
    simp only [iRows,iRow_eq,List.append_assoc] at hnow3
    refine kP H (Kc K23 (SQ fun _ K24=>SB (SR fun _ K25=>Ri un33run ty171run rfl rfl ?_)));clear H K23;intro a H;refine s_loada ty171run (cs:=[_,_,_,_,_,_]) H wn rfl rfl (fun j v hj=>H.hp.gcell (hrow j v hj)) rfl ?_;clear H;intro a H;refine s_alloc ty171run H wn rfl ?_;clear H;intro b8 a w hb8 H;refine s_store ty171run 0 (vs:=[_,_,_,_,_,_]) _ H wn rfl rfl rfl rfl rfl rfl rfl rfl ?_;clear H;intro w H;dsimp only [List.set,setRow] at H;refine K25 _ _ ?_;clear K25;refine kP H (SR fun _ K26=>Rf fd171_1run rfl (Ro ty169run 0 rfl rfl (Rl un169run rfl (Rm rfl (Kz K26 (SB ?_))))));clear H K26;intro a H;skip;refine c_loopS (ι:=Nat × Nat × OL × GH) (Tc:=[(1,_),(11,_),(12,_),(13,_),(46,_),(47,_),(48,_),(53,_),(54,_)]) (Lc:=[(_,_),(_,_)]) (fun (gh:Nat × Nat × OL × GH)=>[(55,vi gh.1)]) (fun (gh:Nat × Nat × OL × GH)=>[]++gh.2.2.1) (fun (gh:Nat × Nat × OL × GH)=>gh.2.2.2) (fun (gh:Nat × Nat × OL × GH)=>gh.1≤l[k].rows[rk].cells.length∧(∀ b o,G b=some o→gh.2.2.2 b=some o)∧Now xs idP J (j0+(iItems l).length) gh.2.1 (iCells (l[k].rows[rk].cells.drop gh.1)++(iRows (l[k].rows.drop (rk+1))++iItems (l.drop (k+1)))) gh.2.2.2 gh.2.2.1) (fun (gh:Nat × Nat × OL × GH)=>l[k].rows[rk].cells.length - gh.1) ((0,j3,Lt3,g3)) (by exact (H).sub ⟨rfl,rfl,rfl,rfl,rfl,rfl,rfl,rfl,rfl,rfl,trivial⟩) ?_ ?_
    ·exact ⟨by omega,hgm3,hnow3⟩
    clear H;intro gh a w hI H;obtain ⟨ck,j4,Lt4,g4⟩:=gh;dsimp only at hI H;obtain ⟨hck,hgm4,hnow4⟩:=hI;dsimp only [List.cons_append,List.nil_append,List.append_nil] at H;refine kP H (SR fun _ K27=>Rc rfl (Kz K27 (SQ fun _ K28=>?_)));clear H K27;intro a H;refine c_cond H rfl ?_ ?_
    ·intro h56
     try have p56:=dT h56
     have hk4:ck < l[k].rows[rk].cells.length:=by omega
     obtain ⟨b3,o3,sA,sn,sc,tA,tn,tc,uA,un,uc,gA,gn,gc,rfl,hrow,hch,hcf⟩:=cell_get hk4 hcl.at_;replace hrow:=fun j u hj=>gcell_mono hgm4 (hrow j u hj);have hsz3:=zCells_get hk4;rw [List.drop_eq_getElem_cons hk4] at hnow4
     simp only [iCells,iCell_eq,List.append_assoc,List.cons_append] at hnow4
     refine kP H (Kc K28 (SQ fun _ K29=>SB (SR fun _ K30=>Ri un169run ty174run rfl rfl ?_)));clear H K28;intro a H;refine s_loada ty174run (cs:=[_,_,_,_,_,_,_]) H wn rfl rfl (fun j v hj=>H.hp.gcell (hrow j v hj)) rfl ?_;clear H;intro a H;refine s_alloc ty174run H wn rfl ?_;clear H;intro b10 a w hb10 H;refine s_store ty174run 0 (vs:=[_,_,_,_,_,_,_]) _ H wn rfl rfl rfl rfl rfl rfl rfl rfl ?_;clear H;intro w H;dsimp only [List.set,setRow] at H;refine K30 _ _ ?_;clear K30;refine kP H (SR fun _ K31=>Rm rfl (Rf fd174_0run rfl (Ro ty3run 0 rfl rfl ?_)));clear H;intro a H;refine s_callv (Li:=[_,_,_]) (L:=Lt4) H wn rfl rfl (hcb _ _ _ _ _ ⟨_,hnow4.head,rfl⟩ (fun b o h=>hgm4 b o (hGi b o h)) hnow4.now (Hp.owns (Li:=[_,_,_]) H.hp)) rfl ?_;clear H;rintro v62 G62 Lt62 a w ⟨b62,rfl,hb5,hb6⟩ hm62 H;refine kH H (Rn rfl (Rm rfl ?_));clear H;intro a H;refine s_split H 64 rfl ?_ ?_
     ·intro h64
      try have p64:=dT h64
      refine kH H (Ks h64 rfl (Ks h64 rfl (Ks h64 rfl (Ks h64 rfl (Ks h64 rfl (Pt h64 rfl (Kz K31 ?_)))))));clear H K31;intro a H;refine c_cond_t H rfl rfl ?_;refine kP H (SR fun _ K32=>Ra rfl (Kz K32 ?_));clear H K32;intro a H;refine lr H Tryz.results189 rfl ?_
      first
       | exact H.hp.retD (L':=Lt29) (by repeat (first|exact List.Sublist.refl _|apply List.Sublist.cons)) ⟨_,rfl,fun e=>(by cases e),fun _=>hb2 (by simpa using h31)⟩
       | exact H.hp.retD (L':=Lt39) (by repeat (first|exact List.Sublist.refl _|apply List.Sublist.cons)) ⟨_,rfl,fun e=>(by cases e),fun _=>hb4 (by simpa using h41)⟩
       | exact H.hp.retD (L':=Lt62) (by repeat (first|exact List.Sublist.refl _|apply List.Sublist.cons)) ⟨_,rfl,fun e=>(by cases e),fun _=>hb6 (by simpa using h64)⟩
       | exact H.hp.retD (L':=Lt68) (by repeat (first|exact List.Sublist.refl _|apply List.Sublist.cons)) ⟨_,rfl,fun e=>(by cases e),fun _=>hb8 (by simpa using h70)⟩
       | exact H.hp.retD (L':=Lt) (by repeat (first|exact List.Sublist.refl _|apply List.Sublist.cons)) ⟨_,rfl,fun _=>(by rw [List.drop_of_length_le (by omega),iItems] at hnow;have:=hnow.len;simp only [List.length_nil,Nat.add_zero] at this;rw [← this];exact hnow.now),fun e=>(by cases e)⟩
     intro h64
     try have p64:=dF h64
     have hnow5:=hnow4.step (hb5 (by simpa using h64));refine kH H (YF fd174_2run h64 rfl (YO ty32run 0 h64 rfl rfl (YM h64 rfl ?_)));clear H;intro a H;refine s_callL en189vis (Li:=[_,_,_]) (L:=Lt62) H (wg H rfl rfl h64) rfl (ih fv Gi xs J Jx _ _ _ (j4+1) l[k].rows[rk].cells[ck].flow _ (fun b o h=>hm62 b o (hgm4 b o (hGi b o h))) hcb hJm hJx hnow5.now (Hp.owns (Li:=[_,_,_]) H.hp) ((hcf.mono hgm4).mono hm62) (by omega) hnow5.part) rfl ?_;clear H;rintro v68 G68 Lt68 a w ⟨b68,rfl,hb7,hb8⟩ hm68 H;refine kH H (YN h64 rfl (Pf h64 rfl (Kz K31 ?_)));clear H K31;intro a H;refine c_cond H rfl ?_ ?_
     ·intro h70
      try have p70:=dT h70
      refine kP H (SR fun _ K33=>Ra rfl (Kz K33 ?_));clear H K33;intro a H;refine lr H Tryz.results189 rfl ?_
      first
       | exact H.hp.retD (L':=Lt29) (by repeat (first|exact List.Sublist.refl _|apply List.Sublist.cons)) ⟨_,rfl,fun e=>(by cases e),fun _=>hb2 (by simpa using h31)⟩
       | exact H.hp.retD (L':=Lt39) (by repeat (first|exact List.Sublist.refl _|apply List.Sublist.cons)) ⟨_,rfl,fun e=>(by cases e),fun _=>hb4 (by simpa using h41)⟩
       | exact H.hp.retD (L':=Lt62) (by repeat (first|exact List.Sublist.refl _|apply List.Sublist.cons)) ⟨_,rfl,fun e=>(by cases e),fun _=>hb6 (by simpa using h64)⟩
       | exact H.hp.retD (L':=Lt68) (by repeat (first|exact List.Sublist.refl _|apply List.Sublist.cons)) ⟨_,rfl,fun e=>(by cases e),fun _=>hb8 (by simpa using h70)⟩
       | exact H.hp.retD (L':=Lt) (by repeat (first|exact List.Sublist.refl _|apply List.Sublist.cons)) ⟨_,rfl,fun _=>(by rw [List.drop_of_length_le (by omega),iItems] at hnow;have:=hnow.len;simp only [List.length_nil,Nat.add_zero] at this;rw [← this];exact hnow.now),fun e=>(by cases e)⟩
     intro h70
     try have p70:=dF h70
     refine kP H (Kc K29 (SC (Rd rfl (Rm rfl ?_))));clear H K29;intro a H;refine wl_nil ?_;refine loop_end ((ck+1,j4+1+(iItems l[k].rows[rk].cells[ck].flow).length,Lt68,G68)) (by exact (H.pickT (Pl:=[_,_,_]) (Pl':=[_,_]) [1,2] (by decide) rfl).sub ⟨rfl,rfl,rfl,rfl,rfl,rfl,rfl,rfl,rfl,rfl,trivial⟩) ?_ ?_
     ·(try dsimp only);exact ⟨by omega,fun b o h=>hm68 b o (hm62 b o (hgm4 b o h)),hnow5.jump (hb7 (by simpa using h70))⟩
     first|omega|(dsimp only;omega)
    intro h56
    try have p56:=dF h56
    refine c_exit ?_;refine K24 _ _ ?_;clear K24;refine kP H (SC (Rd rfl (Rm rfl ?_)));clear H;intro a H;refine wl_nil ?_;refine loop_end ((rk+1,j4,Lt4,g4)) (by exact (H.pickT (Pl:=[_,_]) (Pl':=[_]) [1] (by decide) rfl).sub ⟨rfl,rfl,rfl,rfl,rfl,rfl,rfl,trivial⟩) ?_ ?_
    ·(try dsimp only);exact ⟨by omega,hgm4,by rw [List.drop_of_length_le (by omega),iCells,List.nil_append] at hnow4;exact hnow4⟩
    first|omega|(dsimp only;omega)
   intro h49
   try have p49:=dF h49
   refine c_exit ?_;refine K6 _ _ ?_;clear K6;refine kP H (SC (Rd rfl (Rm rfl ?_)));clear H;intro a H;refine wl_nil ?_;refine loop_end ((k+1,j3,Lt3,g3)) (by exact (H.pickT (Pl:=[_]) (Pl':=[]) [] (by decide) rfl).sub ⟨rfl,rfl,rfl,rfl,trivial⟩) ?_ ?_
   ·(try dsimp only);exact ⟨by omega,hgm3,by rw [List.drop_of_length_le (by omega),iRows,List.nil_append] at hnow3;exact hnow3⟩
   first|omega|(dsimp only;omega)
  intro h25
  try have p25:=dF h25
  rw [if_neg (by omega),if_neg p20,if_neg p25] at hnow
  simp only [List.nil_append] at hnow
  refine kH H (Ks h25 rfl (Ks h25 rfl (Ks h25 rfl (Ks h25 rfl (Ks h25 rfl (Pf h25 rfl (Kz K9 ?_)))))));clear H K9;intro a H;refine c_cond_f H rfl rfl ?_;refine kP H (Kc K8 (SQ fun _ K34=>SR fun _ K35=>Rf fd35_0run rfl (Ro ty3run 0 rfl rfl (Rc rfl (Rm rfl (Ks h20 rfl (Ks h20 rfl (Ks h20 rfl (Ks h20 rfl (Ks h20 rfl (Pf h20 rfl (Kz K35 ?_))))))))))));clear H K8 K35;intro a H;refine c_cond_f H rfl rfl ?_;refine kP H (Kc K34 (SQ fun _ K36=>SR fun _ K37=>Rf fd35_0run rfl (Ro ty3run 0 rfl rfl (Rc rfl (Kz K37 ?_)))));clear H K34 K37;intro a H;refine c_cond H rfl ?_ ?_
  ·intro h44
   try have p44:=dT h44
   refine c_exit ?_;refine K6 _ _ ?_;clear K6;refine kP H (SC (Rd rfl (Rm rfl ?_)));clear H;intro a H;refine wl_nil ?_;refine loop_end ((k+1,j,Lt,g)) (by exact (H.pickT (Pl:=[_]) (Pl':=[]) [] (by decide) rfl).sub ⟨rfl,rfl,rfl,rfl,trivial⟩) ?_ ?_
   ·(try dsimp only);exact ⟨by omega,hgm,hnow⟩
   first|omega|(dsimp only;omega)
  intro h44
  try have p44:=dF h44
  exact absurd p25 p44
 intro h14
 try have p14:=dF h14
 refine c_exit ?_;refine K2 _ _ ?_;clear K2;refine kP H (SR fun _ K38=>Ra rfl (Kz K38 ?_));clear H K38;intro a H;refine lr H Tryz.results189 rfl ?_
 first
  | exact H.hp.retD (L':=Lt29) (by repeat (first|exact List.Sublist.refl _|apply List.Sublist.cons)) ⟨_,rfl,fun e=>(by cases e),fun _=>hb2 (by simpa using h31)⟩
  | exact H.hp.retD (L':=Lt39) (by repeat (first|exact List.Sublist.refl _|apply List.Sublist.cons)) ⟨_,rfl,fun e=>(by cases e),fun _=>hb4 (by simpa using h41)⟩
  | exact H.hp.retD (L':=Lt62) (by repeat (first|exact List.Sublist.refl _|apply List.Sublist.cons)) ⟨_,rfl,fun e=>(by cases e),fun _=>hb6 (by simpa using h64)⟩
  | exact H.hp.retD (L':=Lt68) (by repeat (first|exact List.Sublist.refl _|apply List.Sublist.cons)) ⟨_,rfl,fun e=>(by cases e),fun _=>hb8 (by simpa using h70)⟩
  | exact H.hp.retD (L':=Lt) (by repeat (first|exact List.Sublist.refl _|apply List.Sublist.cons)) ⟨_,rfl,fun _=>(by rw [List.drop_of_length_le (by omega),iItems] at hnow;have:=hnow.len;simp only [List.length_nil,Nat.add_zero] at this;rw [← this];exact hnow.now),fun e=>(by cases e)⟩
theorem vis_ok:∀ n:Nat,n≤4294967297→VisOk n
 | 0,_=>fun _ _ _ _ _ _ _ _ _ _ _ _ _ _ _ _ _ _ _ h=>absurd h (by omega)
 | n+1,hn=>vis_step (vis_ok n (by omega)) (by omega)
end
section
open Go.RowKit
theorem ty234frs:Ty Tryz.prog 234 1 8 [.nilFunc] false:=⟨by kernel_rfl,by kernel_rfl⟩
theorem en118frs:∀ args w,(callFunc 118 args).run Tryz.prog w=.ok (.enter 118 args) w:=enters Tryz.func118 rfl (by kernel_rfl)
theorem en188frs:∀ args w,(callFunc 188 args).run Tryz.prog w=.ok (.enter 188 args) w:=enters Tryz.func188 rfl (by kernel_rfl)
theorem en190frs:∀ args w,(callFunc 190 args).run Tryz.prog w=.ok (.enter 190 args) w:=enters Tryz.func190 rfl (by kernel_rfl)
theorem id_at {A:List Int} {k:Nat} {args:List Value} {g:GH} (h:AtAP (A.map idP) k args g):∃ hk:k < A.length,args=[vi A[k]]:=by
 obtain ⟨p,hp,hargs⟩:=h;rw [List.getElem?_map] at hp;obtain ⟨q,hq,rfl⟩:=Option.map_eq_some_iff.1 hp;obtain ⟨hk,rfl⟩:=List.getElem?_eq_some_iff.1 hq;exact ⟨hk,hargs⟩
theorem idc_cb {G G0:GH} {A:List Int} {b2:Nat} {fv:Value} {J:Nat→GH→OL→Prop} {Jx:GH→OL→Prop} (hcb:Cback Tryz.prog fv G0 (A.map idP) J Jx) (hG0:∀ b o,G0 b=some o→G b=some o) (hfv:fv.cells=#[fv]) (hb:gcell G b2 0=some fv) :
  Cback Tryz.prog (.func (.func 190) #[] #[.pointer (some ⟨b2,0,none⟩)]) G (A.map idP) J Jx:=by
 intro k args G1 L w0 hk hm hJ hO;obtain ⟨hk2,rfl⟩:=id_at hk;refine callV_func (caps:=[.pointer (some ⟨b2,0,none⟩)]) en190frs ?_;replace hb:=gcell_mono hm hb;refine enterL (N:=7) (T:=[(0,_),(1,_)]) Tryz.func190 rfl Tryz.ntmps190 rfl rfl hO ?_;intro a H;refine kP H (SR fun _ K1=>Ra rfl (Kz K1 (SR fun _ K2=>Rg ty234frs rfl (by assumption) ?_)));clear H K1;intro a H;refine kH H (Rm rfl ?_);clear H;intro a H;refine s_callv (Li:=[]) (L:=L) H wn rfl rfl (hcb _ _ _ _ _ hk (fun b o h=>hm b o (hG0 b o h)) hJ (Hp.owns (Li:=[]) H.hp)) rfl ?_;clear H;rintro v6 G6 L6 a w ⟨b6,rfl,h1,h2⟩ hm6 H;refine kH H (Ra rfl (Kz K2 ?_));clear H K2;intro a H;refine lr H Tryz.results190 rfl ?_;exact H.hp.retL ⟨b6,rfl,h1,h2⟩
theorem ids1_iter {G:GH} {bd:Nat} {D:DocV} {l:List ItemD} (hb:G bd=some (.cells D.cells.toArray 50 (0,0))) (hv:RepV G (.sl 11 (l.map ItemD.dat)) (sl3 D.f)) (hz:zItems l≤4294967296) :
  Iter Tryz.prog G (.func (.func 188) #[] #[.pointer (some ⟨bd,0,none⟩)]) ((iItems l).map idP):=by
 intro J Jx fv G1 L w0 hfv hGi hJm hJx hJ hO hcb;refine callV_func (caps:=[.pointer (some ⟨bd,0,none⟩)]) en188frs ?_;have hfl:gcell G1 bd 0=some (sl3 D.f):=gcell_mono hGi (by unfold gcell;rw [hb];rfl);refine enterL (N:=7) (T:=[(0,_),(1,_)]) Tryz.func188 rfl Tryz.ntmps188 rfl rfl hO ?_;intro a H;refine c_seqR (fun _ K1=>?_);refine s_box (cs:=[fv]) H wn rfl hfv rfl ?_;clear H;intro b2 a w hb2 H;refine K1 _ _ ?_;clear K1;obtain ⟨G2,hm2,hb2,H⟩:=H.giveBox;replace hfl:=gcell_mono hm2 hfl;refine kP H (SC (Rf fd50_0doc rfl (Rg ty32run rfl (by assumption) ?_)));clear H;intro a H;refine s_makeFunc H wn rfl rfl ?_;clear H;intro a H;refine s_callL en189vis (Li:=[]) (L:=L) H wn rfl (vis_ok 4294967297 (by omega) _ G2 ((iItems l).map idP) J Jx G2 _ _ 0 l _ (fun _ _ h=>h) (idc_cb (b2:=b2) hcb hm2 hfv (by unfold gcell;rw [hb2];rfl)) hJm hJx (hJm _ _ _ _ hm2 hJ) (Hp.owns (Li:=[]) H.hp) ((hv.mono hGi).mono hm2) (by omega) (fun i a h=>by rw [Nat.zero_add,List.getElem?_map,h];rfl)) rfl ?_;clear H;rintro v6 G6 L6 a w ⟨b6,rfl,h1,h2⟩ hm6 H;refine wl_nil ?_;refine (leave0 H Tryz.results188 ?_).2
 cases b6
 ·exact H.hp.retL (.inr (h2 rfl))
 exact H.hp.retL (.inl (by simpa using h1 rfl))
theorem ids_spec (G:GH) (w0:World) (hG:Hold G w0) (D:DocV) (l:List ItemD) (hv:RepV G (.sl 11 (l.map ItemD.dat)) (sl3 D.f)) (hz:zItems l≤4294967296) :
  Calls Tryz.prog 118 #[D.val] w0 (Ret w0 G fun v G'=>∃ bd,v=.func (.func 188) #[] #[.pointer (some ⟨bd,0,none⟩)]∧Iter Tryz.prog G' v ((iItems l).map idP)):=by
 refine eN [(0,_)] Tryz.func118 rfl Tryz.ntmps118 rfl rfl hG ?_;intro a H;refine c_seqR (fun _ K1=>?_);refine s_box (cs:=[_,_,_,_,_,_,_,_,_,_,_]) H wn rfl rfl rfl ?_;clear H;intro b1 a w hb1 H;refine kH H (Ra rfl (Kz K1 (SR fun _ K2=>?_)));clear H K1;intro a H;refine s_makeFunc H wn rfl rfl ?_;clear H;intro a H;refine kH H (Ra rfl (Kz K2 ?_));clear H K2;intro a H;refine c_ret ?_;obtain ⟨G2,hm2,hb2,H⟩:=H.giveBox;refine lv H Tryz.results118 rfl ?_;exact H.hp.ret ⟨b1,rfl,ids1_iter hb2 (hv.mono hm2) hz⟩
def maxI (l:List Int):Int:=l.foldl max 0
theorem maxI_snoc {l:List Int} {k:Nat} (h:k < l.length):maxI (l.take (k+1))=max (maxI (l.take k)) l[k]:=by
 rw [maxI,List.take_succ_eq_append_getElem h,List.foldl_append];rfl
theorem fresh_spec (G:GH) (w0:World) (hG:Hold G w0) (D:DocV) (l:List ItemD) (hv:RepV G (.sl 11 (l.map ItemD.dat)) (sl3 D.f)) (hz:zItems l≤4294967296) (hm:maxI (iItems l)≤4611686018427387904) (h0:0≤maxI (iItems l)) :
  Calls Tryz.prog 50 #[D.val] w0 (Ret w0 G fun v G'=>v=vi (maxI (iItems l)+1)):=by
 refine eN [(0,_)] Tryz.func50 rfl Tryz.ntmps50 rfl rfl hG ?_;intro a H;refine c_seqR (fun _ K1=>?_);refine s_box (cs:=[_,_,_,_,_,_,_,_,_,_,_]) H wn rfl rfl rfl ?_;clear H;intro b1 a w hb1 H;refine kH H (Ra rfl (Kz K1 (SR fun _ K2=>?_)));clear H K1;intro a H;refine s_alloc ty3run H wn rfl ?_;clear H;intro b3 a w hb3 H;refine s_store ty3run 0 (vs:=[_]) _ H wn rfl rfl rfl rfl rfl rfl rfl rfl ?_;clear H;intro w H;dsimp only [List.set,setRow] at H;refine K2 _ _ ?_;clear K2;refine c_seq (fun _ K3=>?_);refine c_seqR (fun _ K4=>?_);refine s_loada ty50dq (cs:=[_,_,_,_,_,_,_,_,_,_,_]) H wn rfl rfl (H.hp.ocells 1 rfl rfl) rfl ?_;clear H;intro a H;refine s_call en118frs H wn rfl (ids_spec _ _ H.hp.ro D l hv hz) rfl ?_;clear H;rintro v6 G6 a w ⟨bd,rfl,hit⟩ hm6 H;refine K4 _ _ ?_;clear K4;refine c_block ?_;skip;refine c_rangeJ (ι:=Unit) (κ:=Empty) (Lc:=[(_,_)]) (fun (k:Nat) (gh:Unit)=>[(b3,.cells #[vi (maxI ((iItems l).take k))] 3 (0,0))]) (fun (k:Nat) (gh:Unit)=>[]) (fun (k:Nat) (gh:Unit) (g:GH)=>True) (fun x=>x.elim) (fun x=>x.elim) (fun x=>x.elim) (fun x=>x.elim) (()) (by exact H.pickT (Pl:=[_,_]) (Pl':=[_,_]) [1,0] (by decide) rfl) rfl en188frs (hit) (fun _ _ h=>h) rfl (fun k args g h=>by obtain ⟨_,rfl⟩:=id_at h;rfl) (fun _ _ _ _ _ h=>h) (fun x=>x.elim) (trivial) ?_ ?_ ?_
 ·clear H;intro l3 rdy bsy bk k args gh G3 w3 F3 B3 a hk3 hm3 hI hbeg3 hnext3 hstop3 H;obtain ⟨hk,rfl⟩:=id_at hk3;dsimp only [asg,List.cons_append,List.nil_append] at H;refine kP H (SC (Ra rfl ?_));clear H;intro a H;refine wl_nil ?_;refine hbeg3 _ _ _ _ _ _ (by exact H) ?_;clear H;intro w H;refine kP H (SB (SC (Ro ty3run 2 rfl rfl (Rm rfl ?_))));clear H;intro a H;refine s_max H wn rfl rfl rfl ?_;clear H;intro a H;rw [← maxI_snoc hk] at H;refine s_store ty3run 2 (vs:=[_]) _ H wn rfl rfl rfl rfl rfl rfl rfl rfl ?_;clear H;intro w H;dsimp only [List.set,setRow] at H;refine wl_nil ?_;refine hnext3 (()) _ _ _ _ _ (by exact H) ?_
  trivial
 ·clear H;intro Dk3 gh Gd3 a w hm3 hI H;dsimp only [List.cons_append,List.nil_append,List.append_nil] at H;refine K3 _ _ ?_;clear K3;refine c_seq (fun _ K5=>?_);rw [List.take_of_length_le (by simp)] at H;refine kP H (SC (Ro ty3run 2 rfl rfl (Rd rfl (Ra rfl (Kn K5 ?_)))));clear H K5;intro a H;refine c_ret ?_;refine (leaveM H 0 rfl ?_).1;clear H;intro a w H;dsimp only [List.eraseIdx_cons_succ,List.eraseIdx_cons_zero] at H;refine lv H Tryz.results50 rfl ?_;exact H.hp.ret rfl
 intro Dk x;exact x.elim
theorem intRow1 (G:GH) (n:Int):RepRow G [li n] [vi n]:=by simp [RepRow,RepV,Value.oneCell']
/-- How many units all flows have. -/
def unS (A:List FlowD):Int:=A.foldl (fun n f=>n+lenS f.items) 0
theorem unS_snoc {A:List FlowD} {k:Nat} (h:k < A.length):unS (A.take (k+1))=unS (A.take k)+lenS A[k].items:=by
 rw [unS,List.take_succ_eq_append_getElem h,List.foldl_append];rfl
theorem units_doc (G:GH) (w0:World) (hG:Hold G w0) (D:DocV) (l:List ItemD) (hv:RepV G (.sl 11 (l.map ItemD.dat)) (sl3 D.f)) (hz:zItems l≤4294967296) (hm:∀ k,k≤(flowsD l).length→0≤unS ((flowsD l).take k)∧unS ((flowsD l).take k)≤4611686018427387904) :
  Calls Tryz.prog 51 #[D.val] w0 (Ret w0 G fun v G'=>v=vi (unS (flowsD l))):=by
 refine eN [(0,_)] Tryz.func51 rfl Tryz.ntmps51 rfl rfl hG ?_;intro a H;refine c_seqR (fun _ K1=>?_);refine s_box (cs:=[_,_,_,_,_,_,_,_,_,_,_]) H wn rfl rfl rfl ?_;clear H;intro b1 a w hb1 H;refine kH H (Ra rfl (Kz K1 (SR fun _ K2=>?_)));clear H K1;intro a H;refine s_alloc ty3run H wn rfl ?_;clear H;intro b3 a w hb3 H;refine s_store ty3run 0 (vs:=[_]) _ H wn rfl rfl rfl rfl rfl rfl rfl rfl ?_;clear H;intro w H;dsimp only [List.set,setRow] at H;refine K2 _ _ ?_;clear K2;refine c_seq (fun _ K3=>?_);refine c_seqR (fun _ K4=>?_);refine s_loada ty50dq (cs:=[_,_,_,_,_,_,_,_,_,_,_]) H wn rfl rfl (H.hp.ocells 1 rfl rfl) rfl ?_;clear H;intro a H;refine s_call en81dq H wn rfl (of_spec _ _ H.hp.ro D l hv hz) rfl ?_;clear H;rintro v9 G9 a w ⟨ba,bl,bp,rfl,hit⟩ hm9 H;refine K4 _ _ ?_;clear K4;refine c_block ?_;skip;refine c_rangeJ (ι:=Unit) (κ:=Empty) (Lc:=[(_,_)]) (fun (k:Nat) (gh:Unit)=>[(b3,.cells #[vi (unS ((flowsD l).take k))] 3 (0,0))]) (fun (k:Nat) (gh:Unit)=>[]) (fun (k:Nat) (gh:Unit) (g:GH)=>True) (fun x=>x.elim) (fun x=>x.elim) (fun x=>x.elim) (fun x=>x.elim) (()) (by exact H.pickT (Pl:=[_,_]) (Pl':=[_,_]) [1,0] (by decide) rfl) rfl en203doc (hit) (fun _ _ h=>h) rfl (fun k args g h=>by obtain ⟨_,_,_,_,rfl,_⟩:=fl_at h;rfl) (fun _ _ _ _ _ h=>h) (fun x=>x.elim) (trivial) ?_ ?_ ?_
 ·clear H;intro l3 rdy bsy bk k args gh G3 w3 F3 B3 a hk3 hm3 hI hbeg3 hnext3 hstop3 H;obtain ⟨hk,vA,vn,vc,rfl,hfr⟩:=fl_at hk3;dsimp only [asg,List.cons_append,List.nil_append] at H;refine c_region ?_;refine s_alloc ty166dq H wn rfl ?_;clear H;intro b5 a w hb5 H;refine s_store ty166dq 0 (vs:=[_,_,_,_]) _ H wn rfl rfl rfl rfl rfl rfl rfl rfl ?_;clear H;intro w H;dsimp only [List.set,setRow] at H;refine wl_nil ?_;refine hbeg3 _ _ _ _ _ _ (by exact H.pickT (Pl:=[_,_,_,_]) (Pl':=[_,_,_,_]) [1,0,2,3] (by decide) rfl) ?_;clear H;intro w H;refine kP H (SB (SR fun _ K5=>Rf fd166_0dq rfl (Ro ty32run 1 rfl rfl ?_)));clear H;intro a H;refine s_call en8par H wn rfl (len_spec _ _ H.hp.ro (flowsD l)[k].items _ hfr (Nat.le_trans (flowsD_sz (List.getElem_mem hk)) hz)) rfl ?_;clear H;rintro v15 _ a w ⟨rfl,rfl⟩ - H;refine kH H (Rm rfl ?_);clear H;intro a H;(iterate 2 refine s_extract H wn rfl rfl rfl ?_;clear H;intro a H);refine kH H (Ra rfl (Ra rfl (Kz K5 ?_)));clear H K5;intro a H;have hb20:=hm (k+1) hk;rw [unS_snoc hk] at hb20;refine kP H (SC (Ro ty3run 3 rfl rfl (Rm rfl (Rd rfl ?_))));clear H;intro a H;rw [← unS_snoc hk] at H;refine s_store ty3run 3 (vs:=[_]) _ H wn rfl rfl rfl rfl rfl rfl rfl rfl ?_;clear H;intro w H;dsimp only [List.set,setRow] at H;refine wl_nil ?_;refine hnext3 (()) _ _ _ _ _ (by exact H.pickT (Pl:=[_,_,_,_]) (Pl':=[_,_,_]) [0,2,3] (by decide) rfl) ?_
  trivial
 ·clear H;intro Dk3 gh Gd3 a w hm3 hI H;dsimp only [List.cons_append,List.nil_append,List.append_nil] at H;refine K3 _ _ ?_;clear K3;refine c_seq (fun _ K6=>?_);rw [List.take_of_length_le (by simp)] at H;refine kP H (SC (Ro ty3run 2 rfl rfl (Ra rfl (Kn K6 ?_))));clear H K6;intro a H;refine c_ret ?_;refine (leaveM H 0 rfl ?_).1;clear H;intro a w H;dsimp only [List.eraseIdx_cons_succ,List.eraseIdx_cons_zero] at H;refine lv H Tryz.results51 rfl ?_;exact H.hp.ret rfl
 intro Dk x;exact x.elim
mutual
theorem wItem_n (note:Bool) (t:Int):∀ x:ItemD,(wItem note t x).length < szR x.dat
 | .mk k c i tx h f r=>by
  have h4:=zItem_eq (.mk k c i tx h f r);have hf:=wItems_n true t f;have hr:=wRows_n note t r;dsimp only [ItemD.text,ItemD.head,ItemD.flow,ItemD.rows] at h4;rw [wItem]
  split
  ·rw [List.length_cons];omega
  split <;> first|omega|(simp only [List.length_nil];omega)
theorem wItems_n (note:Bool) (t:Int):∀ l:List ItemD,(wItems note t l).length≤zItems l
 | []=>by simp [wItems]
 | x :: l=>by
  have h1:=wItem_n note t x;have h2:=wItems_n note t l;rw [wItems,List.length_append]
  simp only [zItems,List.map_cons,szRs] at *;omega
theorem wRow_n (note:Bool) (t:Int):∀ x:RowD,(wRow note t x).length≤szR x.dat
 | .mk h cs=>by
  have h4:=zRow_eq (.mk h cs);have hc:=wCells_n note t cs;dsimp only [RowD.head,RowD.cells] at h4;rw [wRow];omega
theorem wRows_n (note:Bool) (t:Int):∀ l:List RowD,(wRows note t l).length≤zRows l
 | []=>by simp [wRows]
 | x :: l=>by
  have h1:=wRow_n note t x;have h2:=wRows_n note t l;rw [wRows,List.length_append]
  simp only [zRows,List.map_cons,szRs] at *;omega
theorem wCell_n (note:Bool) (t:Int):∀ x:CellD,(wCell note t x).length≤szR x.dat
 | .mk i h f=>by
  have h4:=zCell_eq (.mk i h f);have hf:=wItems_n note (t+1) f;dsimp only [CellD.head,CellD.flow] at h4;rw [wCell,List.length_cons];omega
theorem wCells_n (note:Bool) (t:Int):∀ l:List CellD,(wCells note t l).length≤zCells l
 | []=>by simp [wCells]
 | x :: l=>by
  have h1:=wCell_n note t x;have h2:=wCells_n note t l;rw [wCells,List.length_append]
  simp only [zCells,List.map_cons,szRs] at *;omega
end
theorem docFlows_spec (G:GH) (w0:World) (hG:Hold G w0) (D:DocV) (l:List ItemD) (hv:RepV G (.sl 11 (l.map ItemD.dat)) (sl3 D.f)) (hz:zItems l≤4294967296) :
  Calls Tryz.prog 25 #[D.val] w0 (Ret w0 G fun u G'=>RepV G' (.sl 1 ((flowsD l).map fun f:FlowD=>[li f.id])) u):=by
 have hml:4294967299≤maxLen:=by decide
 have hn:(flowsD l).length≤4294967297:=by
  have:=wItems_n false 0 l;rw [flowsD,List.length_cons];omega
 refine eN [(0,_)] Tryz.func25 rfl Tryz.ntmps25 rfl rfl hG ?_;intro a H;refine c_seqR (fun _ K1=>?_);refine s_box (cs:=[_,_,_,_,_,_,_,_,_,_,_]) H wn rfl rfl rfl ?_;clear H;intro b1 a w hb1 H;refine kH H (Ra rfl (Kz K1 (SR fun _ K2=>?_)));clear H K1;intro a H;refine s_alloc ty38mid H wn rfl ?_;clear H;intro b3 a w hb3 H;refine K2 _ _ ?_;clear K2;refine c_seq (fun _ K3=>?_);refine c_seq (fun _ K4=>?_);have H:=H.pickT (Pl:=[_,_]) (Pl':=[_,_]) [1,0] (by decide) rfl;refine c_region ?_;refine s_loada ty50dq (cs:=[_,_,_,_,_,_,_,_,_,_,_]) H wn rfl rfl (H.hp.ocells 0 rfl rfl) rfl ?_;clear H;intro a H;refine s_call en81dq H wn rfl (of_spec _ _ H.hp.ro D l hv hz) rfl ?_;clear H;rintro v6 G6 a w ⟨ba,bl,bp,rfl,hit⟩ hm6 H;refine wl_nil ?_;refine K4 _ _ ?_;clear K4;refine c_block ?_;skip;refine c_rangeJ (ι:=Value × List Value × OL) (κ:=Empty) (Lc:=[(_,_)]) (fun (k:Nat) (gh:Value × List Value × OL)=>[(b3,.cells #[gh.1] 38 (0,0))]) (fun (k:Nat) (gh:Value × List Value × OL)=>gh.2.2) (fun (k:Nat) (gh:Value × List Value × OL) (g:GH)=>IsRow 3 1 gh.1 k gh.2.1 gh.2.2∧RepCat g 1 (((flowsD l).take k).map fun f:FlowD=>[li f.id]) gh.2.1) (fun x=>x.elim) (fun x=>x.elim) (fun x=>x.elim) (fun x=>x.elim) ((.slice none 0 0,[],[])) (by exact H.nilT (A:=[_,_])) rfl en203doc (hit) (fun _ _ h=>h) rfl (fun k args g h=>by obtain ⟨_,_,_,_,rfl,_⟩:=fl_at h;rfl) (fun k i G G' hm h=>⟨h.1,h.2.mono hm⟩) (fun x=>x.elim) (⟨IsRow.nil,RepCat.nil⟩) ?_ ?_ ?_
 ·clear H;intro l3 rdy bsy bk k args gh G3 w3 F3 B3 a hk3 hm3 hI hbeg3 hnext3 hstop3 H;obtain ⟨v,xs,Lo⟩:=gh;dsimp only at hI H;obtain ⟨hk,vA,vn,vc,rfl,hfr⟩:=fl_at hk3;dsimp only [asg,List.cons_append,List.nil_append] at H;obtain ⟨hrw,hcat⟩:=hI;refine kP H (SC (Ra rfl ?_));clear H;intro a H;refine wl_nil ?_;refine hbeg3 _ _ _ _ _ _ (by exact H) ?_;clear H;intro w H;refine kP H (SB (SC (Ro ty38mid 2 rfl rfl (Rm rfl ?_))));clear H;intro a H;refine s_buildSlice un38l14c ty3run [_] [_] H wn rfl rfl rfl rfl rfl (by intro i q h;match i,h with|0,h=>exact h|n+1,h=>simp at h) rfl rfl ?_;clear H;intro b11 a w hb11 H;refine s_append (Li:=[_,_,_,_]++bk) (Lo:=Lo) (news:=[vi (flowsD l)[k].id]) un38l14c ty3run rfl rfl (St.un (A:=[_,_,_,_]) H) wn rfl rfl hrw rfl (H.hp.ocells 0 rfl rfl) rfl (by omega) (by omega) rfl ?_;clear H;intro v12 Lo12 a w hrw12 H;obtain ⟨A12,c12,rfl,-,-⟩:=hrw12.shape
  simp only [List.append_assoc,List.cons_append,List.nil_append] at H
  refine s_store ty38mid 3 (vs:=[_]) _ H wn rfl rfl rfl rfl rfl rfl rfl rfl ?_;clear H;intro w H;dsimp only [List.set,setRow] at H;refine wl_nil ?_;refine hnext3 ((.slice A12 (k+1) c12,xs++[vi (flowsD l)[k].id],Lo12)) _ _ _ _ _ (by exact H.pickT (Pl:=[_,_,_,_]) (Pl':=[_,_,_]) [1,2,3] (by decide) rfl) ?_;exact ⟨hrw12,by rw [List.take_succ_eq_append_getElem hk,List.map_append];exact hcat.snoc (intRow1 _ _) rfl⟩
 ·clear H;intro Dk3 gh Gd3 a w hm3 hI H;obtain ⟨v,xs,Lo⟩:=gh;dsimp only at hI H;dsimp only [List.cons_append,List.nil_append,List.append_nil] at H;obtain ⟨hrw,hcat⟩:=hI;rw [List.length_map] at hrw hcat;rw [List.take_length] at hcat;refine K3 _ _ ?_;clear K3;refine kP H (SR fun _ K5=>Ro ty38mid 2 rfl rfl (Ra rfl (Kz K5 ?_)));clear H K5;intro a H;refine c_ret ?_;refine (leaveM H 0 rfl ?_).1;clear H;intro a w H;dsimp only [List.eraseIdx_cons_succ,List.eraseIdx_cons_zero] at H;refine lv H Tryz.results25 rfl ?_;obtain ⟨Gr,hmr,hrep,H⟩:=St.giveRow (Li:=[_,_]) H hrw (rows:=(flowsD l).map fun f:FlowD=>[li f.id]) (by simp) hcat;exact H.hp.ret hrep
 intro Dk x;exact x.elim
end
section
open Go.RowKit
def xCA:CellD:=.mk 5 hd0 [exA]
def xCB:CellD:=.mk 4 hd0 []
def xRow:RowD:=.mk hd0 [xCA,xCB]
def xTab:ItemD:=.mk 7 0 3 ⟨#[]⟩ hd0 [] [xRow]
def xDoc:DocD:=⟨[xTab],hd0,[],⟨[],[],[],[]⟩⟩
theorem txt_0:validS ⟨#[]⟩=true:=by
 have e0:firstS ⟨#[]⟩ 0=-1:=by rw [firstS,dif_neg (by decide)]
 unfold validS;rw [e0];decide
theorem xStg:chkStg ⟨[],[],[],[]⟩=0:=by simp [chkStg,firstE,checkS,errF,chkLis,chkCms,chkVas,whenE,allE]
theorem xRev:chkRvs []=0:=by simp [chkRvs,firstE,whenE,allE]
theorem xHead (C:CkP) {e:Int} (h1:1≤e) (h2:e≤10):headE C e hd0=0:=by
 have h3:chkPS e []=0:=by rw [chkPS,if_neg (by omega)];rfl
 simp [headE,firstE,hd0,h3,refsE,mrkE,allE,whenE]
theorem xFa:formE exA=0:=by
 simp [formE,exA,ItemD.kind,ItemD.code,ItemD.id,ItemD.text,ItemD.flow,ItemD.rows,codeOk,fmtB,codedB,namedB,wordB,startB,emptyB,txt_ab.1]
theorem xFt:formE xTab=0:=by
 simp [formE,xTab,ItemD.kind,ItemD.code,ItemD.id,ItemD.text,ItemD.flow,ItemD.rows,codeOk,fmtB,codedB,namedB,wordB,startB,emptyB,txt_0]
theorem xItems:itemsC xDoc.ckp true false 0 [xTab] ⟨0,[]⟩=(0,⟨3,[3,5,4]⟩):=by
 generalize xDoc.ckp=C
 have hA:∀ s:CS,itemsC C false false 1 [exA] s=(0,⟨s.n+2,s.bef⟩):=fun s=>by
  have e1:preC false false 1 exA.kind exA.id ⟨s.n+(unitsS exA:Nat),s.bef⟩=(0,⟨s.n+2,s.bef⟩):=by rw [uA.1];rfl
  have e2:headE C exA.kind exA.head=0:=xHead C (by decide) (by decide)
  simp [itemsC,itemC_eq,andT,xFa,e1,e2,show ¬ exA.kind=6 by decide,show ¬ exA.kind=7 by decide]
 have e2:preC true false 0 7 xTab.id ⟨((unitsS xTab:Nat):Int),[]⟩=(0,⟨1,[3]⟩):=rfl;have e3:headE C 7 xTab.head=0:=xHead C (by decide) (by decide);have e4:headE C 9 xRow.head=0:=xHead C (by decide) (by decide);have e5:headE C 10 xCA.head=0:=xHead C (by decide) (by decide);have e6:headE C 10 xCB.head=0:=xHead C (by decide) (by decide);have e7:idC ⟨1,[3]⟩ xCA.id=(0,⟨1,[3,5]⟩):=rfl;have e8:idC ⟨3,[3,5]⟩ xCB.id=(0,⟨3,[3,5,4]⟩):=rfl;have f1:xTab.rows=[xRow]:=rfl;have f2:xRow.cells=[xCA,xCB]:=rfl;have f3:xCA.flow=[exA]:=rfl;have f4:xCB.flow=[]:=rfl
 simp [itemsC,itemC_eq,andT,xFt,e2,e3,show ¬ xTab.kind=6 by decide,show xTab.kind=7 by decide,f1,rowsC0,rowsC,rowC_eq,rowE,e4,firstE,whenE,f2,cellsC,cellC_eq,e5,e6,e7,e8,f3,f4,hA]
theorem xChk:chkDoc xDoc=0:=by
 have h1:headE xDoc.ckp 3 xDoc.fin=0:=xHead _ (by decide) (by decide);have h2:chkStg xDoc.stg=0:=xStg;have h3:chkRvs xDoc.revs=0:=xRev;have h4:itemsC xDoc.ckp true false 0 xDoc.flow ⟨0,[]⟩=(0,⟨3,[3,5,4]⟩):=xItems
 have h5:mrkB xDoc.fin.marks=false:=by decide
 simp [chkDoc,h1,h2,h3,h4,h5,firstE,whenE]
theorem xFlows:flowsD [xTab]=[⟨0,[xTab],true,false,0⟩,⟨5,[exA],false,false,1⟩,⟨4,[],false,false,1⟩]:=by
 simp [flowsD,wItems,wItem_eq,xTab,ItemD.kind,ItemD.rows,wRows,wRow_eq,xRow,RowD.cells,wCells,wCell_eq,xCA,xCB,CellD.id,CellD.flow,exA]
theorem xPlace:placeS [xTab] 4=some (0,0):=by
 have h1:pItems 5 0 [exA]=[]:=by simp [pItems,pItem_eq,exA,ItemD.kind]
 have h2:pItems 4 0 []=[]:=by simp [pItems]
 simp [placeS,pItems,pItem_eq,xTab,ItemD.kind,innerC,xRow,xCA,xCB,RowD.cells,pCells,pCell_eq,CellD.id,CellD.flow,h1,h2,isAt,ItemD.id,ItemD.rows,inRow]
theorem xIds:iItems [xTab]=[3,5,4]:=by
 simp [iItems,iItem_eq,xTab,ItemD.kind,ItemD.id,ItemD.rows,ItemD.flow,iRows,iRow_eq,xRow,RowD.cells,iCells,iCell_eq,xCA,xCB,CellD.id,CellD.flow,exA]
theorem xUnits:∀ k,unS ((flowsD [xTab]).take k)=if k=0 then 0 else if k=1 then 1 else 3:=by
 have l1:lenS [xTab]=1:=by simp [lenS,divS,sumS,unitsS,unitsE,xTab,ItemD.kind]
 have l2:lenS [exA]=2:=by simp [lenS,divS,sumS,uA.1,uA.2]
 have l3:lenS []=0:=rfl;intro k;rw [xFlows]
 match k with
 | 0=>rfl
 | 1=>simp [unS,l1]
 | 2=>simp [unS,l1,l2]
 | n+3=>simp [unS,l1,l2,l3]
end
section
open Go.RowKit
theorem en49kn13:∀ args w,(callFunc 49 args).run Tryz.prog w=.ok (.enter 49 args) w:=enters Tryz.func49 rfl (by kernel_rfl)
theorem en25kn13:∀ args w,(callFunc 25 args).run Tryz.prog w=.ok (.enter 25 args) w:=enters Tryz.func25 rfl (by kernel_rfl)
theorem en30kn13:∀ args w,(callFunc 30 args).run Tryz.prog w=.ok (.enter 30 args) w:=enters Tryz.func30 rfl (by kernel_rfl)
theorem en20kn13:∀ args w,(callFunc 20 args).run Tryz.prog w=.ok (.enter 20 args) w:=enters Tryz.func20 rfl (by kernel_rfl)
theorem eqi54kn13:EqI Tryz.prog 54 [0,1]:=⟨by kernel_rfl,by kernel_rfl,by kernel_rfl,by kernel_rfl,by kernel_rfl⟩
theorem en50kn13:∀ args w,(callFunc 50 args).run Tryz.prog w=.ok (.enter 50 args) w:=enters Tryz.func50 rfl (by kernel_rfl)
theorem en51kn13:∀ args w,(callFunc 51 args).run Tryz.prog w=.ok (.enter 51 args) w:=enters Tryz.func51 rfl (by kernel_rfl)
theorem nil_stg {G:GH}:StgR G ⟨[],[],[],[]⟩ (.slice none 0 0) (.slice none 0 0) (.slice none 0 0) (.slice none 0 0):=⟨RepV.nil_ rfl (by decide),RepV.nil_ rfl (by decide),RepV.nil_ rfl (by decide),RepV.nil_ rfl (by decide)⟩
theorem example13_spec (G:GH) (w0:World) (hG:Hold G w0) :
  Calls Tryz.prog 49 #[] w0 (Ret w0 G fun u G'=>∃ D:DocV,u=D.val∧DocR G' D xDoc):=by
 refine eN [] Tryz.func49 rfl Tryz.ntmps49 rfl rfl hG ?_;intro a H;refine c_seqR (fun _ K1=>?_);refine s_alloc ty50dq H wn rfl ?_;clear H;intro b0 a w hb0 H;refine K1 _ _ ?_;clear K1;refine c_seqR (fun _ K2=>?_);refine s_build sr35k14 [_,_,_,_,_,_,_,_,_,_,_] H wn rfl rfl rfl rfl ?_;clear H;intro a H;refine s_buildSlice un32run ty35run [_,_,_,_,_,_,_,_,_,_,_] [_,_,_,_,_,_,_,_,_,_,_] H wn rfl rfl rfl rfl rfl (by intro i q h;match i,h with|0,h=>exact h|n+1,h=>simp at h) rfl rfl ?_;clear H;intro b3 a w hb3 H;refine kH H (Ra rfl (Kz K2 (SR fun _ K3=>Rm rfl ?_)));clear H K2;intro a H;(iterate 2 refine s_build sr174run [_,_,_,_,_,_,_] H wn rfl rfl rfl rfl ?_;clear H;intro a H);refine s_buildSlice un169run ty174run [_,_,_,_,_,_,_,_,_,_,_,_,_,_] [_,_,_,_,_,_,_,_,_,_,_,_,_,_] H wn rfl rfl rfl rfl rfl (by intro i q h;match i,h with|0,h=>exact h|1,h=>exact h|n+2,h=>simp at h) rfl rfl ?_;clear H;intro b7 a w hb7 H;refine s_build sr171run [_,_,_,_,_,_] H wn rfl rfl rfl rfl ?_;clear H;intro a H;refine s_buildSlice un33run ty171run [_,_,_,_,_,_] [_,_,_,_,_,_] H wn rfl rfl rfl rfl rfl (by intro i q h;match i,h with|0,h=>exact h|n+1,h=>simp at h) rfl rfl ?_;clear H;intro b9 a w hb9 H;refine s_build sr35k14 [_,_,_,_,_,_,_,_,_,_,_] H wn rfl rfl rfl rfl ?_;clear H;intro a H;refine s_buildSlice un32run ty35run [_,_,_,_,_,_,_,_,_,_,_] [_,_,_,_,_,_,_,_,_,_,_] H wn rfl rfl rfl rfl rfl (by intro i q h;match i,h with|0,h=>exact h|n+1,h=>simp at h) rfl rfl ?_;clear H;intro b11 a w hb11 H;refine s_build sr50k14b [_,_,_,_,_,_,_,_,_,_,_] H wn rfl rfl rfl rfl ?_;clear H;intro a H;refine s_store ty50dq 4 (vs:=[_,_,_,_,_,_,_,_,_,_,_]) _ H wn rfl rfl rfl rfl rfl rfl rfl rfl ?_;clear H;intro w H;dsimp only [List.set,setRow] at H;refine K3 _ _ ?_;clear K3;refine c_ret ?_;refine (leave1 H Tryz.results49 (.cons (rv_cella ty50dq (cs:=[_,_,_,_,_,_,_,_,_,_,_]) H rfl rfl (H.hp.ocells 4 rfl rfl)) .nil) ?_).1;have H:=H.pickT (Pl:=[_,_,_,_,_]) (Pl':=[_,_,_,_]) [3,2,1,0] (by decide) rfl;obtain ⟨G3,hm3,hr3,H⟩:=H.giveOne (sz:=11) (d:=exA.dat) rfl (RepRow.mkItem (x:=exA) hd0_rep (RepV.nil_ (A:=none) (n:=0) (c:=0) rfl (by decide)) (RepV.nil_ (A:=none) (n:=0) (c:=0) rfl (by decide)));obtain ⟨G7,hm7,hb7,H⟩:=H.giveBox;have rA:RepRow G7 xCA.dat _:=RepRow.mkCell (x:=xCA) hd0_rep (hr3.mono hm7);have rB:RepRow G7 xCB.dat _:=RepRow.mkCell (x:=xCB) hd0_rep (RepV.nil_ (A:=none) (n:=0) (c:=0) rfl (by decide));have hcat:RepCat G7 7 (xRow.cells.map CellD.dat) _:=(RepCat.nil.snoc rA rfl).snoc rB rfl;have hr7:RepV G7 (.sl 7 (xRow.cells.map CellD.dat)) (.slice (some ⟨b7,0,none⟩) 2 2):=RepV.of_row (n:=2) (cap:=2) hb7 rfl (Nat.le_refl _) (show 2≤maxLen by decide) rfl hcat;obtain ⟨G9,hm9,hr9,H⟩:=H.giveOne (sz:=6) (d:=xRow.dat) rfl (RepRow.mkRow (x:=xRow) hd0_rep hr7);obtain ⟨G11,hm11,hr11,H⟩:=H.giveOne (sz:=11) (d:=xTab.dat) rfl (RepRow.mkItem (x:=xTab) hd0_rep (RepV.nil_ (A:=none) (n:=0) (c:=0) rfl (by decide)) hr9);exact H.hp.ret ⟨⟨(some ⟨b11,0,none⟩,1,1),(none,0,0),(none,0,0),(none,0,0),(none,0,0),(none,0,0),(none,0,0),(none,0,0),(none,0,0),0,0⟩,rfl,⟨hr11,hd0_rep,rfl,rfl,RepV.nil_ (c:=0) rfl (show 0≤maxLen by decide),nil_stg⟩⟩
theorem xZt:szR xTab.dat≤100:=by
 have h1:=zItem_eq xTab;have h2:=zRow_eq xRow;have h3:=zCell_eq xCA;have h4:=zCell_eq xCB;have h5:=zItem_eq exA
 have h0:zHead hd0=5:=by simp [zHead_eq,szRs]
 have g1:xTab.head=hd0:=rfl;have g2:xRow.head=hd0:=rfl;have g3:xCA.head=hd0:=rfl;have g4:xCB.head=hd0:=rfl;have g5:exA.head=hd0:=rfl;have s1:xTab.text.size=0:=rfl;have s5:exA.text.size=2:=rfl;have f1:zItems xTab.flow=0:=rfl;have f5:zItems exA.flow=0:=rfl;have f3:zItems xCA.flow=1+szR exA.dat:=rfl;have f4:zItems xCB.flow=0:=rfl;have r1:zRows xTab.rows=1+szR xRow.dat:=rfl;have r5:zRows exA.rows=0:=rfl;have c2:zCells xRow.cells=1+szR xCA.dat+(1+szR xCB.dat):=rfl;rw [g1,h0] at h1;rw [g2,h0] at h2;rw [g3,h0] at h3;rw [g4,h0] at h4;rw [g5,h0] at h5
 omega
theorem xZ:DocZ xDoc:=by
 have h0:zHead hd0=5:=by simp [zHead_eq,szRs]
 have h1:zItems xDoc.flow=1+szR xTab.dat:=rfl;have h2:=xZt;exact ⟨by omega,by show zHead hd0≤_;omega,by decide,(fun x h=>by cases h),by decide,⟨(fun x h=>by cases h),by decide,(fun x h=>by cases h),by decide,(fun x h=>by cases h),by decide,(fun x h=>by cases h)⟩⟩
theorem known13 (G:GH) (w0:World) (hG:Hold G w0):Calls Tryz.prog 15 #[] w0 (Ret w0 G fun u G'=>u=.bool true):=by
 have hz:zItems [xTab]≤4294967296:=Nat.le_trans xZ.fl (by decide);refine eN [] Tryz.func15 rfl Tryz.ntmps15 rfl rfl hG ?_;intro a H;refine kP H (SR fun _ K1=>Ra rfl (Kz K1 (SR fun _ K2=>?_)));clear H K1;intro a H;refine s_call en49kn13 H wn rfl (example13_spec _ _ H.hp.ro) rfl ?_;clear H;rintro v5 G5 a w ⟨D,rfl,hR⟩ hm5 H;refine s_alloc ty50dq H wn rfl ?_;clear H;intro b1 a w hb1 H;refine s_store ty50dq 0 (vs:=[_,_,_,_,_,_,_,_,_,_,_]) _ H wn rfl rfl rfl rfl rfl rfl rfl rfl ?_;clear H;intro w H;dsimp only [List.set,setRow] at H;refine K2 _ _ ?_;clear K2;refine c_seqR (fun _ K3=>?_);refine s_loada ty50dq (cs:=[_,_,_,_,_,_,_,_,_,_,_]) H wn rfl rfl (H.hp.ocells 0 rfl rfl) rfl ?_;clear H;intro a H;refine s_call en25kn13 H wn rfl (docFlows_spec _ _ H.hp.ro D [xTab] hR.fl hz) rfl ?_;clear H;rintro v7 G7 a w hfl hm7 H;replace hR:=hR.mono hm7;rw [xFlows] at hfl;obtain ⟨vA,vn,vc,rfl⟩:=hfl.form;obtain rfl:vn=3:=hfl.len;obtain ⟨b,o,cs,rfl,hcl,hrow1,hr⟩:=hfl.at_ 1 [li 5] rfl;obtain ⟨_,_,rfl,⟨rfl,-⟩,rfl⟩:∃ v vs,cs=v :: vs∧RepV G7 (li 5) v∧vs=[]:=hr;obtain ⟨b',o',cs,he,hcl,hrow2,hr⟩:=hfl.at_ 2 [li 4] rfl;obtain ⟨_,_,rfl,⟨rfl,-⟩,rfl⟩:∃ v vs,cs=v :: vs∧RepV G7 (li 4) v∧vs=[]:=hr
 injection he with he
 injection he with e1 e2
 subst e1;subst e2;have c1:gcell G7 b (o+1*1)=some (vi 5):=hrow1 0 _ rfl;have c2:gcell G7 b (o+2*1)=some (vi 4):=hrow2 0 _ rfl;refine kH H (Ra rfl (Kz K3 (SR fun _ K4=>?_)));clear H K3;intro a H;refine s_loada ty50dq (cs:=[_,_,_,_,_,_,_,_,_,_,_]) H wn rfl rfl (H.hp.ocells 0 rfl rfl) rfl ?_;clear H;intro a H;refine s_call en30kn13 H wn rfl (place_spec _ _ H.hp.ro D [xTab] 4 hR.fl hz) rfl ?_;clear H;rintro v10 G10 a w rfl hm10 H;replace hR:=hR.mono hm10;replace c1:=gcell_mono hm10 c1;replace c2:=gcell_mono hm10 c2;rw [xPlace] at H;dsimp only [Option.getD,Option.isSome] at H;refine kH H (Rm rfl ?_);clear H;intro a H;(iterate 2 refine s_extract H wn rfl rfl rfl ?_;clear H;intro a H);refine s_alloc ty54plc H wn rfl ?_;clear H;intro b3 a w hb3 H;refine s_store ty54plc 0 (vs:=[_,_]) _ H wn rfl rfl rfl rfl rfl rfl rfl rfl ?_;clear H;intro w H;dsimp only [List.set,setRow] at H;refine kH H (Ra rfl (Kz K4 (SR fun _ K5=>?_)));clear H K4;intro a H;refine s_loada ty50dq (cs:=[_,_,_,_,_,_,_,_,_,_,_]) H wn rfl rfl (H.hp.ocells 1 rfl rfl) rfl ?_;clear H;intro a H;refine s_call en20kn13 H wn rfl (check_doc _ _ H.hp.ro D xDoc hR xZ) rfl ?_;clear H;rintro v14 G14 a w rfl hm14 H;replace hR:=hR.mono hm14;replace c1:=gcell_mono hm14 c1;replace c2:=gcell_mono hm14 c2;rw [xChk] at H;refine kH H (Rc rfl (Rm rfl ?_));clear H;intro a H;refine s_split H 16 rfl ?_ ?_
 ·intro h16
  try have p16:=dT h16
  refine kH H (YM h16 rfl (YL un38l14c h16 rfl (YC h16 rfl (Pt h16 rfl (Rm rfl ?_)))));clear H;intro a H;refine s_split H 21 rfl ?_ ?_
  ·intro h21
   try have p21:=dT h21
   refine kH H (YM h21 rfl ?_);clear H;intro a H;refine s_index un38l14c ty3run 1 H (wg H rfl rfl h21) rfl rfl rfl (by omega) rfl ?_;clear H;intro a H;refine kH H (YR ty3run h21 rfl c1 (YC h21 rfl (Pt h21 rfl (Rm rfl ?_))));clear H;intro a H;refine s_split H 27 rfl ?_ ?_
   ·intro h27
    try have p27:=dT h27
    refine kH H (YM h27 rfl ?_);clear H;intro a H;refine s_index un38l14c ty3run 2 H (wg H rfl rfl h27) rfl rfl rfl (by omega) rfl ?_;clear H;intro a H;refine kH H (YR ty3run h27 rfl c2 (YC h27 rfl (Pt h27 rfl (Rm rfl ?_))));clear H;intro a H;refine s_split H 33 rfl ?_ ?_
    ·intro h33
     try have p33:=dT h33
     refine kH H (YM h33 rfl (Pt h33 rfl (Rm rfl ?_)));clear H;intro a H;refine s_split H 36 rfl ?_ ?_
     ·intro h36
      try have p36:=dT h36
      refine s_loada ty54plc (cs:=[_,_]) H (wg H rfl rfl h36) rfl rfl (H.hp.ocells 0 rfl rfl) rfl ?_;clear H;intro a H;refine s_build sr54plc [_,_] H (wg H rfl rfl h36) rfl rfl rfl rfl ?_;clear H;intro a H;refine s_eqagg eqi54kn13 H (wg H rfl rfl h36) rfl rfl rfl rfl ?_;clear H;intro a H;refine kH H (Pt h36 rfl (Rm rfl ?_));clear H;intro a H;refine s_split H 41 rfl ?_ ?_
      ·intro h41
       try have p41:=dT h41
       refine s_loada ty50dq (cs:=[_,_,_,_,_,_,_,_,_,_,_]) H (wg H rfl rfl h41) rfl rfl (H.hp.ocells 1 rfl rfl) rfl ?_;clear H;intro a H;refine s_call en50kn13 H (wg H rfl rfl h41) rfl (fresh_spec _ _ H.hp.ro D [xTab] hR.fl hz (by rw [xIds];decide) (by rw [xIds];decide)) rfl ?_;clear H;rintro v43 G43 a w rfl hm43 H;replace hR:=hR.mono hm43;rw [xIds] at H;refine kH H (YC h41 rfl (Pt h41 rfl (Rm rfl ?_)));clear H;intro a H;refine s_split H 46 rfl ?_ ?_
       ·intro h46
        try have p46:=dT h46
        refine s_loada ty50dq (cs:=[_,_,_,_,_,_,_,_,_,_,_]) H (wg H rfl rfl h46) rfl rfl (H.hp.ocells 1 rfl rfl) rfl ?_;clear H;intro a H
        refine s_call en51kn13 H (wg H rfl rfl h46) rfl (units_doc _ _ H.hp.ro D [xTab] hR.fl hz (fun k _=>by rw [xUnits];(repeat' split) <;> decide)) rfl ?_;clear H
        rintro v48 G48 a w rfl hm48 H;rw [show unS (flowsD [xTab])=3 by have:=xUnits 3;rw [List.take_of_length_le (by rw [xFlows];decide)] at this;exact this] at H;refine kH H (YC h46 rfl (Pt h46 rfl (Ra rfl (Kz K5 ?_))));clear H K5;intro a H;refine lr H Tryz.results15 rfl ?_;exact H.hp.ret rfl
       intro h46
       try have p46:=dF h46
       exact absurd h46 (by decide)
      intro h41
      try have p41:=dF h41
      exact absurd h41 (by decide)
     intro h36
     try have p36:=dF h36
     exact absurd h36 (by decide)
    intro h33
    try have p33:=dF h33
    exact absurd h33 (by decide)
   intro h27
   try have p27:=dF h27
   exact absurd h27 (by decide)
  intro h21
  try have p21:=dF h21
  exact absurd h21 (by decide)
 intro h16
 try have p16:=dF h16
 exact absurd h16 (by decide)
end
section
open Go.RowKit
theorem en15dcs:∀ args w,(callFunc 15 args).run Tryz.prog w=.ok (.enter 15 args) w:=enters Tryz.func15 rfl (by kernel_rfl)
theorem en19dcs:∀ args w,(callFunc 19 args).run Tryz.prog w=.ok (.enter 19 args) w:=enters Tryz.func19 rfl (by kernel_rfl)
theorem en21dcs:∀ args w,(callFunc 21 args).run Tryz.prog w=.ok (.enter 21 args) w:=enters Tryz.func21 rfl (by kernel_rfl)
theorem checks_true (G:GH) (w0:World) (hG:Hold G w0) (D:DocV) (d:DocD) (hR:DocR G D d) (hz:DocZ d) :
  Calls Tryz.prog 5 #[D.val] w0 (Ret w0 G fun u G'=>u=.bool true):=by
 refine eN [(0,_)] Tryz.func5 rfl Tryz.ntmps5 rfl rfl hG ?_;intro a H;refine c_seqR (fun _ K1=>?_);refine s_box (cs:=[_,_,_,_,_,_,_,_,_,_,_]) H wn rfl rfl rfl ?_;clear H;intro b1 a w hb1 H;refine kH H (Ra rfl (Kz K1 (SQ fun _ K2=>SQ fun _ K3=>?_)));clear H K1;intro a H;obtain ⟨Ga,hma,hb1',H⟩:=H.giveBox;have hga:=fun j v hj=>gc_of hb1' 0 D.cells rfl j v hj;replace hR:=hR.mono hma;refine c_region ?_;refine s_call en15dcs H wn rfl (known13 _ _ H.hp.ro) rfl ?_;clear H;rintro v3 G3 a w rfl hm3 H;refine kH H (Rn rfl (Rm rfl ?_));clear H;intro a H;refine s_split H 5 rfl ?_ ?_
 ·intro h5
  try have p5:=dT h5
  exact absurd h5 (by decide)
 intro h5
 try have p5:=dF h5
 refine s_loada ty50dq (cs:=D.cells) H (wg H rfl rfl h5) rfl rfl (fun j v hj=>H.hp.gcell (gcell_mono hm3 (hga j v hj))) rfl ?_;clear H;intro a H;refine s_call en19dcs H (wg H rfl rfl h5) rfl (small13_spec _ _ H.hp.ro D d (hR.mono hm3) hz) rfl ?_;clear H;rintro v7 G7 a w ⟨b7,rfl⟩ hm7 H;replace hR:=(hR.mono hm3).mono hm7;refine kH H (YN h5 rfl (Pf h5 rfl (Kn K3 ?_)));clear H K3;intro a H;refine c_cond H rfl ?_ ?_
 ·intro h9
  try have p9:=dT h9
  refine c_seqR (fun _ K4=>?_);refine s_call en15dcs H wn rfl (known13 _ _ H.hp.ro) rfl ?_;clear H;rintro v10 G10 a w rfl hm10 H;refine kH H (Ra rfl (Kz K4 ?_));clear H K4;intro a H;refine lr H Tryz.results5 rfl ?_;exact H.hp.ret (by first|rfl|exact congrArg Value.bool (decide_eq_true rfl))
 intro h9
 try have p9:=dF h9
 refine c_skip ?_;refine K2 _ _ ?_;clear K2;refine c_seq (fun _ K5=>?_);refine c_drawI (hmx) [[],[0],[],[0,1,2],[0,1,2,3],[0,1,2,3,4]] [4,5] (by kernel_rfl) (by kernel_rfl) (fun (ix_:Nat) (v:Value) (G:GH)=>match ix_ with|0=>v=.agg D.cells.toArray|1=>v=vi (chkDoc d)|2=>v=.agg D.cells.toArray|3=>v=vi (chkDoc d)|_=>True) (fun _ _ _ _ _ h=>h) H ?_ ?_
 ·clear H;refine al4 ?_ ?_ ?_ ?_ (allI_cons ?_ (allI_cons ?_ allI_nil))
  ·refine Op0 rfl fun _ a w G1 hG HT H fin=>?_;refine s_loada ty50dq (cs:=D.cells) H wn rfl rfl (fun j v hj=>H.hp.gcell (gcell_mono hG (gcell_mono hm7 (gcell_mono hm3 (hga j v hj))))) rfl ?_;clear H;intro a H;exact fin H iJ rfl
  ·refine Op1 0 11 rfl rfl fun _ a w G1 hG HT H fin=>?_;refine s_call en20kn13 H wn rfl (check_doc _ _ H.hp.ro D d (hR.mono hG) hz) rfl ?_;clear H;rintro v12 G12 a w rfl hGm12 H;exact fin H hGm12 (rfl)
  ·refine Op0 rfl fun _ a w G1 hG HT H fin=>?_;refine s_loada ty50dq (cs:=D.cells) H wn rfl rfl (fun j v hj=>H.hp.gcell (gcell_mono hG (gcell_mono hm7 (gcell_mono hm3 (hga j v hj))))) rfl ?_;clear H;intro a H;exact fin H iJ rfl
  ·refine Op1 2 13 rfl rfl fun _ a w G1 hG HT H fin=>?_;refine s_call en21dcs H wn rfl (mCheck_spec _ _ H.hp.ro D d (hR.mono hG) hz) rfl ?_;clear H;rintro v14 G14 a w rfl hGm14 H;exact fin H hGm14 (rfl)
  ·exact opB rfl
  exact opB rfl
 clear H;intro a w G hGm3 H hv;obtain ⟨u12,hu12,hp12⟩:=hv 1 12 (by decide) rfl;obtain rfl:u12=vi (chkDoc d):=hp12;have H:=H.addS hu12;obtain ⟨u14,hu14,hp14⟩:=hv 3 14 (by decide) rfl;obtain rfl:u14=vi (chkDoc d):=hp14;have H:=H.addS hu14;clear hv;refine kH H (Rc rfl (Ra rfl ?_));clear H;intro a H;refine wl_nil ⟨rfl,?_⟩;refine K5 _ _ ?_;clear K5;refine lr H Tryz.results5 rfl ?_;exact H.hp.ret (by first|rfl|exact congrArg Value.bool (decide_eq_true rfl))
end
section
open Go.ChangeShapes Go.RowKit Go.Deep
abbrev heapG (W:World):GH:=fun k=>W.heap[k]?
theorem gcell_heap {W:World} {b o:Nat} {v:Value} (h:W.cell? ⟨b,o,none⟩=some v):gcell (heapG W) b o=some v:=by
 unfold World.cell? at h
 unfold gcell heapG
 split at h
 ·rename_i c e f hh
  simp only at hh
  rw [hh];simpa using h
 cases h
theorem list_of {α:Type} {p:Nat→α→Prop}:∀ n:Nat,(∀ i,i < n→∃ x,p i x)→∃ l:List α,l.length=n∧∀ i x,l[i]?=some x→p i x
 | 0,_=>⟨[],rfl,fun i x h=>by simp at h⟩
 | n+1,h=>by
  obtain ⟨l,hl,hp⟩:=list_of n (fun i hi=>h i (by omega));obtain ⟨x,hx⟩:=h n (by omega);refine ⟨l++[x],by simp [hl],fun i y hy=>?_⟩
  by_cases hi:i < l.length
  ·exact hp i y (by rwa [List.getElem?_append_left hi] at hy)
  rw [List.getElem?_append_right (by omega)] at hy
  have hin:i - l.length=0:=by
   have:=(List.getElem?_eq_some_iff.1 hy).1
   simp at this;omega
  rw [hin] at hy
  simp only [List.getElem?_cons_zero,Option.some.injEq] at hy
  subst hy;rw [show i=n by omega];exact hx
theorem bulk_pos {H:Type} (d:DataW H):1≤Rows.uptoBulk d:=by
 cases d <;> (try simp only [Rows.uptoBulk]) <;> (try omega)
 rename_i x;cases x <;> simp only [Rows.uptoBulk] <;> omega
theorem bulk_rows {H ρ:Type} {dat:ρ→List Dat}:∀ (rs:List ρ) (D:Nat→DataW H),(∀ i r,rs[i]?=some r→szR (dat r)+1≤8*Rows.uptoBulk (D i))→szRs (rs.map dat)≤8*Rows.uptoBulkAll ((List.range rs.length).map D)
 | [],D,_=>Nat.zero_le _
 | r :: rs,D,h=>by
  have h0:=h 0 r rfl;have hp:=bulk_pos (D 0);have ih:=bulk_rows rs (fun i=>D (i+1)) (fun i r hr=>h (i+1) r (by simpa using hr));rw [List.length_cons,List.range_succ_eq_map]
  simp only [List.map_cons,List.map_map,szRs,Rows.uptoBulkAll]
  have e:(List.map (D ∘ Nat.succ) (List.range rs.length))=(List.map (fun i=>D (i+1)) (List.range rs.length)):=rfl;rw [e];omega
theorem bulk_mem {H:Type} {D:Nat→DataW H}:∀ {n i:Nat},i < n→Rows.uptoBulk (D i)≤Rows.uptoBulkAll ((List.range n).map D)
 | 0,i,h=>absurd h (by omega)
 | n+1,i,h=>by
  have key:∀ (l m:List (DataW H)),Rows.uptoBulkAll (l++m)=Rows.uptoBulkAll l+Rows.uptoBulkAll m:=by
   intro l m
   induction l with
   | nil=>simp [Rows.uptoBulkAll]
   | cons x l ih=>simp only [List.cons_append,Rows.uptoBulkAll,ih];omega
  rw [List.range_succ,List.map_append,key]
  by_cases hi:i < n
  ·have:=bulk_mem (D:=D) hi;omega
  have:i=n:=by omega
  subst this
  simp only [List.map_cons,List.map_nil,Rows.uptoBulkAll];omega
section
variable {H:Type} {enc:TypeId × Value→H} {P:Program} {W:World} {base:Nat} {spare:Nat→Bool} {held:Bool}
/-- A slice whose elements read as rows. -/
theorem rd_slice {ρ:Type} {dat:ρ→List Dat} {t e:TypeId} {sz:Nat} (hsz:0 < sz) {fuel:Nat} {cs:List Value} {x:DataW H × List MemPlace} (ht:P.underlying t=some (.slice e)) (hc:P.cellsOf e=sz) (h:DataW.trod enc P W base spare held fuel t cs=some x)
  (row:∀ n cs' D Pl,DataW.trod enc P W base spare held n e cs'=some (D,Pl)→Rows.uptoBulk D < Rows.uptoBulk x.1→∃ r:ρ,RepRow (heapG W) (dat r) cs'∧szR (dat r)+1≤8*Rows.uptoBulk D) :
  ∃ (rs:List ρ) (v:Value),cs=[v]∧RepV (heapG W) (.sl sz (rs.map dat)) v∧szRs (rs.map dat)+8≤8*Rows.uptoBulk x.1:=by
 rcases open_slice ht h with ⟨rfl,rfl⟩|⟨a,len,cap,m,n,D,Pl,rfl,hb,hl,hm,hmm,rfl,hx⟩
 ·exact ⟨[],_,rfl,RepV.nil_ rfl (by decide),by simp [szRs,Rows.uptoBulk]⟩
 obtain ⟨rs,hrl,hrs⟩:=list_of (p:=fun i (r:ρ)=>∃ cs',W.cells? base (a.add (i*sz)) sz=some cs'∧RepRow (heapG W) (dat r) cs'∧szR (dat r)+1≤8*Rows.uptoBulk (D i)) len (fun i hi=>by
  have him:i < m:=by rw [hmm];split <;> omega
  obtain ⟨cs',h1,h2⟩:=hx i him;rw [hc] at h1;have hb1:=bulk_mem (D:=D) hi;obtain ⟨r,hr1,hr2⟩:=row n cs' (D i) (Pl i) h2 (by simp only [Rows.uptoBulk];omega)
  exact ⟨r,cs',h1,hr1,hr2⟩)
 refine ⟨rs,_,rfl,?_,?_⟩
 ·simp only [RepV,List.length_map]
  refine ⟨some a,cap,by rw [hrl],by omega,hm,fun hne=>?_⟩;obtain ⟨b,off,spot⟩:=a
  have hlen:0 < rs.length:=by cases rs with|nil=>simp at hne|cons _ _=>simp
  obtain ⟨cs0,h1,-,-⟩:=hrs 0 rs[0] (List.getElem?_eq_getElem hlen);obtain ⟨-,hl0,hg0⟩:=World.cells?_some h1
  have hspot:spot=none:=by
   have h3:=hg0 0 hsz;rw [List.getElem?_eq_getElem (by omega)] at h3
   simpa [Addr.add] using World.cell?_spot h3
  subst hspot;refine ⟨b,off,rfl,RepRows.mk fun k r hk=>?_⟩;rw [List.getElem?_map] at hk;obtain ⟨y,hy,rfl⟩:=Option.map_eq_some_iff.1 hk;obtain ⟨cs',h2,h3,-⟩:=hrs k y hy;obtain ⟨-,hl1,hg1⟩:=World.cells?_some h2;refine ⟨cs',hl1,fun j u hj=>gcell_heap ?_,h3⟩
  have hj2:j < sz:=by rw [← hl1];exact (List.getElem?_eq_some_iff.1 hj).1
  have:=hg1 j hj2;rw [add_add,Go.WideShapes.add_plain] at this;rw [show off+k*sz+j=off+(k*sz+j) by omega,this];exact hj
 have:=bulk_rows rs D (fun i r hr=>(hrs i r hr).choose_spec.2.2);rw [hrl] at this
 simp only [Rows.uptoBulk];omega
end
/-- A struct's fields: their types and where they begin. -/
structure StF (P:Program) (t:TypeId) (sz:Nat) (fs:List (TypeId × Nat × Nat)):Prop where
 und:P.underlying t=some (.struct (P.fieldsOf t))
 cells:P.cellsOf t=sz
 flds:(P.fieldsOf t).toList.map (fun f=>(f.type,f.offset,P.cellsOf f.type))=fs
theorem rd_struct {P:Program} {H:Type} {enc:TypeId × Value→H} {W:World} {base:Nat} {spare:Nat→Bool} {held:Bool} {t:TypeId} {sz fuel:Nat} {fs:List (TypeId × Nat × Nat)} {cs:List Value} {x:DataW H × List MemPlace} (hs:StF P t sz fs) (h:DataW.trod enc P W base spare held fuel t cs=some x) :
  ∃ (xs:List (DataW H × List MemPlace)) (n:Nat),x.1=.agg (xs.map (·.1))∧cs.length=sz∧xs.length=fs.length∧∀ (i:Nat) (ti:TypeId) (off k:Nat),fs[i]?=some (ti,off,k)→DataW.trod enc P W base spare held n ti ((cs.drop off).take k)=xs[i]?:=by
 obtain ⟨xs,n,-,rfl,hl,hxl,hf⟩:=DataW.trod_struct hs.und h;refine ⟨xs,n,rfl,by rw [hl,hs.cells],by rw [hxl,← hs.flds];simp,fun i ti off k hi=>?_⟩;rw [← hs.flds,List.getElem?_map] at hi;obtain ⟨f,hf1,hf2⟩:=Option.map_eq_some_iff.1 hi
 simp only [Prod.mk.injEq] at hf2
 obtain ⟨rfl,rfl,rfl⟩:=hf2;exact hf i f (by simpa using hf1)
section
variable {H:Type} {enc:TypeId × Value→H} {W:World} {base:Nat} {spare:Nat→Bool} {held:Bool}
theorem sfProp:StF Tryz.prog 40 2 [(3,0,1),(3,1,1)]:=⟨by kernel_rfl,by kernel_rfl,by kernel_rfl⟩
theorem rd_prop {n:Nat} {cs:List Value} {D:DataW H} {Pl:List MemPlace} (h:DataW.trod enc Tryz.prog W base spare held n 40 cs=some (D,Pl)):∃ r:PropD,RepRow (heapG W) r.dat cs∧szR r.dat+1≤8*Rows.uptoBulk D:=by
 obtain ⟨xs,m,hx,hl,hxl,hf⟩:=rd_struct sfProp h
 match cs,hl,xs,hxl with
 | [c0,c1],_,[y0,y1],_ =>
  have h0:=hf 0 _ _ _ rfl;have h1:=hf 1 _ _ _ rfl;obtain ⟨k0,e0,d0,-⟩:=DataW.trod_int Tryz.underlying3 h0;obtain ⟨k1,e1,d1,-⟩:=DataW.trod_int Tryz.underlying3 h1
  simp at e0 e1
  subst e0 e1
  simp only at hx
  refine ⟨⟨k0,k1⟩,?_,?_⟩
  ·simp [RepRow,PropD.dat,RepV,Value.oneCell']
  rw [hx];simp [d0,d1,PropD.dat,szR,szD,Rows.uptoBulk,Rows.uptoBulkAll]
theorem sfDel:StF Tryz.prog 214 2 [(3,0,1),(3,1,1)]:=⟨by kernel_rfl,by kernel_rfl,by kernel_rfl⟩
theorem rd_del {n:Nat} {cs:List Value} {D:DataW H} {Pl:List MemPlace} (h:DataW.trod enc Tryz.prog W base spare held n 214 cs=some (D,Pl)):∃ r:DelD,RepRow (heapG W) r.dat cs∧szR r.dat+1≤8*Rows.uptoBulk D:=by
 obtain ⟨xs,m,hx,hl,hxl,hf⟩:=rd_struct sfDel h
 match cs,hl,xs,hxl with
 | [c0,c1],_,[y0,y1],_ =>
  have h0:=hf 0 _ _ _ rfl;have h1:=hf 1 _ _ _ rfl;obtain ⟨k0,e0,d0,-⟩:=DataW.trod_int Tryz.underlying3 h0;obtain ⟨k1,e1,d1,-⟩:=DataW.trod_int Tryz.underlying3 h1
  simp at e0 e1
  subst e0 e1
  simp only at hx
  refine ⟨⟨k0,k1⟩,?_,?_⟩
  ·simp [RepRow,DelD.dat,RepV,Value.oneCell']
  rw [hx];simp [d0,d1,DelD.dat,szR,szD,Rows.uptoBulk,Rows.uptoBulkAll]
theorem sfLayer:StF Tryz.prog 217 4 [(3,0,1),(3,1,1),(3,2,1),(4,3,1)]:=⟨by kernel_rfl,by kernel_rfl,by kernel_rfl⟩
theorem rd_layer {n:Nat} {cs:List Value} {D:DataW H} {Pl:List MemPlace} (h:DataW.trod enc Tryz.prog W base spare held n 217 cs=some (D,Pl)):∃ r:LayerD,RepRow (heapG W) r.dat cs∧szR r.dat+1≤8*Rows.uptoBulk D:=by
 obtain ⟨xs,m,hx,hl,hxl,hf⟩:=rd_struct sfLayer h
 match cs,hl,xs,hxl with
 | [c0,c1,c2,c3],_,[y0,y1,y2,y3],_ =>
  have h0:=hf 0 _ _ _ rfl;have h1:=hf 1 _ _ _ rfl;have h2:=hf 2 _ _ _ rfl;have h3:=hf 3 _ _ _ rfl;obtain ⟨k0,e0,d0,-⟩:=DataW.trod_int Tryz.underlying3 h0;obtain ⟨k1,e1,d1,-⟩:=DataW.trod_int Tryz.underlying3 h1;obtain ⟨k2,e2,d2,-⟩:=DataW.trod_int Tryz.underlying3 h2;obtain ⟨k3,e3,d3⟩:=DataW.trod_bool Tryz.underlying4 h3
  simp at e0 e1 e2 e3
  subst e0 e1 e2 e3
  simp only at hx
  refine ⟨⟨k0,k1,k2,k3⟩,?_,?_⟩
  ·simp [RepRow,LayerD.dat,RepV,Value.oneCell']
  rw [hx];simp [d0,d1,d2,d3,LayerD.dat,szR,szD,Rows.uptoBulk,Rows.uptoBulkAll]
theorem sfMarks:StF Tryz.prog 29 4 [(3,0,1),(3,1,1),(26,2,1),(27,3,1)]:=⟨by kernel_rfl,by kernel_rfl,by kernel_rfl⟩
theorem sfHead:StF Tryz.prog 31 5 [(25,0,1),(29,1,4)]:=⟨by kernel_rfl,by kernel_rfl,by kernel_rfl⟩
theorem cellsProp:Tryz.prog.cellsOf 40=2:=by kernel_rfl
theorem cellsDel:Tryz.prog.cellsOf 214=2:=by kernel_rfl
theorem cellsLayer:Tryz.prog.cellsOf 217=4:=by kernel_rfl
/-- A head among other cells. -/
theorem rd_head {n:Nat} {cs:List Value} {x:DataW H × List MemPlace} (h:DataW.trod enc Tryz.prog W base spare held n 31 cs=some x):∃ (r:HeadD) (p d l:Value),cs=[p,vi r.marks.ins,vi r.marks.move,d,l]∧HeadR (heapG W) r p d l∧zHead r+15≤8*Rows.uptoBulk x.1:=by
 obtain ⟨xs,m,hx,hl,hxl,hf⟩:=rd_struct sfHead h
 match cs,hl,xs,hxl with
 | [c0,c1,c2,c3,c4],_,[y0,y1],_ =>
  have h0:=hf 0 _ _ _ rfl;have h1:=hf 1 _ _ _ rfl;obtain ⟨ps,pv,e0,rp,sp⟩:=rd_slice (dat:=PropD.dat) (sz:=2) (by omega) Tryz.underlying25 cellsProp h0 (fun n cs' D Pl hh _=>rd_prop hh);obtain ⟨zs,m2,hz,hzl,hzx,hzf⟩:=rd_struct sfMarks h1
  match zs,hzx with
  | [z0,z1,z2,z3],_ =>
   have g0:=hzf 0 _ _ _ rfl;have g1:=hzf 1 _ _ _ rfl;have g2:=hzf 2 _ _ _ rfl;have g3:=hzf 3 _ _ _ rfl;obtain ⟨k0,e1,d0,-⟩:=DataW.trod_int Tryz.underlying3 g0;obtain ⟨k1,e2,d1,-⟩:=DataW.trod_int Tryz.underlying3 g1;obtain ⟨ds,dv,e3,rd,sd⟩:=rd_slice (dat:=DelD.dat) (sz:=2) (by omega) Tryz.underlying26 cellsDel g2 (fun n cs' D Pl hh _=>rd_del hh);obtain ⟨ls,lv,e4,rl,sl⟩:=rd_slice (dat:=LayerD.dat) (sz:=4) (by omega) Tryz.underlying27 cellsLayer g3 (fun n cs' D Pl hh _=>rd_layer hh)
   simp at e0 e1 e2 e3 e4
   subst e0 e1 e2 e3 e4;refine ⟨⟨ps,⟨k0,k1,ds,ls⟩⟩,_,_,_,rfl,⟨rp,rd,rl⟩,?_⟩;have hzh:=zHead_eq ⟨ps,⟨k0,k1,ds,ls⟩⟩
   simp only at hzh
   rw [hx]
   simp only [List.map_cons,List.map_nil,Rows.uptoBulk,Rows.uptoBulkAll,hz,d0,d1]
   omega
theorem sfItem:StF Tryz.prog 35 11 [(3,0,1),(3,1,1),(3,2,1),(9,3,1),(31,4,5),(32,9,1),(33,10,1)]:=⟨by kernel_rfl,by kernel_rfl,by kernel_rfl⟩
theorem sfRow:StF Tryz.prog 171 6 [(31,0,5),(169,5,1)]:=⟨by kernel_rfl,by kernel_rfl,by kernel_rfl⟩
theorem sfCell:StF Tryz.prog 174 7 [(3,0,1),(31,1,5),(32,6,1)]:=⟨by kernel_rfl,by kernel_rfl,by kernel_rfl⟩
theorem cellsItem:Tryz.prog.cellsOf 35=11:=by kernel_rfl
theorem cellsRow:Tryz.prog.cellsOf 171=6:=by kernel_rfl
theorem cellsCell:Tryz.prog.cellsOf 174=7:=by kernel_rfl
theorem rd_item:∀ (N:Nat) (n:Nat) (cs:List Value) (D:DataW H) (Pl:List MemPlace),DataW.trod enc Tryz.prog W base spare held n 35 cs=some (D,Pl)→Rows.uptoBulk D < N→∃ r:ItemD,RepRow (heapG W) r.dat cs∧szR r.dat+1≤8*Rows.uptoBulk D
 | 0,_,_,_,_,_,hN=>absurd hN (by omega)
 | N+1,n,cs,D,Pl,h,hN=>by
  have ih:=rd_item N;obtain ⟨xs,m,hx,hl,hxl,hf⟩:=rd_struct sfItem h
  match cs,hl,xs,hxl with
  | [c0,c1,c2,c3,c4,c5,c6,c7,c8,c9,c10],_,[y0,y1,y2,y3,y4,y5,y6],_ =>
   have h0:=hf 0 _ _ _ rfl;have h1:=hf 1 _ _ _ rfl;have h2:=hf 2 _ _ _ rfl;have h3:=hf 3 _ _ _ rfl;have h4:=hf 4 _ _ _ rfl;have h5:=hf 5 _ _ _ rfl;have h6:=hf 6 _ _ _ rfl
   simp only at hx
   have hD:Rows.uptoBulk D=Rows.uptoBulk y0.1+(Rows.uptoBulk y1.1+(Rows.uptoBulk y2.1+(Rows.uptoBulk y3.1+(Rows.uptoBulk y4.1+(Rows.uptoBulk y5.1+(Rows.uptoBulk y6.1+0))))))+1:=by
    rw [hx];simp only [List.map_cons,List.map_nil,Rows.uptoBulk,Rows.uptoBulkAll]
   obtain ⟨k0,e0,d0,-⟩:=DataW.trod_int Tryz.underlying3 h0;obtain ⟨k1,e1,d1,-⟩:=DataW.trod_int Tryz.underlying3 h1;obtain ⟨k2,e2,d2,-⟩:=DataW.trod_int Tryz.underlying3 h2;obtain ⟨s,e3,d3,-⟩:=DataW.trod_string Tryz.underlying9 h3;obtain ⟨hd,p,d,l,e4,rh,sh⟩:=rd_head h4;obtain ⟨fl,fv,e5,rf,sf⟩:=rd_slice (dat:=ItemD.dat) (sz:=11) (by omega) Tryz.underlying32 cellsItem h5 (fun n cs' D' Pl' hh hlt=>ih n cs' D' Pl' hh (by omega))
   obtain ⟨rs,rv,e6,rr,sr⟩:=rd_slice (dat:=RowD.dat) (sz:=6) (by omega) Tryz.underlying33 cellsRow h6 (fun n cs' D' Pl' hh hlt=>by
    obtain ⟨xs,m,hx,hl,hxl,hf⟩:=rd_struct sfRow hh
    match cs',hl,xs,hxl with
    | [a0,a1,a2,a3,a4,a5],_,[w0,w1],_ =>
     have g0:=hf 0 _ _ _ rfl;have g1:=hf 1 _ _ _ rfl
     simp only at hx
     have hD':Rows.uptoBulk D'=Rows.uptoBulk w0.1+(Rows.uptoBulk w1.1+0)+1:=by
      rw [hx];simp only [List.map_cons,List.map_nil,Rows.uptoBulk,Rows.uptoBulkAll]
     obtain ⟨hd2,p2,d2',l2,q0,rh2,sh2⟩:=rd_head g0
     obtain ⟨cl,cv,q1,rc,sc⟩:=rd_slice (dat:=CellD.dat) (sz:=7) (by omega) Tryz.underlying169 cellsCell g1 (fun n cs'' D'' Pl'' hh2 hlt2=>by
      obtain ⟨xs,m,hx2,hl2,hxl2,hf2⟩:=rd_struct sfCell hh2
      match cs'',hl2,xs,hxl2 with
      | [b0,b1,b2,b3,b4,b5,b6],_,[v0,v1,v2],_ =>
       have u0:=hf2 0 _ _ _ rfl;have u1:=hf2 1 _ _ _ rfl;have u2:=hf2 2 _ _ _ rfl
       simp only at hx2
       have hD'':Rows.uptoBulk D''=Rows.uptoBulk v0.1+(Rows.uptoBulk v1.1+(Rows.uptoBulk v2.1+0))+1:=by
        rw [hx2];simp only [List.map_cons,List.map_nil,Rows.uptoBulk,Rows.uptoBulkAll]
       obtain ⟨j0,t0,z0,-⟩:=DataW.trod_int Tryz.underlying3 u0;obtain ⟨hd3,p3,d3',l3,t1,rh3,sh3⟩:=rd_head u1;obtain ⟨fl3,fv3,t2,rf3,sf3⟩:=rd_slice (dat:=ItemD.dat) (sz:=11) (by omega) Tryz.underlying32 cellsItem u2 (fun n cs3 D3 Pl3 hh3 hlt3=>ih n cs3 D3 Pl3 hh3 (by omega))
       simp at t0 t1 t2
       obtain ⟨rfl,rfl,rfl,rfl,rfl⟩:=t1;subst t0 t2;have hz:=zCell_eq (CellD.mk j0 hd3 fl3)
       simp only [CellD.head,CellD.flow] at hz
       have bz:Rows.uptoBulk v0.1=1:=by rw [z0];rfl
       exact ⟨CellD.mk j0 hd3 fl3,RepRow.mkCell (x:=CellD.mk j0 hd3 fl3) rh3 rf3,by simp only [zItems] at hz;omega⟩)
     simp at q0 q1
     obtain ⟨rfl,rfl,rfl,rfl,rfl⟩:=q0;subst q1;have hz:=zRow_eq (RowD.mk hd2 cl)
     simp only [RowD.head,RowD.cells] at hz
     exact ⟨RowD.mk hd2 cl,RepRow.mkRow (x:=RowD.mk hd2 cl) rh2 rc,by simp only [zCells] at hz;omega⟩)
   simp at e0 e1 e2 e3 e4 e5 e6
   obtain ⟨rfl,rfl,rfl,rfl,rfl⟩:=e4;subst e0 e1 e2 e3 e5 e6;have hz:=zItem_eq (ItemD.mk k0 k1 k2 s hd fl rs)
   simp only [ItemD.text,ItemD.head,ItemD.flow,ItemD.rows] at hz
   have b0:Rows.uptoBulk y0.1=1:=by rw [d0];rfl
   have b1:Rows.uptoBulk y1.1=1:=by rw [d1];rfl
   have b2:Rows.uptoBulk y2.1=1:=by rw [d2];rfl
   have b3:Rows.uptoBulk y3.1=s.size+1:=by rw [d3];show s.data.toList.length+1=s.data.size+1;rw [Array.length_toList]
   exact ⟨ItemD.mk k0 k1 k2 s hd fl rs,RepRow.mkItem (x:=ItemD.mk k0 k1 k2 s hd fl rs) rh rf rr,by simp only [zItems,zRows] at hz;omega⟩
/-- A flow that an argument brings. -/
theorem rd_items {n:Nat} {cs:List Value} {x:DataW H × List MemPlace} (h:DataW.trod enc Tryz.prog W base spare held n 32 cs=some x):∃ (l:List ItemD) (v:Value),cs=[v]∧RepV (heapG W) (.sl 11 (l.map ItemD.dat)) v∧zItems l+8≤8*Rows.uptoBulk x.1 :=
 rd_slice (dat:=ItemD.dat) (sz:=11) (by omega) Tryz.underlying32 cellsItem h (fun n cs' D' Pl' hh _=>rd_item _ n cs' D' Pl' hh (Nat.lt_succ_self _))
end
end
section
open Go.ChangeShapes Go.RowKit Go.Deep
theorem szRs_in {ρ:Type} {dat:ρ→List Dat}:∀ {l:List ρ} {x:ρ},x∈l→szR (dat x)+1≤szRs (l.map dat)
 | y :: l,x,h=>by
  rw [List.map_cons,szRs]
  rcases List.mem_cons.1 h with rfl|h
  ·omega
  have:=szRs_in (dat:=dat) h;omega
section
variable {H:Type} {enc:TypeId × Value→H} {W:World} {base:Nat} {spare:Nat→Bool} {held:Bool}
theorem sfStyle:StF Tryz.prog 100 6 [(3,0,1),(3,1,1),(9,2,1),(3,3,1),(3,4,1),(25,5,1)]:=⟨by kernel_rfl,by kernel_rfl,by kernel_rfl⟩
theorem cellsStyle:Tryz.prog.cellsOf 100=6:=by kernel_rfl
theorem rd_style {n:Nat} {cs:List Value} {D:DataW H} {Pl:List MemPlace} (h:DataW.trod enc Tryz.prog W base spare held n 100 cs=some (D,Pl)):∃ r:StyleD,RepRow (heapG W) r.dat cs∧szR r.dat+1≤8*Rows.uptoBulk D:=by
 obtain ⟨xs,m,hx,hl,hxl,hf⟩:=rd_struct sfStyle h
 match cs,hl,xs,hxl with
 | [c0,c1,c2,c3,c4,c5],_,[y0,y1,y2,y3,y4,y5],_ =>
  have h0:=hf 0 _ _ _ rfl;have h1:=hf 1 _ _ _ rfl;have h2:=hf 2 _ _ _ rfl;have h3:=hf 3 _ _ _ rfl;have h4:=hf 4 _ _ _ rfl;have h5:=hf 5 _ _ _ rfl
  simp only at hx
  have hD:Rows.uptoBulk D=Rows.uptoBulk y0.1+(Rows.uptoBulk y1.1+(Rows.uptoBulk y2.1+(Rows.uptoBulk y3.1+(Rows.uptoBulk y4.1+(Rows.uptoBulk y5.1+0)))))+1:=by rw [hx];simp only [List.map_cons,List.map_nil,Rows.uptoBulk,Rows.uptoBulkAll]
  obtain ⟨k0,e0,d0,-⟩:=DataW.trod_int Tryz.underlying3 h0;obtain ⟨k1,e1,d1,-⟩:=DataW.trod_int Tryz.underlying3 h1;obtain ⟨k2,e2,d2,-⟩:=DataW.trod_string Tryz.underlying9 h2;obtain ⟨k3,e3,d3,-⟩:=DataW.trod_int Tryz.underlying3 h3;obtain ⟨k4,e4,d4,-⟩:=DataW.trod_int Tryz.underlying3 h4;obtain ⟨k5,q5,e5,r5,d5⟩:=rd_slice (dat:=PropD.dat) (sz:=2) (by omega) Tryz.underlying25 cellsProp h5 (fun n cs' D Pl hh _=>rd_prop hh)
  simp at e0 e1 e2 e3 e4 e5
  subst e0 e1 e2 e3 e4 e5
  have b0:Rows.uptoBulk y0.1=1:=by rw [d0];rfl
  have b1:Rows.uptoBulk y1.1=1:=by rw [d1];rfl
  have b2:Rows.uptoBulk y2.1=k2.size+1:=by rw [d2];show k2.data.toList.length+1=k2.data.size+1;rw [Array.length_toList]
  have b3:Rows.uptoBulk y3.1=1:=by rw [d3];rfl
  have b4:Rows.uptoBulk y4.1=1:=by rw [d4];rfl
  refine ⟨⟨k0,k1,k2,k3,k4,k5⟩,?_,?_⟩
  ·exact ⟨_,_,rfl,(by simp [RepV,Value.oneCell']),⟨_,_,rfl,(by simp [RepV,Value.oneCell']),⟨_,_,rfl,(by simp [RepV,Value.oneCell']),⟨_,_,rfl,(by simp [RepV,Value.oneCell']),⟨_,_,rfl,(by simp [RepV,Value.oneCell']),⟨_,_,rfl,r5,rfl⟩⟩⟩⟩⟩⟩
  simp only [StyleD.dat,szR,szD];omega
theorem sfLv:StF Tryz.prog 102 4 [(3,0,1),(3,1,1),(9,2,1),(3,3,1)]:=⟨by kernel_rfl,by kernel_rfl,by kernel_rfl⟩
theorem cellsLv:Tryz.prog.cellsOf 102=4:=by kernel_rfl
theorem rd_level {n:Nat} {cs:List Value} {D:DataW H} {Pl:List MemPlace} (h:DataW.trod enc Tryz.prog W base spare held n 102 cs=some (D,Pl)):∃ r:LvD,RepRow (heapG W) r.dat cs∧szR r.dat+1≤8*Rows.uptoBulk D:=by
 obtain ⟨xs,m,hx,hl,hxl,hf⟩:=rd_struct sfLv h
 match cs,hl,xs,hxl with
 | [c0,c1,c2,c3],_,[y0,y1,y2,y3],_ =>
  have h0:=hf 0 _ _ _ rfl;have h1:=hf 1 _ _ _ rfl;have h2:=hf 2 _ _ _ rfl;have h3:=hf 3 _ _ _ rfl
  simp only at hx
  have hD:Rows.uptoBulk D=Rows.uptoBulk y0.1+(Rows.uptoBulk y1.1+(Rows.uptoBulk y2.1+(Rows.uptoBulk y3.1+0)))+1:=by rw [hx];simp only [List.map_cons,List.map_nil,Rows.uptoBulk,Rows.uptoBulkAll]
  obtain ⟨k0,e0,d0,-⟩:=DataW.trod_int Tryz.underlying3 h0;obtain ⟨k1,e1,d1,-⟩:=DataW.trod_int Tryz.underlying3 h1;obtain ⟨k2,e2,d2,-⟩:=DataW.trod_string Tryz.underlying9 h2;obtain ⟨k3,e3,d3,-⟩:=DataW.trod_int Tryz.underlying3 h3
  simp at e0 e1 e2 e3
  subst e0 e1 e2 e3
  have b0:Rows.uptoBulk y0.1=1:=by rw [d0];rfl
  have b1:Rows.uptoBulk y1.1=1:=by rw [d1];rfl
  have b2:Rows.uptoBulk y2.1=k2.size+1:=by rw [d2];show k2.data.toList.length+1=k2.data.size+1;rw [Array.length_toList]
  have b3:Rows.uptoBulk y3.1=1:=by rw [d3];rfl
  refine ⟨⟨k0,k1,k2,k3⟩,?_,?_⟩
  ·exact ⟨_,_,rfl,(by simp [RepV,Value.oneCell']),⟨_,_,rfl,(by simp [RepV,Value.oneCell']),⟨_,_,rfl,(by simp [RepV,Value.oneCell']),⟨_,_,rfl,(by simp [RepV,Value.oneCell']),rfl⟩⟩⟩⟩
  simp only [LvD.dat,szR,szD];omega
theorem sfLi:StF Tryz.prog 105 2 [(3,0,1),(103,1,1)]:=⟨by kernel_rfl,by kernel_rfl,by kernel_rfl⟩
theorem cellsLi:Tryz.prog.cellsOf 105=2:=by kernel_rfl
theorem rd_list {n:Nat} {cs:List Value} {D:DataW H} {Pl:List MemPlace} (h:DataW.trod enc Tryz.prog W base spare held n 105 cs=some (D,Pl)):∃ r:LiD,RepRow (heapG W) r.dat cs∧szR r.dat+1≤8*Rows.uptoBulk D:=by
 obtain ⟨xs,m,hx,hl,hxl,hf⟩:=rd_struct sfLi h
 match cs,hl,xs,hxl with
 | [c0,c1],_,[y0,y1],_ =>
  have h0:=hf 0 _ _ _ rfl;have h1:=hf 1 _ _ _ rfl
  simp only at hx
  have hD:Rows.uptoBulk D=Rows.uptoBulk y0.1+(Rows.uptoBulk y1.1+0)+1:=by rw [hx];simp only [List.map_cons,List.map_nil,Rows.uptoBulk,Rows.uptoBulkAll]
  obtain ⟨k0,e0,d0,-⟩:=DataW.trod_int Tryz.underlying3 h0;obtain ⟨k1,q1,e1,r1,d1⟩:=rd_slice (dat:=LvD.dat) (sz:=4) (by omega) Tryz.underlying103 cellsLv h1 (fun n cs' D Pl hh _=>rd_level hh)
  simp at e0 e1
  subst e0 e1
  have b0:Rows.uptoBulk y0.1=1:=by rw [d0];rfl
  refine ⟨⟨k0,k1⟩,?_,?_⟩
  ·exact ⟨_,_,rfl,(by simp [RepV,Value.oneCell']),⟨_,_,rfl,r1,rfl⟩⟩
  simp only [LiD.dat,szR,szD];omega
theorem sfCm:StF Tryz.prog 107 6 [(3,0,1),(3,1,1),(9,2,1),(3,3,1),(9,4,1),(4,5,1)]:=⟨by kernel_rfl,by kernel_rfl,by kernel_rfl⟩
theorem cellsCm:Tryz.prog.cellsOf 107=6:=by kernel_rfl
theorem rd_comment {n:Nat} {cs:List Value} {D:DataW H} {Pl:List MemPlace} (h:DataW.trod enc Tryz.prog W base spare held n 107 cs=some (D,Pl)):∃ r:CmD,RepRow (heapG W) r.dat cs∧szR r.dat+1≤8*Rows.uptoBulk D:=by
 obtain ⟨xs,m,hx,hl,hxl,hf⟩:=rd_struct sfCm h
 match cs,hl,xs,hxl with
 | [c0,c1,c2,c3,c4,c5],_,[y0,y1,y2,y3,y4,y5],_ =>
  have h0:=hf 0 _ _ _ rfl;have h1:=hf 1 _ _ _ rfl;have h2:=hf 2 _ _ _ rfl;have h3:=hf 3 _ _ _ rfl;have h4:=hf 4 _ _ _ rfl;have h5:=hf 5 _ _ _ rfl
  simp only at hx
  have hD:Rows.uptoBulk D=Rows.uptoBulk y0.1+(Rows.uptoBulk y1.1+(Rows.uptoBulk y2.1+(Rows.uptoBulk y3.1+(Rows.uptoBulk y4.1+(Rows.uptoBulk y5.1+0)))))+1:=by rw [hx];simp only [List.map_cons,List.map_nil,Rows.uptoBulk,Rows.uptoBulkAll]
  obtain ⟨k0,e0,d0,-⟩:=DataW.trod_int Tryz.underlying3 h0;obtain ⟨k1,e1,d1,-⟩:=DataW.trod_int Tryz.underlying3 h1;obtain ⟨k2,e2,d2,-⟩:=DataW.trod_string Tryz.underlying9 h2;obtain ⟨k3,e3,d3,-⟩:=DataW.trod_int Tryz.underlying3 h3;obtain ⟨k4,e4,d4,-⟩:=DataW.trod_string Tryz.underlying9 h4;obtain ⟨k5,e5,d5⟩:=DataW.trod_bool Tryz.underlying4 h5
  simp at e0 e1 e2 e3 e4 e5
  subst e0 e1 e2 e3 e4 e5
  have b0:Rows.uptoBulk y0.1=1:=by rw [d0];rfl
  have b1:Rows.uptoBulk y1.1=1:=by rw [d1];rfl
  have b2:Rows.uptoBulk y2.1=k2.size+1:=by rw [d2];show k2.data.toList.length+1=k2.data.size+1;rw [Array.length_toList]
  have b3:Rows.uptoBulk y3.1=1:=by rw [d3];rfl
  have b4:Rows.uptoBulk y4.1=k4.size+1:=by rw [d4];show k4.data.toList.length+1=k4.data.size+1;rw [Array.length_toList]
  have b5:Rows.uptoBulk y5.1=1:=by rw [d5];rfl
  refine ⟨⟨k0,k1,k2,k3,k4,k5⟩,?_,?_⟩
  ·exact ⟨_,_,rfl,(by simp [RepV,Value.oneCell']),⟨_,_,rfl,(by simp [RepV,Value.oneCell']),⟨_,_,rfl,(by simp [RepV,Value.oneCell']),⟨_,_,rfl,(by simp [RepV,Value.oneCell']),⟨_,_,rfl,(by simp [RepV,Value.oneCell']),⟨_,_,rfl,(by simp [RepV,Value.oneCell']),rfl⟩⟩⟩⟩⟩⟩
  simp only [CmD.dat,szR,szD];omega
theorem sfVa:StF Tryz.prog 109 2 [(9,0,1),(9,1,1)]:=⟨by kernel_rfl,by kernel_rfl,by kernel_rfl⟩
theorem cellsVa:Tryz.prog.cellsOf 109=2:=by kernel_rfl
theorem rd_var {n:Nat} {cs:List Value} {D:DataW H} {Pl:List MemPlace} (h:DataW.trod enc Tryz.prog W base spare held n 109 cs=some (D,Pl)):∃ r:VaD,RepRow (heapG W) r.dat cs∧szR r.dat+1≤8*Rows.uptoBulk D:=by
 obtain ⟨xs,m,hx,hl,hxl,hf⟩:=rd_struct sfVa h
 match cs,hl,xs,hxl with
 | [c0,c1],_,[y0,y1],_ =>
  have h0:=hf 0 _ _ _ rfl;have h1:=hf 1 _ _ _ rfl
  simp only at hx
  have hD:Rows.uptoBulk D=Rows.uptoBulk y0.1+(Rows.uptoBulk y1.1+0)+1:=by rw [hx];simp only [List.map_cons,List.map_nil,Rows.uptoBulk,Rows.uptoBulkAll]
  obtain ⟨k0,e0,d0,-⟩:=DataW.trod_string Tryz.underlying9 h0;obtain ⟨k1,e1,d1,-⟩:=DataW.trod_string Tryz.underlying9 h1
  simp at e0 e1
  subst e0 e1
  have b0:Rows.uptoBulk y0.1=k0.size+1:=by rw [d0];show k0.data.toList.length+1=k0.data.size+1;rw [Array.length_toList]
  have b1:Rows.uptoBulk y1.1=k1.size+1:=by rw [d1];show k1.data.toList.length+1=k1.data.size+1;rw [Array.length_toList]
  refine ⟨⟨k0,k1⟩,?_,?_⟩
  ·exact ⟨_,_,rfl,(by simp [RepV,Value.oneCell']),⟨_,_,rfl,(by simp [RepV,Value.oneCell']),rfl⟩⟩
  simp only [VaD.dat,szR,szD];omega
theorem sfRv:StF Tryz.prog 65 3 [(3,0,1),(9,1,1),(3,2,1)]:=⟨by kernel_rfl,by kernel_rfl,by kernel_rfl⟩
theorem cellsRv:Tryz.prog.cellsOf 65=3:=by kernel_rfl
theorem rd_rev {n:Nat} {cs:List Value} {D:DataW H} {Pl:List MemPlace} (h:DataW.trod enc Tryz.prog W base spare held n 65 cs=some (D,Pl)):∃ r:RvD,RepRow (heapG W) r.dat cs∧szR r.dat+1≤8*Rows.uptoBulk D:=by
 obtain ⟨xs,m,hx,hl,hxl,hf⟩:=rd_struct sfRv h
 match cs,hl,xs,hxl with
 | [c0,c1,c2],_,[y0,y1,y2],_ =>
  have h0:=hf 0 _ _ _ rfl;have h1:=hf 1 _ _ _ rfl;have h2:=hf 2 _ _ _ rfl
  simp only at hx
  have hD:Rows.uptoBulk D=Rows.uptoBulk y0.1+(Rows.uptoBulk y1.1+(Rows.uptoBulk y2.1+0))+1:=by rw [hx];simp only [List.map_cons,List.map_nil,Rows.uptoBulk,Rows.uptoBulkAll]
  obtain ⟨k0,e0,d0,-⟩:=DataW.trod_int Tryz.underlying3 h0;obtain ⟨k1,e1,d1,-⟩:=DataW.trod_string Tryz.underlying9 h1;obtain ⟨k2,e2,d2,-⟩:=DataW.trod_int Tryz.underlying3 h2
  simp at e0 e1 e2
  subst e0 e1 e2
  have b0:Rows.uptoBulk y0.1=1:=by rw [d0];rfl
  have b1:Rows.uptoBulk y1.1=k1.size+1:=by rw [d1];show k1.data.toList.length+1=k1.data.size+1;rw [Array.length_toList]
  have b2:Rows.uptoBulk y2.1=1:=by rw [d2];rfl
  refine ⟨⟨k0,k1,k2⟩,?_,?_⟩
  ·exact ⟨_,_,rfl,(by simp [RepV,Value.oneCell']),⟨_,_,rfl,(by simp [RepV,Value.oneCell']),⟨_,_,rfl,(by simp [RepV,Value.oneCell']),rfl⟩⟩⟩
  simp only [RvD.dat,szR,szD];omega
theorem sfStg:StF Tryz.prog 46 4 [(41,0,1),(42,1,1),(43,2,1),(44,3,1)]:=⟨by kernel_rfl,by kernel_rfl,by kernel_rfl⟩
/-- Sizes of settings that were read. -/
structure StgB (s:StgD) (n:Nat):Prop where
 st:szRs (s.styles.map StyleD.dat)≤n
 li:szRs (s.lists.map LiD.dat)≤n
 cm:szRs (s.comments.map CmD.dat)≤n
 va:szRs (s.vars.map VaD.dat)≤n
theorem StgB.zn {s:StgD} {n:Nat} (h:StgB s n) (hn:n≤4294967296):StgZ s∧s.styles.length≤4294967296:=by
 obtain ⟨h1,h2,h3,h4⟩:=h;have l1:=szRs_length (s.styles.map StyleD.dat);have l2:=szRs_length (s.lists.map LiD.dat);have l3:=szRs_length (s.comments.map CmD.dat);have l4:=szRs_length (s.vars.map VaD.dat);rw [List.length_map] at l1 l2 l3 l4;refine ⟨⟨fun x hx=>?_,by omega,fun x hx y hy=>?_,by omega,fun x hx=>?_,by omega,fun x hx=>?_⟩,by omega⟩
 ·have:=szRs_in (dat:=StyleD.dat) hx
  simp only [StyleD.dat,szR,szD] at this;omega
 ·have:=szRs_in (dat:=LiD.dat) hx
  simp only [LiD.dat,szR,szD] at this
  have h5:=szRs_in (dat:=LvD.dat) hy
  simp only [LvD.dat,szR,szD] at h5;omega
 ·have:=szRs_in (dat:=CmD.dat) hx
  simp only [CmD.dat,szR,szD] at this;omega
 have:=szRs_in (dat:=VaD.dat) hx
 simp only [VaD.dat,szR,szD] at this;omega
/-- Settings among other cells. -/
theorem rd_stg {n:Nat} {cs:List Value} {x:DataW H × List MemPlace} (h:DataW.trod enc Tryz.prog W base spare held n 46 cs=some x):∃ (s:StgD) (a b c d:Value),cs=[a,b,c,d]∧StgR (heapG W) s a b c d∧StgB s (8*Rows.uptoBulk x.1):=by
 obtain ⟨xs,m,hx,hl,hxl,hf⟩:=rd_struct sfStg h
 match cs,hl,xs,hxl with
 | [c0,c1,c2,c3],_,[y0,y1,y2,y3],_ =>
  have h0:=hf 0 _ _ _ rfl;have h1:=hf 1 _ _ _ rfl;have h2:=hf 2 _ _ _ rfl;have h3:=hf 3 _ _ _ rfl;obtain ⟨k0,q0,e0,r0,d0⟩:=rd_slice (dat:=StyleD.dat) (sz:=6) (by omega) Tryz.underlying41 cellsStyle h0 (fun n cs' D Pl hh _=>rd_style hh);obtain ⟨k1,q1,e1,r1,d1⟩:=rd_slice (dat:=LiD.dat) (sz:=2) (by omega) Tryz.underlying42 cellsLi h1 (fun n cs' D Pl hh _=>rd_list hh);obtain ⟨k2,q2,e2,r2,d2⟩:=rd_slice (dat:=CmD.dat) (sz:=6) (by omega) Tryz.underlying43 cellsCm h2 (fun n cs' D Pl hh _=>rd_comment hh);obtain ⟨k3,q3,e3,r3,d3⟩:=rd_slice (dat:=VaD.dat) (sz:=2) (by omega) Tryz.underlying44 cellsVa h3 (fun n cs' D Pl hh _=>rd_var hh)
  simp at e0 e1 e2 e3
  subst e0 e1 e2 e3
  have hD:Rows.uptoBulk x.1=Rows.uptoBulk y0.1+(Rows.uptoBulk y1.1+(Rows.uptoBulk y2.1+(Rows.uptoBulk y3.1+0)))+1:=by rw [hx];simp only [List.map_cons,List.map_nil,Rows.uptoBulk,Rows.uptoBulkAll]
  exact ⟨⟨k0,k1,k2,k3⟩,_,_,_,_,rfl,⟨r0,r1,r2,r3⟩,⟨by show szRs (k0.map _)≤_;omega,by show szRs (k1.map _)≤_;omega,by show szRs (k2.map _)≤_;omega,by show szRs (k3.map _)≤_;omega⟩⟩
theorem sfDoc:StF Tryz.prog 50 11 [(32,0,1),(31,1,5),(48,6,1),(46,7,4)]:=⟨by kernel_rfl,by kernel_rfl,by kernel_rfl⟩
theorem sl_of {G:GH} {sz:Nat} {rs:List (List Dat)} {v:Value} (h:RepV G (.sl sz rs) v):∃ x,v=sl3 x:=by
 obtain ⟨a,n,c,rfl⟩:=h.form;exact ⟨(a,n,c),rfl⟩
/-- A document that an argument brings. -/
theorem rd_doc {n:Nat} {cs:List Value} {x:DataW H × List MemPlace} (h:DataW.trod enc Tryz.prog W base spare held n 50 cs=some x) (hb:Rows.uptoBulk x.1≤1048576):∃ (D:DocV) (d:DocD),cs=D.cells∧DocR (heapG W) D d∧DocZ d:=by
 obtain ⟨xs,m,hx,hl,hxl,hf⟩:=rd_struct sfDoc h
 match cs,hl,xs,hxl with
 | [c0,c1,c2,c3,c4,c5,c6,c7,c8,c9,c10],_,[y0,y1,y2,y3],_ =>
  have h0:=hf 0 _ _ _ rfl;have h1:=hf 1 _ _ _ rfl;have h2:=hf 2 _ _ _ rfl;have h3:=hf 3 _ _ _ rfl;obtain ⟨l,q0,e0,r0,d0⟩:=rd_items h0;obtain ⟨hd,p,dd,ll,e1,r1,d1⟩:=rd_head h1;obtain ⟨rv,q2,e2,r2,d2⟩:=rd_slice (dat:=RvD.dat) (sz:=3) (by omega) Tryz.underlying48 cellsRv h2 (fun n cs' D Pl hh _=>rd_rev hh);obtain ⟨s,a,b,c,d,e3,r3,d3⟩:=rd_stg h3
  simp at e0 e1 e2 e3
  obtain ⟨rfl,rfl,rfl,rfl,rfl⟩:=e1;obtain ⟨rfl,rfl,rfl,rfl⟩:=e3;subst e0 e2
  have hD:Rows.uptoBulk x.1=Rows.uptoBulk y0.1+(Rows.uptoBulk y1.1+(Rows.uptoBulk y2.1+(Rows.uptoBulk y3.1+0)))+1:=by rw [hx];simp only [List.map_cons,List.map_nil,Rows.uptoBulk,Rows.uptoBulkAll]
  obtain ⟨x0,rfl⟩:=sl_of r0;obtain ⟨x1,rfl⟩:=sl_of r1.props;obtain ⟨x2,rfl⟩:=sl_of r1.dels;obtain ⟨x3,rfl⟩:=sl_of r1.layers;obtain ⟨x4,rfl⟩:=sl_of r2;obtain ⟨x5,rfl⟩:=sl_of r3.st;obtain ⟨x6,rfl⟩:=sl_of r3.li;obtain ⟨x7,rfl⟩:=sl_of r3.cm;obtain ⟨x8,rfl⟩:=sl_of r3.va;obtain ⟨hz1,hz2⟩:=d3.zn (by omega);have l2:=szRs_length (rv.map RvD.dat);rw [List.length_map] at l2;refine ⟨⟨x0,x1,x2,x3,x4,x5,x6,x7,x8,hd.marks.ins,hd.marks.move⟩,⟨l,hd,rv,s⟩,rfl,⟨r0,r1,rfl,rfl,r2,r3⟩,⟨by show zItems l≤_;omega,by show zHead hd≤_;omega,by show rv.length≤_;omega,fun x hx=>?_,hz2,hz1⟩⟩;have:=szRs_in (dat:=RvD.dat) hx
  simp only [RvD.dat,szR,szD] at this
  omega
end
end
end Go.Proofs.YtlnhhlighgaapaaGreat
