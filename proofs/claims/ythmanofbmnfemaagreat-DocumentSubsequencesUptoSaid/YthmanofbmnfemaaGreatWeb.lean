/-
  What the claim stands on, part 2: Cp Run Rg Pos Pq Doc Dq Idx Bld Hv Ut Prk Prp Plc Plr Prq Prc Fst Nam Pn.
-/
import Derived.Test.YthmanofbmnfemaaGreatWea
import Derived.Test.YthmanofbmnfemaaGreatRows
import Derived.Lib.OthersKept
import Derived.Laws.IdiomStrings
import Derived.Laws.Cover4
import Derived.Laws.Slices
import Derived.Laws.Strings2
namespace Go.Proofs.YthmanofbmnfemaaGreat
set_option linter.all false
open Go.Proofs.Tryz
set_option maxRecDepth 20000
set_option maxHeartbeats 4000000
section
open Go.RowKit
theorem jJ:prog.underlying 3=some (.int .i64):=by kernel_rfl
instance:jK prog 3 (.int .i64):=⟨jJ⟩
theorem EK:prog.underlying 5=some (.int .u8):=by kernel_rfl
instance:jK prog 5 (.int .u8):=⟨EK⟩
theorem iV:prog.underlying 9=some .string:=by kernel_rfl
instance:jK prog 9 .string:=⟨iV⟩
theorem afU:∀ args w,(callFunc 227 args).run prog w=.ok (.enter 227 args) w:=enters func227 rfl (by kernel_rfl)
theorem afH:∀ args w,(callFunc 202 args).run prog w=.ok (.enter 202 args) w:=enters func202 rfl (by kernel_rfl)
theorem afg:∀ args w,(callFunc 157 args).run prog w=.ok (.enter 157 args) w:=enters func157 rfl (by kernel_rfl)
theorem Ip:∀ args w,(callFunc 94 args).run prog w=.ok (.enter 94 args) w:=enters func94 rfl (by kernel_rfl)
def gP (b:Int):Int × Int × Int :=
  (if b=224 then 160 else if b=240 then 144 else 128,if b=237 then 159 else if b=244 then 143 else 191,
   if b < 128 then 1 else if b < 194∨244 < b then 0 else if b < 224 then 2 else if b < 240 then 3 else 4)
theorem Uk (b:Int):0≤(gP b).2.2∧(gP b).2.2≤4:=by
 simp only [gP];split
 ·omega
 split
 ·omega
 split
 ·omega
 split <;> omega
theorem aoQ (G:GH) (w0:World) (hG:Hold G w0) (b:Int) :
  Calls prog 227 #[.int .u8 b] w0 (bD w0 G fun v G'=>v=.tuple #[.int .u8 (gP b).1,.int .u8 (gP b).2.1,.int .i64 (gP b).2.2]∧G=G'):=by
 refine eN [(0,_)] func227 rfl ntmps227 rfl rfl hG ?_;refine goB 16 ?_ ?_
 ·intro p5
  refine goB 12 ?_ ?_
  ·intro gM
   refine ak 11 ?_;intro a H;refine bV ?_;refine (eU H results227 (.cons (aW H rfl) (.cons (aW H rfl) (.cons (aW H rfl) .nil))) ?_).1
   first|(exfalso;omega)|exact H.rt ⟨by simp only [gP];repeat (first|rw [ay (by omega)]|rw [ah (by omega)]),rfl⟩
  intro gM
  refine goB 4 ?_ ?_
  ·intro kQ
   refine ak 11 ?_;intro a H;refine bV ?_;refine (eU H results227 (.cons (aW H rfl) (.cons (aW H rfl) (.cons (aW H rfl) .nil))) ?_).1
   first|(exfalso;omega)|exact H.rt ⟨by simp only [gP];repeat (first|rw [ay (by omega)]|rw [ah (by omega)]),rfl⟩
  intro kQ
  refine goB 4 ?_ ?_
  ·intro p26
   refine ak 11 ?_;intro a H;refine bV ?_;refine (eU H results227 (.cons (aW H rfl) (.cons (aW H rfl) (.cons (aW H rfl) .nil))) ?_).1
   first|(exfalso;omega)|exact H.rt ⟨by simp only [gP];repeat (first|rw [ay (by omega)]|rw [ah (by omega)]),rfl⟩
  intro p26
  refine goB 4 ?_ ?_
  ·intro p28
   refine ak 11 ?_;intro a H;refine bV ?_;refine (eU H results227 (.cons (aW H rfl) (.cons (aW H rfl) (.cons (aW H rfl) .nil))) ?_).1
   first|(exfalso;omega)|exact H.rt ⟨by simp only [gP];repeat (first|rw [ay (by omega)]|rw [ah (by omega)]),rfl⟩
  intro p28
  refine ak 9 ?_;intro a H;refine bV ?_;refine (eU H results227 (.cons (aW H rfl) (.cons (aW H rfl) (.cons (aW H rfl) .nil))) ?_).1
  first|(exfalso;omega)|exact H.rt ⟨by simp only [gP];repeat (first|rw [ay (by omega)]|rw [ah (by omega)]),rfl⟩
 intro p5
 refine kT 4 11 ?_ ?_
 ·intro oz
  refine goB 18 ?_ ?_
  ·intro gM
   refine ak 11 ?_;intro a H;refine bV ?_;refine (eU H results227 (.cons (aW H rfl) (.cons (aW H rfl) (.cons (aW H rfl) .nil))) ?_).1
   first|(exfalso;omega)|exact H.rt ⟨by simp only [gP];repeat (first|rw [ay (by omega)]|rw [ah (by omega)]),rfl⟩
  intro gM
  refine goB 4 ?_ ?_
  ·intro kQ
   refine ak 11 ?_;intro a H;refine bV ?_;refine (eU H results227 (.cons (aW H rfl) (.cons (aW H rfl) (.cons (aW H rfl) .nil))) ?_).1
   first|(exfalso;omega)|exact H.rt ⟨by simp only [gP];repeat (first|rw [ay (by omega)]|rw [ah (by omega)]),rfl⟩
  intro kQ
  refine goB 4 ?_ ?_
  ·intro p26
   refine ak 11 ?_;intro a H;refine bV ?_;refine (eU H results227 (.cons (aW H rfl) (.cons (aW H rfl) (.cons (aW H rfl) .nil))) ?_).1
   first|(exfalso;omega)|exact H.rt ⟨by simp only [gP];repeat (first|rw [ay (by omega)]|rw [ah (by omega)]),rfl⟩
  intro p26
  refine goB 4 ?_ ?_
  ·intro p28
   refine ak 11 ?_;intro a H;refine bV ?_;refine (eU H results227 (.cons (aW H rfl) (.cons (aW H rfl) (.cons (aW H rfl) .nil))) ?_).1
   first|(exfalso;omega)|exact H.rt ⟨by simp only [gP];repeat (first|rw [ay (by omega)]|rw [ah (by omega)]),rfl⟩
  intro p28
  refine ak 9 ?_;intro a H;refine bV ?_;refine (eU H results227 (.cons (aW H rfl) (.cons (aW H rfl) (.cons (aW H rfl) .nil))) ?_).1
  first|(exfalso;omega)|exact H.rt ⟨by simp only [gP];repeat (first|rw [ay (by omega)]|rw [ah (by omega)]),rfl⟩
 intro oz
 refine goB 5 ?_ ?_
 ·intro p8
  refine goB 12 ?_ ?_
  ·intro gM
   refine ak 11 ?_;intro a H;refine bV ?_;refine (eU H results227 (.cons (aW H rfl) (.cons (aW H rfl) (.cons (aW H rfl) .nil))) ?_).1
   first|(exfalso;omega)|exact H.rt ⟨by simp only [gP];repeat (first|rw [ay (by omega)]|rw [ah (by omega)]),rfl⟩
  intro gM
  refine goB 4 ?_ ?_
  ·intro kQ
   refine ak 11 ?_;intro a H;refine bV ?_;refine (eU H results227 (.cons (aW H rfl) (.cons (aW H rfl) (.cons (aW H rfl) .nil))) ?_).1
   first|(exfalso;omega)|exact H.rt ⟨by simp only [gP];repeat (first|rw [ay (by omega)]|rw [ah (by omega)]),rfl⟩
  intro kQ
  refine goB 4 ?_ ?_
  ·intro p26
   refine ak 11 ?_;intro a H;refine bV ?_;refine (eU H results227 (.cons (aW H rfl) (.cons (aW H rfl) (.cons (aW H rfl) .nil))) ?_).1
   first|(exfalso;omega)|exact H.rt ⟨by simp only [gP];repeat (first|rw [ay (by omega)]|rw [ah (by omega)]),rfl⟩
  intro p26
  refine goB 4 ?_ ?_
  ·intro p28
   refine ak 11 ?_;intro a H;refine bV ?_;refine (eU H results227 (.cons (aW H rfl) (.cons (aW H rfl) (.cons (aW H rfl) .nil))) ?_).1
   first|(exfalso;omega)|exact H.rt ⟨by simp only [gP];repeat (first|rw [ay (by omega)]|rw [ah (by omega)]),rfl⟩
  intro p28
  refine ak 9 ?_;intro a H;refine bV ?_;refine (eU H results227 (.cons (aW H rfl) (.cons (aW H rfl) (.cons (aW H rfl) .nil))) ?_).1
  first|(exfalso;omega)|exact H.rt ⟨by simp only [gP];repeat (first|rw [ay (by omega)]|rw [ah (by omega)]),rfl⟩
 intro p8
 refine goB 5 ?_ ?_
 ·intro oZ
  refine goB 12 ?_ ?_
  ·intro gM
   refine ak 11 ?_;intro a H;refine bV ?_;refine (eU H results227 (.cons (aW H rfl) (.cons (aW H rfl) (.cons (aW H rfl) .nil))) ?_).1
   first|(exfalso;omega)|exact H.rt ⟨by simp only [gP];repeat (first|rw [ay (by omega)]|rw [ah (by omega)]),rfl⟩
  intro gM
  refine goB 4 ?_ ?_
  ·intro kQ
   refine ak 11 ?_;intro a H;refine bV ?_;refine (eU H results227 (.cons (aW H rfl) (.cons (aW H rfl) (.cons (aW H rfl) .nil))) ?_).1
   first|(exfalso;omega)|exact H.rt ⟨by simp only [gP];repeat (first|rw [ay (by omega)]|rw [ah (by omega)]),rfl⟩
  intro kQ
  refine goB 4 ?_ ?_
  ·intro p26
   refine ak 11 ?_;intro a H;refine bV ?_;refine (eU H results227 (.cons (aW H rfl) (.cons (aW H rfl) (.cons (aW H rfl) .nil))) ?_).1
   first|(exfalso;omega)|exact H.rt ⟨by simp only [gP];repeat (first|rw [ay (by omega)]|rw [ah (by omega)]),rfl⟩
  intro p26
  refine goB 4 ?_ ?_
  ·intro p28
   refine ak 11 ?_;intro a H;refine bV ?_;refine (eU H results227 (.cons (aW H rfl) (.cons (aW H rfl) (.cons (aW H rfl) .nil))) ?_).1
   first|(exfalso;omega)|exact H.rt ⟨by simp only [gP];repeat (first|rw [ay (by omega)]|rw [ah (by omega)]),rfl⟩
  intro p28
  refine ak 9 ?_;intro a H;refine bV ?_;refine (eU H results227 (.cons (aW H rfl) (.cons (aW H rfl) (.cons (aW H rfl) .nil))) ?_).1
  first|(exfalso;omega)|exact H.rt ⟨by simp only [gP];repeat (first|rw [ay (by omega)]|rw [ah (by omega)]),rfl⟩
 intro oZ
 refine goB 5 ?_ ?_
 ·intro xG
  refine goB 12 ?_ ?_
  ·intro gM
   refine ak 11 ?_;intro a H;refine bV ?_;refine (eU H results227 (.cons (aW H rfl) (.cons (aW H rfl) (.cons (aW H rfl) .nil))) ?_).1
   first|(exfalso;omega)|exact H.rt ⟨by simp only [gP];repeat (first|rw [ay (by omega)]|rw [ah (by omega)]),rfl⟩
  intro gM
  refine goB 4 ?_ ?_
  ·intro kQ
   refine ak 11 ?_;intro a H;refine bV ?_;refine (eU H results227 (.cons (aW H rfl) (.cons (aW H rfl) (.cons (aW H rfl) .nil))) ?_).1
   first|(exfalso;omega)|exact H.rt ⟨by simp only [gP];repeat (first|rw [ay (by omega)]|rw [ah (by omega)]),rfl⟩
  intro kQ
  refine goB 4 ?_ ?_
  ·intro p26
   refine ak 11 ?_;intro a H;refine bV ?_;refine (eU H results227 (.cons (aW H rfl) (.cons (aW H rfl) (.cons (aW H rfl) .nil))) ?_).1
   first|(exfalso;omega)|exact H.rt ⟨by simp only [gP];repeat (first|rw [ay (by omega)]|rw [ah (by omega)]),rfl⟩
  intro p26
  refine goB 4 ?_ ?_
  ·intro p28
   refine ak 11 ?_;intro a H;refine bV ?_;refine (eU H results227 (.cons (aW H rfl) (.cons (aW H rfl) (.cons (aW H rfl) .nil))) ?_).1
   first|(exfalso;omega)|exact H.rt ⟨by simp only [gP];repeat (first|rw [ay (by omega)]|rw [ah (by omega)]),rfl⟩
  intro p28
  refine ak 9 ?_;intro a H;refine bV ?_;refine (eU H results227 (.cons (aW H rfl) (.cons (aW H rfl) (.cons (aW H rfl) .nil))) ?_).1
  first|(exfalso;omega)|exact H.rt ⟨by simp only [gP];repeat (first|rw [ay (by omega)]|rw [ah (by omega)]),rfl⟩
 intro xG
 refine goB 12 ?_ ?_
 ·intro gM
  refine ak 11 ?_;intro a H;refine bV ?_;refine (eU H results227 (.cons (aW H rfl) (.cons (aW H rfl) (.cons (aW H rfl) .nil))) ?_).1
  first|(exfalso;omega)|exact H.rt ⟨by simp only [gP];repeat (first|rw [ay (by omega)]|rw [ah (by omega)]),rfl⟩
 intro gM
 refine goB 4 ?_ ?_
 ·intro kQ
  refine ak 11 ?_;intro a H;refine bV ?_;refine (eU H results227 (.cons (aW H rfl) (.cons (aW H rfl) (.cons (aW H rfl) .nil))) ?_).1
  first|(exfalso;omega)|exact H.rt ⟨by simp only [gP];repeat (first|rw [ay (by omega)]|rw [ah (by omega)]),rfl⟩
 intro kQ
 refine goB 4 ?_ ?_
 ·intro p26
  refine ak 11 ?_;intro a H;refine bV ?_;refine (eU H results227 (.cons (aW H rfl) (.cons (aW H rfl) (.cons (aW H rfl) .nil))) ?_).1
  first|(exfalso;omega)|exact H.rt ⟨by simp only [gP];repeat (first|rw [ay (by omega)]|rw [ah (by omega)]),rfl⟩
 intro p26
 refine goB 4 ?_ ?_
 ·intro p28
  refine ak 11 ?_;intro a H;refine bV ?_;refine (eU H results227 (.cons (aW H rfl) (.cons (aW H rfl) (.cons (aW H rfl) .nil))) ?_).1
  first|(exfalso;omega)|exact H.rt ⟨by simp only [gP];repeat (first|rw [ay (by omega)]|rw [ah (by omega)]),rfl⟩
 intro p28
 refine ak 9 ?_;intro a H;refine bV ?_;refine (eU H results227 (.cons (aW H rfl) (.cons (aW H rfl) (.cons (aW H rfl) .nil))) ?_).1
 first|(exfalso;omega)|exact H.rt ⟨by simp only [gP];repeat (first|rw [ay (by omega)]|rw [ah (by omega)]),rfl⟩
def fG (s:ByteArray) (i:Nat):Int:=if h:i < s.size then (s[i].toNat:Int) else 0
theorem jQ {s:ByteArray} {i:Nat} (h:i < s.size):fG s i=(s[i].toNat:Int):=by simp [fG,h]
def nY (s:ByteArray) (at_ n:Nat):(fuel k:Nat)→(low high p:Int)→Int × Nat × Bool
 | 0,k,_,_,p=>(p,k,true)
 | f+1,k,low,high,p =>
  if n≤k then (p,k,true)
  else if s.size≤at_+k∨fG s (at_+k) < low∨high < fG s (at_+k) then (0,k,false)
  else nY s at_ n f (k+1) 128 191 (uN .or .i64 (IntKind.i64.wrap (p*2 ^ 6)) (uN .and .i64 (fG s (at_+k)) 63))
def jB (s:ByteArray) (at_:Nat):Int × Nat × Bool :=
 let b:=fG s at_
 let t:=gP b
 if t.2.2=0 then (0,0,false) else if t.2.2=1 then (b,1,true)
 else nY s at_ t.2.2.toNat 4 1 t.1 t.2.1 (uN .and .i64 b ((127:Int).fdiv (2 ^ t.2.2.toNat)))
theorem Ut (n:UInt8):IntKind.i64.wrap (n.toNat:Int)=(n.toNat:Int):=CK (by omega) (by have:=n.toNat_lt;omega)
theorem aei (G:GH) (w0:World) (hG:Hold G w0) (s:ByteArray) (i:Nat) (hi:i < s.size) (hs:s.size < 4611686018427387904) :
  Calls prog 202 #[.string s,.int .i64 i] w0 (bD w0 G fun v G'=>v=.tuple #[.int .i64 (jB s i).1,.int .i64 (jB s i).2.1,.bool (jB s i).2.2]∧G=G'):=by
 have hb:=jQ hi;obtain ⟨n,hn⟩:∃ n:Nat,(gP (fG s i)).2.2=(n:Int):=⟨(gP (fG s i)).2.2.toNat,by have:=Uk (fG s i);omega⟩
 have hn4:n≤4:=by have:=Uk (fG s i);omega
 refine eN [(0,_),(1,_)] func202 rfl ntmps202 rfl rfl hG ?_;refine ak 8 ?_;intro a H;refine nW _ iV H wn rfl rfl rfl (by first|assumption|omega) rfl ?_;clear H;refine ak 1 ?_;intro a H;rw [← hb] at H;refine aH 3 H ?_;clear H;intro a H;refine s_call afU H wn rfl (aoQ _ _ H.ro _) rfl ?_;clear H;rintro v16 _ a w ⟨rfl,rfl⟩ - H;refine aH 1 H ?_;clear H;intro a H;(iterate 3 refine qh H wn rfl rfl rfl ?_;clear H;intro a H);refine gW 13 H ?_ ?_ <;> clear H
 ·intro qy
  refine ak 5 ?_;intro a H;refine bV ?_;refine (eU H results202 (.cons (aW H rfl) (.cons (aW H rfl) (.cons (aW H rfl) .nil))) ?_).1;exact H.rt ⟨by simp [jB,qy],rfl⟩
 intro qy
 refine goB 4 ?_ ?_
 ·intro wJ
  refine ak 2 ?_;intro a H;refine zU (fG s i) jJ EK H wn rfl (by rw [hb];exact Ut _) rfl ?_;clear H;refine ak 4 ?_;intro a H;refine bV ?_;refine (eU H results202 (.cons (aW H rfl) (.cons (aW H rfl) (.cons (aW H rfl) .nil))) ?_).1;exact H.rt ⟨by simp [jB,qy,wJ],rfl⟩
 intro wJ
 refine ak 3 ?_;intro a H;refine zU (fG s i) jJ EK H wn rfl (by rw [hb];exact Ut _) rfl ?_;clear H;refine ak 1 ?_;intro a H;refine Nn n H wn rfl rfl (by rw [hn]) (by show n≤64;omega) rfl ?_;clear H;intro a H;refine Js rfl H wn rfl rfl rfl ?_;clear H;refine ak 7 ?_;intro a H;refine eO (ι:=Nat × Int × Int × Int) (Tc:=[(0,_),(1,_),(10,_)]) (Lc:=[]) (fun gh=>[(4,.int .i64 gh.2.2.2),(5,.int .i64 (gh.1:Int)),(8,.int .u8 gh.2.1),(9,.int .u8 gh.2.2.1)]) (fun gh=>[]) (fun gh=>G) (fun gh=>gh.1≤4∧jB s i=nY s i n (5 - gh.1) gh.1 gh.2.1 gh.2.2.1 gh.2.2.2) (fun gh=>5 - gh.1) ((1,_,_,_)) sB ?_ ?_
 ·refine ⟨by omega,?_⟩;simp only [jB,hn];rw [ah (by omega),ah (by omega)];rfl
 clear H;rintro ⟨k,low,high,p⟩ a w hI H;dsimp only at hI H;obtain ⟨hk,hdec⟩:=hI;dsimp only [lca,aR] at H;refine dN 6 H ?_ ?_ <;> clear H
 ·intro p34
  refine jE 12 43 ?_ ?_
  ·intro h43
   try have p43:=dT h43
   refine ak 25 ?_;intro a H;refine bV ?_
   have hfin:jB s i=(if n≤k then (p,k,true) else (0,k,false)):=by
    rw [hdec];have e:5 - k=(4 - k)+1:=by omega
    rw [e,nY]
    by_cases hk2:n≤k
    ·rw [ay hk2,ay hk2]
    rw [ah hk2,ah hk2,ay (by first|omega|(rw [jQ (by omega)];omega))]
   refine (eU H results202 (.cons (aW H rfl) (.cons (aW H rfl) (.cons (aW H rfl) .nil))) ?_).1;exact H.rt ⟨by rw [hfin];first|rw [ay (by omega)]|rw [ah (by omega)],rfl⟩
  intro h43
  try have p43:=dF h43
  refine ak 3 ?_;intro a H;refine Nj _ H (wg H rfl rfl h43) rfl rfl rfl (by omega) (by omega) rfl ?_;clear H;intro a H;refine nW _ iV H (wg H rfl rfl h43) rfl rfl rfl (by first|assumption|omega) rfl ?_;clear H;refine jE 4 52 ?_ ?_
  ·intro IG
   try have p52:=dT IG
   refine ak 16 ?_;intro a H;refine bV ?_
   have hfin:jB s i=(if n≤k then (p,k,true) else (0,k,false)):=by
    rw [hdec];have e:5 - k=(4 - k)+1:=by omega
    rw [e,nY]
    by_cases hk2:n≤k
    ·rw [ay hk2,ay hk2]
    rw [ah hk2,ah hk2,ay (by first|omega|(rw [jQ (by omega)];omega))]
   refine (eU H results202 (.cons (aW H rfl) (.cons (aW H rfl) (.cons (aW H rfl) .nil))) ?_).1;exact H.rt ⟨by rw [hfin];first|rw [ay (by omega)]|rw [ah (by omega)],rfl⟩
  intro IG
  try have p52:=dF IG
  refine ak 3 ?_;intro a H;refine Nj _ H (wg H rfl rfl IG) rfl rfl rfl (by omega) (by omega) rfl ?_;clear H;intro a H;refine nW _ iV H (wg H rfl rfl IG) rfl rfl rfl (by first|assumption|omega) rfl ?_;clear H;refine goB 4 ?_ ?_
  ·intro p60
   refine ak 6 ?_;intro a H;refine bV ?_
   have hfin:jB s i=(if n≤k then (p,k,true) else (0,k,false)):=by
    rw [hdec];have e:5 - k=(4 - k)+1:=by omega
    rw [e,nY]
    by_cases hk2:n≤k
    ·rw [ay hk2,ay hk2]
    rw [ah hk2,ah hk2,ay (by first|omega|(rw [jQ (by omega)];omega))]
   refine (eU H results202 (.cons (aW H rfl) (.cons (aW H rfl) (.cons (aW H rfl) .nil))) ?_).1;exact H.rt ⟨by rw [hfin];first|rw [ay (by omega)]|rw [ah (by omega)],rfl⟩
  intro p60
  refine ak 3 ?_;intro a H;refine anx _ H wn rfl rfl rfl (by decide) rfl ?_;clear H;refine ak 4 ?_;intro a H;refine nW _ iV H wn rfl rfl rfl (by first|assumption|omega) rfl ?_;clear H;intro a H;refine zU (fG s (i+k)) jJ EK H wn rfl (by rw [jQ (by omega)];exact Ut _) rfl ?_;clear H;intro a H;(iterate 2 refine Js rfl H wn rfl rfl rfl ?_;clear H;intro a H);refine aH 10 H ?_;clear H;intro a H;refine aG ?_;refine dH ((k+1,128,191,uN .or .i64 (IntKind.i64.wrap (p*2 ^ 6)) (uN .and .i64 (fG s (i+k)) 63))) sB ?_ ?_
  ·(try dsimp only);refine ⟨by omega,?_⟩
   have e:5 - k=(5 - (k+1))+1:=by omega
   rw [hdec,e,nY,ah (by omega),jQ (by omega),ah (by omega)]
  first|omega|(dsimp only;omega)
 intro p34
 refine ak 8 ?_;intro a H;refine bV ?_
 have hfin:jB s i=(if n≤k then (p,k,true) else (0,k,false)):=by
  rw [hdec];have e:5 - k=(4 - k)+1:=by omega
  rw [e,nY]
  by_cases hk2:n≤k
  ·rw [ay hk2,ay hk2]
  rw [ah hk2,ah hk2,ay (by first|omega|(rw [jQ (by omega)];omega))]
 refine (eU H results202 (.cons (aW H rfl) (.cons (aW H rfl) (.cons (aW H rfl) .nil))) ?_).1;exact H.rt ⟨by rw [hfin];first|rw [ay (by omega)]|rw [ah (by omega)],rfl⟩
theorem Wt (s:ByteArray) (at_ n:Nat):∀ (f k:Nat) (low high p:Int),n≤k+f→k≤n→k≤(nY s at_ n f k low high p).2.1∧(nY s at_ n f k low high p).2.1≤n∧((nY s at_ n f k low high p).2.2=true→at_+k≤s.size→at_+(nY s at_ n f k low high p).2.1≤s.size)
 | 0,k,low,high,p,h1,h2=>by simp only [nY];omega
 | f+1,k,low,high,p,h1,h2=>by
  unfold nY
  split
  ·simp only [];omega
  split
  ·simp only [];omega
  have ih:=Wt s at_ n f (k+1) 128 191 (uN .or .i64 (IntKind.i64.wrap (p*2 ^ 6)) (uN .and .i64 (fG s (at_+k)) 63)) (by omega) (by omega);refine ⟨by have:=ih.1;omega,ih.2.1,fun h3 h4=>ih.2.2 h3 (by omega)⟩
theorem KC (s:ByteArray) (i:Nat) (hi:i < s.size):(jB s i).2.1≤4∧((jB s i).2.2=true→1≤(jB s i).2.1∧i+(jB s i).2.1≤s.size):=by
 have ht:=Uk (fG s i)
 unfold jB
 simp only []
 split
 ·simp
 split
 ·simp;omega
 have:=Wt s i (gP (fG s i)).2.2.toNat 4 1 (gP (fG s i)).1 (gP (fG s i)).2.1 (uN .and .i64 (fG s i) ((127:Int).fdiv (2 ^ (gP (fG s i)).2.2.toNat))) (by omega) (by omega);refine ⟨by omega,fun h=>⟨by omega,this.2.2 h (by omega)⟩⟩
def lZ (s:ByteArray) (i:Nat):Int :=
 if h:i < s.size then (if h2:(jB s i).2.2=true then lZ s (i+(jB s i).2.1) else i) else -1
 termination_by s.size - i
 decreasing_by have:=(KC s i h).2 h2;omega
theorem ahw (G:GH) (w0:World) (hG:Hold G w0) (s:ByteArray) (hs:s.size < 4611686018427387904) :
  Calls prog 157 #[.string s] w0 (bD w0 G fun v G'=>v=.int .i64 (lZ s 0)∧G=G'):=by
 refine eN [(0,_)] func157 rfl ntmps157 rfl rfl hG ?_;refine ak 8 ?_;intro a H;refine eO (ι:=Nat) (Tc:=[(0,_)]) (Lc:=[]) (fun gh=>[(3,.int .i64 (gh:Int))]) (fun gh=>[]) (fun gh=>G) (fun gh=>gh≤s.size∧lZ s 0=lZ s gh) (fun gh=>s.size - gh) (0) sB ?_ ?_
 ·exact ⟨by omega,rfl⟩
 clear H;intro i a w hI H;obtain ⟨hk,hf⟩:=hI;dsimp only [lca,aR] at H;refine dN 7 H ?_ ?_ <;> clear H
 ·intro nk
  refine ak 5 ?_;intro a H;refine s_call afH H wn rfl (aei _ _ H.ro s i (by omega) hs) rfl ?_;clear H;rintro v14 _ a w ⟨rfl,rfl⟩ - H;have hd:=KC s i (by omega);refine aH 1 H ?_;clear H;intro a H;(iterate 3 refine qh H wn rfl rfl rfl ?_;clear H;intro a H);refine gX 9 H ?_ ?_ <;> clear H
  ·intro h19
   try have tL:=dT h19
   refine aP 4 ?_;exact ⟨by rw [hf,lZ,dif_pos (by omega),dif_neg (by simpa using h19)],rfl⟩
  intro h19
  try have tL:=dF h19
  refine ak 6 ?_;intro a H;refine aG ?_;refine dH ((i+(jB s i).2.1)) sB ?_ ?_
  ·have h1:(jB s i).2.2=true:=by simpa using h19
   have h2:=hd.2 h1;refine ⟨by omega,?_⟩;rw [hf,lZ,dif_pos (by omega),dif_pos h1]
  have h1:(jB s i).2.2=true:=by simpa using h19
  have h2:=hd.2 h1
  omega
 intro nk
 refine aP 4 ?_;exact ⟨by rw [hf,lZ,dif_neg (by omega)],rfl⟩
def mR (s:ByteArray):Bool:=decide (lZ s 0 < 0)
theorem JG (G:GH) (w0:World) (hG:Hold G w0) (s:ByteArray) (hs:s.size < 4611686018427387904) :
  Calls prog 94 #[.string s] w0 (bD w0 G fun v G'=>v=.bool (mR s)∧G=G'):=by
 refine eN [(0,_)] func94 rfl ntmps94 rfl rfl hG ?_;refine ak 5 ?_;intro a H;refine s_call afg H wn rfl (ahw _ _ H.ro s hs) rfl ?_;clear H;rintro v4 _ a w ⟨rfl,rfl⟩ - H;refine gH 3 H ?_;exact ⟨rfl,rfl⟩
def kK (s:ByteArray) (i:Nat):Nat :=
 if i < s.size then (if uN .and .u8 (fG s i) 192=128 then 0 else 1)+kK s (i+1) else 0
 termination_by s.size - i
theorem Wh (s:ByteArray):∀ (n i:Nat),s.size - i=n→kK s i≤n
 | 0,i,h=>by rw [kK,ah (by omega)];exact bN _
 | n+1,i,h=>by
  have ih:=Wh s n (i+1) (by omega);rw [kK,ay (by omega)]
  split <;> omega
def oD (s:ByteArray):Nat:=if mR s then kK s 0 else 0
def EL (s:ByteArray):Int:=if mR s then 0 else 12
theorem Ij (s:ByteArray):oD s≤s.size:=by unfold oD;have:=Wh s s.size 0 (by omega);split <;> omega
theorem O8 (G:GH) (w0:World) (hG:Hold G w0) (s:ByteArray) (hs:s.size < 4611686018427387904) :
  Calls prog 53 #[.string s] w0 (bD w0 G fun v G'=>v=.tuple #[vi (oD s),vi (EL s)]∧G=G'):=by
 refine eN [(0,_)] func53 rfl ntmps53 rfl rfl hG ?_;refine ak 7 ?_;intro a H;refine s_call Ip H wn rfl (JG _ _ H.ro s hs) rfl ?_;clear H;rintro v6 _ a w ⟨rfl,rfl⟩ - H;refine gX 2 H ?_ ?_ <;> clear H
 ·intro h7
  refine ak 4 ?_;intro a H;refine bV ?_;refine (eU H results53 (.cons (aW H rfl) (.cons (aW H rfl) .nil)) ?_).1;exact H.rt ⟨by simp [oD,EL,show mR s=false by simpa using h7],rfl⟩
 intro h7
 try have p7:=dF h7
 refine ak 8 ?_;intro a H;refine eO (ι:=Nat × Nat) (Tc:=[(0,_),(9,_)]) (Lc:=[]) (fun gh=>[(2,vi gh.2),(10,vi gh.1)]) (fun gh=>[]) (fun gh=>G) (fun gh=>gh.1≤s.size∧gh.2≤gh.1∧gh.2+kK s gh.1=oD s) (fun gh=>s.size - gh.1) ((0,0)) sB ?_ ?_
 ·exact ⟨by omega,by omega,by simp [oD,show mR s=true by simpa using h7]⟩
 clear H;rintro ⟨i,n⟩ a w hI H;dsimp only at hI H;obtain ⟨hk,hn,hf⟩:=hI;dsimp only [lca,aR] at H;refine dN 4 H ?_ ?_ <;> clear H
 ·intro oz
  refine ak 10 ?_;intro a H;refine nW _ iV H wn rfl rfl rfl (by first|assumption|omega) rfl ?_;clear H;intro a H;refine Js rfl H wn rfl rfl rfl ?_;clear H;refine goB 2 ?_ ?_
  ·intro kW
   refine ak 8 ?_;intro a H;refine aG ?_;refine dH ((i+1,n+1)) sB ?_ ?_
   ·(try dsimp only);rw [← jQ (by omega)] at kW;rw [kK,ay (by omega),ah kW] at hf;exact ⟨by omega,by omega,by omega⟩
   first|omega|(dsimp only;omega)
  intro kW
  refine ak 4 ?_;intro a H;refine aG ?_;refine dH ((i+1,n)) sB ?_ ?_
  ·(try dsimp only);rw [← jQ (by omega),lu] at kW;rw [kK,ay (by omega),ay kW] at hf;exact ⟨by omega,by omega,by omega⟩
  first|omega|(dsimp only;omega)
 intro oz
 refine ak 6 ?_;intro a H;refine bV ?_;refine (eU H results53 (.cons (aW H rfl) (.cons (aW H rfl) .nil)) ?_).1;exact H.rt ⟨by rw [kK,ah (by omega),kI] at hf;rw [hf];simp [EL,show mR s=true by simpa using h7],rfl⟩
end
section
open Go.RowKit
theorem hmx:prog.follows .mixedOrders=true:=by kernel_rfl
instance Az:dB prog 68 0 0:=⟨by kernel_rfl⟩
instance bH:Ty prog 3 1 8 [.int .i64 0] false:=⟨by kernel_rfl,by kernel_rfl⟩
instance KP:dB prog 68 3 3:=⟨by kernel_rfl⟩
instance lN:Ty prog 9 1 16 [.string ⟨#[]⟩] false:=⟨by kernel_rfl,by kernel_rfl⟩
theorem PU:∀ args w,(callFunc 53 args).run prog w=.ok (.enter 53 args) w:=enters func53 rfl (by kernel_rfl)
theorem mQ:prog.underlying 22=some (.slice 68):=by kernel_rfl
instance:jK prog 22 (.slice 68):=⟨mQ⟩
instance dR:Ty prog 68 11 176 [.int .i64 0,.int .i64 0,.int .i64 0,.string ⟨#[]⟩,.slice none 0 0,.int .i64 0,.int .i64 0,.slice none 0 0,.slice none 0 0,.slice none 0 0,.slice none 0 0] true:=⟨by kernel_rfl,by kernel_rfl⟩
theorem aeC:∀ args w,(callFunc 105 args).run prog w=.ok (.enter 105 args) w:=enters func105 rfl (by kernel_rfl)
theorem vJ:prog.underlying 23=some (.slice 171):=by kernel_rfl
instance:jK prog 23 (.slice 171):=⟨vJ⟩
instance pF:Ty prog 171 2 16 [.int .i64 0,.int .i64 0] true:=⟨by kernel_rfl,by kernel_rfl⟩
theorem xP:prog.underlying 24=some (.slice 115):=by kernel_rfl
instance:jK prog 24 (.slice 115):=⟨xP⟩
instance tX:Ty prog 115 2 16 [.int .i64 0,.int .i64 0] true:=⟨by kernel_rfl,by kernel_rfl⟩
theorem xQ:prog.underlying 25=some (.slice 117):=by kernel_rfl
instance:jK prog 25 (.slice 117):=⟨xQ⟩
instance tY:Ty prog 117 4 32 [.int .i64 0,.int .i64 0,.int .i64 0,.bool false] true:=⟨by kernel_rfl,by kernel_rfl⟩
instance jG:Ty prog 29 5 88 [.slice none 0 0,.int .i64 0,.int .i64 0,.slice none 0 0,.slice none 0 0] true:=⟨by kernel_rfl,by kernel_rfl⟩
instance Qb:dB prog 29 0 0:=⟨by kernel_rfl⟩
instance EG:Ty prog 23 1 24 [.slice none 0 0] false:=⟨by kernel_rfl,by kernel_rfl⟩
theorem WQ:∀ args w,(callFunc 168 args).run prog w=.ok (.enter 168 args) w:=enters func168 rfl (by kernel_rfl)
instance zq:dB prog 29 1 1:=⟨by kernel_rfl⟩
instance Cm:dB prog 27 2 2:=⟨by kernel_rfl⟩
instance Df:Ty prog 24 1 24 [.slice none 0 0] false:=⟨by kernel_rfl,by kernel_rfl⟩
theorem afk:∀ args w,(callFunc 169 args).run prog w=.ok (.enter 169 args) w:=enters func169 rfl (by kernel_rfl)
instance Iu:dB prog 27 3 3:=⟨by kernel_rfl⟩
instance JC:Ty prog 25 1 24 [.slice none 0 0] false:=⟨by kernel_rfl,by kernel_rfl⟩
theorem afl:∀ args w,(callFunc 170 args).run prog w=.ok (.enter 170 args) w:=enters func170 rfl (by kernel_rfl)
theorem BF:prog.underlying 66=some (.slice 144):=by kernel_rfl
instance:jK prog 66 (.slice 144):=⟨BF⟩
instance iU:Ty prog 144 6 112 [.slice none 0 0,.int .i64 0,.int .i64 0,.slice none 0 0,.slice none 0 0,.slice none 0 0] true:=⟨by kernel_rfl,by kernel_rfl⟩
theorem wO:prog.underlying 142=some (.slice 147):=by kernel_rfl
instance:jK prog 142 (.slice 147):=⟨wO⟩
instance iw:Ty prog 147 7 120 [.int .i64 0,.slice none 0 0,.int .i64 0,.int .i64 0,.slice none 0 0,.slice none 0 0,.slice none 0 0] true:=⟨by kernel_rfl,by kernel_rfl⟩
instance P7:dB prog 147 0 0:=⟨by kernel_rfl⟩
instance Xi:dB prog 147 1 1:=⟨by kernel_rfl⟩
theorem DT:∀ args w,(callFunc 112 args).run prog w=.ok (.enter 112 args) w:=enters func112 rfl (by kernel_rfl)
instance KO:dB prog 147 2 6:=⟨by kernel_rfl⟩
instance pG:Ty prog 22 1 24 [.slice none 0 0] false:=⟨by kernel_rfl,by kernel_rfl⟩
theorem KJ:∀ args w,(callFunc 76 args).run prog w=.ok (.enter 76 args) w:=enters func76 rfl (by kernel_rfl)
theorem Ns:ru prog 147 [(0,1),(1,5),(6,1)] [.int .i64 0,.slice none 0 0,.int .i64 0,.int .i64 0,.slice none 0 0,.slice none 0 0,.slice none 0 0]:=⟨by kernel_rfl,by kernel_rfl⟩
instance Fy:dB prog 144 0 0:=⟨by kernel_rfl⟩
instance Ir:dB prog 144 1 5:=⟨by kernel_rfl⟩
instance Gx:Ty prog 142 1 24 [.slice none 0 0] false:=⟨by kernel_rfl,by kernel_rfl⟩
theorem WR:∀ args w,(callFunc 171 args).run prog w=.ok (.enter 171 args) w:=enters func171 rfl (by kernel_rfl)
theorem Ue:ru prog 144 [(0,5),(5,1)] [.slice none 0 0,.int .i64 0,.int .i64 0,.slice none 0 0,.slice none 0 0,.slice none 0 0]:=⟨by kernel_rfl,by kernel_rfl⟩
instance AA:dB prog 68 4 4:=⟨by kernel_rfl⟩
instance Xn:dB prog 68 5 9:=⟨by kernel_rfl⟩
instance Xo:dB prog 68 6 10:=⟨by kernel_rfl⟩
instance ND:Ty prog 66 1 24 [.slice none 0 0] false:=⟨by kernel_rfl,by kernel_rfl⟩
theorem WH:∀ args w,(callFunc 114 args).run prog w=.ok (.enter 114 args) w:=enters func114 rfl (by kernel_rfl)
theorem WJ:∀ args w,(callFunc 138 args).run prog w=.ok (.enter 138 args) w:=enters func138 rfl (by kernel_rfl)
theorem afA:∀ args w,(callFunc 192 args).run prog w=.ok (.enter 192 args) w:=enters func192 rfl (by kernel_rfl)
theorem aeZ:∀ args w,(callFunc 140 args).run prog w=.ok (.enter 140 args) w:=enters func140 rfl (by kernel_rfl)
theorem aeY:∀ args w,(callFunc 139 args).run prog w=.ok (.enter 139 args) w:=enters func139 rfl (by kernel_rfl)
def fU (x:au):Nat:=if x.kind=1 then oD x.text else 1
def wP (x:au):Int:=if x.kind=1 then EL x.text else 0
theorem apb (G:GH) (w0:World) (hG:Hold G w0) (x:au) (i2 i3:Int) (p i5 i6 d l f r:aj) (hs:x.text.size < 4611686018427387904) :
  Calls prog 105 #[.agg #[vi x.kind,vi i2,vi i3,.string x.text,p,i5,i6,d,l,f,r]] w0 (bD w0 G fun v G'=>v=.tuple #[vi (fU x),vi (wP x)]∧G=G'):=by
 refine eN [(0,_)] func105 rfl ntmps105 rfl rfl hG ?_;refine ak 1 ?_;intro a H;refine dU (cs:=[_,_,_,_,_,_,_,_,_,_,_]) H wn rfl rfl rfl ?_;clear H;intro b1 a w hb1 H;refine gW 9 H ?_ ?_ <;> clear H
 ·intro p6
  refine ak 4 ?_;intro a H;refine bV ?_;refine (eU H results105 (.cons (aW H rfl) (.cons (aW H rfl) .nil)) ?_).1;exact H.rt ⟨by simp only [fU,wP,ah p6];rfl,rfl⟩
 intro p6
 refine ak 4 ?_;intro a H;refine s_call PU H wn rfl (O8 _ _ H.ro _ hs) rfl ?_;clear H;rintro v9 _ a w ⟨rfl,rfl⟩ - H;(iterate 2 refine qh H wn rfl rfl rfl ?_;clear H;intro a H);refine aH 3 H ?_;clear H;intro a H;refine bV ?_;refine (eU H results105 (.cons (aW H rfl) (.cons (aW H rfl) .nil)) ?_).1;exact H.rt ⟨by rw [lu] at p6;simp only [fU,wP,ay p6],rfl⟩
def uS (l:List au):Bool:=l.all fun x=>decide (wP x=0)
def pE:List au→Nat
 | []=>0
 | x :: l=>fU x+pE l
def oQ (l:List au):Int:=if uS l then pE l else 0
def SE (l:List au):Int:=if uS l then 0 else 12
def kg:List au→Nat
 | []=>0
 | x :: l=>x.text.size+1+kg l
theorem Ui:∀ l:List au,pE l≤kg l
 | []=>bN _
 | x :: l=>by
  have:=Ui l;have h2:=Ij x.text
  simp only [pE,kg,fU];split <;> omega
theorem aaU {x:au}:∀ {l:List au},x∈l→x.text.size < kg l
 | [],h=>by cases h
 | y :: l,h=>by
  simp only [kg]
  rcases iQ.1 h with rfl|h
  ·omega
  have:=aaU h;omega
theorem aoN (l m:List au):pE (l++m)=pE l+pE m:=by
 induction l with
 | nil=>simp [pE]
 | cons x l ih=>simp [pE,ih];omega
theorem aoO {l:List au} {k:Nat} (h:k < l.length):pE (l.take (k+1))=pE (l.take k)+fU l[k]:=by
 rw [gN h,aoN];simp [pE]
theorem EF (l m:List au):kg (l++m)=kg l+kg m:=by
 induction l with
 | nil=>simp [kg]
 | cons x l ih=>simp [kg,ih];omega
theorem Um (l:List au) (k:Nat):kg (l.take k)≤kg l:=by
 have:=EF (l.take k) (l.drop k);rw [List.take_append_drop] at this;omega
theorem zx {G:GH} {l:List au} {A:Option Addr} {k:Nat} (hk:k < l.length) (hg:∀ k r,(l.map au.dat)[k]?=some r→∃ b o cs,A=some ⟨b,o,none⟩∧cs.length=11∧(∀ j u,cs[j]?=some u→aF G b (o+k*11+j)=some u)∧aN G r cs) :
  ∃ b o pA pn pc dA dn dc yA yn yc fA fn fc rA rn rc,A=some ⟨b,o,none⟩∧(∀ j u,[vi l[k].kind,vi l[k].code,vi l[k].id,.string l[k].text,.slice pA pn pc,vi l[k].head.marks.ins,vi l[k].head.marks.move,.slice dA dn dc,.slice yA yn yc,.slice fA fn fc,.slice rA rn rc][j]?=some u→aF G b (o+k*11+j)=some u) ∧
   gG G l[k].head (.slice pA pn pc) (.slice dA dn dc) (.slice yA yn yc)∧av G (.sl 11 (l[k].flow.map au.dat)) (.slice fA fn fc)∧av G (.sl 6 (l[k].rows.map aM.dat)) (.slice rA rn rc):=by
 obtain ⟨b,o,cs,h1,h2,h3,h4⟩:=hg k l[k].dat (by simp [hk]);obtain ⟨pA,pn,pc,dA,dn,dc,yA,yn,yc,fA,fn,fc,rA,rn,rc,rfl,h5,h6,h7⟩:=h4.item;exact ⟨b,o,pA,pn,pc,dA,dn,dc,yA,yn,yc,fA,fn,fc,rA,rn,rc,h1,h3,h5,h6,h7⟩
theorem aem {l:List au} {k:Nat} (h:k < l.length):uS (l.take (k+1))=(uS (l.take k) && decide (wP l[k]=0)):=by
 unfold uS
 rw [gN h,List.all_append];simp
theorem ael {l:List au} {k:Nat} (h:k < l.length) (hn:¬ wP l[k]=0):uS l=false:=by
 unfold uS
 rw [List.all_eq_false];exact ⟨l[k],iF h,by simpa using hn⟩
theorem ML:∀ l:List au,l.length≤kg l
 | []=>bN _
 | x :: l=>by have:=ML l;simp only [kG,kg];omega
theorem Ny:∀ l:List au,kg l≤aZ l
 | []=>bN _
 | x :: l=>by
  have:=Ny l;have h2:=qC x
  simp only [kg,aZ,eu,dX] at *;omega
theorem akS (G:GH) (w0:World) (hG:Hold G w0) (l:List au) (v:aj) (hv:av G (.sl 11 (l.map au.dat)) v) (hz:aZ l≤4294967296) :
  Calls prog 51 #[v] w0 (bD w0 G fun v G'=>v=.tuple #[vi (oQ l),vi (SE l)]∧G=G'):=by
 obtain ⟨A,c,rfl,hc1,hc2,hg⟩:=hv.slice;rw [bO] at *;have hll:=ML l;have htz:=Ny l;refine eN [(0,_)] func51 rfl ntmps51 rfl rfl hG ?_;refine ak 14 ?_;intro a H;refine eO (ι:=Nat) (Tc:=[(9,_),(10,_)]) (Lc:=[]) (fun gh=>[(4,vi (pE (l.take gh))),(11,vi gh)]) (fun gh=>[]) (fun gh=>G) (fun gh=>gh≤l.length∧uS (l.take gh)=true) (fun gh=>l.length - gh) (0) sB ?_ ?_
 ·exact ⟨by omega,by simp [uS]⟩
 clear H;intro k a w hI H;obtain ⟨hk,hd⟩:=hI;dsimp only [lca,aR] at H;refine dN 4 H ?_ ?_ <;> clear H
 ·intro nu
  have hk2:k < l.length:=by omega
  obtain ⟨b,o,pA,pn,pc,dA,dn,dc,yA,yn,yc,fA,fn,fc,rA,rn,rc,rfl,hrow,-⟩:=zx hk2 hg;have hsm:=aoO hk2;have hle:=Ui (l.take (k+1));have hle2:=Um l (k+1);refine ak 5 ?_;intro a H;refine bg dR (cs:=[_,_,_,_,_,_,_,_,_,_,_]) H wn rfl rfl (fun j v hj=>H.hp.aF (hrow j v hj)) rfl ?_;clear H;intro a H;refine dx dR H wn rfl ?_;clear H;intro b6 a w hb6 H;refine aV dR 0 (vs:=[_,_,_,_,_,_,_,_,_,_,_]) _ H wn rfl rfl rfl rfl rfl rfl rfl rfl ?_;clear H;intro w H;dsimp only [List.set,setRow] at H;refine aH 2 H ?_;clear H;intro a H;refine bg dR (cs:=[_,_,_,_,_,_,_,_,_,_,_]) H wn rfl rfl (H.hp.cK 0 rfl rfl) rfl ?_;clear H;intro a H;refine s_call aeC H wn rfl (apb _ _ H.ro _ _ _ _ _ _ _ _ _ _ (by have:=aaU (iF hk2);omega)) rfl ?_;clear H;rintro v17 _ a w ⟨rfl,rfl⟩ - H;refine aH 1 H ?_;clear H;intro a H;(iterate 2 refine qh H wn rfl rfl rfl ?_;clear H;intro a H);refine gW 8 H ?_ ?_ <;> clear H
  ·intro qy
   refine ak 4 ?_;intro a H;refine bV ?_;refine (eU H results51 (.cons (aW H rfl) (.cons (aW H rfl) .nil)) ?_).1;exact H.rt ⟨by simp [oQ,SE,ael hk2 qy],rfl⟩
  intro qy
  refine ak 5 ?_;intro a H;rw [← Int.natCast_add,← hsm] at H;refine aH 5 H ?_;clear H;intro a H;refine aG ?_;refine dH ((k+1)) (by exact (H.cu (Pl:=[_]) (bS:=[]) [] (by decide) rfl).sub ⟨rfl,rfl,rfl,rfl,bB⟩) ?_ ?_
  ·exact ⟨by omega,by rw [aem hk2,hd];simpa using qy⟩
  first|omega|(dsimp only;omega)
 intro nu
 refine ak 6 ?_;intro a H;refine bV ?_;refine (eU H results51 (.cons (aW H rfl) (.cons (aW H rfl) .nil)) ?_).1;exact H.rt ⟨by rw [show l.take k=l from jh (by omega)] at hd ⊢;simp [oQ,SE,hd],rfl⟩
theorem V8 (G:GH) (w0:World) (hG:Hold G w0) (rows:List (List Dat)) (A:Option Addr) (n c:Nat) (hv:av G (.sl 2 rows) (.slice A n c)) (hz:rows.length≤4294967296) :
  Calls prog 168 #[.slice A n c] w0 (bD w0 G fun v G'=>av G' (.sl 2 rows) v):=by
 obtain ⟨hn,hc1,hc2,hnil,hx⟩:=hv.cells;refine eN [(0,_)] func168 rfl ntmps168 rfl rfl hG ?_;refine ak 6 ?_;intro a H;refine zV vJ H wn rfl rfl ?_;clear H;refine goC 1 ?_ ?_
 ·intro h4
  refine aP 3 ?_;rw [hnil (by simpa using h4)];exact av.iT rfl (by simp [maxLen])
 intro h4
 try have p4:=dF h4
 refine ak 1 ?_
 have hA:¬ A=none:=by intro e;rw [e] at h4;cases h4
 refine ak 1 ?_;intro a H;refine zT vJ pF H wn rfl ?_;clear H;intro b5 a w hb5 H;refine aH 1 H ?_;clear H
 intro a H;by_cases hr0:rows=[]
 ·have hn0:n=0:=by rw [hn,hr0];rfl
  subst hn0;refine yQ vJ pF H wn rfl rfl (bN _) rfl ?_;clear H;refine aP 2 ?_;rw [hr0];exact av.iT rfl (by simp [maxLen])
 obtain ⟨b,o,xs,rfl,hxl,hxc,hx1,eD⟩:=hx hr0;refine nU (Li:=[]) (Lo:=[_]) (news:=xs) vJ pF rfl rfl H wn rfl rfl bR.empty hxl (fun j u hj=>H.hp.aF (hxc j u hj)) hx1 (by omega) (by omega) rfl ?_;clear H;intro v7 Lo a w hrow H;obtain ⟨G',hm,hrep,H⟩:=H.rG hrow (rows:=rows) (by omega) (by simpa using eD)
 try clear hG
 obtain ⟨G2,hG2⟩:∃ g,g=G':=⟨_,rfl⟩;subst hG2;refine gH 2 H ?_;exact hrep
theorem adH (G:GH) (w0:World) (hG:Hold G w0) (rows:List (List Dat)) (A:Option Addr) (n c:Nat) (hv:av G (.sl 2 rows) (.slice A n c)) (hz:rows.length≤4294967296) :
  Calls prog 169 #[.slice A n c] w0 (bD w0 G fun v G'=>av G' (.sl 2 rows) v):=by
 obtain ⟨hn,hc1,hc2,hnil,hx⟩:=hv.cells;refine eN [(0,_)] func169 rfl ntmps169 rfl rfl hG ?_;refine ak 6 ?_;intro a H;refine zV xP H wn rfl rfl ?_;clear H;refine goC 1 ?_ ?_
 ·intro h4
  refine aP 3 ?_;rw [hnil (by simpa using h4)];exact av.iT rfl (by simp [maxLen])
 intro h4
 try have p4:=dF h4
 refine ak 1 ?_
 have hA:¬ A=none:=by intro e;rw [e] at h4;cases h4
 refine ak 1 ?_;intro a H;refine zT xP tX H wn rfl ?_;clear H;intro b5 a w hb5 H;refine aH 1 H ?_;clear H
 intro a H;by_cases hr0:rows=[]
 ·have hn0:n=0:=by rw [hn,hr0];rfl
  subst hn0;refine yQ xP tX H wn rfl rfl (bN _) rfl ?_;clear H;refine aP 2 ?_;rw [hr0];exact av.iT rfl (by simp [maxLen])
 obtain ⟨b,o,xs,rfl,hxl,hxc,hx1,eD⟩:=hx hr0;refine nU (Li:=[]) (Lo:=[_]) (news:=xs) xP tX rfl rfl H wn rfl rfl bR.empty hxl (fun j u hj=>H.hp.aF (hxc j u hj)) hx1 (by omega) (by omega) rfl ?_;clear H;intro v7 Lo a w hrow H;obtain ⟨G',hm,hrep,H⟩:=H.rG hrow (rows:=rows) (by omega) (by simpa using eD)
 try clear hG
 obtain ⟨G2,hG2⟩:∃ g,g=G':=⟨_,rfl⟩;subst hG2;refine gH 2 H ?_;exact hrep
theorem adM (G:GH) (w0:World) (hG:Hold G w0) (rows:List (List Dat)) (A:Option Addr) (n c:Nat) (hv:av G (.sl 4 rows) (.slice A n c)) (hz:rows.length≤4294967296) :
  Calls prog 170 #[.slice A n c] w0 (bD w0 G fun v G'=>av G' (.sl 4 rows) v):=by
 obtain ⟨hn,hc1,hc2,hnil,hx⟩:=hv.cells;refine eN [(0,_)] func170 rfl ntmps170 rfl rfl hG ?_;refine ak 6 ?_;intro a H;refine zV xQ H wn rfl rfl ?_;clear H;refine goC 1 ?_ ?_
 ·intro h4
  refine aP 3 ?_;rw [hnil (by simpa using h4)];exact av.iT rfl (by simp [maxLen])
 intro h4
 try have p4:=dF h4
 refine ak 1 ?_
 have hA:¬ A=none:=by intro e;rw [e] at h4;cases h4
 refine ak 1 ?_;intro a H;refine zT xQ tY H wn rfl ?_;clear H;intro b5 a w hb5 H;refine aH 1 H ?_;clear H
 intro a H;by_cases hr0:rows=[]
 ·have hn0:n=0:=by rw [hn,hr0];rfl
  subst hn0;refine yQ xQ tY H wn rfl rfl (bN _) rfl ?_;clear H;refine aP 2 ?_;rw [hr0];exact av.iT rfl (by simp [maxLen])
 obtain ⟨b,o,xs,rfl,hxl,hxc,hx1,eD⟩:=hx hr0;refine nU (Li:=[]) (Lo:=[_]) (news:=xs) xQ tY rfl rfl H wn rfl rfl bR.empty hxl (fun j u hj=>H.hp.aF (hxc j u hj)) hx1 (by omega) (by omega) rfl ?_;clear H;intro v7 Lo a w hrow H;obtain ⟨G',hm,hrep,H⟩:=H.rG hrow (rows:=rows) (by omega) (by simpa using eD)
 try clear hG
 obtain ⟨G2,hG2⟩:∃ g,g=G':=⟨_,rfl⟩;subst hG2;refine gH 2 H ?_;exact hrep
theorem DN (G:GH) (w0:World) (hG:Hold G w0) (h:dh) (pA dA yA:Option Addr) (pn pc dn dc yn yc:Nat) (hv:gG G h (.slice pA pn pc) (.slice dA dn dc) (.slice yA yn yc)) (hz:kZ h≤4294967296) :
  Calls prog 112 #[.agg #[.slice pA pn pc,vi h.marks.ins,vi h.marks.move,.slice dA dn dc,.slice yA yn yc]] w0 (bD w0 G fun v G'=>∃ p d l,v=.agg #[p,vi h.marks.ins,vi h.marks.move,d,l]∧gG G' h p d l):=by
 have he:=BI h;have h1:=kY (h.props.map fK.dat);have h2:=kY (h.marks.bU.map iB.dat);have h3:=kY (h.marks.layers.map gU.dat);refine eN [(0,_)] func112 rfl ntmps112 rfl rfl hG ?_;refine ak 1 ?_;intro a H;refine dU (cs:=[_,_,_,_,_]) H wn rfl rfl rfl ?_;clear H;intro b1 a w hb1 H;refine dx jG H wn rfl ?_;clear H;intro b2 a w hb2 H;refine aH 4 H ?_;clear H;intro a H;refine s_call WQ H wn rfl (V8 _ _ H.ro _ _ _ _ hv.props (by omega)) rfl ?_;clear H;rintro v5 G5 a w oM Ma H;obtain ⟨A5,n5,c5,rfl⟩:=oM.form;refine aH 1 H ?_;clear H;intro a H;refine aV EG 1 (vs:=[_]) _ H wn rfl rfl rfl rfl rfl rfl rfl rfl ?_;clear H;intro w H;dsimp only [List.set,setRow] at H;refine aH 2 H ?_;clear H;obtain ⟨hvp,hvd,hvy⟩:=hv.mono Ma;clear hv
 have ou:∀ (aT:Nat) (v:aj) (G G':GH),(∀ k o,G k=some o→G' k=some o)→(fun (aT:Nat) (v:aj) (G:GH)=>match aT with|0=>v=(aD b1 1)|1=>v=(aD b1 3)|2=>v=.slice dA dn dc|3=>av G (.sl 2 (h.marks.bU.map iB.dat)) v|4=>v=(aD b1 1)|5=>v=(aD b1 4)|6=>v=.slice yA yn yc|7=>av G (.sl 4 (h.marks.layers.map gU.dat)) v|8=>v=(aD b1 1)|9=>v=(aD b1 3)|_=>True) aT v G→(fun (aT:Nat) (v:aj) (G:GH)=>match aT with|0=>v=(aD b1 1)|1=>v=(aD b1 3)|2=>v=.slice dA dn dc|3=>av G (.sl 2 (h.marks.bU.map iB.dat)) v|4=>v=(aD b1 1)|5=>v=(aD b1 4)|6=>v=.slice yA yn yc|7=>av G (.sl 4 (h.marks.layers.map gU.dat)) v|8=>v=(aD b1 1)|9=>v=(aD b1 3)|_=>True) aT v G':=by
  intro aT v G G' hm h
  match aT,h with
  | 0,h=>exact h
  | 1,h=>exact h
  | 2,h=>exact h
  | 3,h=>exact av.mono hm h
  | 4,h=>exact h
  | 5,h=>exact h
  | 6,h=>exact h
  | 7,h=>exact av.mono hm h
  | 8,h=>exact h
  | 9,h=>exact h
  | 10,h=>exact trivial
  | 11,h=>exact trivial
  | 12,h=>exact trivial
  | 13,h=>exact trivial
  | _+14,h=>exact trivial
 intro a H;refine yj (hmx) [[],[0],[0,1],[0,1,2],[],[4],[4,5],(ra 0 7),(ra 0 7),(ra 0 7++[8]),(ra 0 10),(ra 0 11),(ra 0 12),(ra 0 13)] (ra 10 4) (by kernel_rfl) (by kernel_rfl) (fun (aT:Nat) (v:aj) (G:GH)=>match aT with|0=>v=(aD b1 1)|1=>v=(aD b1 3)|2=>v=.slice dA dn dc|3=>av G (.sl 2 (h.marks.bU.map iB.dat)) v|4=>v=(aD b1 1)|5=>v=(aD b1 4)|6=>v=.slice yA yn yc|7=>av G (.sl 4 (h.marks.layers.map gU.dat)) v|8=>v=(aD b1 1)|9=>v=(aD b1 3)|_=>True) ou H ?_ ?_
 ·clear H;refine aC ?_ ?_ ?_ ?_ (aC ?_ ?_ ?_ ?_ (aC ?_ ?_ (bP rfl) (bP rfl) (bL (bP rfl) (bL (bP rfl) dw))))
  ·refine cO [] rfl trivial (by kernel_rfl) ou rfl rfl ?_;intro bF a w G1 hG HT H fin;exact kH H (Rf zq rfl fun _ H=>fin H iJ rfl)
  ·refine cO [(0,7,_)] rfl ⟨fun _ _ h=>h,bB⟩ (by kernel_rfl) ou rfl rfl ?_;intro bF a w G1 hG HT H fin;exact kH H (Rf Cm rfl fun _ H=>fin H iJ rfl)
  ·refine cO [(1,8,_)] rfl ⟨fun _ _ h=>h,bB⟩ (by kernel_rfl) ou rfl rfl ?_;intro bF a w G1 hG HT H fin;exact kH H (Ro Df 1 rfl fun _ H=>fin H iJ rfl)
  ·refine cO [(2,9,_)] rfl ⟨fun _ _ h=>h,bB⟩ (by kernel_rfl) ou rfl rfl ?_;intro bF a w G1 hG HT H fin;refine s_call afk H wn rfl (adH _ _ H.ro _ _ _ _ (hvd.mono hG) (by omega)) rfl ?_;clear H;rintro v10 yX a w qM oI H;exact fin H oI (qM)
  ·refine cO [] rfl trivial (by kernel_rfl) ou rfl rfl ?_;intro bF a w G1 hG HT H fin;exact kH H (Rf zq rfl fun _ H=>fin H iJ rfl)
  ·refine cO [(4,11,_)] rfl ⟨fun _ _ h=>h,bB⟩ (by kernel_rfl) ou rfl rfl ?_;intro bF a w G1 hG HT H fin;exact kH H (Rf Iu rfl fun _ H=>fin H iJ rfl)
  ·refine cO [(5,12,_)] rfl ⟨fun _ _ h=>h,bB⟩ (by kernel_rfl) ou rfl rfl ?_;intro bF a w G1 hG HT H fin;exact kH H (Ro JC 1 rfl fun _ H=>fin H iJ rfl)
  ·refine cO [(6,13,_)] rfl ⟨fun _ _ h=>h,bB⟩ (by kernel_rfl) ou rfl rfl ?_;intro bF a w G1 hG HT H fin;refine s_call afl H wn rfl (adM _ _ H.ro _ _ _ _ (hvy.mono hG) (by omega)) rfl ?_;clear H;rintro v14 BM a w rM AO H;exact fin H AO (rM)
  ·refine cO [] rfl trivial (by kernel_rfl) ou rfl rfl ?_;intro bF a w G1 hG HT H fin;exact kH H (Rf zq rfl fun _ H=>fin H iJ rfl)
  refine cO [(8,15,_)] rfl ⟨fun _ _ h=>h,bB⟩ (by kernel_rfl) ou rfl rfl ?_;intro bF a w G1 hG HT H fin;exact kH H (Rf Cm rfl fun _ H=>fin H iJ rfl)
 clear H;intro a w G AQ H hv;obtain ⟨u10,Je,qM⟩:=hv 3 10 (by decide) rfl;(try dsimp only at qM);obtain ⟨UQ,n10,c10,rfl⟩:=qM.form;have H:=H.jo Je;obtain ⟨u14,Jf,rM⟩:=hv 7 14 (by decide) rfl;(try dsimp only at rM);obtain ⟨UR,n14,c14,rfl⟩:=rM.form;have H:=H.jo Jf;have H:=H.aO (hv 9 16 rfl rfl) rfl;clear hv;refine aV Df 1 (vs:=[_]) _ H wn rfl rfl rfl rfl rfl rfl rfl rfl ?_;clear H;intro w H;dsimp only [List.set,setRow] at H;refine kH H (Rf zq rfl (Rf Iu rfl ?_));clear H;intro a H;refine aV JC 1 (vs:=[_]) _ H wn rfl rfl rfl rfl rfl rfl rfl rfl ?_;clear H;intro w H;dsimp only [List.set,setRow] at H;refine aG ⟨rfl,?_⟩;refine dG ?_;refine wo ?_;refine bg jG (cs:=[_,_,_,_,_]) H wn rfl rfl (H.hp.cK 1 rfl rfl) rfl ?_;clear H;intro a H;refine aV jG 0 (vs:=[_,_,_,_,_]) _ H wn rfl rfl rfl rfl rfl rfl rfl rfl ?_;clear H;intro w H;dsimp only [List.set,setRow] at H;refine aG ?_;refine dG ?_;refine bV ?_;refine (leave1 H results112 (.cons (rR jG (cs:=[_,_,_,_,_]) H rfl rfl (H.hp.cK 0 rfl rfl)) .nil) ?_).1;exact H.rt ⟨_,_,_,rfl,oM.mono AQ,qM,rM⟩
theorem vG {G:GH} {w:World} (h:Hold G w):fC G [] w:=⟨h,fun _ h=>(by cases h),fun _ h=>(by cases h),List.Pairwise.nil⟩
theorem Fj {P:Program} {f:FuncId} {args:Array aj} {w0:World} {G:GH} {e sz n:Nat} {rows:List (List Dat)} (hG:Hold G w0) (h:Calls P f args w0 (eP w0 G [] fun u G' L'=>∃ xs,bR e sz u n xs L'∧bE G' sz rows xs)) (hl:rows.length=n) :
  Calls P f args w0 (bD w0 G fun u G'=>av G' (.sl sz rows) u):=by
 intro cs;obtain ⟨e1,w',fr,⟨v,G',L',rfl,hch,xs,hrow,eD⟩,h2,h3,h4⟩:=h cs;have hp0:Hp w0 (fun k=>k < w0.heap.size) G G ([]++[]) w0:=⟨rfl,rfl,rfl,bN _,fun _ h=>h,fun _ _=>rfl,hG,fun _ _ h=>h,fun _ _ h=>.inl h,fun _ h=>(by cases h),fun _ h=>(by cases h),fun _ h=>(by cases h),List.Pairwise.nil⟩;have hp1:=hp0.change hch;rw [iD] at hp1;refine ⟨_,w',fr,?_,h2,h3,h4⟩
 rcases hrow.2 with ⟨rfl,h5,rfl⟩|⟨b,cap,cur,rfl,rfl,h5,h6,h7,h8⟩
 ·refine hp1.ret ?_;have:rows=[]:=List.eq_nil_of_length_eq_zero (by omega);subst this
  simp only [av]
  exact ⟨none,0,by simp,by simp,by simp [maxLen],fun h=>absurd rfl h⟩
 have hn:=hp1.qU (b,.cells cur e (0,0)) (by simp);exact (hp1.giveUp 0 rfl).ret (av.dZ (GH.EZ G' b _) hl h5 h6 h8 (eD.mono fun k o h=>GH.EY G' hn k o h))
def Ac (fv:aj) (w0:World) (G:GH) (d d':List Dat):Prop:=∀ (G1:GH) (w1:World) (cs:List aj),(∀ b o,G b=some o→G1 b=some o)→Hold G1 w1→aN G1 d cs →
 qX prog fv [.agg cs.toArray] w1 (bD w1 G1 fun u G'=>∃ cs',u=.agg cs'.toArray∧aN G' d' cs')
abbrev EP (fv:aj) (w0:World) (G:GH) (d:List Dat):Prop:=Ac fv w0 G d d
theorem WA (φ:au→au) (G:GH) (w0:World) (hO:fC G [] w0) (l:List au) (v fv:aj) (hv:av G (.sl 11 (l.map au.dat)) v) (hz:l.length≤4294967296) (hf:∀ x∈l,Ac fv w0 G x.dat (φ x).dat) :
  Calls prog 138 #[v,fv] w0 (eP w0 G [] fun u G' L'=>∃ xs,bR 68 11 u l.length xs L'∧bE G' 11 (l.map fun x=>(φ x).dat) xs):=by
 obtain ⟨A,c,rfl,hc1,hc2,hg⟩:=hv.slice
 have hml:4294967297≤maxLen:=by decide
 rw [bO] at *;refine gB (N:=22) (T:=[(0,_),(1,_)]) func138 rfl ntmps138 rfl rfl hO ?_;refine ak 13 ?_;intro a H;refine eO (ι:=Nat × aj × List aj × OL × GH) (Tc:=[(1,_),(8,_),(9,_)]) (Lc:=[]) (fun gh=>[(5,gh.2.1),(10,vi gh.1)]) (fun gh=>[]++gh.2.2.2.1) (fun gh=>gh.2.2.2.2) (fun gh=>gh.1≤l.length∧bR 68 11 gh.2.1 gh.1 gh.2.2.1 gh.2.2.2.1∧bE gh.2.2.2.2 11 ((l.map fun x=>(φ x).dat).take gh.1) gh.2.2.1∧(∀ b o,G b=some o→gh.2.2.2.2 b=some o)) (fun gh=>l.length - gh.1) ((0,.slice none 0 0,[],[],G)) sB ?_ ?_
 ·exact ⟨by omega,bR.nil,by simpa using bE.nil,fun _ _ h=>h⟩
 clear H;rintro ⟨k,v,xs,Lo,g⟩ a w hI H;dsimp only at hI H;obtain ⟨hk,hrw,eD,hgm⟩:=hI;dsimp only [lca,aR] at H;refine dN 4 H ?_ ?_ <;> clear H
 ·intro oz
  have hk2:k < l.length:=by omega
  obtain ⟨b,o,cs,rfl,hcl,hrow,hrep⟩:=hg k l[k].dat (by simp [hk2]);obtain ⟨pA,pn,pc,dA,dn,dc,yA,yn,yc,fA,fn,fc,rA,rn,rc,rfl,-⟩:=hrep.item;replace hrow:=fun j u hj=>aJ hgm (hrow j u hj);refine ak 5 ?_;intro a H;refine bg dR (cs:=[_,_,_,_,_,_,_,_,_,_,_]) H wn rfl rfl (fun j v hj=>H.hp.aF (hrow j v hj)) rfl ?_;clear H;intro a H;refine dx dR H wn rfl ?_;clear H;intro b7 a w sV H;refine aV dR 0 (vs:=[_,_,_,_,_,_,_,_,_,_,_]) _ H wn rfl rfl rfl rfl rfl rfl rfl rfl ?_;clear H;intro w H;dsimp only [List.set,setRow] at H;refine aH 4 H ?_;clear H;intro a H;refine bg dR (cs:=[_,_,_,_,_,_,_,_,_,_,_]) H wn rfl rfl (H.hp.cK 0 rfl rfl) rfl ?_;clear H;intro a H;refine nV H wn rfl rfl (hf _ (iF hk2) _ _ _ hgm H.ro (hrep.mono hgm)) rfl ?_;clear H;rintro v17 xV a w ⟨yu,rfl,jR⟩ pX H;obtain ⟨cs,hcs⟩:∃ cs,cs=yu:=⟨_,rfl⟩;obtain ⟨pA,pn,pc,dA,dn,dc,yA,yn,yc,fA,fn,fc,rA,rn,rc,uZ,-⟩:=jR.item;rw [uZ] at H;refine gK mQ dR [_,_,_,_,_,_,_,_,_,_,_] [_,_,_,_,_,_,_,_,_,_,_] H wn rfl rfl rfl rfl rfl (by intro i q h;match i,h with|0,h=>exact h|n+1,h=>simp at h) rfl rfl ?_;clear H;intro b18 a w LM H;refine nU (Li:=[_,_]) (Lo:=Lo) (news:=yu) mQ dR rfl rfl H wn rfl rfl hrw (by rw [uZ];rfl) (by rw [uZ];exact H.hp.cK 0 rfl rfl) jR.one (by omega) (by omega) rfl ?_;clear H;intro v19 Dt a w xD H;refine aH 5 H ?_;clear H;intro a H;refine aG ?_;refine dH ((k+1,v19,xs++yu,Dt,xV)) (by exact (H.cu (Pl:=[_,_]) (bS:=[]) [] (by decide) rfl).sub ⟨rfl,rfl,rfl,rfl,rfl,bB⟩) ?_ ?_
  ·(try dsimp only);refine ⟨by omega,xD,?_,fun b o h=>pX b o (hgm b o h)⟩;rw [gN (by simpa using hk2)];exact (eD.mono pX).snoc (by simpa using jR) (by rw [uZ];rfl)
  first|omega|(dsimp only;omega)
 intro oz
 refine ak 5 ?_;intro a H;refine lr H results138 rfl ?_
 obtain rfl:k=l.length:=by omega
 exact H.hp.cZ ⟨_,hrw,by rw [jh (by simp)] at eD;exact eD⟩
theorem aex (φ:au→au) (G:GH) (w0:World) (hG:Hold G w0) (l:List au) (v fv:aj) (hv:av G (.sl 11 (l.map au.dat)) v) (hz:l.length≤4294967296) (hf:∀ x∈l,Ac fv w0 G x.dat (φ x).dat) :
  Calls prog 138 #[v,fv] w0 (bD w0 G fun u G'=>av G' (.sl 11 (l.map fun x=>(φ x).dat)) u):=Fj hG (WA φ G w0 (vG hG) l v fv hv hz hf) (by simp)
theorem aes (G:GH) (w0:World) (hG:Hold G w0) (l:List au) (v fv:aj) (hv:av G (.sl 11 (l.map au.dat)) v) (hz:l.length≤4294967296) (hf:∀ x∈l,EP fv w0 G x.dat) :
  Calls prog 138 #[v,fv] w0 (bD w0 G fun u G'=>av G' (.sl 11 (l.map au.dat)) u):=aex (fun x=>x) G w0 hG l v fv hv hz hf
theorem aev (φ:aM→aM) (G:GH) (w0:World) (hO:fC G [] w0) (l:List aM) (v fv:aj) (hv:av G (.sl 6 (l.map aM.dat)) v) (hz:l.length≤4294967296) (hf:∀ x∈l,Ac fv w0 G x.dat (φ x).dat) :
  Calls prog 114 #[v,fv] w0 (eP w0 G [] fun u G' L'=>∃ xs,bR 144 6 u l.length xs L'∧bE G' 6 (l.map fun x=>(φ x).dat) xs):=by
 obtain ⟨A,c,rfl,hc1,hc2,hg⟩:=hv.slice
 have hml:4294967297≤maxLen:=by decide
 rw [bO] at *;refine gB (N:=22) (T:=[(0,_),(1,_)]) func114 rfl ntmps114 rfl rfl hO ?_;refine ak 13 ?_;intro a H;refine eO (ι:=Nat × aj × List aj × OL × GH) (Tc:=[(1,_),(8,_),(9,_)]) (Lc:=[]) (fun gh=>[(5,gh.2.1),(10,vi gh.1)]) (fun gh=>[]++gh.2.2.2.1) (fun gh=>gh.2.2.2.2) (fun gh=>gh.1≤l.length∧bR 144 6 gh.2.1 gh.1 gh.2.2.1 gh.2.2.2.1∧bE gh.2.2.2.2 6 ((l.map fun x=>(φ x).dat).take gh.1) gh.2.2.1∧(∀ b o,G b=some o→gh.2.2.2.2 b=some o)) (fun gh=>l.length - gh.1) ((0,.slice none 0 0,[],[],G)) sB ?_ ?_
 ·exact ⟨by omega,bR.nil,by simpa using bE.nil,fun _ _ h=>h⟩
 clear H;rintro ⟨k,v,xs,Lo,g⟩ a w hI H;dsimp only at hI H;obtain ⟨hk,hrw,eD,hgm⟩:=hI;dsimp only [lca,aR] at H;refine dN 4 H ?_ ?_ <;> clear H
 ·intro oz
  have hk2:k < l.length:=by omega
  obtain ⟨b,o,cs,rfl,hcl,hrow,hrep⟩:=hg k l[k].dat (by simp [hk2]);obtain ⟨pA,pn,pc,dA,dn,dc,yA,yn,yc,fA,fn,fc,rfl,-⟩:=hrep.row;replace hrow:=fun j u hj=>aJ hgm (hrow j u hj);refine ak 5 ?_;intro a H;refine bg iU (cs:=[_,_,_,_,_,_]) H wn rfl rfl (fun j v hj=>H.hp.aF (hrow j v hj)) rfl ?_;clear H;intro a H;refine dx iU H wn rfl ?_;clear H;intro b7 a w sV H;refine aV iU 0 (vs:=[_,_,_,_,_,_]) _ H wn rfl rfl rfl rfl rfl rfl rfl rfl ?_;clear H;intro w H;dsimp only [List.set,setRow] at H;refine aH 4 H ?_;clear H;intro a H;refine bg iU (cs:=[_,_,_,_,_,_]) H wn rfl rfl (H.hp.cK 0 rfl rfl) rfl ?_;clear H;intro a H;refine nV H wn rfl rfl (hf _ (iF hk2) _ _ _ hgm H.ro (hrep.mono hgm)) rfl ?_;clear H;rintro v17 xV a w ⟨yu,rfl,jR⟩ pX H;obtain ⟨cs,hcs⟩:∃ cs,cs=yu:=⟨_,rfl⟩;obtain ⟨pA,pn,pc,dA,dn,dc,yA,yn,yc,fA,fn,fc,uZ,-⟩:=jR.row;rw [uZ] at H;refine gK BF iU [_,_,_,_,_,_] [_,_,_,_,_,_] H wn rfl rfl rfl rfl rfl (by intro i q h;match i,h with|0,h=>exact h|n+1,h=>simp at h) rfl rfl ?_;clear H;intro b18 a w LM H;refine nU (Li:=[_,_]) (Lo:=Lo) (news:=yu) BF iU rfl rfl H wn rfl rfl hrw (by rw [uZ];rfl) (by rw [uZ];exact H.hp.cK 0 rfl rfl) jR.one (by omega) (by omega) rfl ?_;clear H;intro v19 Dt a w xD H;refine aH 5 H ?_;clear H;intro a H;refine aG ?_;refine dH ((k+1,v19,xs++yu,Dt,xV)) (by exact (H.cu (Pl:=[_,_]) (bS:=[]) [] (by decide) rfl).sub ⟨rfl,rfl,rfl,rfl,rfl,bB⟩) ?_ ?_
  ·(try dsimp only);refine ⟨by omega,xD,?_,fun b o h=>pX b o (hgm b o h)⟩;rw [gN (by simpa using hk2)];exact (eD.mono pX).snoc (by simpa using jR) (by rw [uZ];rfl)
  first|omega|(dsimp only;omega)
 intro oz
 refine ak 5 ?_;intro a H;refine lr H results114 rfl ?_
 obtain rfl:k=l.length:=by omega
 exact H.hp.cZ ⟨_,hrw,by rw [jh (by simp)] at eD;exact eD⟩
theorem WC (φ:aM→aM) (G:GH) (w0:World) (hG:Hold G w0) (l:List aM) (v fv:aj) (hv:av G (.sl 6 (l.map aM.dat)) v) (hz:l.length≤4294967296) (hf:∀ x∈l,Ac fv w0 G x.dat (φ x).dat) :
  Calls prog 114 #[v,fv] w0 (bD w0 G fun u G'=>av G' (.sl 6 (l.map fun x=>(φ x).dat)) u):=Fj hG (aev φ G w0 (vG hG) l v fv hv hz hf) (by simp)
theorem aew (G:GH) (w0:World) (hG:Hold G w0) (l:List aM) (v fv:aj) (hv:av G (.sl 6 (l.map aM.dat)) v) (hz:l.length≤4294967296) (hf:∀ x∈l,EP fv w0 G x.dat) :
  Calls prog 114 #[v,fv] w0 (bD w0 G fun u G'=>av G' (.sl 6 (l.map aM.dat)) u):=WC (fun x=>x) G w0 hG l v fv hv hz hf
theorem aeu (φ:aL→aL) (G:GH) (w0:World) (hO:fC G [] w0) (l:List aL) (v fv:aj) (hv:av G (.sl 7 (l.map aL.dat)) v) (hz:l.length≤4294967296) (hf:∀ x∈l,Ac fv w0 G x.dat (φ x).dat) :
  Calls prog 171 #[v,fv] w0 (eP w0 G [] fun u G' L'=>∃ xs,bR 147 7 u l.length xs L'∧bE G' 7 (l.map fun x=>(φ x).dat) xs):=by
 obtain ⟨A,c,rfl,hc1,hc2,hg⟩:=hv.slice
 have hml:4294967297≤maxLen:=by decide
 rw [bO] at *;refine gB (N:=22) (T:=[(0,_),(1,_)]) func171 rfl ntmps171 rfl rfl hO ?_;refine ak 13 ?_;intro a H;refine eO (ι:=Nat × aj × List aj × OL × GH) (Tc:=[(1,_),(8,_),(9,_)]) (Lc:=[]) (fun gh=>[(5,gh.2.1),(10,vi gh.1)]) (fun gh=>[]++gh.2.2.2.1) (fun gh=>gh.2.2.2.2) (fun gh=>gh.1≤l.length∧bR 147 7 gh.2.1 gh.1 gh.2.2.1 gh.2.2.2.1∧bE gh.2.2.2.2 7 ((l.map fun x=>(φ x).dat).take gh.1) gh.2.2.1∧(∀ b o,G b=some o→gh.2.2.2.2 b=some o)) (fun gh=>l.length - gh.1) ((0,.slice none 0 0,[],[],G)) sB ?_ ?_
 ·exact ⟨by omega,bR.nil,by simpa using bE.nil,fun _ _ h=>h⟩
 clear H;rintro ⟨k,v,xs,Lo,g⟩ a w hI H;dsimp only at hI H;obtain ⟨hk,hrw,eD,hgm⟩:=hI;dsimp only [lca,aR] at H;refine dN 4 H ?_ ?_ <;> clear H
 ·intro oz
  have hk2:k < l.length:=by omega
  obtain ⟨b,o,cs,rfl,hcl,hrow,hrep⟩:=hg k l[k].dat (by simp [hk2]);obtain ⟨pA,pn,pc,dA,dn,dc,yA,yn,yc,fA,fn,fc,rfl,-⟩:=hrep.cell;replace hrow:=fun j u hj=>aJ hgm (hrow j u hj);refine ak 5 ?_;intro a H;refine bg iw (cs:=[_,_,_,_,_,_,_]) H wn rfl rfl (fun j v hj=>H.hp.aF (hrow j v hj)) rfl ?_;clear H;intro a H;refine dx iw H wn rfl ?_;clear H;intro b7 a w sV H;refine aV iw 0 (vs:=[_,_,_,_,_,_,_]) _ H wn rfl rfl rfl rfl rfl rfl rfl rfl ?_;clear H;intro w H;dsimp only [List.set,setRow] at H;refine aH 4 H ?_;clear H;intro a H;refine bg iw (cs:=[_,_,_,_,_,_,_]) H wn rfl rfl (H.hp.cK 0 rfl rfl) rfl ?_;clear H;intro a H;refine nV H wn rfl rfl (hf _ (iF hk2) _ _ _ hgm H.ro (hrep.mono hgm)) rfl ?_;clear H;rintro v17 xV a w ⟨yu,rfl,jR⟩ pX H;obtain ⟨cs,hcs⟩:∃ cs,cs=yu:=⟨_,rfl⟩;obtain ⟨pA,pn,pc,dA,dn,dc,yA,yn,yc,fA,fn,fc,uZ,-⟩:=jR.cell;rw [uZ] at H;refine gK wO iw [_,_,_,_,_,_,_] [_,_,_,_,_,_,_] H wn rfl rfl rfl rfl rfl (by intro i q h;match i,h with|0,h=>exact h|n+1,h=>simp at h) rfl rfl ?_;clear H;intro b18 a w LM H;refine nU (Li:=[_,_]) (Lo:=Lo) (news:=yu) wO iw rfl rfl H wn rfl rfl hrw (by rw [uZ];rfl) (by rw [uZ];exact H.hp.cK 0 rfl rfl) jR.one (by omega) (by omega) rfl ?_;clear H;intro v19 Dt a w xD H;refine aH 5 H ?_;clear H;intro a H;refine aG ?_;refine dH ((k+1,v19,xs++yu,Dt,xV)) (by exact (H.cu (Pl:=[_,_]) (bS:=[]) [] (by decide) rfl).sub ⟨rfl,rfl,rfl,rfl,rfl,bB⟩) ?_ ?_
  ·(try dsimp only);refine ⟨by omega,xD,?_,fun b o h=>pX b o (hgm b o h)⟩;rw [gN (by simpa using hk2)];exact (eD.mono pX).snoc (by simpa using jR) (by rw [uZ];rfl)
  first|omega|(dsimp only;omega)
 intro oz
 refine ak 5 ?_;intro a H;refine lr H results171 rfl ?_
 obtain rfl:k=l.length:=by omega
 exact H.hp.cZ ⟨_,hrw,by rw [jh (by simp)] at eD;exact eD⟩
theorem WB (φ:aL→aL) (G:GH) (w0:World) (hG:Hold G w0) (l:List aL) (v fv:aj) (hv:av G (.sl 7 (l.map aL.dat)) v) (hz:l.length≤4294967296) (hf:∀ x∈l,Ac fv w0 G x.dat (φ x).dat) :
  Calls prog 171 #[v,fv] w0 (bD w0 G fun u G'=>av G' (.sl 7 (l.map fun x=>(φ x).dat)) u):=Fj hG (aeu φ G w0 (vG hG) l v fv hv hz hf) (by simp)
theorem aer (G:GH) (w0:World) (hG:Hold G w0) (l:List aL) (v fv:aj) (hv:av G (.sl 7 (l.map aL.dat)) v) (hz:l.length≤4294967296) (hf:∀ x∈l,EP fv w0 G x.dat) :
  Calls prog 171 #[v,fv] w0 (bD w0 G fun u G'=>av G' (.sl 7 (l.map aL.dat)) u):=WB (fun x=>x) G w0 hG l v fv hv hz hf
def Dm (n:Nat):Prop:=∀ (G:GH) (w0:World),Hold G w0→∀ (l:List au) (v:aj),av G (.sl 11 (l.map au.dat)) v→aZ l < n →
 Calls prog 76 #[v] w0 (bD w0 G fun u G'=>av G' (.sl 11 (l.map au.dat)) u)
theorem adG {n:Nat} (ih:Dm n) (hn:n≤4294967296) (G:GH) (w0:World) (hG:Hold G w0) (x:aL) (cs:List aj) (hv:aN G x.dat cs) (hz:bJ x.dat < n+1) :
  Calls prog 192 #[.agg cs.toArray] w0 (bD w0 G fun u G'=>∃ cs',u=.agg cs'.toArray∧aN G' x.dat cs'):=by
 have he:=vO x;obtain ⟨pA,pn,pc,dA,dn,dc,yA,yn,yc,fA,fn,fc,rfl,hh,hf⟩:=hv.cell;refine eN [(0,_)] func192 rfl ntmps192 rfl rfl hG ?_;refine ak 1 ?_;intro a H;refine dU (cs:=[_,_,_,_,_,_,_]) H wn rfl rfl rfl ?_;clear H;intro b1 a w hb1 H;refine dx iw H wn rfl ?_;clear H;intro b2 a w hb2 H;refine aH 2 H ?_;clear H
 have cB:∀ (aT:Nat) (v:aj) (G G':GH),(∀ k o,G k=some o→G' k=some o)→(fun (aT:Nat) (v:aj) (G:GH)=>match aT with|0=>v=(aD b1 0)|1=>v=vi x.id|2=>v=(aD b1 1)|3=>v=.agg #[.slice pA pn pc,vi x.head.marks.ins,vi x.head.marks.move,.slice dA dn dc,.slice yA yn yc]|4=>∃ p d l,v=.agg #[p,vi x.head.marks.ins,vi x.head.marks.move,d,l]∧gG G x.head p d l|5=>v=(aD b1 6)|6=>v=.slice fA fn fc|7=>av G (.sl 11 (x.flow.map au.dat)) v|_=>True) aT v G→(fun (aT:Nat) (v:aj) (G:GH)=>match aT with|0=>v=(aD b1 0)|1=>v=vi x.id|2=>v=(aD b1 1)|3=>v=.agg #[.slice pA pn pc,vi x.head.marks.ins,vi x.head.marks.move,.slice dA dn dc,.slice yA yn yc]|4=>∃ p d l,v=.agg #[p,vi x.head.marks.ins,vi x.head.marks.move,d,l]∧gG G x.head p d l|5=>v=(aD b1 6)|6=>v=.slice fA fn fc|7=>av G (.sl 11 (x.flow.map au.dat)) v|_=>True) aT v G':=by
  intro aT v G G' hm h
  match aT,h with
  | 0,h=>exact h
  | 1,h=>exact h
  | 2,h=>exact h
  | 3,h=>exact h
  | 4,h=>exact let ⟨p,d,l,h1,h2⟩:=h;⟨p,d,l,h1,h2.mono hm⟩
  | 5,h=>exact h
  | 6,h=>exact h
  | 7,h=>exact av.mono hm h
  | 8,h=>exact trivial
  | 9,h=>exact trivial
  | _+10,h=>exact trivial
 intro a H;refine yj (hmx) [[],[0],[],[2],[2,3],[],[5],(ra 2 5),(ra 0 8),(ra 0 9)] [8,9] (by kernel_rfl) (by kernel_rfl) (fun (aT:Nat) (v:aj) (G:GH)=>match aT with|0=>v=(aD b1 0)|1=>v=vi x.id|2=>v=(aD b1 1)|3=>v=.agg #[.slice pA pn pc,vi x.head.marks.ins,vi x.head.marks.move,.slice dA dn dc,.slice yA yn yc]|4=>∃ p d l,v=.agg #[p,vi x.head.marks.ins,vi x.head.marks.move,d,l]∧gG G x.head p d l|5=>v=(aD b1 6)|6=>v=.slice fA fn fc|7=>av G (.sl 11 (x.flow.map au.dat)) v|_=>True) cB H ?_ ?_
 ·clear H;refine aC ?_ ?_ ?_ ?_ (aC ?_ ?_ ?_ ?_ (bL (bP rfl) (bL (bP rfl) dw)))
  ·refine cO [] rfl trivial (by kernel_rfl) cB rfl rfl ?_;intro bF a w G1 hG HT H fin;exact kH H (Rf P7 rfl fun _ H=>fin H iJ rfl)
  ·refine cO [(0,3,_)] rfl ⟨fun _ _ h=>h,bB⟩ (by kernel_rfl) cB rfl rfl ?_;intro bF a w G1 hG HT H fin;exact kH H (Ro bH 1 rfl fun _ H=>fin H iJ rfl)
  ·refine cO [] rfl trivial (by kernel_rfl) cB rfl rfl ?_;intro bF a w G1 hG HT H fin;exact kH H (Rf Xi rfl fun _ H=>fin H iJ rfl)
  ·refine cO [(2,5,_)] rfl ⟨fun _ _ h=>h,bB⟩ (by kernel_rfl) cB rfl rfl ?_;intro bF a w G1 hG HT H fin;refine bg jG (cs:=[_,_,_,_,_]) H wn rfl rfl (H.hp.cK 1 rfl rfl) rfl ?_;clear H;intro a H;exact fin H iJ rfl
  ·refine cO [(3,6,_)] rfl ⟨fun _ _ h=>h,bB⟩ (by kernel_rfl) cB rfl rfl ?_;intro bF a w G1 hG HT H fin;refine s_call DT H wn rfl (DN _ _ H.ro x.head _ _ _ _ _ _ _ _ _ (hh.mono hG) (by omega)) rfl ?_;clear H;rintro v7 G7 a w Bd IU H;exact fin H IU (Bd)
  ·refine cO [] rfl trivial (by kernel_rfl) cB rfl rfl ?_;intro bF a w G1 hG HT H fin;exact kH H (Rf KO rfl fun _ H=>fin H iJ rfl)
  ·refine cO [(5,8,_)] rfl ⟨fun _ _ h=>h,bB⟩ (by kernel_rfl) cB rfl rfl ?_;intro bF a w G1 hG HT H fin;exact kH H (Ro pG 1 rfl fun _ H=>fin H iJ rfl)
  refine cO [(6,9,_)] rfl ⟨fun _ _ h=>h,bB⟩ (by kernel_rfl) cB rfl rfl ?_;intro bF a w G1 hG HT H fin;refine s_call KJ H wn rfl (ih _ _ H.ro x.flow _ (hf.mono hG) (by omega)) rfl ?_;clear H;rintro v10 yX a w qM oI H;exact fin H oI (qM)
 clear H;intro a w G iH H hv;have H:=H.aO (hv 1 4 rfl rfl) rfl;obtain ⟨u7,R8,Bd⟩:=hv 4 7 (by decide) rfl;(try dsimp only at Bd);obtain ⟨p7,d7,l7,rfl,Ba⟩:=Bd;obtain ⟨a1,a2,a3,rfl⟩:=Ba.props.form;obtain ⟨a4,a5,a6,rfl⟩:=Ba.bU.form;obtain ⟨a7,a8,a9,rfl⟩:=Ba.layers.form;have H:=H.jo R8;obtain ⟨u10,Je,qM⟩:=hv 7 10 (by decide) rfl;(try dsimp only at qM);obtain ⟨UQ,n10,c10,rfl⟩:=qM.form;have H:=H.jo Je;clear hv;refine jY Ns [_,_,_,_,_,_,_] H wn rfl rfl rfl rfl ?_;clear H;intro a H;refine aV iw 0 (vs:=[_,_,_,_,_,_,_]) _ H wn rfl rfl rfl rfl rfl rfl rfl rfl ?_;clear H;intro w H;dsimp only [List.set,setRow] at H;refine aG ⟨rfl,?_⟩;refine dG ?_;refine bV ?_;refine (leave1 H results192 (.cons (rR iw (cs:=[_,_,_,_,_,_,_]) H rfl rfl (H.hp.cK 0 rfl rfl)) .nil) ?_).1;exact H.rt ⟨_,rfl,aN.Ev Ba qM⟩
theorem adF {n:Nat} (ih:Dm n) (hn:n≤4294967296) {G:GH} {w0:World} (x:aL) (hz:bJ x.dat < n+1):EP (.func (.func 192) #[] #[]) w0 G x.dat:=by
 intro G1 w1 cs hm1 hG1 hr;have h:=adG ih hn _ _ hG1 x cs hr hz;have h2:=jq (P:=prog) (caps:=[]) (args:=[.agg cs.toArray]) afA h;exact h2
theorem adU {n:Nat} (ih:Dm n) (hn:n≤4294967296) (G:GH) (w0:World) (hG:Hold G w0) (x:aM) (cs:List aj) (hv:aN G x.dat cs) (hz:bJ x.dat < n+1) :
  Calls prog 140 #[.agg cs.toArray] w0 (bD w0 G fun u G'=>∃ cs',u=.agg cs'.toArray∧aN G' x.dat cs'):=by
 have he:=vP x;have hl:=BH x.cells;obtain ⟨pA,pn,pc,dA,dn,dc,yA,yn,yc,fA,fn,fc,rfl,hh,hf⟩:=hv.row;refine eN [(0,_)] func140 rfl ntmps140 rfl rfl hG ?_;refine ak 1 ?_;intro a H;refine dU (cs:=[_,_,_,_,_,_]) H wn rfl rfl rfl ?_;clear H;intro b1 a w hb1 H;refine dx iU H wn rfl ?_;clear H;intro b2 a w hb2 H;refine aH 2 H ?_;clear H
 have cB:∀ (aT:Nat) (v:aj) (G G':GH),(∀ k o,G k=some o→G' k=some o)→(fun (aT:Nat) (v:aj) (G:GH)=>match aT with|0=>v=(aD b1 0)|1=>v=.agg #[.slice pA pn pc,vi x.head.marks.ins,vi x.head.marks.move,.slice dA dn dc,.slice yA yn yc]|2=>∃ p d l,v=.agg #[p,vi x.head.marks.ins,vi x.head.marks.move,d,l]∧gG G x.head p d l|3=>v=(aD b1 5)|4=>v=.slice fA fn fc|5=>av G (.sl 7 (x.cells.map aL.dat)) v|_=>True) aT v G→(fun (aT:Nat) (v:aj) (G:GH)=>match aT with|0=>v=(aD b1 0)|1=>v=.agg #[.slice pA pn pc,vi x.head.marks.ins,vi x.head.marks.move,.slice dA dn dc,.slice yA yn yc]|2=>∃ p d l,v=.agg #[p,vi x.head.marks.ins,vi x.head.marks.move,d,l]∧gG G x.head p d l|3=>v=(aD b1 5)|4=>v=.slice fA fn fc|5=>av G (.sl 7 (x.cells.map aL.dat)) v|_=>True) aT v G':=by
  intro aT v G G' hm h
  match aT,h with
  | 0,h=>exact h
  | 1,h=>exact h
  | 2,h=>exact let ⟨p,d,l,h1,h2⟩:=h;⟨p,d,l,h1,h2.mono hm⟩
  | 3,h=>exact h
  | 4,h=>exact h
  | 5,h=>exact av.mono hm h
  | 6,h=>exact trivial
  | 7,h=>exact trivial
  | _+8,h=>exact trivial
 intro a H;refine yj (hmx) [[],[0],[0,1],[],[3],(ra 0 5),(ra 0 6),(ra 0 7)] [6,7] (by kernel_rfl) (by kernel_rfl) (fun (aT:Nat) (v:aj) (G:GH)=>match aT with|0=>v=(aD b1 0)|1=>v=.agg #[.slice pA pn pc,vi x.head.marks.ins,vi x.head.marks.move,.slice dA dn dc,.slice yA yn yc]|2=>∃ p d l,v=.agg #[p,vi x.head.marks.ins,vi x.head.marks.move,d,l]∧gG G x.head p d l|3=>v=(aD b1 5)|4=>v=.slice fA fn fc|5=>av G (.sl 7 (x.cells.map aL.dat)) v|_=>True) cB H ?_ ?_
 ·clear H;refine aC ?_ ?_ ?_ ?_ (aC ?_ ?_ (bP rfl) (bP rfl) dw)
  ·refine cO [] rfl trivial (by kernel_rfl) cB rfl rfl ?_;intro bF a w G1 hG HT H fin;exact kH H (Rf Fy rfl fun _ H=>fin H iJ rfl)
  ·refine cO [(0,3,_)] rfl ⟨fun _ _ h=>h,bB⟩ (by kernel_rfl) cB rfl rfl ?_;intro bF a w G1 hG HT H fin;refine bg jG (cs:=[_,_,_,_,_]) H wn rfl rfl (H.hp.cK 1 rfl rfl) rfl ?_;clear H;intro a H;exact fin H iJ rfl
  ·refine cO [(1,4,_)] rfl ⟨fun _ _ h=>h,bB⟩ (by kernel_rfl) cB rfl rfl ?_;intro bF a w G1 hG HT H fin;refine s_call DT H wn rfl (DN _ _ H.ro x.head _ _ _ _ _ _ _ _ _ (hh.mono hG) (by omega)) rfl ?_;clear H;rintro v5 G5 a w oM sS H;exact fin H sS (oM)
  ·refine cO [] rfl trivial (by kernel_rfl) cB rfl rfl ?_;intro bF a w G1 hG HT H fin;exact kH H (Rf Ir rfl fun _ H=>fin H iJ rfl)
  ·refine cO [(3,6,_)] rfl ⟨fun _ _ h=>h,bB⟩ (by kernel_rfl) cB rfl rfl ?_;intro bF a w G1 hG HT H fin;exact kH H (Ro Gx 1 rfl fun _ H=>fin H iJ rfl)
  refine cO [(4,7,_)] rfl ⟨fun _ _ h=>h,bB⟩ (by kernel_rfl) cB rfl rfl ?_;intro bF a w G1 hG HT H fin;refine s_call WR H wn rfl (aer _ _ H.ro x.cells _ _ (hf.mono hG) (by omega) (fun y hy=>adF ih hn y (by have:=UL hy;omega))) rfl ?_;clear H;rintro v8 G8 a w kL nL H;exact fin H nL (kL)
 clear H;intro a w G iH H hv;obtain ⟨u5,Ej,oM⟩:=hv 2 5 (by decide) rfl;(try dsimp only at oM);obtain ⟨p5,d5,l5,rfl,vk⟩:=oM;obtain ⟨a1,a2,a3,rfl⟩:=vk.props.form;obtain ⟨a4,a5,a6,rfl⟩:=vk.bU.form;obtain ⟨a7,a8,a9,rfl⟩:=vk.layers.form;have H:=H.jo Ej;obtain ⟨u8,yI,kL⟩:=hv 5 8 (by decide) rfl;(try dsimp only at kL);obtain ⟨A8,n8,c8,rfl⟩:=kL.form;have H:=H.jo yI;clear hv;refine jY Ue [_,_,_,_,_,_] H wn rfl rfl rfl rfl ?_;clear H;intro a H;refine aV iU 0 (vs:=[_,_,_,_,_,_]) _ H wn rfl rfl rfl rfl rfl rfl rfl rfl ?_;clear H;intro w H;dsimp only [List.set,setRow] at H;refine aG ⟨rfl,?_⟩;refine dG ?_;refine bV ?_;refine (leave1 H results140 (.cons (rR iU (cs:=[_,_,_,_,_,_]) H rfl rfl (H.hp.cK 0 rfl rfl)) .nil) ?_).1;exact H.rt ⟨_,rfl,aN.Jl vk kL⟩
theorem adT {n:Nat} (ih:Dm n) (hn:n≤4294967296) {G:GH} {w0:World} (x:aM) (hz:bJ x.dat < n+1):EP (.func (.func 140) #[] #[]) w0 G x.dat:=by
 intro G1 w1 cs hm1 hG1 hr;have h:=adU ih hn _ _ hG1 x cs hr hz;have h2:=jq (P:=prog) (caps:=[]) (args:=[.agg cs.toArray]) aeZ h;exact h2
theorem adD {n:Nat} (ih:Dm n) (hn:n≤4294967296) (G:GH) (w0:World) (hG:Hold G w0) (x:au) (cs:List aj) (hv:aN G x.dat cs) (hz:bJ x.dat < n+1) :
  Calls prog 139 #[.agg cs.toArray] w0 (bD w0 G fun u G'=>∃ cs',u=.agg cs'.toArray∧aN G' x.dat cs'):=by
 have he:=qC x;have hl:=BJ x.rows;obtain ⟨pA,pn,pc,dA,dn,dc,yA,yn,yc,fA,fn,fc,rA,rn,rc,rfl,hh,hf,hr⟩:=hv.item;refine eN [(0,_)] func139 rfl ntmps139 rfl rfl hG ?_;refine ak 1 ?_;intro a H;refine dU (cs:=[_,_,_,_,_,_,_,_,_,_,_]) H wn rfl rfl rfl ?_;clear H;intro b1 a w hb1 H;refine dx dR H wn rfl ?_;clear H;intro b2 a w hb2 H;refine aH 2 H ?_;clear H
 have cB:∀ (aT:Nat) (v:aj) (G G':GH),(∀ k o,G k=some o→G' k=some o)→(fun (aT:Nat) (v:aj) (G:GH)=>match aT with|0=>v=(aD b1 4)|1=>v=.agg #[.slice pA pn pc,vi x.head.marks.ins,vi x.head.marks.move,.slice dA dn dc,.slice yA yn yc]|2=>∃ p d l,v=.agg #[p,vi x.head.marks.ins,vi x.head.marks.move,d,l]∧gG G x.head p d l|3=>v=(aD b1 9)|4=>v=.slice fA fn fc|5=>av G (.sl 11 (x.flow.map au.dat)) v|6=>v=(aD b1 10)|7=>v=.slice rA rn rc|8=>av G (.sl 6 (x.rows.map aM.dat)) v|9=>v=(aD b1 4)|_=>True) aT v G→(fun (aT:Nat) (v:aj) (G:GH)=>match aT with|0=>v=(aD b1 4)|1=>v=.agg #[.slice pA pn pc,vi x.head.marks.ins,vi x.head.marks.move,.slice dA dn dc,.slice yA yn yc]|2=>∃ p d l,v=.agg #[p,vi x.head.marks.ins,vi x.head.marks.move,d,l]∧gG G x.head p d l|3=>v=(aD b1 9)|4=>v=.slice fA fn fc|5=>av G (.sl 11 (x.flow.map au.dat)) v|6=>v=(aD b1 10)|7=>v=.slice rA rn rc|8=>av G (.sl 6 (x.rows.map aM.dat)) v|9=>v=(aD b1 4)|_=>True) aT v G':=by
  intro aT v G G' hm h
  match aT,h with
  | 0,h=>exact h
  | 1,h=>exact h
  | 2,h=>exact let ⟨p,d,l,h1,h2⟩:=h;⟨p,d,l,h1,h2.mono hm⟩
  | 3,h=>exact h
  | 4,h=>exact h
  | 5,h=>exact av.mono hm h
  | 6,h=>exact h
  | 7,h=>exact h
  | 8,h=>exact av.mono hm h
  | 9,h=>exact h
  | 10,h=>exact trivial
  | 11,h=>exact trivial
  | 12,h=>exact trivial
  | 13,h=>exact trivial
  | 14,h=>exact trivial
  | _+15,h=>exact trivial
 intro a H;refine yj (hmx) [[],[0],[0,1],[],[3],(ra 0 5),[],[6],(ra 0 8),[0,1,2,3,4,6,7],(ra 0 10),(ra 0 11),(ra 0 12),(ra 0 13),(ra 0 14)] (ra 10 5) (by kernel_rfl) (by kernel_rfl) (fun (aT:Nat) (v:aj) (G:GH)=>match aT with|0=>v=(aD b1 4)|1=>v=.agg #[.slice pA pn pc,vi x.head.marks.ins,vi x.head.marks.move,.slice dA dn dc,.slice yA yn yc]|2=>∃ p d l,v=.agg #[p,vi x.head.marks.ins,vi x.head.marks.move,d,l]∧gG G x.head p d l|3=>v=(aD b1 9)|4=>v=.slice fA fn fc|5=>av G (.sl 11 (x.flow.map au.dat)) v|6=>v=(aD b1 10)|7=>v=.slice rA rn rc|8=>av G (.sl 6 (x.rows.map aM.dat)) v|9=>v=(aD b1 4)|_=>True) cB H ?_ ?_
 ·clear H;refine aC ?_ ?_ ?_ ?_ (aC ?_ ?_ ?_ ?_ (aC ?_ ?_ (bP rfl) (bP rfl) (bL (bP rfl) (bL (bP rfl) (bL (bP rfl) dw)))))
  ·refine cO [] rfl trivial (by kernel_rfl) cB rfl rfl ?_;intro bF a w G1 hG HT H fin;exact kH H (Rf AA rfl fun _ H=>fin H iJ rfl)
  ·refine cO [(0,3,_)] rfl ⟨fun _ _ h=>h,bB⟩ (by kernel_rfl) cB rfl rfl ?_;intro bF a w G1 hG HT H fin;refine bg jG (cs:=[_,_,_,_,_]) H wn rfl rfl (H.hp.cK 1 rfl rfl) rfl ?_;clear H;intro a H;exact fin H iJ rfl
  ·refine cO [(1,4,_)] rfl ⟨fun _ _ h=>h,bB⟩ (by kernel_rfl) cB rfl rfl ?_;intro bF a w G1 hG HT H fin;refine s_call DT H wn rfl (DN _ _ H.ro x.head _ _ _ _ _ _ _ _ _ (hh.mono hG) (by omega)) rfl ?_;clear H;rintro v5 G5 a w oM sS H;exact fin H sS (oM)
  ·refine cO [] rfl trivial (by kernel_rfl) cB rfl rfl ?_;intro bF a w G1 hG HT H fin;exact kH H (Rf Xn rfl fun _ H=>fin H iJ rfl)
  ·refine cO [(3,6,_)] rfl ⟨fun _ _ h=>h,bB⟩ (by kernel_rfl) cB rfl rfl ?_;intro bF a w G1 hG HT H fin;exact kH H (Ro pG 1 rfl fun _ H=>fin H iJ rfl)
  ·refine cO [(4,7,_)] rfl ⟨fun _ _ h=>h,bB⟩ (by kernel_rfl) cB rfl rfl ?_;intro bF a w G1 hG HT H fin;refine s_call KJ H wn rfl (ih _ _ H.ro x.flow _ (hf.mono hG) (by omega)) rfl ?_;clear H;rintro v8 G8 a w kL nL H;exact fin H nL (kL)
  ·refine cO [] rfl trivial (by kernel_rfl) cB rfl rfl ?_;intro bF a w G1 hG HT H fin;exact kH H (Rf Xo rfl fun _ H=>fin H iJ rfl)
  ·refine cO [(6,9,_)] rfl ⟨fun _ _ h=>h,bB⟩ (by kernel_rfl) cB rfl rfl ?_;intro bF a w G1 hG HT H fin;exact kH H (Ro ND 1 rfl fun _ H=>fin H iJ rfl)
  ·refine cO [(7,10,_)] rfl ⟨fun _ _ h=>h,bB⟩ (by kernel_rfl) cB rfl rfl ?_;intro bF a w G1 hG HT H fin;refine s_call WH H wn rfl (aew _ _ H.ro x.rows _ _ (hr.mono hG) (by omega) (fun y hy=>adT ih hn y (by have:=UN hy;omega))) rfl ?_;clear H;rintro v11 qY a w om jO H;exact fin H jO (om)
  refine cO [] rfl trivial (by kernel_rfl) cB rfl rfl ?_;intro bF a w G1 hG HT H fin;exact kH H (Rf AA rfl fun _ H=>fin H iJ rfl)
 clear H;intro a w G iH H hv;obtain ⟨u5,Ej,oM⟩:=hv 2 5 (by decide) rfl;(try dsimp only at oM);obtain ⟨p5,d5,l5,rfl,vk⟩:=oM;obtain ⟨a1,a2,a3,rfl⟩:=vk.props.form;obtain ⟨a4,a5,a6,rfl⟩:=vk.bU.form;obtain ⟨a7,a8,a9,rfl⟩:=vk.layers.form;have H:=H.jo Ej;obtain ⟨u8,yI,kL⟩:=hv 5 8 (by decide) rfl;(try dsimp only at kL);obtain ⟨A8,n8,c8,rfl⟩:=kL.form;have H:=H.jo yI;obtain ⟨NJ,Bh,om⟩:=hv 8 11 (by decide) rfl;(try dsimp only at om);obtain ⟨A11,n11,c11,rfl⟩:=om.form;have H:=H.jo Bh;have H:=H.aO (hv 9 12 rfl rfl) rfl;clear hv;refine aV jG 1 (vs:=[_,_,_,_,_]) _ H wn rfl rfl rfl rfl rfl rfl rfl rfl ?_;clear H;intro w H;dsimp only [List.set,setRow] at H;refine kH H (Rf Xn rfl ?_);clear H;intro a H;refine aV pG 1 (vs:=[_]) _ H wn rfl rfl rfl rfl rfl rfl rfl rfl ?_;clear H;intro w H;dsimp only [List.set,setRow] at H;refine kH H (Rf Xo rfl ?_);clear H;intro a H;refine aV ND 1 (vs:=[_]) _ H wn rfl rfl rfl rfl rfl rfl rfl rfl ?_;clear H;intro w H;dsimp only [List.set,setRow] at H;refine aG ⟨rfl,?_⟩;refine dG ?_;refine wo ?_;refine bg dR (cs:=[_,_,_,_,_,_,_,_,_,_,_]) H wn rfl rfl (H.hp.cK 1 rfl rfl) rfl ?_;clear H;intro a H;refine aV dR 0 (vs:=[_,_,_,_,_,_,_,_,_,_,_]) _ H wn rfl rfl rfl rfl rfl rfl rfl rfl ?_;clear H;intro w H;dsimp only [List.set,setRow] at H;refine aG ?_;refine dG ?_;refine bV ?_;refine (leave1 H results139 (.cons (rR dR (cs:=[_,_,_,_,_,_,_,_,_,_,_]) H rfl rfl (H.hp.cK 0 rfl rfl)) .nil) ?_).1;exact H.rt ⟨_,rfl,aN.mkItem vk kL om⟩
theorem V6 {n:Nat} (ih:Dm n) (hn:n≤4294967296) {G:GH} {w0:World} (x:au) (hz:bJ x.dat < n+1):EP (.func (.func 139) #[] #[]) w0 G x.dat:=by
 intro G1 w1 cs hm1 hG1 hr;have h:=adD ih hn _ _ hG1 x cs hr hz;have h2:=jq (P:=prog) (caps:=[]) (args:=[.agg cs.toArray]) aeY h;exact h2
theorem Kr:∀ n:Nat,n≤4294967297→Dm n
 | 0,_=>fun _ _ _ _ _ _ h=>absurd h (by omega)
 | n+1,hn=>by
  intro G w0 hG l v hv hz;have ih:=Kr n (by omega);have hl:=wR l;refine eN [(0,_)] func76 rfl ntmps76 rfl rfl hG ?_;refine ak 5 ?_;intro a H;refine s_call WJ H wn rfl (aes _ _ H.ro l _ _ hv (by omega) (fun y hy=>V6 ih (by omega) y (by have:=NV hy;omega))) rfl ?_;clear H;rintro v4 G4 a w hp4 qp H;refine gH 2 H ?_;exact hp4
theorem adW (G:GH) (w0:World) (hG:Hold G w0) (l:List au) (v:aj) (hv:av G (.sl 11 (l.map au.dat)) v) (hz:aZ l≤4294967296) :
  Calls prog 76 #[v] w0 (bD w0 G fun u G'=>av G' (.sl 11 (l.map au.dat)) u):=Kr 4294967297 (by omega) G w0 hG l v hv (by omega)
end
section
open Go.RowKit
section
variable {P:Program} {N:Nat} {D:List Deferred} {w0 w w':World} {F:Nat→Prop} {G0 G G':GH} {L L' Li Lo:OL} {T:List (Nat × aj)} {a a':Act} {Q:Exit→Act→World→Prop}
theorem St.cast (h:St N D w0 F G0 G L T a w) (e:L=L'):St N D w0 F G0 G L' T a w:=e ▸ h
theorem St.assoc {A B C:OL} (h:St N D w0 F G0 G ((A++B)++C) T a w):St N D w0 F G0 G (A++(B++C)) T a w:=h.cast (gy _ _ _)
theorem St.un {A B C:OL} (h:St N D w0 F G0 G (A++(B++C)) T a w):St N D w0 F G0 G ((A++B)++C) T a w:=h.cast (gy _ _ _).symm
theorem St.F8 {A B:OL} (h:St N D w0 F G0 G (A++B) T a w):St N D w0 F G0 G (A++(B++[])) T a w:=h.cast (by rw [lY])
theorem Aq {ι κ:Type} {Lc:OL} {yx:Operand} {ps:List Nat} {assign body:Code} {gf:FuncId} {caps:List aj} {xs:List AP} {Gi:GH}
  (Lv:Nat→ι→OL) (Lt:Nat→ι→OL) (inv:Nat→ι→GH→Prop) (cx:κ→Code) (Lx Dz:κ→OL) (yK:κ→GH→Prop) (i0:ι)
  (H:St N D w0 F G0 G (Lc++Lv 0 i0++Lt 0 i0) T a w) (hg:ev T yx=some (.func (.func gf) #[] caps.toArray)) (en:∀ args w,(callFunc gf args).run P w=.ok (.enter gf args) w) (hit:Iter P Gi (.func (.func gf) #[] caps.toArray) xs) (hGi:∀ b o,Gi b=some o→G b=some o)
  (hps:ps.all (Nat.blt · N)=true) (hlen:∀ k args g,uq xs k args g→args.length=ps.length) (hinv:∀ k i (G G':GH),(∀ b o,G b=some o→G' b=some o)→inv k i G→inv k i G') (Rt:∀ x (G G':GH),(∀ b o,G b=some o→G' b=some o)→yK x G→yK x G') (h0:inv 0 i0 G)
  (round:∀ (l:Nat) (tQ qH:Obj) (bk:OL) (k:Nat) (args:List aj) (i:ι) (G1:GH) (w1:World) (F1:Nat→Prop) (B1:Code→Exit→Act→World→Prop) (a1:Act),uq xs k args G1→(∀ b o,G b=some o→G1 b=some o)→inv k i G1 →
   (∀ T' G2 L2 a2 w2 c,St N [] w1 F1 G1 G2 ((l,tQ) :: L2) T' a2 w2→(∀ w3,St N [] w1 F1 G1 G2 ((l,qH) :: L2) T' a2 w3→WP (some l) P c (B1 c) a2 w3)→Exit.then (fun a2 w2=>∃ w3,(Instr.beginRound l).run P w2=.ok () w3∧c.wpIn (FW (some l)) 0 P (B1 c) a2 w3) (fun _ _ _=>False) .normal a2 w2) →
   (∀ i' T' G2 a2 w2 c,St N [] w1 F1 G1 G2 ((l,qH) :: (Lc++Lv (k+1) i'++(bk++Lt (k+1) i'))) T' a2 w2→inv (k+1) i' G2→B1 c .normal a2 w2) →
   (∀ x T' G2 a2 w2 c,St N [] w1 F1 G1 G2 ((l,qH) :: (Lc++Lx x++(bk++Dz x))) T' a2 w2→yK x G2→(cx x=.ret→B1 c .ret a2 w2)∧∀ n,cx x=.exit n→B1 c (.exit n) a2 w2) →
   St N [] w1 F1 G1 G1 ((l,tQ) :: (Lc++Lv k i++(bk++Lt k i))) (qm ps args T) a1 w1 →
   WP (some l) P assign (Exit.then (fun a2 w2=>∃ w3,(Instr.beginRound l).run P w2=.ok () w3∧body.wpIn (FW (some l)) 0 P (B1 body) a2 w3) (fun _ _ _=>False)) a1 w1)
  (hdone:∀ Dk i G1 a1 w1,(∀ b o,G b=some o→G1 b=some o)→inv xs.length i G1→St N ({ target:=.collected Dk,args:=#[] } :: D) w0 F G0 G1 ((Dk,.deferred (some [])) :: (Lc++Lv xs.length i++Lt xs.length i)) T a1 w1→Q .normal a1 w1)
  (hstop:∀ Dk x G1 a1 w1,(∀ b o,G b=some o→G1 b=some o)→yK x G1→St N ({ target:=.collected Dk,args:=#[] } :: D) w0 F G0 G1 ((Dk,.deferred (some [])) :: (Lc++Lx x++Dz x)) T a1 w1→WP none P (cx x) Q a1 w1) :
  WP none P (.rangeFunc yx ps.toArray assign body) Q a w:=by
 refine acS (J:=fun k g L=>∃ i,L=Lc++Lv k i++Lt k i∧inv k i g) (Jx:=fun c g L=>∃ x,c=cx x∧L=Lc++Lx x++Dz x∧yK x g) H hg en hit hGi hps hlen (fun k G G' L hm ⟨i,e,h⟩=>⟨i,e,hinv k i G G' hm h⟩) (fun c G G' L hm ⟨x,e1,e2,h⟩=>⟨x,e1,e2,Rt x G G' hm h⟩) ⟨i0,rfl,h0⟩ ?_ ?_ ?_
 ·rintro l q bk k args G1 L1 w1 a1 hk hm ⟨i,rfl,hi⟩ H1
  have pm:∀ A B:OL,(bk++(A++B)).Perm (A++(bk++B)):=fun A B=>by
   rw [← gy,← gy]
   exact List.Perm.append_right B rD
  refine round l (q.at .ready none) (q.at .busy none) bk k args i G1 w1 _ (fun _=>roundPost P l _) a1 hk hm hi ?_ ?_ ?_ (H1.perm (List.Perm.cons _ (pm _ _)))
  ·intro T' G2 L2 a2 w2 c H2 h
   exact VP H2 h
  ·intro i' T' G2 a2 w2 c H2 h2
   exact Gm none (H2.perm (List.Perm.cons _ (pm _ _).symm)) ⟨_,rfl,i',rfl,h2⟩
  ·intro x T' G2 a2 w2 c H2 h2
   have H3:=H2.perm (List.Perm.cons _ (pm _ _).symm)
   refine ⟨fun e=>?_,fun n e=>?_⟩
   ·exact Gm (some .ret) H3 ⟨_,_,rfl,x,e.symm,rfl,h2⟩
   ·exact Gm (some (.exit n)) H3 ⟨_,_,rfl,x,e.symm,rfl,h2⟩
 ·rintro Dk G1 L1 a1 w1 hm ⟨i,rfl,hi⟩ H1
  exact hdone Dk i G1 a1 w1 hm hi H1
 ·rintro Dk c G1 L1 a1 w1 hm ⟨x,rfl,rfl,hx⟩ H1
  exact hstop Dk x G1 a1 w1 hm hx H1
def F6 (ds:List Nat):List Deferred:=ds.map fun b=>{ target:=.collected b,args:=#[] }
def jU (ds:List Nat):OL:=ds.map fun b=>(b,.deferred (some []))
theorem Ko {r:Option Nat} {ι:Type} {c:Code} {Tc:List (Nat × aj)} {Lc:List (Nat × Obj)} (Dv:ι→List Deferred) (Tv:ι→List (Nat × aj)) (Lv:ι→List (Nat × Obj)) (Gv:ι→GH) (Pr:ι→Prop) (m:ι→Nat) (i0:ι)
  (H:St N (Dv i0) w0 F G0 (Gv i0) (Lc++Lv i0) (Tv i0++Tc) a w) (hP:Pr i0)
  (round:∀ i a w,Pr i→St N (Dv i) w0 F G0 (Gv i) (Lc++Lv i) (Tv i++Tc) a w →
   WP r P c (Exit.then (fun a' w'=>∃ i',(St N (Dv i') w0 F G0 (Gv i') (Lc++Lv i') (Tv i'++Tc) a' w'∧Pr i')∧m i' < m i) Q) a w):WP r P (.loop c) Q a w :=
 VW (fun i a w=>St N (Dv i) w0 F G0 (Gv i) (Lc++Lv i) (Tv i++Tc) a w∧Pr i) m i0 ⟨H,hP⟩ fun i a w hI=>round i a w hI.2 hI.1
theorem Es {ι:Type} {Dv:ι→List Deferred} {Tc:List (Nat × aj)} {Lc:List (Nat × Obj)} {Tv:ι→List (Nat × aj)} {Lv:ι→List (Nat × Obj)} {Gv:ι→GH} {Pr:ι→Prop} {m:ι→Nat} {i:ι} (i':ι)
  (H:St N (Dv i') w0 F G0 (Gv i') (Lc++Lv i') (Tv i'++Tc) a w) (hP:Pr i') (hm:m i' < m i) :
  ∃ i',(St N (Dv i') w0 F G0 (Gv i') (Lc++Lv i') (Tv i'++Tc) a w∧Pr i')∧m i' < m i:=⟨i',⟨H,hP⟩,hm⟩
theorem xE {fn:Func} {R:Ending→World→Prop} {Lh Lt:OL}:∀ (ds:List Nat) {a:Act} {w:World},St N (F6 ds) w0 F G0 G (Lh++(jU ds++Lt)) T a w →
  (∀ a' w',St N [] w0 F G0 G (Lh++Lt) T a' w'→bodyPostM (FW none) 0 P fn R .ret a' w')→bodyPostM (FW none) 0 P fn R .ret a w∧bodyPostM (FW none) 0 P fn R .normal a w
 | [],a,w,H,k=>⟨k a w H,k a w H⟩
 | b :: ds,a,w,H,k=>by
  refine wF (b:=b) (D:=F6 ds) H Lh.length (by rw [qF (bN _),Nat.sub_self];rfl) fun a' w' H'=>?_
  refine (xE ds (Lh:=Lh) (Lt:=Lt) (H'.cast ?_) k).1
  rw [List.eraseIdx_append_of_length_le (bN _),Nat.sub_self];rfl
end
end
section
open Go.RowKit
def n1 (x:au):Nat:=if wP x=0 then fU x else 0
theorem av.len {G:GH} {sz:Nat} {rows:List (List Dat)} {A:Option Addr} {n c:Nat} (h:av G (.sl sz rows) (.slice A n c)):n=rows.length:=h.cells.1
theorem av.at_ {G:GH} {sz:Nat} {rows:List (List Dat)} {A:Option Addr} {n c:Nat} (h:av G (.sl sz rows) (.slice A n c)):∀ k r,rows[k]?=some r→∃ b o cs,A=some ⟨b,o,none⟩∧cs.length=sz∧(∀ j u,cs[j]?=some u→aF G b (o+k*sz+j)=some u)∧aN G r cs:=by
 obtain ⟨A2,c2,e,_,_,hg⟩:=h.slice
 cases e;exact hg
theorem EC {G:GH} {l:List aM} {A:Option Addr} {k:Nat} (hk:k < l.length) (hg:∀ k r,(l.map aM.dat)[k]?=some r→∃ b o cs,A=some ⟨b,o,none⟩∧cs.length=6∧(∀ j u,cs[j]?=some u→aF G b (o+k*6+j)=some u)∧aN G r cs) :
  ∃ b o pA pn pc dA dn dc yA yn yc cA cn cc,A=some ⟨b,o,none⟩∧(∀ j u,[.slice pA pn pc,vi l[k].head.marks.ins,vi l[k].head.marks.move,.slice dA dn dc,.slice yA yn yc,.slice cA cn cc][j]?=some u→aF G b (o+k*6+j)=some u) ∧
   gG G l[k].head (.slice pA pn pc) (.slice dA dn dc) (.slice yA yn yc)∧av G (.sl 7 (l[k].cells.map aL.dat)) (.slice cA cn cc):=by
 obtain ⟨b,o,cs,h1,h2,h3,h4⟩:=hg k l[k].dat (by simp [hk]);obtain ⟨pA,pn,pc,dA,dn,dc,yA,yn,yc,cA,cn,cc,rfl,h5,h6⟩:=h4.row;exact ⟨b,o,pA,pn,pc,dA,dn,dc,yA,yn,yc,cA,cn,cc,h1,h3,h5,h6⟩
theorem DL {G:GH} {l:List aL} {A:Option Addr} {k:Nat} (hk:k < l.length) (hg:∀ k r,(l.map aL.dat)[k]?=some r→∃ b o cs,A=some ⟨b,o,none⟩∧cs.length=7∧(∀ j u,cs[j]?=some u→aF G b (o+k*7+j)=some u)∧aN G r cs) :
  ∃ b o pA pn pc dA dn dc yA yn yc fA fn fc,A=some ⟨b,o,none⟩∧(∀ j u,[vi l[k].id,.slice pA pn pc,vi l[k].head.marks.ins,vi l[k].head.marks.move,.slice dA dn dc,.slice yA yn yc,.slice fA fn fc][j]?=some u→aF G b (o+k*7+j)=some u) ∧
   gG G l[k].head (.slice pA pn pc) (.slice dA dn dc) (.slice yA yn yc)∧av G (.sl 11 (l[k].flow.map au.dat)) (.slice fA fn fc):=by
 obtain ⟨b,o,cs,h1,h2,h3,h4⟩:=hg k l[k].dat (by simp [hk]);obtain ⟨pA,pn,pc,dA,dn,dc,yA,yn,yc,fA,fn,fc,rfl,h5,h6⟩:=h4.cell;exact ⟨b,o,pA,pn,pc,dA,dn,dc,yA,yn,yc,fA,fn,fc,h1,h3,h5,h6⟩
end
section
open Go.RowKit
structure jy where
 (f p d y r s1 s2 s3 s4:Option Addr × Nat × Nat)
 (ins move:Int)
abbrev aS (x:Option Addr × Nat × Nat):aj:=.slice x.1 x.2.1 x.2.2
abbrev jy.cells (D:jy):List aj:=[aS D.f,aS D.p,vi D.ins,vi D.move,aS D.d,aS D.y,aS D.r,aS D.s1,aS D.s2,aS D.s3,aS D.s4]
abbrev jy.val (D:jy):aj:=.agg D.cells.toArray
end
section
open Go.RowKit
theorem Px:∀ args w,(callFunc 161 args).run prog w=.ok (.enter 161 args) w:=enters func161 rfl (by kernel_rfl)
instance NG:Ty prog 90 3 16 [.bool false,.bool false,.int .i64 0] true:=⟨by kernel_rfl,by kernel_rfl⟩
theorem aoE:ru prog 92 [(0,1),(1,3)] [.slice none 0 0,.bool false,.bool false,.int .i64 0]:=⟨by kernel_rfl,by kernel_rfl⟩
instance ahj:dB prog 68 2 2:=⟨by kernel_rfl⟩
instance:dB prog 90 2 2:=⟨by kernel_rfl⟩
theorem Db:ru prog 90 [(0,1),(1,1),(2,1)] [.bool false,.bool false,.int .i64 0]:=⟨by kernel_rfl,by kernel_rfl⟩
instance:dB prog 90 1 1:=⟨by kernel_rfl⟩
instance vI:Ty prog 4 1 1 [.bool false] false:=⟨by kernel_rfl,by kernel_rfl⟩
instance:dB prog 38 0 0:=⟨by kernel_rfl⟩
theorem aez:∀ args w,(callFunc 100 args).run prog w=.ok (.enter 100 args) w:=enters func100 rfl (by kernel_rfl)
theorem KH:∀ args w,(callFunc 160 args).run prog w=.ok (.enter 160 args) w:=enters func160 rfl (by kernel_rfl)
structure fJ where
 id:Int
 items:List au
 body:Bool
 note:Bool
 tables:Int
mutual
def uh (note:Bool) (t:Int):au→List fJ
 | .mk k _ i _ _ f r=>if k=6 then ⟨i,f,false,true,t⟩ :: gQ true t f else if k=7 then mI note t r else []
def gQ (note:Bool) (t:Int):List au→List fJ
 | []=>[]
 | x :: l=>uh note t x++gQ note t l
def mI (note:Bool) (t:Int):List aM→List fJ
 | []=>[]
 | r :: l=>uj note t r++mI note t l
def uj (note:Bool) (t:Int):aM→List fJ
 | .mk _ cs=>mU note t cs
def mU (note:Bool) (t:Int):List aL→List fJ
 | []=>[]
 | c :: l=>ug note t c++mU note t l
def ug (note:Bool) (t:Int):aL→List fJ
 | .mk i _ f=>⟨i,f,false,note,t+1⟩ :: gQ note (t+1) f
end
theorem abu (note:Bool) (t:Int) (x:au):uh note t x=if x.kind=6 then ⟨x.id,x.flow,false,true,t⟩ :: gQ true t x.flow else if x.kind=7 then mI note t x.rows else []:=by cases x;rw [uh];rfl
theorem abv (note:Bool) (t:Int) (x:aM):uj note t x=mU note t x.cells:=by cases x;rw [uj];rfl
theorem abq (note:Bool) (t:Int) (x:aL):ug note t x=⟨x.id,x.flow,false,note,t+1⟩ :: gQ note (t+1) x.flow:=by cases x;rw [ug];rfl
def AB (a:fJ):AP:=fun args g=>∃ v,args=[vi a.id,.agg #[v,.bool a.body,.bool a.note,vi a.tables]]∧av g (.sl 11 (a.items.map au.dat)) v
def OA (n:Nat):Prop:=∀ (fv:aj) (Gi:GH) (xs:List AP) (J:Nat→GH→OL→Prop) (Jx:GH→OL→Prop) (G:GH) (L:OL) (w0:World) (j:Nat) (l:List au) (id:Int) (body note:Bool) (t:Int) (v:aj),
 (∀ b o,Gi b=some o→G b=some o)→BK prog fv Gi xs J Jx→BO J→DF Jx→J j G L→fC G L w0→av G (.sl 11 (l.map au.dat)) v→aZ l < n→0≤t→t+aZ l≤4294967296→(∀ i a,(⟨id,l,body,note,t⟩ :: gQ note t l)[i]?=some a→xs[j+i]?=some (AB a)) →
 Calls prog 161 #[vi id,v,.agg #[.bool body,.bool note,vi t],fv] w0 (eP w0 G L fun u G' L'=>∃ b,u=.bool b∧(b=true→J (j+((gQ note t l).length+1)) G' L')∧(b=false→Jx G' L'))
theorem apA {n:Nat} (ih:OA n) (hn:n≤4294967296):OA (n+1):=by
 intro fv Gi xs J Jx G L w0 j0 l id body note t v hGi hcb jT hJx hJ0 hO hv hz ht0 ht1 hx0;obtain ⟨A,c,rfl,hc1,hc2,hg⟩:=hv.slice;rw [bO] at *;have hll:=wR l;have RO:Now xs AB J (j0+((gQ note t l).length+1)) j0 (⟨id,l,body,note,t⟩ :: gQ note t l) G L:=⟨hJ0,hx0,rfl⟩;refine gB (N:=74) (T:=[(0,_),(1,_),(2,_),(3,_)]) func161 rfl ntmps161 rfl rfl hO ?_;refine ak 1 ?_;intro a H;refine dU (cs:=[_,_,_]) H wn rfl rfl rfl ?_;clear H;intro b6 a w hb6 H;refine aH 7 H ?_;clear H;intro a H;refine bg NG (cs:=[_,_,_]) H wn rfl rfl (H.hp.cK 0 rfl rfl) rfl ?_;clear H;intro a H;refine jY aoE [_,_,_,_] H wn rfl rfl rfl rfl ?_;clear H;intro a H;refine pq (Li:=[_]) (L:=L) H wn rfl rfl (hcb _ _ _ _ _ ⟨_,RO.head,_,rfl,hv⟩ hGi RO.now (Hp.owns (Li:=[_]) H.hp)) rfl ?_;clear H;rintro v20 GX Ht a w ⟨b20,rfl,hb1,hb2⟩ FP H;refine gX 2 H ?_ ?_ <;> clear H
 ·intro h21
  try have qy:=dT h21
  refine ak 3 ?_;intro a H;refine lr H results161 rfl ?_
  first
   | exact H.hp.bZ (L':=Ht) (by repeat (first|exact bX _|apply List.Sublist.cons)) ⟨_,rfl,fun e=>(by cases e),fun _=>hb2 (by simpa using h21)⟩
   | exact H.hp.bZ (L':=Dw) (by repeat (first|exact bX _|apply List.Sublist.cons)) ⟨_,rfl,fun e=>(by cases e),fun _=>hb4 (by simpa using mJ)⟩
   | exact H.hp.bZ (L':=Hy) (by repeat (first|exact bX _|apply List.Sublist.cons)) ⟨_,rfl,fun e=>(by cases e),fun _=>hb6 (by simpa using mK)⟩
   | exact H.hp.bZ (L':=Lt) (by repeat (first|exact bX _|apply List.Sublist.cons)) ⟨_,rfl,fun _=>(by rw [fM (by omega),gQ] at bG;have:=bG.len;simp only [List.length_nil,kI] at this;rw [← this];exact bG.now),fun e=>(by cases e)⟩
 intro h21
 try have qy:=dF h21
 refine ak 8 ?_;intro a H;refine eO (ι:=Nat × Nat × OL × GH) (Tc:=[(3,_),(6,_),(22,_),(23,_)]) (Lc:=[(_,_)]) (fun gh=>[(24,vi gh.1)]) (fun gh=>[]++gh.2.2.1) (fun gh=>gh.2.2.2) (fun gh=>gh.1≤l.length∧(∀ b o,G b=some o→gh.2.2.2 b=some o)∧Now xs AB J (j0+((gQ note t l).length+1)) gh.2.1 (gQ note t (l.drop gh.1)) gh.2.2.2 gh.2.2.1) (fun gh=>l.length - gh.1) ((0,j0+1,Ht,GX)) sB ?_ ?_
 ·exact ⟨by omega,FP,RO.step (hb1 (by simpa using h21))⟩
 clear H;rintro ⟨k,j1,Lt,g⟩ a w hI H;dsimp only at hI H;obtain ⟨hk,hgm,bG⟩:=hI;dsimp only [lca,aR] at H;refine dN 4 H ?_ ?_ <;> clear H
 ·intro p25
  have hk2:k < l.length:=by omega
  obtain ⟨b,o,pA,pn,pc,dA,dn,dc,yA,yn,yc,fA,fn,fc,rA,rn,rc,rfl,hrow,hhd,hfl,hrw⟩:=zx hk2 hg;replace hrow:=fun j u hj=>aJ hgm (hrow j u hj);have hrn:=hrw.len;rw [bO] at hrn;subst hrn;have hrs:=BJ l[k].rows;have hsz1:=JL hk2;rw [lW hk2] at bG
  simp only [gQ,abu] at bG
  refine ak 5 ?_;intro a H;refine bg dR (cs:=[_,_,_,_,_,_,_,_,_,_,_]) H wn rfl rfl (fun j v hj=>H.hp.aF (hrow j v hj)) rfl ?_;clear H;intro a H;refine dx dR H wn rfl ?_;clear H;intro b10 a w LJ H;refine aV dR 0 (vs:=[_,_,_,_,_,_,_,_,_,_,_]) _ H wn rfl rfl rfl rfl rfl rfl rfl rfl ?_;clear H;intro w H;dsimp only [List.set,setRow] at H;refine gW 10 H ?_ ?_ <;> clear H
  ·intro p30
   rw [ay p30] at bG;refine ak 7 ?_;intro a H;refine jY Db [_,_,_] H wn rfl rfl rfl rfl ?_;clear H;refine ak 1 ?_;intro a H;refine fB Px (Li:=[_,_]) (L:=Lt) H wn rfl (ih fv Gi xs J Jx _ _ _ j1 l[k].flow l[k].id false true t _ (fun b o h=>hgm b o (hGi b o h)) hcb jT hJx bG.now (Hp.owns (Li:=[_,_]) H.hp) (hfl.mono hgm) (by omega) ht0 (by omega) bG.part) rfl ?_;clear H;rintro v40 GY Dw a w ⟨b40,rfl,hb3,hb4⟩ Bb H;refine gX 2 H ?_ ?_ <;> clear H
   ·intro mJ
    try have p41:=dT mJ
    refine ak 3 ?_;intro a H;refine lr H results161 rfl ?_
    first
     | exact H.hp.bZ (L':=Ht) (by repeat (first|exact bX _|apply List.Sublist.cons)) ⟨_,rfl,fun e=>(by cases e),fun _=>hb2 (by simpa using h21)⟩
     | exact H.hp.bZ (L':=Dw) (by repeat (first|exact bX _|apply List.Sublist.cons)) ⟨_,rfl,fun e=>(by cases e),fun _=>hb4 (by simpa using mJ)⟩
     | exact H.hp.bZ (L':=Hy) (by repeat (first|exact bX _|apply List.Sublist.cons)) ⟨_,rfl,fun e=>(by cases e),fun _=>hb6 (by simpa using mK)⟩
     | exact H.hp.bZ (L':=Lt) (by repeat (first|exact bX _|apply List.Sublist.cons)) ⟨_,rfl,fun _=>(by rw [fM (by omega),gQ] at bG;have:=bG.len;simp only [List.length_nil,kI] at this;rw [← this];exact bG.now),fun e=>(by cases e)⟩
   intro mJ
   try have p41:=dF mJ
   refine ak 4 ?_;intro a H;refine aG ?_;refine dH ((k+1,j1+((gQ true t l[k].flow).length+1),Dw,GY)) (by exact (H.cu (Pl:=[_,_]) (bS:=[_]) [1] (by decide) rfl).sub ⟨rfl,rfl,rfl,rfl,rfl,bB⟩) ?_ ?_
   ·(try dsimp only);exact ⟨by omega,fun b o h=>Bb b o (hgm b o h),bG.jump (hb3 (by simpa using mJ))⟩
   first|omega|(dsimp only;omega)
  intro p30
  refine goB 4 ?_ ?_
  ·intro p42
   rw [ah p30,ay p42] at bG;refine ak 7 ?_;intro a H;refine eO (ι:=Nat × Nat × OL × GH) (Tc:=[(3,_),(6,_),(22,_),(23,_),(24,_),(45,_),(46,_)]) (Lc:=[(_,_),(_,_)]) (fun gh=>[(47,vi gh.1)]) (fun gh=>[]++gh.2.2.1) (fun gh=>gh.2.2.2) (fun gh=>gh.1≤l[k].rows.length∧(∀ b o,G b=some o→gh.2.2.2 b=some o)∧Now xs AB J (j0+((gQ note t l).length+1)) gh.2.1 (mI note t (l[k].rows.drop gh.1)++gQ note t (l.drop (k+1))) gh.2.2.2 gh.2.2.1) (fun gh=>l[k].rows.length - gh.1) ((0,j1,Lt,g)) sB ?_ ?_
   ·exact ⟨by omega,hgm,bG⟩
   clear H;rintro ⟨rk,j3,Lt3,g3⟩ a w hI H;dsimp only at hI H;obtain ⟨RX,vg,oL⟩:=hI;dsimp only [lca,aR] at H;refine dN 4 H ?_ ?_ <;> clear H
   ·intro p48
    have hk3:rk < l[k].rows.length:=by omega
    obtain ⟨b2,o2,qA,qn,qc,eA,en,ec,zA,zn,zc,cA,cn,cc,rfl,hrow,Bf,hcl⟩:=EC hk3 hrw.at_;replace hrow:=fun j u hj=>aJ vg (hrow j u hj);have hcn:=hcl.len;rw [bO] at hcn;subst hcn;have hsz2:=JM hk3;have hcs:=BH l[k].rows[rk].cells;rw [lW hk3] at oL
    simp only [mI,abv,gy] at oL
    refine ak 5 ?_;intro a H;refine bg iU (cs:=[_,_,_,_,_,_]) H wn rfl rfl (fun j v hj=>H.hp.aF (hrow j v hj)) rfl ?_;clear H;intro a H;refine dx iU H wn rfl ?_;clear H;intro b12 a w D5 H;refine aV iU 0 (vs:=[_,_,_,_,_,_]) _ H wn rfl rfl rfl rfl rfl rfl rfl rfl ?_;clear H;intro w H;dsimp only [List.set,setRow] at H;refine aH 8 H ?_;clear H;intro a H;refine eO (ι:=Nat × Nat × OL × GH) (Tc:=[(3,_),(6,_),(22,_),(23,_),(24,_),(45,_),(46,_),(47,_),(52,_),(53,_)]) (Lc:=[(_,_),(_,_),(_,_)]) (fun gh=>[(54,vi gh.1)]) (fun gh=>[]++gh.2.2.1) (fun gh=>gh.2.2.2) (fun gh=>gh.1≤l[k].rows[rk].cells.length∧(∀ b o,G b=some o→gh.2.2.2 b=some o)∧Now xs AB J (j0+((gQ note t l).length+1)) gh.2.1 (mU note t (l[k].rows[rk].cells.drop gh.1)++(mI note t (l[k].rows.drop (rk+1))++gQ note t (l.drop (k+1)))) gh.2.2.2 gh.2.2.1) (fun gh=>l[k].rows[rk].cells.length - gh.1) ((0,j3,Lt3,g3)) sB ?_ ?_
    ·exact ⟨by omega,vg,oL⟩
    clear H;rintro ⟨ck,j4,Lt4,g4⟩ a w hI H;dsimp only at hI H;obtain ⟨hck,xk,ng⟩:=hI;dsimp only [lca,aR] at H;refine dN 4 H ?_ ?_ <;> clear H
    ·intro p55
     have hk4:ck < l[k].rows[rk].cells.length:=by omega
     obtain ⟨b3,o3,sA,sn,sc,tA,tn,tc,uA,un,uc,gA,gn,gc,rfl,hrow,hch,hcf⟩:=DL hk4 hcl.at_;replace hrow:=fun j u hj=>aJ xk (hrow j u hj);have Ml:=JK hk4;rw [lW hk4] at ng
     simp only [mU,abq,gy] at ng
     refine ak 5 ?_;intro a H;refine bg iw (cs:=[_,_,_,_,_,_,_]) H wn rfl rfl (fun j v hj=>H.hp.aF (hrow j v hj)) rfl ?_;clear H;intro a H;refine dx iw H wn rfl ?_;clear H;intro b14 a w QU H;refine aV iw 0 (vs:=[_,_,_,_,_,_,_]) _ H wn rfl rfl rfl rfl rfl rfl rfl rfl ?_;clear H;intro w H;dsimp only [List.set,setRow] at H;refine aH 11 H ?_;clear H;intro a H;refine jY Db [_,_,_] H wn rfl rfl rfl rfl ?_;clear H;refine ak 1 ?_;intro a H;refine fB Px (Li:=[_,_,_,_]) (L:=Lt4) H wn rfl (ih fv Gi xs J Jx _ _ _ j4 l[k].rows[rk].cells[ck].flow l[k].rows[rk].cells[ck].id false note (t+1) _ (fun b o h=>xk b o (hGi b o h)) hcb jT hJx ng.now (Hp.owns (Li:=[_,_,_,_]) H.hp) (hcf.mono xk) (by omega) (by omega) (by omega) ng.part) rfl ?_;clear H;rintro v69 G69 Hy a w ⟨b69,rfl,hb5,hb6⟩ aji H;refine gX 2 H ?_ ?_ <;> clear H
     ·intro mK
      try have p70:=dT mK
      refine ak 3 ?_;intro a H;refine lr H results161 rfl ?_
      first
       | exact H.hp.bZ (L':=Ht) (by repeat (first|exact bX _|apply List.Sublist.cons)) ⟨_,rfl,fun e=>(by cases e),fun _=>hb2 (by simpa using h21)⟩
       | exact H.hp.bZ (L':=Dw) (by repeat (first|exact bX _|apply List.Sublist.cons)) ⟨_,rfl,fun e=>(by cases e),fun _=>hb4 (by simpa using mJ)⟩
       | exact H.hp.bZ (L':=Hy) (by repeat (first|exact bX _|apply List.Sublist.cons)) ⟨_,rfl,fun e=>(by cases e),fun _=>hb6 (by simpa using mK)⟩
       | exact H.hp.bZ (L':=Lt) (by repeat (first|exact bX _|apply List.Sublist.cons)) ⟨_,rfl,fun _=>(by rw [fM (by omega),gQ] at bG;have:=bG.len;simp only [List.length_nil,kI] at this;rw [← this];exact bG.now),fun e=>(by cases e)⟩
     intro mK
     try have p70:=dF mK
     refine ak 4 ?_;intro a H;refine aG ?_;refine dH ((ck+1,j4+((gQ note (t+1) l[k].rows[rk].cells[ck].flow).length+1),Hy,G69)) (by exact (H.cu (Pl:=[_,_,_,_]) (bS:=[_,_,_]) [1,2,3] (by decide) rfl).sub ⟨rfl,rfl,rfl,rfl,rfl,rfl,rfl,rfl,rfl,rfl,rfl,bB⟩) ?_ ?_
     ·(try dsimp only);exact ⟨by omega,fun b o h=>aji b o (xk b o h),ng.jump (hb5 (by simpa using mK))⟩
     first|omega|(dsimp only;omega)
    intro p55
    refine ak 4 ?_;intro a H;refine aG ?_;refine dH ((rk+1,j4,Lt4,g4)) (by exact (H.cu (Pl:=[_,_,_]) (bS:=[_,_]) [1,2] (by decide) rfl).sub ⟨rfl,rfl,rfl,rfl,rfl,rfl,rfl,rfl,bB⟩) ?_ ?_
    ·(try dsimp only);exact ⟨by omega,xk,by rw [fM (by omega),mU,iD] at ng;exact ng⟩
    first|omega|(dsimp only;omega)
   intro p48
   refine ak 4 ?_;intro a H;refine aG ?_;refine dH ((k+1,j3,Lt3,g3)) (by exact (H.cu (Pl:=[_,_]) (bS:=[_]) [1] (by decide) rfl).sub ⟨rfl,rfl,rfl,rfl,rfl,bB⟩) ?_ ?_
   ·(try dsimp only);exact ⟨by omega,vg,by rw [fM (by omega),mI,iD] at oL;exact oL⟩
   first|omega|(dsimp only;omega)
  intro p42
  refine ak 4 ?_;intro a H;refine aG ?_;refine dH ((k+1,j1,Lt,g)) (by exact (H.cu (Pl:=[_,_]) (bS:=[_]) [1] (by decide) rfl).sub ⟨rfl,rfl,rfl,rfl,rfl,bB⟩) ?_ ?_
  ·(try dsimp only);exact ⟨by omega,hgm,by rw [ah p30,ah p42,iD] at bG;exact bG⟩
  first|omega|(dsimp only;omega)
 intro p25
 refine ak 4 ?_;intro a H;refine lr H results161 rfl ?_
 first
  | exact H.hp.bZ (L':=Ht) (by repeat (first|exact bX _|apply List.Sublist.cons)) ⟨_,rfl,fun e=>(by cases e),fun _=>hb2 (by simpa using h21)⟩
  | exact H.hp.bZ (L':=Dw) (by repeat (first|exact bX _|apply List.Sublist.cons)) ⟨_,rfl,fun e=>(by cases e),fun _=>hb4 (by simpa using mJ)⟩
  | exact H.hp.bZ (L':=Hy) (by repeat (first|exact bX _|apply List.Sublist.cons)) ⟨_,rfl,fun e=>(by cases e),fun _=>hb6 (by simpa using mK)⟩
  | exact H.hp.bZ (L':=Lt) (by repeat (first|exact bX _|apply List.Sublist.cons)) ⟨_,rfl,fun _=>(by rw [fM (by omega),gQ] at bG;have:=bG.len;simp only [List.length_nil,kI] at this;rw [← this];exact bG.now),fun e=>(by cases e)⟩
theorem aby:∀ n:Nat,n≤4294967297→OA n
 | 0,_=>fun _ _ _ _ _ _ _ _ _ _ _ _ _ _ _ _ _ _ _ _ _ _ h=>absurd h (by omega)
 | n+1,hn=>apA (aby n (by omega)) (by omega)
def eY (l:List au):List fJ:=⟨0,l,true,false,0⟩ :: gQ false 0 l
theorem ahA {G:GH} {ba bl bp:Nat} {l:List au} {v:aj} {id t:Int} {body note:Bool} (h1:aF G ba 0=some (vi id)) (h2:aF G bl 0=some v) (h3:G bp=some (.cells #[.bool body,.bool note,vi t] 90 (0,0))) (hv:av G (.sl 11 (l.map au.dat)) v) (hz:aZ l≤4294967296) (ht0:0≤t) (ht1:t+aZ l≤4294967296) :
  Iter prog G (.func (.func 160) #[] #[(aD ba 0),(aD bl 0),(aD bp 0)]) ((⟨id,l,body,note,t⟩ :: gQ note t l).map AB):=by
 intro J Jx fv G1 L w0 A9 hGi jT hJx hJ hO hcb;refine jq (caps:=[(aD ba 0),(aD bl 0),(aD bp 0)]) KH ?_;replace h1:=aJ hGi h1;replace h2:=aJ hGi h2
 have hrow:∀ j u,[.bool body,.bool note,vi t][j]?=some u→aF G1 bp (0+j)=some u:=by
  intro j u hj;refine aJ hGi ?_
  unfold aF;rw [h3];simpa using hj
 refine gB (N:=10) (T:=[(0,_),(1,_),(2,_),(3,_)]) func160 rfl ntmps160 rfl rfl hO ?_;refine ak 3 ?_;intro a H;refine bg NG (cs:=[_,_,_]) H wn rfl rfl (fun j v hj=>H.hp.aF (hrow j v hj)) rfl ?_;clear H;refine ak 1 ?_;intro a H;refine fB Px (Li:=[]) (L:=L) H wn rfl (aby 4294967297 (by omega) _ G1 _ J Jx G1 _ _ 0 l id body note t _ (fun _ _ h=>h) hcb jT hJx hJ (Hp.owns (Li:=[]) H.hp) (hv.mono hGi) (by omega) ht0 ht1 (fun i a h=>by rw [fQ,nE,h];rfl)) rfl ?_;clear H;rintro v9 G9 L9 a w ⟨b9,rfl,h1,h2⟩ wB H;refine aG ?_;refine (leave0 H results160 ?_).2
 cases b9
 ·exact H.hp.cZ (.inr (h2 rfl))
 exact H.hp.cZ (.inl (by simpa using h1 rfl))
theorem ahB (G:GH) (w0:World) (hG:Hold G w0) (l:List au) (v:aj) (id t:Int) (body note:Bool) (hv:av G (.sl 11 (l.map au.dat)) v) (hz:aZ l≤4294967296) (ht0:0≤t) (ht1:t+aZ l≤4294967296) :
  Calls prog 100 #[vi id,v,.agg #[.bool body,.bool note,vi t]] w0 (bD w0 G fun u G'=>∃ ba bl bp,u=.func (.func 160) #[] #[(aD ba 0),(aD bl 0),(aD bp 0)]∧Iter prog G' u ((⟨id,l,body,note,t⟩ :: gQ note t l).map AB)):=by
 obtain ⟨A,c,rfl,hc1,hc2,hg⟩:=hv.slice;refine eN [(0,_),(1,_),(2,_)] func100 rfl ntmps100 rfl rfl hG ?_;refine ak 1 ?_;intro a H;refine dU (cs:=[_]) H wn rfl rfl rfl ?_;clear H;intro b3 a w hb3 H;refine dU (cs:=[_]) H wn rfl rfl rfl ?_;clear H;intro b4 a w hb4 H;refine dU (cs:=[_,_,_]) H wn rfl rfl rfl ?_;clear H;intro b5 a w hb5 H;refine aH 3 H ?_;clear H;intro a H;refine mP H wn rfl rfl ?_;clear H;refine ak 2 ?_;intro a H;refine bV ?_;obtain ⟨G2,hm2,hb5,H⟩:=H.dP;obtain ⟨G3,qx,hb4,H⟩:=H.dP;obtain ⟨G4,LZ,hb3,H⟩:=H.dP;refine lv H results100 rfl ?_;exact H.rt ⟨b3,b4,b5,rfl,ahA (by unfold aF;rw [hb3];rfl) (aJ LZ (by unfold aF;rw [hb4];rfl)) (LZ _ _ (qx _ _ hb5)) (hv.mono fun b o h=>LZ _ _ (qx _ _ (hm2 _ _ h))) hz ht0 ht1⟩
theorem S9 (G:GH) (w0:World) (hG:Hold G w0) (D:jy) (l:List au) (hv:av G (.sl 11 (l.map au.dat)) (aS D.f)) (hz:aZ l≤4294967296) :
  Calls prog 44 #[D.val] w0 (bD w0 G fun u G'=>∃ ba bl bp,u=.func (.func 160) #[] #[(aD ba 0),(aD bl 0),(aD bp 0)]∧Iter prog G' u ((eY l).map AB)):=by
 refine eN [(0,_)] func44 rfl ntmps44 rfl rfl hG ?_;refine ak 1 ?_;intro a H;refine dU (cs:=[_,_,_,_,_,_,_,_,_,_,_]) H wn rfl rfl rfl ?_;clear H;intro b1 a w hb1 H;refine aH 5 H ?_;clear H;intro a H;refine jY Db [_,_,_] H wn rfl rfl rfl rfl ?_;clear H;intro a H;refine s_call aez H wn rfl (ahB _ _ H.ro l _ 0 0 true false hv hz (by omega) (by omega)) rfl ?_;clear H;rintro v6 G6 a w ⟨ba,bl,bp,rfl,hit⟩ zJ H;refine gH 2 H ?_;exact ⟨ba,bl,bp,rfl,hit⟩
end
section
open Go.RowKit
instance iy:Ty prog 38 11 232 [.slice none 0 0,.slice none 0 0,.int .i64 0,.int .i64 0,.slice none 0 0,.slice none 0 0,.slice none 0 0,.slice none 0 0,.slice none 0 0,.slice none 0 0,.slice none 0 0] true:=⟨by kernel_rfl,by kernel_rfl⟩
theorem PS:∀ args w,(callFunc 44 args).run prog w=.ok (.enter 44 args) w:=enters func44 rfl (by kernel_rfl)
instance NH:Ty prog 92 4 40 [.slice none 0 0,.bool false,.bool false,.int .i64 0] true:=⟨by kernel_rfl,by kernel_rfl⟩
instance:dB prog 92 0 0:=⟨by kernel_rfl⟩
mutual
theorem apx {note:Bool} {t:Int} {f:fJ}:∀ {x:au},f∈uh note t x→aZ f.items < bJ x.dat
 | .mk k c i tx h fl r,hf=>by
  have h4:=qC (.mk k c i tx h fl r)
  simp only [au.text,au.head,au.flow,au.rows] at h4
  rw [uh] at hf
  split at hf
  ·rcases iQ.1 hf with rfl|hf
   ·show aZ fl < _;omega
   have:=NT hf;omega
  split at hf
  ·have:=abx hf;omega
  cases hf
theorem NT {note:Bool} {t:Int} {f:fJ}:∀ {l:List au},f∈gQ note t l→aZ f.items≤aZ l
 | [],hf=>by simp [gQ] at hf
 | x :: l,hf=>by
  rw [gQ] at hf
  simp only [aZ,eu,dX]
  rcases lT.1 hf with hf|hf
  ·have:=apx hf;simp only [aZ] at this;omega
  have:=NT hf;simp only [aZ] at this;omega
theorem abx {note:Bool} {t:Int} {f:fJ}:∀ {l:List aM},f∈mI note t l→aZ f.items≤fE l
 | [],hf=>by simp [mI] at hf
 | x :: l,hf=>by
  rw [mI] at hf
  simp only [fE,eu,dX]
  rcases lT.1 hf with hf|hf
  ·have:=apz hf;simp only [aZ] at *;omega
  have:=abx hf;simp only [aZ,fE] at *;omega
theorem apz {note:Bool} {t:Int} {f:fJ}:∀ {x:aM},f∈uj note t x→aZ f.items≤bJ x.dat
 | .mk h cs,hf=>by
  have h4:=vP (.mk h cs)
  simp only [aM.head,aM.cells] at h4
  rw [uj] at hf;have:=abt hf;omega
theorem abt {note:Bool} {t:Int} {f:fJ}:∀ {l:List aL},f∈mU note t l→aZ f.items≤gZ l
 | [],hf=>by simp [mU] at hf
 | x :: l,hf=>by
  rw [mU] at hf
  simp only [gZ,eu,dX]
  rcases lT.1 hf with hf|hf
  ·have:=apv hf;simp only [aZ] at *;omega
  have:=abt hf;simp only [aZ,gZ] at *;omega
theorem apv {note:Bool} {t:Int} {f:fJ}:∀ {x:aL},f∈ug note t x→aZ f.items≤bJ x.dat
 | .mk i h fl,hf=>by
  have h4:=vO (.mk i h fl)
  simp only [aL.head,aL.flow] at h4
  rw [ug] at hf
  rcases iQ.1 hf with rfl|hf
  ·show aZ fl≤_;omega
  have:=NT hf;omega
end
theorem KT {f:fJ} {l:List au} (h:f∈eY l):aZ f.items≤aZ l:=by
 rcases iQ.1 h with rfl|h
 ·exact bN _
 exact NT h
def Cq (l:List au) (id:Int):Option (List au):=((eY l).find? fun f=>decide (f.id=id)).map fJ.items
theorem Xq {α:Type} {p:α→Bool} {A:List α} {k:Nat} (hk:k < A.length) (h:(A.take k).find? p=none) (hp:p A[k]=false):(A.take (k+1)).find? p=none:=by
 rw [gN hk,List.find?_append,h]
 simp [hp]
theorem Qj {α:Type} {p:α→Bool} {A:List α} {k:Nat} (hk:k < A.length) (h:(A.take k).find? p=none) (hp:p A[k]=true):A.find? p=some A[k]:=by
 have e:A.find? p=(A.take k++A.drop k).find? p:=by rw [List.take_append_drop]
 rw [e,List.find?_append,h,lW hk,List.find?_cons,hp]
 rfl
theorem Qi {α:Type} {p:α→Bool} {A:List α} (h:(A.take A.length).find? p=none):A.find? p=none:=by rwa [wW] at h
theorem FB {A:List fJ} {k:Nat} {args:List aj} {g:GH} (h:uq (A.map AB) k args g):∃ (hk:k < A.length) (a:Option Addr) (n c:Nat),args=[vi A[k].id,.agg #[.slice a n c,.bool A[k].body,.bool A[k].note,vi A[k].tables]]∧av g (.sl 11 (A[k].items.map au.dat)) (.slice a n c):=by
 obtain ⟨p,hp,hargs⟩:=h;rw [nE] at hp;obtain ⟨q,hq,rfl⟩:=mV.1 hp;obtain ⟨hk,rfl⟩:=iL.1 hq;obtain ⟨v,h1,h2⟩:=hargs;obtain ⟨a,n,c,rfl⟩:=h2.form;exact ⟨hk,a,n,c,h1,h2⟩
theorem ahz (G:GH) (w0:World) (hG:Hold G w0) (D:jy) (l:List au) (id:Int) (hv:av G (.sl 11 (l.map au.dat)) (aS D.f)) (hz:aZ l≤4294967296) :
  Calls prog 29 #[D.val,vi id] w0 (bD w0 G fun u G'=>∃ v,u=.tuple #[v,.bool (Cq l id).isSome]∧av G' (.sl 11 (((Cq l id).getD []).map au.dat)) v):=by
 refine eN [(0,_),(1,_)] func29 rfl ntmps29 rfl rfl hG ?_;refine ak 1 ?_;intro a H;refine dU (cs:=[_,_,_,_,_,_,_,_,_,_,_]) H wn rfl rfl rfl ?_;clear H;intro b2 a w hb2 H;refine dU (cs:=[_]) H wn rfl rfl rfl ?_;clear H;intro b3 a w hb3 H;refine dx pG H wn rfl ?_;clear H;intro b4 a w hb4 H;refine dx vI H wn rfl ?_;clear H;intro b5 a w hb5 H;refine aH 3 H ?_;clear H;intro a H;refine bg iy (cs:=[_,_,_,_,_,_,_,_,_,_,_]) H wn rfl rfl (H.hp.cK 3 rfl rfl) rfl ?_;clear H;intro a H;refine s_call PS H wn rfl (S9 _ _ H.ro D l hv hz) rfl ?_;clear H;rintro v9 G9 a w ⟨ba,bl,bp,rfl,hit⟩ wB H;refine aH 2 H ?_;clear H;intro a H;refine Aq (ι:=Unit) (κ:=aj) (Lc:=[(_,_),(_,_)]) (fun (k:Nat) (gh:Unit)=>[(b4,.cells #[.slice none 0 0] 22 (0,0)),(b5,.cells #[.bool false] 4 (0,0))]) (fun (k:Nat) (gh:Unit)=>[]) (fun (k:Nat) (gh:Unit) (g:GH)=>((eY l).take k).find? (fun f=>decide (f.id=id))=none) (fun (gx:aj)=>Code.ret) (fun (gx:aj)=>[(b4,.cells #[gx] 22 (0,0)),(b5,.cells #[.bool true] 4 (0,0))]) (fun (gx:aj)=>[]) (fun (gx:aj) (g:GH)=>∃ f,Cq l id=some f∧av g (.sl 11 (f.map au.dat)) gx) (()) (by exact H.cu (Pl:=[_,_,_,_]) (bS:=[_,_,_,_]) [2,3,1,0] (by decide) rfl) rfl KH (hit) (fun _ _ h=>h) rfl (fun k args g h=>by obtain ⟨_,_,_,_,rfl,_⟩:=FB h;rfl) (fun _ _ _ _ _ h=>h) (fun x G G' hm h=>let ⟨f,h1,h2⟩:=h;⟨f,h1,h2.mono hm⟩) (rfl) ?_ ?_ ?_
 ·clear H;intro l2 tQ qH bk k args gh G2 w2 F2 B2 a hk2 hm2 hI QZ RL Mk H;obtain ⟨hk,vA,vn,vc,rfl,hrep⟩:=FB hk2;dsimp only [qm,List.cons_append,List.nil_append] at H;refine eB 4 H ?_;clear H;intro a H;refine dx NH H wn rfl ?_;clear H;intro b7 a w sV H;refine aV NH 0 (vs:=[_,_,_,_]) _ H wn rfl rfl rfl rfl rfl rfl rfl rfl ?_;clear H;intro w H;dsimp only [List.set,setRow] at H;refine aG ?_;refine QZ _ _ _ _ _ _ (by exact H.cu (Pl:=[_,_,_,_,_,_]) (bS:=[_,_,_,_,_,_]) [1,0,2,3,4,5] (by decide) rfl) ?_;clear H;intro w H;refine XA 6 H ?_ ?_ <;> clear H
  ·intro nZ
   try have qg:=dT nZ
   refine ak 3 ?_;intro a H;refine s_call KJ H wn rfl (adW _ _ H.ro _ _ hrep (by have:=KT (iF hk);omega)) rfl ?_;clear H;rintro v17 xV a w CJ pX H;obtain ⟨UU,n17,c17,rfl⟩:=CJ.form;refine aV pG 4 (vs:=[_]) _ H wn rfl rfl rfl rfl rfl rfl rfl rfl ?_;clear H;intro w H;dsimp only [List.set,setRow] at H;refine aV vI 5 (vs:=[_]) _ H wn rfl rfl rfl rfl rfl rfl rfl rfl ?_;clear H;intro w H;dsimp only [List.set,setRow] at H;refine aG ?_;refine dG ?_;refine bV ?_;refine (Mk (.slice UU n17 c17) _ _ _ _ _ (by exact H.cu (Pl:=[_,_,_,_,_,_]) (bS:=[_,_,_,_,_]) [0,2,3,4,5] (by decide) rfl) ?_).1 rfl;exact ⟨_,by unfold Cq;rw [Qj hk hI nZ];rfl,CJ⟩
  intro nZ
  intro a H;refine ji ?_;refine RL (()) _ _ _ _ _ (by exact H.cu (Pl:=[_,_,_,_,_,_]) (bS:=[_,_,_,_,_]) [0,2,3,4,5] (by decide) rfl) ?_;exact Xq hk hI nZ
 ·clear H;intro Oa gh Og a w hm2 hI H;dsimp only [lca,aR] at H;refine dG ?_;refine wo ?_;refine aV pG 3 (vs:=[_]) _ H wn rfl rfl rfl rfl rfl rfl rfl rfl ?_;clear H;intro w H;dsimp only [List.set,setRow] at H;refine aV vI 4 (vs:=[_]) _ H wn rfl rfl rfl rfl rfl rfl rfl rfl ?_;clear H;intro w H;dsimp only [List.set,setRow] at H;refine aG ?_;refine dG ?_;refine bV ?_;refine (wF H 0 rfl ?_).1;clear H;intro a w H;dsimp only [List.eraseIdx_cons_succ,List.eraseIdx_cons_zero] at H;refine (eU H results29 (.cons (tT pG H rfl (H.hp.nQ 2 rfl rfl)) (.cons (tT vI H rfl (H.hp.nQ 3 rfl rfl)) .nil)) ?_).1;exact H.rt ⟨_,by unfold Cq;rw [Qi (by simpa using hI)];rfl,by unfold Cq;rw [Qi (by simpa using hI)];exact av.iT rfl (by decide)⟩
 clear H;intro Oa x Og a w hm2 hI H;dsimp only [lca,aR] at H;obtain ⟨f,hf,hrep⟩:=hI;obtain ⟨xA,xn,xc,rfl⟩:=hrep.form;refine bV ?_;refine (wF H 0 rfl ?_).1;clear H;intro a w H;dsimp only [List.eraseIdx_cons_succ,List.eraseIdx_cons_zero] at H;refine (eU H results29 (.cons (tT pG H rfl (H.hp.nQ 2 rfl rfl)) (.cons (tT vI H rfl (H.hp.nQ 3 rfl rfl)) .nil)) ?_).1;exact H.rt ⟨_,by rw [hf];rfl,by rw [hf];exact hrep⟩
end
section
open Go.RowKit
theorem CO {α:Type} {p:α→Bool} {A:List α} {k:Nat} (hk:k < A.length) (h:(A.take k).findIdx? p=none) (hp:p A[k]=false):(A.take (k+1)).findIdx? p=none:=by
 rw [List.findIdx?_eq_none_iff] at h ⊢;rw [gN hk];intro x hx
 rcases lT.1 hx with hx|hx
 ·exact h x hx
 rw [rC.1 hx];exact hp
theorem tC {α:Type} {p:α→Bool} {A:List α} {k:Nat} (hk:k < A.length) (h:(A.take k).findIdx? p=none) (hp:p A[k]=true):A.findIdx? p=some k:=by
 have e:A.findIdx? p=(A.take k++A.drop k).findIdx? p:=by rw [List.take_append_drop]
 rw [e,List.findIdx?_append,h,lW hk,List.findIdx?_cons,hp]
 simp;omega
end
section
open Go.RowKit
theorem Uc:EW prog 287:=⟨by kernel_rfl⟩
theorem adi:prog.cellsOf 5=1:=by kernel_rfl
theorem alK (v:aj) (w:World):(callFunc 246 #[v]).run prog w=.ok (.value v) w:=amW func246 (by kernel_rfl) (by kernel_rfl) (by kernel_rfl) (by kernel_rfl) v w
theorem GD:prog.underlying 285=some (.pointer 287):=by kernel_rfl
instance:jK prog 285 (.pointer 287):=⟨GD⟩
theorem Ux:prog.underlying 309=some .unsafePointer:=by kernel_rfl
instance:jK prog 309 .unsafePointer:=⟨Ux⟩
instance:dB prog 287 0 0:=⟨by kernel_rfl⟩
instance aaV:Ty prog 285 1 8 [.pointer none] false:=⟨by kernel_rfl,by kernel_rfl⟩
theorem aaY:prog.underlying 311=some (.pointer 5):=by kernel_rfl
instance:jK prog 311 (.pointer 5):=⟨aaY⟩
instance Xl:dB prog 287 1 1:=⟨by kernel_rfl⟩
instance Nz:Ty prog 282 1 24 [.slice none 0 0] false:=⟨by kernel_rfl,by kernel_rfl⟩
theorem JF:prog.underlying 282=some (.slice 5):=by kernel_rfl
instance:jK prog 282 (.slice 5):=⟨JF⟩
end
section
open Go.RowKit
def kM (p:Nat→Bool):Nat→Nat→Nat→Nat
 | 0,i,_=>i
 | f+1,i,j=>if i < j then (if p ((i+j) / 2) then kM p f i ((i+j) / 2) else kM p f ((i+j) / 2+1) j) else i
theorem YT {p:Nat→Bool} {f i j:Nat} (hf:j - i≤f) (h:i < j):kM p f i j=if p ((i+j) / 2) then kM p (f - 1) i ((i+j) / 2) else kM p (f - 1) ((i+j) / 2+1) j:=by
 match f,hf with
 | 0,hf=>omega
 | f+1,_=>rw [kM,ay h];rfl
theorem YQ {p:Nat→Bool} {f i j:Nat} (h:¬ i < j):kM p f i j=i:=by
 match f with
 | 0=>rfl
 | f+1=>rw [kM,ah h]
theorem Mv {p:Nat→Bool}:∀ (f i j:Nat),i≤j→kM p f i j≤j
 | 0,i,j,h=>h
 | f+1,i,j,h=>by
  rw [kM]
  split
  ·split
   ·exact Nat.le_trans (Mv f i _ (by omega)) (by omega)
   ·exact Mv f _ j (by omega)
  ·exact h
theorem YU {z:Int} (h1:0≤z) (h2:z < 18446744073709551616):IntKind.u64.wrap z=z:=by
 simp only [IntKind.wrap,IntKind.bits,IntKind.signed,uH,DI,if_false]
 omega
theorem YS (n:Nat):((n:Nat):Int).fdiv (2 ^ 1)=((n / 2:Nat):Int):=by
 rw [Int.fdiv_eq_ediv_of_nonneg _ (by decide)];omega
def Av (a b:Int):Int:=if a < b then -1 else if b < a then 1 else 0
theorem Wd {a b:Int}:Av a b < 0↔a < b:=by
 unfold Av
 split
 ·simp [*]
 ·split <;> simp_all
theorem Kt {a b:Int}:Av a b=0↔a=b:=by
 unfold Av
 split
 ·omega
 ·split <;> omega
def pU (ks:List Int) (t:Int):Nat:=kM (fun h=>decide (¬ ks.getD h 0 < t)) ks.length 0 ks.length
def uY (ks:List Int) (t:Int):Bool:=decide (ks[pU ks t]?=some t)
theorem acL (ks:List Int) (t:Int):pU ks t≤ks.length:=Mv _ _ _ (gV _)
theorem aip {ks:List Int} {t:Int} (h:uY ks t=true):pU ks t < ks.length:=by
 have:=lX h
 exact (iL.1 this).1
theorem LG {ks:List Int} {t:Int} {n:Nat} (e:pU ks t=n) (h:n < ks.length):uY ks t=decide (Av ks[n] t=0):=by
 unfold uY
 rw [e,dY h]
 simp [Kt]
theorem LH {ks:List Int} {t:Int} {n:Nat} (e:pU ks t=n) (h:¬ n < ks.length):uY ks t=false:=by
 unfold uY
 rw [e,List.getElem?_eq_none (by omega)]
 simp
theorem getD_map {α:Type} {f:α→Int} {l:List α} {n:Nat} (h:n < l.length):(l.map f).getD n 0=f l[n]:=by
 simp [List.getD,h]
end
section
open Go.RowKit
structure Vv (P:Program) (s n off:Nat):Prop where
 h:(match P.underlying s with|some (.struct fs)=>(fs[n]?).bind fun f=>((P.underlying f.type).map (fun|.struct _=>true|.array _ _=>true|_=>false)).map fun g=>(f.offset,g)|_=>none)=some (off,false)
theorem Vv.parts {P:Program} {s n off:Nat} (h:Vv P s n off):∃ fs fl u,P.underlying s=some (.struct fs)∧fs[n]?=some fl∧P.underlying fl.type=some u∧(match u with|.struct _=>true|.array _ _=>true|_=>false)=false∧fl.offset=off:=by
 obtain ⟨h⟩:=h
 split at h
 ·rename_i fs hs
  obtain ⟨fl,hf,h2⟩:=Option.bind_eq_some_iff.1 h
  obtain ⟨b,hb,h3⟩:=mV.1 h2
  obtain ⟨u,hu,h4⟩:=mV.1 hb
  simp only [fZ] at h3
  refine ⟨fs,fl,u,hs,hf,hu,?_,h3.1⟩
  rw [← h3.2,← h4]
  cases u <;> rfl
 ·cases h
section
variable {N:Nat} {D:List Deferred} {w0:World} {F:Nat→Prop} {G0 G:GH} {L Li Lo:OL} {T:List (Nat × aj)}
variable {r:Option Nat} {P:Program} {ops:Array Oper} {Q:Exit→Act→World→Prop} {rest:List Oper} {a:Act} {w:World}
variable {d:Nat} {ty:TypeId} {pos:String} {aK:Array Edge} {g:Option (Nat × Bool)}
theorem anv {t yt:TypeId} {x y:Operand} {p q:Int} (z:Int) (H:St N D w0 F G0 G L T a w) (hw:Region.wanted ⟨some d,.binOp .rem t x y yt,ty,pos,aK,g⟩ (yielded ops a.tmps)=true) (hx:ev T x=some (.int .i64 p)) (hy:ev T y=some (.int .i64 q)) (hq:¬ q=0) (hz:p.tmod q=z) (hd:Nat.blt d N=true)
  (k:∀ a',St N D w0 F G0 G L ((d,.int .i64 z) :: T) a' w→WL r P ops Q rest a' w):WL r P ops Q (⟨some d,.binOp .rem t x y yt,ty,pos,aK,g⟩ :: rest) a w:=by
 subst hz
 refine fq (v:=.int .i64 (p.tmod q)) (w':=w) hw rfl ?_ (k _ (H.put hd _ H.hp))
 simp [execOp,H.ev hx,H.ev hy,eqGuard,binOp,Op.intDiv,hq]
theorem TS {t:TypeId} {x y:Operand} {s:ByteArray} {ky:IntKind} {p:Int} (lo:Nat) (ht:P.underlying t=some .string) (H:St N D w0 F G0 G L T a w) (hw:Region.wanted ⟨some d,.slice t x (some y) none none,ty,pos,aK,g⟩ (yielded ops a.tmps)=true) (hx:ev T x=some (.string s)) (hy:ev T y=some (.int ky p)) (hp:p=(lo:Int)) (h1:lo≤s.size) (hd:Nat.blt d N=true)
  (k:∀ a',St N D w0 F G0 G L ((d,.string (s.extract lo s.size)) :: T) a' w→WL r P ops Q rest a' w):WL r P ops Q (⟨some d,.slice t x (some y) none none,ty,pos,aK,g⟩ :: rest) a w:=by
 subst hp
 have hr:=run_slice_string_l (P:=P) w t s ht ky (lo:Int) (by omega) (by omega)
 rw [Int.toNat_natCast] at hr
 refine fq (v:=.string (s.extract lo s.size)) (w':=w) hw rfl ?_ (k _ (H.put hd _ H.hp))
 simp only [execOp,H.ev hx,Option.map_some,Option.map_none,H.ev hy,dM,run_sliceAt_string w t _ _ _ _ ht,hr,lg,qE]
theorem anB {t e:TypeId} {sz bytes:Nat} {zero:List aj} {agg:Bool} (hs:P.underlying t=some (.slice e)) (ht:Ty P e sz bytes zero agg) {x y:Operand} {A:Option Addr} {n c:Nat} (lo:Nat) {p:Int} (H:St N D w0 F G0 G L T a w)
  (hw:Region.wanted ⟨some d,.slice t x (some y) none none,ty,pos,aK,g⟩ (yielded ops a.tmps)=true) (hx:ev T x=some (.slice A n c)) (hy:ev T y=some (.int .i64 p)) (hp:p=(lo:Int)) (h1:lo≤n) (hd:Nat.blt d N=true)
  (k:∀ a',St N D w0 F G0 G L ((d,.slice (if c=lo then A else A.map (·.add (lo*sz))) (n - lo) (c - lo)) :: T) a' w→WL r P ops Q rest a' w):WL r P ops Q (⟨some d,.slice t x (some y) none none,ty,pos,aK,g⟩ :: rest) a w:=by
 subst hp
 refine fq (v:=.slice (if c=lo then A else A.map (·.add (lo*sz))) (n - lo) (c - lo)) (w':=w) hw rfl ?_ (k _ (H.put hd _ H.hp))
 simp [execOp,H.ev hx,H.ev hy,Instr.sliceAt,Instr.slice,Instr.sliceBounds,Instr.sliceBound,dM,mE hs,ht.Bo,asIntOf,h1]
end
end
section
open Go.RowKit
theorem aaX:prog.underlying 262=some (.slice 224):=by kernel_rfl
instance:jK prog 262 (.slice 224):=⟨aaX⟩
instance wN:Ty prog 224 6 56 [.int .i64 0,.int .i64 0,.int .i64 0,.int .i64 0,.int .i64 0,.string ⟨#[]⟩] true:=⟨by kernel_rfl,by kernel_rfl⟩
theorem aaL:ru prog 224 [(0,1),(1,1),(2,1),(3,1),(4,1),(5,1)] [.int .i64 0,.int .i64 0,.int .i64 0,.int .i64 0,.int .i64 0,.string ⟨#[]⟩]:=⟨by kernel_rfl,by kernel_rfl⟩
theorem Pz:∀ args w,(callFunc 173 args).run prog w=.ok (.enter 173 args) w:=enters func173 rfl (by kernel_rfl)
structure jf where
 num:Int
 zy:Int
 low:Int
 high:Int
 std:Int
 name:ByteArray
def jf.dat (x:jf):List Dat:=[li x.num,li x.zy,li x.low,li x.high,li x.std,.lf (.string x.name)]
def jf.cells (x:jf):List aj:=[vi x.num,vi x.zy,vi x.low,vi x.high,vi x.std,.string x.name]
def fK.cells (x:fK):List aj:=[vi x.key,vi x.value]
theorem akN (G:GH) (x:jf):aN G x.dat x.cells:=by
 simp only [jf.dat,jf.cells,aN]
 exact ⟨_,_,rfl,by simp [av,Value.oneCell'],_,_,rfl,by simp [av,Value.oneCell'],_,_,rfl,by simp [av,Value.oneCell'],_,_,rfl,by simp [av,Value.oneCell'],_,_,rfl,by simp [av,Value.oneCell'],_,_,rfl,by simp [av,Value.oneCell'],rfl⟩
theorem akM {G:GH} {x:jf} {cs:List aj} (h:aN G x.dat cs):cs=x.cells:=by
 simp only [jf.dat,aN,av] at h
 obtain ⟨v1,_,rfl,⟨rfl,-⟩,v2,_,rfl,⟨rfl,-⟩,v3,_,rfl,⟨rfl,-⟩,v4,_,rfl,⟨rfl,-⟩,v5,_,rfl,⟨rfl,-⟩,v6,_,rfl,⟨rfl,-⟩,rfl⟩:=h
 rfl
theorem Tz {G:GH} {x:fK} {cs:List aj} (h:aN G x.dat cs):cs=x.cells:=by
 simp only [fK.dat,aN,av] at h
 obtain ⟨v1,_,rfl,⟨rfl,-⟩,v2,_,rfl,⟨rfl,-⟩,rfl⟩:=h
 rfl
theorem Zh (G:GH):∀ (B A:List jf),bE G 6 (A.map jf.dat) (A.map jf.cells).flatten→bE G 6 ((A++B).map jf.dat) ((A++B).map jf.cells).flatten
 | [],A,h=>by rw [lY];exact h
 | x :: B,A,h=>by
  have h2:=h.snoc (akN G x) rfl;have h3:=Zh G B (A++[x]) (by simpa using h2)
  simpa using h3
theorem akO (G:GH) (A:List jf):bE G 6 (A.map jf.dat) (A.map jf.cells).flatten:=Zh G A [] bE.nil
theorem Sw {G:GH} {l:List jf} {A:Option Addr} {n c k:Nat} (hv:av G (.sl 6 (l.map jf.dat)) (.slice A n c)) (hk:k < l.length):∃ b o,A=some ⟨b,o,none⟩∧(∀ j u,[vi l[k].num,vi l[k].zy,vi l[k].low,vi l[k].high,vi l[k].std,.string l[k].name][j]?=some u→aF G b (o+k*6+j)=some u):=by
 obtain ⟨A',c',he,_,_,hg⟩:=hv.slice
 injection he with e1 e2 e3
 subst e1;obtain ⟨b,o,cs,h1,h2,h3,h4⟩:=hg k l[k].dat (by simp [hk]);obtain rfl:=akM h4;exact ⟨b,o,h1,h3⟩
theorem Na {G:GH} {l:List fK} {A:Option Addr} {n c k:Nat} (hv:av G (.sl 2 (l.map fK.dat)) (.slice A n c)) (hk:k < l.length):∃ b o,A=some ⟨b,o,none⟩∧(∀ j u,[vi l[k].key,vi l[k].value][j]?=some u→aF G b (o+k*2+j)=some u):=by
 obtain ⟨A',c',he,_,_,hg⟩:=hv.slice
 injection he with e1 e2 e3
 subst e1;obtain ⟨b,o,cs,h1,h2,h3,h4⟩:=hg k l[k].dat (by simp [hk]);obtain rfl:=Tz h4;exact ⟨b,o,h1,h3⟩
def Ep:List jf:=[⟨1,1,0,1073741824,0,⟨#[99,104,97,114,97,99,116,101,114,45,115,116,121,108,101]⟩⟩,⟨2,1,0,1,0,⟨#[98,111,108,100]⟩⟩,⟨3,1,0,1,0,⟨#[105,116,97,108,105,99]⟩⟩,⟨4,1,0,3,0,⟨#[117,110,100,101,114,108,105,110,101]⟩⟩,⟨5,1,2,1638,22,⟨#[115,105,122,101]⟩⟩,⟨6,1,0,16777215,0,⟨#[99,111,108,111,114]⟩⟩,⟨7,1,0,63,0,⟨#[102,111,110,116]⟩⟩,⟨8,1,0,255,0,⟨#[108,97,110,103,117,97,103,101]⟩⟩,⟨9,1,-400,400,0,⟨#[114,97,105,115,101]⟩⟩,⟨10,1,0,1,0,⟨#[104,105,100,100,101,110]⟩⟩,⟨20,2,0,1073741824,0,⟨#[112,97,114,97,103,114,97,112,104,45,115,116,121,108,101]⟩⟩,⟨21,2,0,3,0,⟨#[97,108,105,103,110]⟩⟩,⟨22,2,-31680,31680,0,⟨#[108,101,102,116]⟩⟩,⟨23,2,-31680,31680,0,⟨#[114,105,103,104,116]⟩⟩,⟨24,2,-31680,31680,0,⟨#[102,105,114,115,116]⟩⟩,⟨25,2,0,31680,0,⟨#[98,101,102,111,114,101]⟩⟩,⟨26,2,0,31680,0,⟨#[97,102,116,101,114]⟩⟩,⟨27,2,0,31680,0,⟨#[108,101,97,100,105,110,103]⟩⟩,⟨28,2,0,1,0,⟨#[107,101,101,112,45,110,101,120,116]⟩⟩,⟨29,2,0,1,0,⟨#[107,101,101,112,45,108,105,110,101,115]⟩⟩,⟨30,2,0,1,1,⟨#[119,105,100,111,119]⟩⟩,⟨31,2,0,1,0,⟨#[112,97,103,101,45,98,101,102,111,114,101]⟩⟩,⟨32,2,0,9,0,⟨#[111,117,116,108,105,110,101]⟩⟩,⟨33,2,0,1073741824,0,⟨#[108,105,115,116]⟩⟩,⟨34,2,1,9,1,⟨#[108,101,118,101,108]⟩⟩,⟨35,2,0,32767,0,⟨#[114,101,115,116,97,114,116]⟩⟩,⟨36,2,1,31680,720,⟨#[116,97,98,45,115,116,111,112]⟩⟩,⟨37,2,0,1,0,⟨#[104,121,112,104,101,110,97,116,101]⟩⟩,⟨40,3,720,31680,12240,⟨#[112,97,103,101,45,119,105,100,116,104]⟩⟩,⟨41,3,720,31680,15840,⟨#[112,97,103,101,45,104,101,105,103,104,116]⟩⟩,⟨42,3,0,31680,1440,⟨#[116,111,112]⟩⟩,⟨43,3,0,31680,1440,⟨#[98,111,116,116,111,109]⟩⟩,⟨44,3,0,31680,1440,⟨#[105,110,110,101,114]⟩⟩,⟨45,3,0,31680,1440,⟨#[111,117,116,101,114]⟩⟩,⟨46,3,0,32767,0,⟨#[102,105,114,115,116,45,112,97,103,101]⟩⟩,⟨47,3,1,6,1,⟨#[112,97,103,101,45,102,111,114,109,97,116]⟩⟩,⟨50,4,0,1,0,⟨#[104,101,97,100,101,114]⟩⟩,⟨51,4,0,1,0,⟨#[99,97,110,116,45,115,112,108,105,116]⟩⟩,⟨52,4,0,31680,0,⟨#[114,111,119,45,104,101,105,103,104,116]⟩⟩,⟨60,5,1,32,1,⟨#[99,111,108,117,109,110,45,115,112,97,110]⟩⟩,⟨61,5,0,2,0,⟨#[118,101,114,116,105,99,97,108,45,109,101,114,103,101]⟩⟩,⟨62,5,0,31680,0,⟨#[99,101,108,108,45,119,105,100,116,104]⟩⟩,⟨63,5,0,16777215,16777215,⟨#[115,104,97,100,101]⟩⟩,⟨70,6,0,31680,0,⟨#[116,97,98,108,101,45,119,105,100,116,104]⟩⟩,⟨71,6,0,2,0,⟨#[116,97,98,108,101,45,97,108,105,103,110]⟩⟩]
set_option maxRecDepth 20000 in
theorem akP (G:GH) (w0:World) (hG:Hold G w0):Calls prog 203 #[] w0 (bD w0 G fun u G'=>av G' (.sl 6 (Ep.map jf.dat)) u):=by
 refine eN [] func203 rfl ntmps203 rfl rfl hG ?_;refine ak 4 ?_;intro a H;(iterate 45 refine jY aaL [_,_,_,_,_,_] H wn rfl rfl rfl rfl ?_;clear H;intro a H);refine anh aaX wN (Ep.map jf.cells) H wn rfl rfl rfl rfl rfl rfl rfl ?_;clear H;intro b46 a w aqs H;refine aH 2 H ?_;clear H;intro a H;refine lr H results203 rfl ?_;obtain ⟨Gz,hmz,hbz,H⟩:=H.dP;exact H.rt (av.dZ (n:=45) (cap:=45) hbz rfl (bN _) (show 45≤maxLen by decide) (jh (bN _)) (akO _ _))
theorem Sq (G:GH) (w0:World) (hG:Hold G w0) (x:Int):Calls prog 173 #[vi x] w0 (bD w0 G fun u G'=>u=.bool false∧G=G'):=by
 refine eN [(0,_)] func173 rfl ntmps173 rfl rfl hG ?_;refine aP 9 ?_;exact ⟨by simp,rfl⟩
theorem O7 {x y z:Int} (h:(x < y∧z=-1)∨(y < x∧z=1)∨(x=y∧z=0)):z=Av x y:=by
 unfold Av;split
 ·omega
 split <;> omega
theorem aeb (G:GH) (w0:World) (hG:Hold G w0) (x y:Int):Calls prog 206 #[vi x,vi y] w0 (bD w0 G fun u G'=>u=vi (Av x y)):=by
 refine eN [(0,_),(1,_)] func206 rfl ntmps206 rfl rfl hG ?_;refine ak 5 ?_;intro a H;refine s_call Pz H wn rfl (Sq _ _ H.ro x) rfl ?_;clear H;rintro v8 G8 a w ⟨rfl,-⟩ xw H;refine aH 4 H ?_;clear H;intro a H;refine s_call Pz H wn rfl (Sq _ _ H.ro y) rfl ?_;clear H;rintro v10 yX a w ⟨rfl,-⟩ xq H;refine gX 6 H ?_ ?_ <;> clear H
 ·intro h11
  intro a H
  cases h11
 intro h11
 try have oz:=dF h11
 refine goC 5 ?_ ?_
 ·intro mX
  intro a H
  cases mX
 intro mX
 try have oW:=dF mX
 refine goB 7 ?_ ?_
 ·intro p16
  refine aP 3 ?_;exact (aB vi (O7 (by omega)))
 intro p16
 refine goB 7 ?_ ?_
 ·intro tL
  refine aP 3 ?_;exact (aB vi (O7 (by omega)))
 intro tL
 refine aP 4 ?_;exact (aB vi (O7 (by omega)))
end
section
open Go.RowKit
instance:dB prog 224 0 0:=⟨by kernel_rfl⟩
theorem afL:∀ args w,(callFunc 206 args).run prog w=.ok (.enter 206 args) w:=enters func206 rfl (by kernel_rfl)
theorem GI:prog.underlying 65=some (.int .u64):=by kernel_rfl
instance:jK prog 65 (.int .u64):=⟨GI⟩
theorem afK:∀ args w,(callFunc 205 args).run prog w=.ok (.enter 205 args) w:=enters func205 rfl (by kernel_rfl)
theorem VY (G:GH) (w0:World) (hG:Hold G w0) (x:jf) (t:Int):qX prog (.func (.func 205) #[] #[]) [.agg x.cells.toArray,vi t] w0 (bD w0 G fun u G'=>u=vi (Av x.num t)):=by
 refine jq (caps:=[]) afK ?_;refine eN [(0,_),(1,_)] func205 rfl ntmps205 rfl rfl hG ?_;refine ak 1 ?_;intro a H;refine dU (cs:=[_,_,_,_,_,_]) H wn rfl rfl rfl ?_;clear H;intro b2 a w hb2 H;refine aH 6 H ?_;clear H;intro a H;refine s_call afL H wn rfl (aeb _ _ H.ro x.num t) rfl ?_;clear H;rintro v8 G8 a w rfl xw H;refine gH 2 H ?_;exact rfl
theorem acM (G:GH) (w0:World) (hG:Hold G w0) (l:List jf) (t:Int) (v:aj) (hv:av G (.sl 6 (l.map jf.dat)) v) (hl:l.length≤4294967296) :
  Calls prog 204 #[v,vi t,.func (.func 205) #[] #[]] w0 (bD w0 G fun u G'=>u=.tuple #[vi (pU (l.map jf.num) t),.bool (uY (l.map jf.num) t)]):=by
 obtain ⟨A,c,rfl,hc1,hc2,-⟩:=hv.slice;rw [bO] at *;obtain ⟨p,hp⟩:∃ p:Nat→Bool,p=fun h=>decide (¬ (l.map jf.num).getD h 0 < t):=⟨_,rfl⟩
 have hbs:pU (l.map jf.num) t=kM p l.length 0 l.length:=by rw [hp,pU,bO]
 refine eN [(0,_),(1,_),(2,_)] func204 rfl ntmps204 rfl rfl hG ?_;refine ak 16 ?_;intro a H;refine eO (ι:=Nat × Nat × Nat × GH) (Tc:=[(0,_),(1,_),(2,_),(8,_)]) (Lc:=[]) (fun gh=>[(9,vi gh.1),(10,vi gh.2.1)]) (fun gh=>[]) (fun gh=>gh.2.2.2) (fun gh=>gh.1≤gh.2.1∧gh.2.1≤l.length∧gh.2.1 - gh.1≤gh.2.2.1∧kM p gh.2.2.1 gh.1 gh.2.1=pU (l.map jf.num) t∧(∀ b o,G b=some o→gh.2.2.2 b=some o)) (fun gh=>gh.2.1 - gh.1) ((0,l.length,l.length,G)) sB ?_ ?_
 ·exact ⟨gV _,bN _,Nat.sub_le _ _,hbs.symm,fun _ _ h=>h⟩
 clear H;rintro ⟨i,j,f,g⟩ a w hI H;dsimp only at hI H;obtain ⟨hij,hj,hf1,heq,hgm⟩:=hI;have El:=hv.mono hgm;dsimp only [lca,aR] at H;refine dN 6 H ?_ ?_ <;> clear H
 ·intro kW
  have hlt:i < j:=by omega
  rw [YT hf1 hlt] at heq;obtain ⟨m,hm⟩:∃ m,m=(i+j) / 2:=⟨_,rfl⟩;rw [← hm] at heq
  have hml:m < l.length:=by omega
  obtain ⟨b,o,rfl,hrow⟩:=Sw El hml
  have hpm:p m=decide (¬ l[m].num < t):=by rw [hp];dsimp only;rw [getD_map hml]
  rw [hpm] at heq;refine ak 6 ?_;intro a H;rw [show ((i:Int)+(j:Int))=((i+j:Nat):Int) by push_cast;rfl] at H;refine zU ((i+j:Nat):Int) GI jJ H wn rfl (YU (by omega) (by omega)) rfl ?_;clear H;intro a H;refine Nn _ H wn rfl rfl rfl (by decide) rfl ?_;clear H;intro a H;rw [YS,← hm] at H;refine zU (m:Int) jJ GI H wn rfl (CK (by omega) (by omega)) rfl ?_;clear H;refine ak 7 ?_;intro a H;refine bg wN (cs:=[_,_,_,_,_,_]) H wn rfl rfl (fun j v hj=>H.hp.aF (hrow j v hj)) rfl ?_;clear H;refine ak 1 ?_;intro a H;refine nV H wn rfl rfl (VY _ _ H.ro l[m] t) rfl ?_;clear H;rintro v30 Ai a w rfl wz H;refine gW 2 H ?_ ?_ <;> clear H
  ·intro p31
   rw [ah (by simpa using Wd.1 p31)] at heq;refine ak 4 ?_;intro a H;refine aG ?_;refine dH ((m+1,j,f - 1,Ai)) sB ?_ ?_
   ·(try dsimp only);exact ⟨by omega,hj,by omega,heq,fun b o h=>wz b o (hgm b o h)⟩
   first|omega|(dsimp only;omega)
  intro p31
  rw [ay (by simpa using fun h=>p31 (Wd.2 h))] at heq;refine ak 3 ?_;intro a H;refine aG ?_;refine dH ((i,m,f - 1,Ai)) sB ?_ ?_
  ·(try dsimp only);exact ⟨by omega,by omega,by omega,heq,fun b o h=>wz b o (hgm b o h)⟩
  first|omega|(dsimp only;omega)
 intro kW
 refine ak 1 ?_;rw [YQ (by omega)] at heq;refine jE 6 39 ?_ ?_
 ·intro IE
  try have p39:=dT IE
  have hil:i < l.length:=by omega
  obtain ⟨b,o,rfl,hrow⟩:=Sw El hil;refine ak 4 ?_;intro a H;refine bg wN (cs:=[_,_,_,_,_,_]) H (wg H rfl rfl IE) rfl rfl (fun j v hj=>H.hp.aF (hrow j v hj)) rfl ?_;clear H;refine ak 1 ?_;intro a H;refine nV H (wg H rfl rfl IE) rfl rfl (VY _ _ H.ro l[i] t) rfl ?_;clear H;rintro v46 Od a w rfl Bc H;refine aH 5 H ?_;clear H;intro a H;refine bV ?_;refine (eU H results204 (.cons (aW H rfl) (.cons (aW H rfl) .nil)) ?_).1;exact H.rt (by rw [LG heq.symm (by rw [bO];omega),← heq];simp)
 intro IE
 try have p39:=dF IE
 refine ak 12 ?_;intro a H;refine bV ?_;refine (eU H results204 (.cons (aW H rfl) (.cons (aW H rfl) .nil)) ?_).1;exact H.rt (by rw [LH heq.symm (by rw [bO];omega),← heq])
end
section
open Go.RowKit
theorem PY:∀ args w,(callFunc 84 args).run prog w=.ok (.enter 84 args) w:=enters func84 rfl (by kernel_rfl)
theorem KG:∀ args w,(callFunc 149 args).run prog w=.ok (.enter 149 args) w:=enters func149 rfl (by kernel_rfl)
instance kD:Ty prog 48 2 16 [.int .i64 0,.int .i64 0] true:=⟨by kernel_rfl,by kernel_rfl⟩
instance:Ty prog 212 1 8 [.nilFunc] false:=⟨by kernel_rfl,by kernel_rfl⟩
theorem Uf:ru prog 48 [(0,1),(1,1)] [.int .i64 0,.int .i64 0]:=⟨by kernel_rfl,by kernel_rfl⟩
theorem WK:∀ args w,(callFunc 150 args).run prog w=.ok (.enter 150 args) w:=enters func150 rfl (by kernel_rfl)
theorem PE:∀ args w,(callFunc 193 args).run prog w=.ok (.enter 193 args) w:=enters func193 rfl (by kernel_rfl)
def sF (x:au):Nat:=if x.kind=1 then oD x.text else 1
mutual
def Tq (flow at_:Int):au→List ((Int × Int) × au)
 | .mk k c i t h f r=>if k=6 then ((flow,at_),.mk k c i t h f r) :: kR i 0 f else if k=7 then ((flow,at_),.mk k c i t h f r) :: Jp r else []
/-- The notes and tables of a flow, and those in them, with their positions. -/
def kR (flow:Int):Int→List au→List ((Int × Int) × au)
 | _,[]=>[]
 | at_,x :: l=>Tq flow at_ x++kR flow (at_+sF x) l
def Jp:List aM→List ((Int × Int) × au)
 | []=>[]
 | r :: l=>Tt r++Jp l
def Tt:aM→List ((Int × Int) × au)
 | .mk _ cs=>jV cs
def jV:List aL→List ((Int × Int) × au)
 | []=>[]
 | c :: l=>M5 c++jV l
def M5:aL→List ((Int × Int) × au)
 | .mk i _ f=>kR i 0 f
end
def jm (x:au):List aL:=if x.kind=7 then x.rows.flatMap aM.cells else [.mk x.id ⟨[],⟨0,0,[],[]⟩⟩ x.flow]
theorem Z4 (x:aL):M5 x=kR x.id 0 x.flow:=by cases x;simp [M5,aL.id,aL.flow]
theorem amj (x:aM):Tt x=jV x.cells:=by cases x;simp [Tt,aM.cells]
theorem Z5:∀ a b:List aL,jV (a++b)=jV a++jV b
 | [],b=>by simp [jV]
 | x :: a,b=>by simp [jV,Z5 a b]
theorem Z7:∀ l:List aM,Jp l=jV (l.flatMap aM.cells)
 | []=>by simp [Jp,jV]
 | x :: l=>by simp [Jp,amj,Z5,Z7 l]
theorem Gg (flow at_:Int) (x:au):Tq flow at_ x=if x.kind=6∨x.kind=7 then ((flow,at_),x) :: jV (jm x) else []:=by
 obtain ⟨k,c,i,t,h,f,r⟩:=x
 simp only [Tq,jm,au.kind,au.rows,au.id,au.flow]
 by_cases h6:k=6
 ·subst h6;simp [jV,M5]
 by_cases h7:k=7
 ·subst h7;simp [Z7]
 simp [h6,h7]
theorem Zc {x:au} {c:aL} (h:c∈jm x):aZ c.flow < bJ x.dat:=by
 have h4:=qC x
 unfold jm at h
 split at h
 ·obtain ⟨r,hr,hc⟩:=List.mem_flatMap.1 h;have h1:=UN hr;have h2:=UL hc;have h3:=vP r;have h5:=vO c
  omega
 rw [rC.1 h];show aZ x.flow < _;omega
def xH (a:(Int × Int) × au):AP:=fun args g=>∃ cs,args=[.agg #[vi a.1.1,vi a.1.2],.agg cs.toArray]∧aN g a.2.dat cs
theorem zQ {A:List ((Int × Int) × au)} {k:Nat} {args:List aj} {g:GH} (h:uq (A.map xH) k args g):∃ (hk:k < A.length) (cs:List aj),args=[.agg #[vi A[k].1.1,vi A[k].1.2],.agg cs.toArray]∧aN g A[k].2.dat cs:=by
 obtain ⟨p,hp,hargs⟩:=h;rw [nE] at hp;obtain ⟨q,hq,rfl⟩:=mV.1 hp;obtain ⟨hk,rfl⟩:=iL.1 hq;exact ⟨hk,hargs⟩
def EU (n:Nat):Prop:=∀ (G:GH) (l:List au) (id:Int) (bl bi:Nat) (v:aj),aZ l < n→aF G bl 0=some v→aF G bi 0=some (vi id)→av G (.sl 11 (l.map au.dat)) v →
 Iter prog G (.func (.func 149) #[] #[(aD bl 0),(aD bi 0)]) ((kR id 0 l).map xH)
theorem Tx {n:Nat} (ih:EU n) (G:GH) (w0:World) (hG:Hold G w0) (l:List au) (id:Int) (v:aj) (hz:aZ l < n) (hv:av G (.sl 11 (l.map au.dat)) v) :
  Calls prog 84 #[vi id,v] w0 (bD w0 G fun u G'=>∃ bl bi,u=.func (.func 149) #[] #[(aD bl 0),(aD bi 0)]∧Iter prog G' u ((kR id 0 l).map xH)):=by
 obtain ⟨A,c,rfl,hc1,hc2,hg⟩:=hv.slice;refine eN [(0,_),(1,_)] func84 rfl ntmps84 rfl rfl hG ?_;refine ak 1 ?_;intro a H;refine dU (cs:=[_]) H wn rfl rfl rfl ?_;clear H;intro b2 a w hb2 H;refine dU (cs:=[_]) H wn rfl rfl rfl ?_;clear H;intro b3 a w hb3 H;refine aH 3 H ?_;clear H;intro a H;refine mP H wn rfl rfl ?_;clear H;refine ak 2 ?_;intro a H;refine bV ?_;obtain ⟨G2,hm2,hb3,H⟩:=H.dP;obtain ⟨G3,qx,hb2,H⟩:=H.dP;refine lv H results84 rfl ?_;exact H.rt ⟨b3,b2,rfl,ih _ _ _ _ _ _ hz (aJ qx (by unfold aF;rw [hb3];rfl)) (by unfold aF;rw [hb2];rfl) (hv.mono fun b o h=>qx _ _ (hm2 _ _ h))⟩
theorem Qn:∀ l:List aM,(l.flatMap aM.cells).length≤fE l
 | []=>bN _
 | x :: l=>by
  have h1:=Qn l;have h2:=BH x.cells;have h3:=vP x
  simp only [List.flatMap_cons,jH,fE,eu,dX] at *;omega
theorem apQ (l:List aM) (k:Nat):fE (l.take k)≤fE l:=by
 have h:fE l=fE (l.take k++l.drop k):=by rw [List.take_append_drop]
 rw [h];simp only [fE,nG,Jz];omega
theorem Z6 (c:aL) (l:List aL):jV (c :: l)=kR c.id 0 c.flow++jV l:=by rw [jV,Z4]
theorem apE {n:Nat} (ih:EU n) (hn:n≤4294967296) {G:GH} {x:au} {bx:Nat} {cs:List aj} (hsz:bJ x.dat≤n) (hb:G bx=some (.cells cs.toArray 68 (0,0))) (hv:aN G x.dat cs) :
  Iter prog G (.func (.func 193) #[] #[(aD bx 0)]) ((jV (jm x)).map xH):=by
 intro J Jx fv G1 L w0 A9 hGi jT hJx hJ hO hcb;refine jq (caps:=[(aD bx 0)]) PE ?_;obtain ⟨pA,pn,pc,dA,dn,dc,yA,yn,yc,fA,fn,fc,rA,rn,rc,rfl,hh,hf,hr⟩:=hv.item;have hsz1:=qC x;have hrn:=hr.len;rw [bO] at hrn;subst hrn;have hrs:=BJ x.rows
 have hrow:∀ j u,[vi x.kind,vi x.code,vi x.id,.string x.text,.slice pA pn pc,vi x.head.marks.ins,vi x.head.marks.move,.slice dA dn dc,.slice yA yn yc,.slice fA fn fc,.slice rA x.rows.length rc][j]?=some u→aF G1 bx (0+j)=some u:=by
  intro j u hj;refine aJ hGi ?_
  unfold aF;rw [hb];simpa using hj
 have hfc:aF G1 bx 0=some (vi x.kind)∧aF G1 bx 2=some (vi x.id)∧aF G1 bx 9=some (.slice fA fn fc)∧aF G1 bx 10=some (.slice rA x.rows.length rc):=⟨hrow 0 _ rfl,hrow 2 _ rfl,hrow 9 _ rfl,hrow 10 _ rfl⟩;obtain ⟨hc0,hc2,hc9,aqy⟩:=hfc
 have hml:4294967297≤maxLen:=by decide
 refine gB (N:=50) (T:=[(0,_),(1,_)]) func193 rfl ntmps193 rfl rfl hO ?_;refine ak 1 ?_;intro a H;refine dU (cs:=[fv]) H wn rfl A9 rfl ?_;clear H;intro b2 a w hb2 H;refine aH 6 H ?_;clear H;intro a H;refine jY Ns [_,_,_,_,_,_,_] H wn rfl rfl rfl rfl ?_;clear H;intro a H;refine gK wO iw [_,_,_,_,_,_,_] [_,_,_,_,_,_,_] H wn rfl rfl rfl rfl rfl (by intro i q h;match i,h with|0,h=>exact h|n+1,h=>simp at h) rfl rfl ?_;clear H;intro b15 a w XO H;refine gW 8 H ?_ ?_ <;> clear H
 ·intro xG
  refine ak 10 ?_;intro a H;refine eO (ι:=Nat × aj × List aj × OL) (Tc:=[(2,_),(20,_),(21,_)]) (Lc:=[(_,_)]) (fun gh=>[(3,gh.2.1),(22,vi gh.1)]) (fun gh=>[]++(L++gh.2.2.2)) (fun gh=>G1) (fun gh=>gh.1≤x.rows.length∧bR 147 7 gh.2.1 ((x.rows.take gh.1).flatMap aM.cells).length gh.2.2.1 gh.2.2.2∧bE G1 7 (((x.rows.take gh.1).flatMap aM.cells).map aL.dat) gh.2.2.1) (fun gh=>x.rows.length - gh.1) ((0,.slice none 0 0,[],[])) (by exact (St.F8 (A:=[_]) (H.cu (Pl:=[_,_]) (bS:=[_]) [1] (by decide) rfl)).sub ⟨rfl,rfl,rfl,rfl,rfl,bB⟩) ?_ ?_
  ·exact ⟨by omega,bR.nil,by simpa using bE.nil⟩
  clear H;rintro ⟨rk,v3,xs,Lo⟩ a w hI H;dsimp only at hI H;obtain ⟨RX,hrw3,eD⟩:=hI;dsimp only [lca,aR] at H;refine dN 4 H ?_ ?_ <;> clear H
  ·intro wJ
   have hk2:rk < x.rows.length:=by omega
   obtain ⟨b,o,qA,qn,qc,eA,en,ec,zA,zn,zc,cA,cn,cc,rfl,hrow,Bf,hcl⟩:=EC hk2 hr.at_;replace hrow:=fun j u hj=>aJ hGi (hrow j u hj);have XT:=hcl.len;rw [bO] at XT;subst XT;have hsz2:=Qn (x.rows.take (rk+1));have Ml:=apQ x.rows (rk+1);rw [gN hk2,List.flatMap_append,jH,List.flatMap_singleton] at hsz2;rw [gN hk2] at Ml;refine ak 5 ?_;intro a H;refine bg iU (cs:=[_,_,_,_,_,_]) H wn rfl rfl (fun j v hj=>H.hp.aF (hrow j v hj)) rfl ?_;clear H;intro a H;refine dx iU H wn rfl ?_;clear H;intro b5 a w hb5 H;refine aV iU 0 (vs:=[_,_,_,_,_,_]) _ H wn rfl rfl rfl rfl rfl rfl rfl rfl ?_;clear H;intro w H;dsimp only [List.set,setRow] at H;refine aH 5 H ?_;clear H;intro a H;refine anf (Li:=[_,_]++L) (Lo:=Lo) wO iw rfl rfl (St.un (A:=[_,_]) H) wn rfl rfl hrw3 (hcl.mono hGi) (by omega) (by omega) rfl ?_;clear H;intro v29 abU news a w ajL hcn H;refine aH 1 H ?_;clear H;intro a H;refine aG ?_;replace H:=H.assoc.cu (Pl:=[_,_]) (bS:=[_]) [1] (by decide) rfl;refine dG ?_;refine eB 3 H ?_;clear H;intro a H;refine aG ?_;refine dH ((rk+1,v29,xs++news,abU)) sB ?_ ?_
   ·(try dsimp only);exact ⟨by omega,by rw [gN hk2,List.flatMap_append,jH,List.flatMap_singleton];exact ajL,by rw [gN hk2,List.flatMap_append,nG,List.flatMap_singleton];exact eD.append hcn⟩
   first|omega|(dsimp only;omega)
  intro wJ
  have ajH:rk=x.rows.length:=by omega
  subst ajH;rw [wW] at hrw3 eD;intro a H;obtain ⟨G3,qx,hin,H⟩:=(St.un (A:=[_]) H).rG (rows:=((x.rows.flatMap aM.cells)).map aL.dat) hrw3 (by simp) eD
  replace hin:av G3 (.sl 7 ((jm x).map aL.dat)) v3:=by rw [jm,ay xG];exact hin
  obtain ⟨iA,ni,ic,rfl⟩:=hin.form;have RN:=hin.len;rw [bO] at RN
  have hisz:(jm x).length≤4294967296:=by
   have h1:=Qn x.rows;rw [jm,ay xG];omega
  refine eB 7 H ?_;clear H;intro a H;refine Ko (ι:=Nat × Nat × OL × GH × List Nat) (Tc:=[(2,_),(31,_),(32,_)]) (Lc:=[(_,_)]) (fun gh=>F6 gh.2.2.2.2) (fun gh=>[(33,vi gh.1)]) (fun gh=>[]++(jU gh.2.2.2.2++gh.2.2.1)) (fun gh=>gh.2.2.2.1) (fun gh=>gh.1≤(jm x).length∧(∀ b o,G3 b=some o→gh.2.2.2.1 b=some o)∧Now ((jV (jm x)).map xH) xH J (jV (jm x)).length gh.2.1 (jV ((jm x).drop gh.1)) gh.2.2.2.1 gh.2.2.1) (fun gh=>(jm x).length - gh.1) ((0,0,L,G3,[])) sB ?_ ?_
  ·exact ⟨by omega,fun _ _ h=>h,⟨jT _ _ _ _ qx hJ,fun i a h=>by rw [fQ,nE];rw [List.drop_zero] at h;rw [h];rfl,by simp⟩⟩
  clear H;rintro ⟨ck,j1,Lt,g,ds⟩ a w hI H;dsimp only at hI H;obtain ⟨hck,hgm,bG⟩:=hI;dsimp only [lca,aR] at H;refine dN 4 H ?_ ?_ <;> clear H
  ·intro p34
   have hk3:ck < (jm x).length:=by omega
   obtain ⟨b,o,sA,sn,sc,tA,tn,tc,uA,un,uc,gA,gn,gc,Rq,hrow,hch,hcf⟩:=DL hk3 hin.at_;subst Rq;replace hrow:=fun j u hj=>aJ hgm (hrow j u hj);rw [lW hk3,Z6] at bG;refine ak 5 ?_;intro a H;refine bg iw (cs:=[_,_,_,_,_,_,_]) H wn rfl rfl (fun j v hj=>H.hp.aF (hrow j v hj)) rfl ?_;clear H;intro a H;refine dx iw H wn rfl ?_;clear H;intro b7 a w sV H;refine aV iw 0 (vs:=[_,_,_,_,_,_,_]) _ H wn rfl rfl rfl rfl rfl rfl rfl rfl ?_;clear H;intro w H;dsimp only [List.set,setRow] at H;refine aH 6 H ?_;clear H;intro a H;refine s_call PY H wn rfl (Tx ih _ _ H.ro (jm x)[ck].flow (jm x)[ck].id _ (by have:=Zc (iF hk3);omega) (hcf.mono hgm)) rfl ?_;clear H;rintro v41 GZ a w ⟨bl,bi,rfl,hit⟩ zI H;refine aH 2 H ?_;clear H;intro a H;refine Aq (ι:=OL) (κ:=OL) (Lc:=[(_,_),(_,_)]) (fun (k:Nat) (gh:OL)=>[]) (fun (k:Nat) (gh:OL)=>(jU ds++gh)) (fun (k:Nat) (gh:OL) (g:GH)=>J (j1+k) g gh) (fun (gx:OL)=>Code.ret) (fun (gx:OL)=>[]) (fun (gx:OL)=>(jU ds++gx)) (fun (gx:OL) (g:GH)=>Jx g gx) (Lt) (by exact H) rfl KG (hit) (fun _ _ h=>h) rfl (fun k args g h=>by obtain ⟨_,_,rfl,_⟩:=zQ h;rfl) (fun k i G G' hm h=>jT _ _ _ _ hm h) (fun x G G' hm h=>hJx _ _ _ hm h) (jT _ _ _ _ zI bG.now) ?_ ?_ ?_
   ·clear H;intro l13 tQ qH bk k args sw BL w13 F13 B13 a Ru vo hI QX RI R5 H;obtain ⟨hk,Kw,rfl,wD⟩:=zQ Ru;obtain ⟨aA,an,ac,bA,bn,bc,Ky,KD,KA,KE,KL,KF,MB,MF,MC,rfl,-⟩:=wD.item;dsimp only [qm,List.cons_append,List.nil_append] at H;refine wo ?_;refine dx kD H wn rfl ?_;clear H;intro b8 a w yE H;refine aV kD 0 (vs:=[_,_]) _ H wn rfl rfl rfl rfl rfl rfl rfl rfl ?_;clear H;intro w H;dsimp only [List.set,setRow] at H;refine aH 2 H ?_;clear H;intro a H;refine dx dR H wn rfl ?_;clear H;intro b9 a w sW H;refine aV dR 0 (vs:=[_,_,_,_,_,_,_,_,_,_,_]) _ H wn rfl rfl rfl rfl rfl rfl rfl rfl ?_;clear H;intro w H;dsimp only [List.set,setRow] at H;refine aG ?_;refine QX _ _ _ _ _ _ (by exact H.cu (Pl:=[_,_,_,_,_]) (bS:=[_,_,_,_,_]) [2,0,1,3,4] (by decide) rfl) ?_;clear H;intro w H;refine eB 3 H ?_;clear H;intro a H;refine bg kD (cs:=[_,_]) H wn rfl rfl (H.hp.cK 2 rfl rfl) rfl ?_;clear H;intro a H;refine bg dR (cs:=[_,_,_,_,_,_,_,_,_,_,_]) H wn rfl rfl (H.hp.cK 1 rfl rfl) rfl ?_;clear H;intro a H;refine pq (Li:=([_,_,_,_,_]++bk)++jU ds) (L:=sw) (St.un (A:=[_,_,_,_,_]++bk) (St.un (A:=[_,_,_,_,_]) H)) wn rfl rfl (hcb (j1+k) _ _ _ _ ⟨_,bG.part k _ (dY hk),_,rfl,wD⟩ (fun b o h=>vo b o (zI b o (hgm b o (qx b o h)))) hI (Hp.owns (Li:=([_,_,_,_,_]++bk)++jU ds) (St.un (A:=[_,_,_,_,_]++bk) (St.un (A:=[_,_,_,_,_]) H)).hp)) rfl ?_;clear H;rintro v47 JZ Hu a w ⟨b47,rfl,hb1,hb2⟩ Yb H
    simp only [gy,jg,iD] at H
    refine gX 2 H ?_ ?_ <;> clear H
    ·intro h48
     intro a H;refine bV ?_;refine (R5 (Hu) _ _ _ _ _ (by exact H.cu (Pl:=[_,_,_,_,_]) (bS:=[_,_,_]) [0,3,4] (by decide) rfl) ?_).1 rfl;exact hb2 (by simpa using h48)
    intro h48
    intro a H;refine ji ?_;refine RI (Hu) _ _ _ _ _ (by exact H.cu (Pl:=[_,_,_,_,_]) (bS:=[_,_,_]) [0,3,4] (by decide) rfl) ?_;exact hb1 (by simpa using h48)
   ·clear H;intro GR sw Hf a w vo hI H;dsimp only [lca,aR] at H;refine dG ?_;refine eB 3 H ?_;clear H;intro a H;refine aG ?_;refine Es ((ck+1,j1+(kR (jm x)[ck].id 0 (jm x)[ck].flow).length,sw,Hf,GR :: ds)) (by exact (H.cu (Pl:=[_,_,_]) (bS:=[_,_]) [2,0] (by decide) rfl).sub ⟨rfl,rfl,rfl,rfl,bB⟩) ?_ ?_
    ·(try dsimp only);exact ⟨by omega,fun b o h=>vo b o (zI b o (hgm b o h)),bG.jump (by simpa using hI)⟩
    first|omega|(dsimp only;omega)
   clear H;intro GR Lx Hf a w vo hI H;dsimp only [lca,aR] at H;refine bV ?_;refine (wF H 0 rfl ?_).1;clear H;intro a w H;dsimp only [List.eraseIdx_cons_succ,List.eraseIdx_cons_zero] at H;refine (xE (Lh:=[_,_]) _ H ?_).1;clear H;intro a w H;dsimp only [lca,aR] at H;refine (leave0 H results193 ?_).1
   first
    | exact H.hp.bZ (L':=Lx) (by repeat (first|exact bX _|apply List.Sublist.cons)) (.inr hI)
    | exact H.hp.bZ (L':=Lt) (by repeat (first|exact bX _|apply List.Sublist.cons)) (.inl (by rw [fM (by omega),jV] at bG;have:=bG.len;simp only [List.length_nil,kI] at this;rw [bO,← this];exact bG.now))
  intro p34
  intro a H;refine wX ?_;refine (xE (Lh:=[_]) _ H ?_).2;clear H;intro a w H;dsimp only [lca,aR] at H;refine (leave0 H results193 ?_).1
  first
   | exact H.hp.bZ (L':=Lx) (by repeat (first|exact bX _|apply List.Sublist.cons)) (.inr hI)
   | exact H.hp.bZ (L':=Lt) (by repeat (first|exact bX _|apply List.Sublist.cons)) (.inl (by rw [fM (by omega),jV] at bG;have:=bG.len;simp only [List.length_nil,kI] at this;rw [bO,← this];exact bG.now))
 intro xG
 intro a H;obtain ⟨G3,qx,hin,H⟩:=H.KU (sz:=7) (d:=(aL.mk x.id ⟨[],⟨0,0,[],[]⟩⟩ x.flow).dat) rfl (aN.Ev (x:=aL.mk x.id ⟨[],⟨0,0,[],[]⟩⟩ x.flow) ⟨av.iT rfl (by decide),av.iT rfl (by decide),av.iT rfl (by decide)⟩ (hf.mono hGi))
 replace hin:av G3 (.sl 7 ((jm x).map aL.dat)) (.slice (some ⟨b15,0,none⟩) 1 1):=by rw [jm,ah xG];exact hin
 obtain ⟨iA,hiA⟩:∃ z,z=some (Addr.mk b15 0 none):=⟨_,rfl⟩;obtain ⟨ni,hni⟩:∃ z,z=1:=⟨_,rfl⟩;obtain ⟨ic,hic⟩:∃ z,z=1:=⟨_,rfl⟩;rw [← hiA] at hin H;have RN:=hin.len;rw [bO] at RN
 have hisz:(jm x).length≤4294967296:=by omega
 refine eB 7 H ?_;clear H;intro a H;refine Ko (ι:=Nat × Nat × OL × GH × List Nat) (Tc:=[(2,_),(31,_),(32,_)]) (Lc:=[(_,_)]) (fun gh=>F6 gh.2.2.2.2) (fun gh=>[(33,vi gh.1)]) (fun gh=>[]++(jU gh.2.2.2.2++gh.2.2.1)) (fun gh=>gh.2.2.2.1) (fun gh=>gh.1≤(jm x).length∧(∀ b o,G3 b=some o→gh.2.2.2.1 b=some o)∧Now ((jV (jm x)).map xH) xH J (jV (jm x)).length gh.2.1 (jV ((jm x).drop gh.1)) gh.2.2.2.1 gh.2.2.1) (fun gh=>(jm x).length - gh.1) ((0,0,L,G3,[])) sB ?_ ?_
 ·exact ⟨by omega,fun _ _ h=>h,⟨jT _ _ _ _ qx hJ,fun i a h=>by rw [fQ,nE];rw [List.drop_zero] at h;rw [h];rfl,by simp⟩⟩
 clear H;rintro ⟨ck,j1,Lt,g,ds⟩ a w hI H;dsimp only at hI H;obtain ⟨hck,hgm,bG⟩:=hI;dsimp only [lca,aR] at H;refine dN 4 H ?_ ?_ <;> clear H
 ·intro p34
  have hk3:ck < (jm x).length:=by omega
  obtain ⟨b,o,sA,sn,sc,tA,tn,tc,uA,un,uc,gA,gn,gc,Rq,hrow,hch,hcf⟩:=DL hk3 hin.at_;subst Rq;replace hrow:=fun j u hj=>aJ hgm (hrow j u hj);rw [lW hk3,Z6] at bG;refine ak 5 ?_;intro a H;refine bg iw (cs:=[_,_,_,_,_,_,_]) H wn rfl rfl (fun j v hj=>H.hp.aF (hrow j v hj)) rfl ?_;clear H;intro a H;refine dx iw H wn rfl ?_;clear H;intro b7 a w sV H;refine aV iw 0 (vs:=[_,_,_,_,_,_,_]) _ H wn rfl rfl rfl rfl rfl rfl rfl rfl ?_;clear H;intro w H;dsimp only [List.set,setRow] at H;refine aH 6 H ?_;clear H;intro a H;refine s_call PY H wn rfl (Tx ih _ _ H.ro (jm x)[ck].flow (jm x)[ck].id _ (by have:=Zc (iF hk3);omega) (hcf.mono hgm)) rfl ?_;clear H;rintro v41 GZ a w ⟨bl,bi,rfl,hit⟩ zI H;refine aH 2 H ?_;clear H;intro a H;refine Aq (ι:=OL) (κ:=OL) (Lc:=[(_,_),(_,_)]) (fun (k:Nat) (gh:OL)=>[]) (fun (k:Nat) (gh:OL)=>(jU ds++gh)) (fun (k:Nat) (gh:OL) (g:GH)=>J (j1+k) g gh) (fun (gx:OL)=>Code.ret) (fun (gx:OL)=>[]) (fun (gx:OL)=>(jU ds++gx)) (fun (gx:OL) (g:GH)=>Jx g gx) (Lt) (by exact H) rfl KG (hit) (fun _ _ h=>h) rfl (fun k args g h=>by obtain ⟨_,_,rfl,_⟩:=zQ h;rfl) (fun k i G G' hm h=>jT _ _ _ _ hm h) (fun x G G' hm h=>hJx _ _ _ hm h) (jT _ _ _ _ zI bG.now) ?_ ?_ ?_
  ·clear H;intro l13 tQ qH bk k args sw BL w13 F13 B13 a Ru vo hI QX RI R5 H;obtain ⟨hk,Kw,rfl,wD⟩:=zQ Ru;obtain ⟨aA,an,ac,bA,bn,bc,Ky,KD,KA,KE,KL,KF,MB,MF,MC,rfl,-⟩:=wD.item;dsimp only [qm,List.cons_append,List.nil_append] at H;refine wo ?_;refine dx kD H wn rfl ?_;clear H;intro b8 a w yE H;refine aV kD 0 (vs:=[_,_]) _ H wn rfl rfl rfl rfl rfl rfl rfl rfl ?_;clear H;intro w H;dsimp only [List.set,setRow] at H;refine aH 2 H ?_;clear H;intro a H;refine dx dR H wn rfl ?_;clear H;intro b9 a w sW H;refine aV dR 0 (vs:=[_,_,_,_,_,_,_,_,_,_,_]) _ H wn rfl rfl rfl rfl rfl rfl rfl rfl ?_;clear H;intro w H;dsimp only [List.set,setRow] at H;refine aG ?_;refine QX _ _ _ _ _ _ (by exact H.cu (Pl:=[_,_,_,_,_]) (bS:=[_,_,_,_,_]) [2,0,1,3,4] (by decide) rfl) ?_;clear H;intro w H;refine eB 3 H ?_;clear H;intro a H;refine bg kD (cs:=[_,_]) H wn rfl rfl (H.hp.cK 2 rfl rfl) rfl ?_;clear H;intro a H;refine bg dR (cs:=[_,_,_,_,_,_,_,_,_,_,_]) H wn rfl rfl (H.hp.cK 1 rfl rfl) rfl ?_;clear H;intro a H;refine pq (Li:=([_,_,_,_,_]++bk)++jU ds) (L:=sw) (St.un (A:=[_,_,_,_,_]++bk) (St.un (A:=[_,_,_,_,_]) H)) wn rfl rfl (hcb (j1+k) _ _ _ _ ⟨_,bG.part k _ (dY hk),_,rfl,wD⟩ (fun b o h=>vo b o (zI b o (hgm b o (qx b o h)))) hI (Hp.owns (Li:=([_,_,_,_,_]++bk)++jU ds) (St.un (A:=[_,_,_,_,_]++bk) (St.un (A:=[_,_,_,_,_]) H)).hp)) rfl ?_;clear H;rintro v47 JZ Hu a w ⟨b47,rfl,hb1,hb2⟩ Yb H
   simp only [gy,jg,iD] at H
   refine gX 2 H ?_ ?_ <;> clear H
   ·intro h48
    intro a H;refine bV ?_;refine (R5 (Hu) _ _ _ _ _ (by exact H.cu (Pl:=[_,_,_,_,_]) (bS:=[_,_,_]) [0,3,4] (by decide) rfl) ?_).1 rfl;exact hb2 (by simpa using h48)
   intro h48
   intro a H;refine ji ?_;refine RI (Hu) _ _ _ _ _ (by exact H.cu (Pl:=[_,_,_,_,_]) (bS:=[_,_,_]) [0,3,4] (by decide) rfl) ?_;exact hb1 (by simpa using h48)
  ·clear H;intro GR sw Hf a w vo hI H;dsimp only [lca,aR] at H;refine dG ?_;refine eB 3 H ?_;clear H;intro a H;refine aG ?_;refine Es ((ck+1,j1+(kR (jm x)[ck].id 0 (jm x)[ck].flow).length,sw,Hf,GR :: ds)) (by exact (H.cu (Pl:=[_,_,_]) (bS:=[_,_]) [2,0] (by decide) rfl).sub ⟨rfl,rfl,rfl,rfl,bB⟩) ?_ ?_
   ·(try dsimp only);exact ⟨by omega,fun b o h=>vo b o (zI b o (hgm b o h)),bG.jump (by simpa using hI)⟩
   first|omega|(dsimp only;omega)
  clear H;intro GR Lx Hf a w vo hI H;dsimp only [lca,aR] at H;refine bV ?_;refine (wF H 0 rfl ?_).1;clear H;intro a w H;dsimp only [List.eraseIdx_cons_succ,List.eraseIdx_cons_zero] at H;refine (xE (Lh:=[_,_]) _ H ?_).1;clear H;intro a w H;dsimp only [lca,aR] at H;refine (leave0 H results193 ?_).1
  first
   | exact H.hp.bZ (L':=Lx) (by repeat (first|exact bX _|apply List.Sublist.cons)) (.inr hI)
   | exact H.hp.bZ (L':=Lt) (by repeat (first|exact bX _|apply List.Sublist.cons)) (.inl (by rw [fM (by omega),jV] at bG;have:=bG.len;simp only [List.length_nil,kI] at this;rw [bO,← this];exact bG.now))
 intro p34
 intro a H;refine wX ?_;refine (xE (Lh:=[_]) _ H ?_).2;clear H;intro a w H;dsimp only [lca,aR] at H;refine (leave0 H results193 ?_).1
 first
  | exact H.hp.bZ (L':=Lx) (by repeat (first|exact bX _|apply List.Sublist.cons)) (.inr hI)
  | exact H.hp.bZ (L':=Lt) (by repeat (first|exact bX _|apply List.Sublist.cons)) (.inl (by rw [fM (by omega),jV] at bG;have:=bG.len;simp only [List.length_nil,kI] at this;rw [bO,← this];exact bG.now))
theorem abC {n:Nat} (ih:EU n) (hn:n≤4294967296) (G:GH) (w0:World) (hG:Hold G w0) (x:au) (cs:List aj) (hsz:bJ x.dat≤n) (hv:aN G x.dat cs) :
  Calls prog 150 #[.agg cs.toArray] w0 (bD w0 G fun u G'=>∃ bx,u=.func (.func 193) #[] #[(aD bx 0)]∧Iter prog G' u ((jV (jm x)).map xH)):=by
 obtain ⟨pA,pn,pc,dA,dn,dc,yA,yn,yc,fA,fn,fc,rA,rn,rc,hcs,-⟩:=hv.item;have hv2:=hv;rw [hcs] at hv2 ⊢;refine eN [(0,_)] func150 rfl ntmps150 rfl rfl hG ?_;refine ak 1 ?_;intro a H;refine dU (cs:=[_,_,_,_,_,_,_,_,_,_,_]) H wn rfl rfl rfl ?_;clear H;intro b1 a w hb1 H;refine aH 3 H ?_;clear H;intro a H;refine mP H wn rfl rfl ?_;clear H;refine ak 2 ?_;intro a H;refine bV ?_;obtain ⟨G2,hm2,hb1,H⟩:=H.dP;refine lv H results150 rfl ?_;exact H.rt ⟨b1,rfl,apE ih hn hsz hb1 (hv2.mono hm2)⟩
theorem acp (x:au):sF x < bJ x.dat:=by
 have h1:=qC x;have h2:=Ij x.text
 unfold sF;split <;> omega
theorem amr {n:Nat} (ih:EU n) (hn:n≤4294967296):EU (n+1):=by
 intro G l id bl bi v hz hbl hbi hv J Jx fv G1 L w0 A9 hGi jT hJx hJ hO hcb;refine jq (caps:=[(aD bl 0),(aD bi 0)]) KG ?_;obtain ⟨A,c,rfl,hc1,hc2,hg⟩:=hv.slice;rw [bO] at *;have hll:=wR l;replace hbl:=aJ hGi hbl;replace hbi:=aJ hGi hbi;refine gB (N:=55) (T:=[(0,_),(1,_),(2,_)]) func149 rfl ntmps149 rfl rfl hO ?_;refine ak 1 ?_;intro a H;refine dU (cs:=[fv]) H wn rfl A9 rfl ?_;clear H;intro b3 a w hb3 H;refine aH 10 H ?_;clear H;intro a H;refine Ko (ι:=Nat × Int × Nat × OL × GH × List Nat) (Tc:=[(2,_),(3,_),(12,_),(13,_)]) (Lc:=[(_,_)]) (fun gh=>F6 gh.2.2.2.2.2) (fun gh=>[(4,vi gh.2.1),(14,vi gh.1)]) (fun gh=>[]++(jU gh.2.2.2.2.2++gh.2.2.2.1)) (fun gh=>gh.2.2.2.2.1) (fun gh=>gh.1≤l.length∧(∀ b o,G1 b=some o→gh.2.2.2.2.1 b=some o)∧Now ((kR id 0 l).map xH) xH J (kR id 0 l).length gh.2.2.1 (kR id gh.2.1 (l.drop gh.1)) gh.2.2.2.2.1 gh.2.2.2.1∧0≤gh.2.1∧gh.2.1+aZ (l.drop gh.1)≤n) (fun gh=>l.length - gh.1) ((0,0,0,L,G1,[])) sB ?_ ?_
 ·exact ⟨by omega,fun _ _ h=>h,⟨hJ,fun i a h=>by rw [fQ,nE];rw [List.drop_zero] at h;rw [h];rfl,by simp⟩,Int.le_refl _,by simp;omega⟩
 clear H;rintro ⟨k,at_,j1,Lt,g,ds⟩ a w hI H;dsimp only at hI H;obtain ⟨hk,hgm,bG,aqh,hat⟩:=hI;dsimp only [lca,aR] at H;refine dN 4 H ?_ ?_ <;> clear H
 ·intro oZ
  have hk2:k < l.length:=by omega
  obtain ⟨b,o,pA,pn,pc,dA,dn,dc,yA,yn,yc,fA,fn,fc,rA,rn,rc,rfl,hrow,hhd,hfl,hrw⟩:=zx hk2 hg;have qL:∀ b o,G b=some o→g b=some o:=fun b o h=>hgm b o (hGi b o h);replace hrow:=fun j u hj=>aJ qL (hrow j u hj);have aqx:=aJ hgm hbi;have hsz1:=qC l[k];have hsz2:=NV (iF hk2);have aqg:=acp l[k];rw [lW hk2] at bG hat;rw [aZ,eu,dX] at hat;rw [kR] at bG;refine ak 5 ?_;intro a H;refine bg dR (cs:=[_,_,_,_,_,_,_,_,_,_,_]) H wn rfl rfl (fun j v hj=>H.hp.aF (hrow j v hj)) rfl ?_;clear H;intro a H;refine dx dR H wn rfl ?_;clear H;intro b6 a w hb6 H;refine aV dR 0 (vs:=[_,_,_,_,_,_,_,_,_,_,_]) _ H wn rfl rfl rfl rfl rfl rfl rfl rfl ?_;clear H;intro w H;dsimp only [List.set,setRow] at H;refine aH 4 H ?_;clear H;intro a H;refine jY Uf [_,_] H wn rfl rfl rfl rfl ?_;clear H;intro a H;refine dx kD H wn rfl ?_;clear H;intro b7 a w sV H;refine aV kD 0 (vs:=[_,_]) _ H wn rfl rfl rfl rfl rfl rfl rfl rfl ?_;clear H;intro w H;dsimp only [List.set,setRow] at H;refine gW 15 H ?_ ?_ <;> clear H
  ·intro p25
   have hcl:=Ij l[k].text;refine ak 3 ?_;intro a H;refine s_call PU H wn rfl (O8 _ _ H.ro _ (by omega)) rfl ?_;clear H;rintro v30 Ai a w ⟨rfl,rfl⟩ wz H;refine aH 1 H ?_;clear H;intro a H;(iterate 2 refine qh H wn rfl rfl rfl ?_;clear H;intro a H);refine aH 9 H ?_;clear H
   have e:at_+1+((oD l[k].text:Int) - 1)=at_+(sF l[k]:Int):=by rw [sF,ay p25];omega
   intro a H;rw [e] at H;refine aH 4 H ?_;clear H;intro a H;refine aG ?_;refine Es ((k+1,at_+sF l[k],j1,Lt,g,ds)) (by exact (H.cu (Pl:=[_,_,_]) (bS:=[_]) [2] (by decide) rfl).sub ⟨rfl,rfl,rfl,rfl,rfl,rfl,bB⟩) ?_ ?_
   ·(try dsimp only);exact ⟨by omega,hgm,by rw [Gg,ah (by omega),iD] at bG;exact bG,by omega,by show at_+(sF l[k]:Int)+(dX ((l.drop (k+1)).map au.dat):Nat)≤n;omega⟩
   first|omega|(dsimp only;omega)
  intro p25
  have e:at_+1=at_+(sF l[k]:Int):=by rw [sF,ah p25];rfl
  intro a H;rw [e] at H;refine XA 5 H ?_ ?_ <;> clear H
  ·intro h37
   try have p37:=dT h37
   have Qt:l[k].kind=6∨l[k].kind=7:=by first|exact .inl p37|exact .inr p37
   rw [Gg,ay Qt] at bG;refine ak 5 ?_;intro a H;refine bg kD (cs:=[_,_]) H wn rfl rfl (H.hp.cK 0 rfl rfl) rfl ?_;clear H;intro a H;refine bg dR (cs:=[_,_,_,_,_,_,_,_,_,_,_]) H wn rfl rfl (H.hp.cK 1 rfl rfl) rfl ?_;clear H;intro a H;refine pq (Li:=[_,_,_]++jU ds) (L:=Lt) (St.un (A:=[_,_,_]) H) wn rfl rfl (hcb j1 _ _ _ _ ⟨_,bG.head,_,rfl,aN.mkItem (hhd.mono qL) (hfl.mono qL) (hrw.mono qL)⟩ hgm bG.now (Hp.owns (Li:=[_,_,_]++jU ds) (St.un (A:=[_,_,_]) H).hp)) rfl ?_;clear H;rintro v43 Dn BQ a w ⟨Ki,rfl,hb1,hb2⟩ nN H
   simp only [gy,jg,iD] at H
   refine gX 2 H ?_ ?_ <;> clear H
   ·intro uW
    try have p44:=dT uW
    intro a H;refine bV ?_;refine (xE (Lh:=[_,_,_]) _ H ?_).1;clear H;intro a w H;dsimp only [lca,aR] at H;refine (leave0 H results149 ?_).1
    first
     | exact H.hp.bZ (L':=Lx) (by repeat (first|exact bX _|apply List.Sublist.cons)) (.inr hI)
     | exact H.hp.bZ (L':=BQ) (by repeat (first|exact bX _|apply List.Sublist.cons)) (.inr (hb2 (by simpa using uW)))
     | exact H.hp.bZ (L':=Lt) (by repeat (first|exact bX _|apply List.Sublist.cons)) (.inl (by rw [fM (by omega),kR] at bG;have:=bG.len;simp only [List.length_nil,kI] at this;(try rw [bO]);rw [← this];exact bG.now))
   intro uW
   try have p44:=dF uW
   have mZ:=bG.step (hb1 (by simpa using uW));refine ak 2 ?_;intro a H;refine bg dR (cs:=[_,_,_,_,_,_,_,_,_,_,_]) H wn rfl rfl (H.hp.cK 1 rfl rfl) rfl ?_;clear H;intro a H;refine s_call WK H wn rfl (abC ih hn _ _ H.ro l[k] _ (by omega) (aN.mkItem (hhd.mono fun b o h=>nN b o (qL b o h)) (hfl.mono fun b o h=>nN b o (qL b o h)) (hrw.mono fun b o h=>nN b o (qL b o h)))) rfl ?_;clear H;rintro v46 Od a w ⟨bx,rfl,hit⟩ Bc H;refine aH 2 H ?_;clear H;intro a H;refine Aq (ι:=OL) (κ:=OL) (Lc:=[(_,_),(_,_),(_,_)]) (fun (k:Nat) (gh:OL)=>[]) (fun (k:Nat) (gh:OL)=>(jU ds++gh)) (fun (k:Nat) (gh:OL) (g:GH)=>J (j1+1+k) g gh) (fun (gx:OL)=>Code.ret) (fun (gx:OL)=>[]) (fun (gx:OL)=>(jU ds++gx)) (fun (gx:OL) (g:GH)=>Jx g gx) (BQ) (by exact H) rfl PE (hit) (fun _ _ h=>h) rfl (fun k args g h=>by obtain ⟨_,_,rfl,_⟩:=zQ h;rfl) (fun k i G G' hm h=>jT _ _ _ _ hm h) (fun x G G' hm h=>hJx _ _ _ hm h) (jT _ _ _ _ Bc mZ.now) ?_ ?_ ?_
   ·clear H;intro Zk tQ qH bk k args sw Af w15 F15 B15 a Rw oh hI QY RJ R6 H;obtain ⟨Rx,Kw,rfl,wD⟩:=zQ Rw;obtain ⟨aA,an,ac,bA,bn,bc,Ky,KD,KA,KE,KL,KF,MB,MF,MC,rfl,-⟩:=wD.item;dsimp only [qm,List.cons_append,List.nil_append] at H;refine wo ?_;refine dx kD H wn rfl ?_;clear H;intro b10 a w LJ H;refine aV kD 0 (vs:=[_,_]) _ H wn rfl rfl rfl rfl rfl rfl rfl rfl ?_;clear H;intro w H;dsimp only [List.set,setRow] at H;refine aH 2 H ?_;clear H;intro a H;refine dx dR H wn rfl ?_;clear H;intro b11 a w DZ H;refine aV dR 0 (vs:=[_,_,_,_,_,_,_,_,_,_,_]) _ H wn rfl rfl rfl rfl rfl rfl rfl rfl ?_;clear H;intro w H;dsimp only [List.set,setRow] at H;refine aG ?_;refine QY _ _ _ _ _ _ (by exact H.cu (Pl:=[_,_,_,_,_,_]) (bS:=[_,_,_,_,_,_]) [2,0,1,3,4,5] (by decide) rfl) ?_;clear H;intro w H;refine eB 3 H ?_;clear H;intro a H;refine bg kD (cs:=[_,_]) H wn rfl rfl (H.hp.cK 2 rfl rfl) rfl ?_;clear H;intro a H;refine bg dR (cs:=[_,_,_,_,_,_,_,_,_,_,_]) H wn rfl rfl (H.hp.cK 1 rfl rfl) rfl ?_;clear H;intro a H;refine pq (Li:=([_,_,_,_,_,_]++bk)++jU ds) (L:=sw) (St.un (A:=[_,_,_,_,_,_]++bk) (St.un (A:=[_,_,_,_,_,_]) H)) wn rfl rfl (hcb (j1+1+k) _ _ _ _ ⟨_,mZ.part k _ (dY Rx),_,rfl,wD⟩ (fun b o h=>oh b o (Bc b o (nN b o (hgm b o h)))) hI (Hp.owns (Li:=([_,_,_,_,_,_]++bk)++jU ds) (St.un (A:=[_,_,_,_,_,_]++bk) (St.un (A:=[_,_,_,_,_,_]) H)).hp)) rfl ?_;clear H;rintro v52 Oe Hw a w ⟨b52,rfl,hb3,hb4⟩ RF H
    simp only [gy,jg,iD] at H
    refine gX 2 H ?_ ?_ <;> clear H
    ·intro DY
     intro a H;refine bV ?_;refine (R6 (Hw) _ _ _ _ _ (by exact H.cu (Pl:=[_,_,_,_,_,_]) (bS:=[_,_,_,_]) [0,3,4,5] (by decide) rfl) ?_).1 rfl;exact hb4 (by simpa using DY)
    intro DY
    intro a H;refine ji ?_;refine RJ (Hw) _ _ _ _ _ (by exact H.cu (Pl:=[_,_,_,_,_,_]) (bS:=[_,_,_,_]) [0,3,4,5] (by decide) rfl) ?_;exact hb3 (by simpa using DY)
   ·clear H;intro GU sw Hg a w oh hI H;dsimp only [lca,aR] at H;refine dG ?_;refine eB 3 H ?_;clear H;intro a H;refine aG ?_;refine Es ((k+1,at_+sF l[k],j1+1+(jV (jm l[k])).length,sw,Hg,GU :: ds)) (by exact (H.cu (Pl:=[_,_,_,_]) (bS:=[_,_]) [3,0] (by decide) rfl).sub ⟨rfl,rfl,rfl,rfl,rfl,rfl,bB⟩) ?_ ?_
    ·(try dsimp only);exact ⟨by omega,fun b o h=>oh b o (Bc b o (nN b o (hgm b o h))),mZ.jump (by simpa using hI),by omega,by show at_+(sF l[k]:Int)+(dX ((l.drop (k+1)).map au.dat):Nat)≤n;omega⟩
    first|omega|(dsimp only;omega)
   clear H;intro GU Lx Hg a w oh hI H;dsimp only [lca,aR] at H;refine bV ?_;refine (wF H 0 rfl ?_).1;clear H;intro a w H;dsimp only [List.eraseIdx_cons_succ,List.eraseIdx_cons_zero] at H;refine (xE (Lh:=[_,_,_]) _ H ?_).1;clear H;intro a w H;dsimp only [lca,aR] at H;refine (leave0 H results149 ?_).1
   first
    | exact H.hp.bZ (L':=Lx) (by repeat (first|exact bX _|apply List.Sublist.cons)) (.inr hI)
    | exact H.hp.bZ (L':=BQ) (by repeat (first|exact bX _|apply List.Sublist.cons)) (.inr (hb2 (by simpa using uW)))
    | exact H.hp.bZ (L':=Lt) (by repeat (first|exact bX _|apply List.Sublist.cons)) (.inl (by rw [fM (by omega),kR] at bG;have:=bG.len;simp only [List.length_nil,kI] at this;(try rw [bO]);rw [← this];exact bG.now))
  intro h37
  try have p37:=dF h37
  intro a H
  first
   | (have hn6:¬ l[k].kind=6:=p37)
   | (have hn7:¬ l[k].kind=7:=p37)
  refine dN 4 H ?_ ?_ <;> clear H
  ·intro p37
   have Qt:l[k].kind=6∨l[k].kind=7:=by first|exact .inl p37|exact .inr p37
   rw [Gg,ay Qt] at bG;refine ak 3 ?_;intro a H;refine bg kD (cs:=[_,_]) H wn rfl rfl (H.hp.cK 0 rfl rfl) rfl ?_;clear H;intro a H;refine bg dR (cs:=[_,_,_,_,_,_,_,_,_,_,_]) H wn rfl rfl (H.hp.cK 1 rfl rfl) rfl ?_;clear H;intro a H;refine pq (Li:=[_,_,_]++jU ds) (L:=Lt) (St.un (A:=[_,_,_]) H) wn rfl rfl (hcb j1 _ _ _ _ ⟨_,bG.head,_,rfl,aN.mkItem (hhd.mono qL) (hfl.mono qL) (hrw.mono qL)⟩ hgm bG.now (Hp.owns (Li:=[_,_,_]++jU ds) (St.un (A:=[_,_,_]) H).hp)) rfl ?_;clear H;rintro v43 Dn BQ a w ⟨Ki,rfl,hb1,hb2⟩ nN H
   simp only [gy,jg,iD] at H
   refine gX 2 H ?_ ?_ <;> clear H
   ·intro uW
    try have p44:=dT uW
    intro a H;refine bV ?_;refine (xE (Lh:=[_,_,_]) _ H ?_).1;clear H;intro a w H;dsimp only [lca,aR] at H;refine (leave0 H results149 ?_).1
    first
     | exact H.hp.bZ (L':=Lx) (by repeat (first|exact bX _|apply List.Sublist.cons)) (.inr hI)
     | exact H.hp.bZ (L':=BQ) (by repeat (first|exact bX _|apply List.Sublist.cons)) (.inr (hb2 (by simpa using uW)))
     | exact H.hp.bZ (L':=Lt) (by repeat (first|exact bX _|apply List.Sublist.cons)) (.inl (by rw [fM (by omega),kR] at bG;have:=bG.len;simp only [List.length_nil,kI] at this;(try rw [bO]);rw [← this];exact bG.now))
   intro uW
   try have p44:=dF uW
   have mZ:=bG.step (hb1 (by simpa using uW));refine ak 2 ?_;intro a H;refine bg dR (cs:=[_,_,_,_,_,_,_,_,_,_,_]) H wn rfl rfl (H.hp.cK 1 rfl rfl) rfl ?_;clear H;intro a H;refine s_call WK H wn rfl (abC ih hn _ _ H.ro l[k] _ (by omega) (aN.mkItem (hhd.mono fun b o h=>nN b o (qL b o h)) (hfl.mono fun b o h=>nN b o (qL b o h)) (hrw.mono fun b o h=>nN b o (qL b o h)))) rfl ?_;clear H;rintro v46 Od a w ⟨bx,rfl,hit⟩ Bc H;refine aH 2 H ?_;clear H;intro a H;refine Aq (ι:=OL) (κ:=OL) (Lc:=[(_,_),(_,_),(_,_)]) (fun (k:Nat) (gh:OL)=>[]) (fun (k:Nat) (gh:OL)=>(jU ds++gh)) (fun (k:Nat) (gh:OL) (g:GH)=>J (j1+1+k) g gh) (fun (gx:OL)=>Code.ret) (fun (gx:OL)=>[]) (fun (gx:OL)=>(jU ds++gx)) (fun (gx:OL) (g:GH)=>Jx g gx) (BQ) (by exact H) rfl PE (hit) (fun _ _ h=>h) rfl (fun k args g h=>by obtain ⟨_,_,rfl,_⟩:=zQ h;rfl) (fun k i G G' hm h=>jT _ _ _ _ hm h) (fun x G G' hm h=>hJx _ _ _ hm h) (jT _ _ _ _ Bc mZ.now) ?_ ?_ ?_
   ·clear H;intro Zk tQ qH bk k args sw Af w15 F15 B15 a Rw oh hI QY RJ R6 H;obtain ⟨Rx,Kw,rfl,wD⟩:=zQ Rw;obtain ⟨aA,an,ac,bA,bn,bc,Ky,KD,KA,KE,KL,KF,MB,MF,MC,rfl,-⟩:=wD.item;dsimp only [qm,List.cons_append,List.nil_append] at H;refine wo ?_;refine dx kD H wn rfl ?_;clear H;intro b10 a w LJ H;refine aV kD 0 (vs:=[_,_]) _ H wn rfl rfl rfl rfl rfl rfl rfl rfl ?_;clear H;intro w H;dsimp only [List.set,setRow] at H;refine aH 2 H ?_;clear H;intro a H;refine dx dR H wn rfl ?_;clear H;intro b11 a w DZ H;refine aV dR 0 (vs:=[_,_,_,_,_,_,_,_,_,_,_]) _ H wn rfl rfl rfl rfl rfl rfl rfl rfl ?_;clear H;intro w H;dsimp only [List.set,setRow] at H;refine aG ?_;refine QY _ _ _ _ _ _ (by exact H.cu (Pl:=[_,_,_,_,_,_]) (bS:=[_,_,_,_,_,_]) [2,0,1,3,4,5] (by decide) rfl) ?_;clear H;intro w H;refine eB 3 H ?_;clear H;intro a H;refine bg kD (cs:=[_,_]) H wn rfl rfl (H.hp.cK 2 rfl rfl) rfl ?_;clear H;intro a H;refine bg dR (cs:=[_,_,_,_,_,_,_,_,_,_,_]) H wn rfl rfl (H.hp.cK 1 rfl rfl) rfl ?_;clear H;intro a H;refine pq (Li:=([_,_,_,_,_,_]++bk)++jU ds) (L:=sw) (St.un (A:=[_,_,_,_,_,_]++bk) (St.un (A:=[_,_,_,_,_,_]) H)) wn rfl rfl (hcb (j1+1+k) _ _ _ _ ⟨_,mZ.part k _ (dY Rx),_,rfl,wD⟩ (fun b o h=>oh b o (Bc b o (nN b o (hgm b o h)))) hI (Hp.owns (Li:=([_,_,_,_,_,_]++bk)++jU ds) (St.un (A:=[_,_,_,_,_,_]++bk) (St.un (A:=[_,_,_,_,_,_]) H)).hp)) rfl ?_;clear H;rintro v52 Oe Hw a w ⟨b52,rfl,hb3,hb4⟩ RF H
    simp only [gy,jg,iD] at H
    refine gX 2 H ?_ ?_ <;> clear H
    ·intro DY
     intro a H;refine bV ?_;refine (R6 (Hw) _ _ _ _ _ (by exact H.cu (Pl:=[_,_,_,_,_,_]) (bS:=[_,_,_,_]) [0,3,4,5] (by decide) rfl) ?_).1 rfl;exact hb4 (by simpa using DY)
    intro DY
    intro a H;refine ji ?_;refine RJ (Hw) _ _ _ _ _ (by exact H.cu (Pl:=[_,_,_,_,_,_]) (bS:=[_,_,_,_]) [0,3,4,5] (by decide) rfl) ?_;exact hb3 (by simpa using DY)
   ·clear H;intro GU sw Hg a w oh hI H;dsimp only [lca,aR] at H;refine dG ?_;refine eB 3 H ?_;clear H;intro a H;refine aG ?_;refine Es ((k+1,at_+sF l[k],j1+1+(jV (jm l[k])).length,sw,Hg,GU :: ds)) (by exact (H.cu (Pl:=[_,_,_,_]) (bS:=[_,_]) [3,0] (by decide) rfl).sub ⟨rfl,rfl,rfl,rfl,rfl,rfl,bB⟩) ?_ ?_
    ·(try dsimp only);exact ⟨by omega,fun b o h=>oh b o (Bc b o (nN b o (hgm b o h))),mZ.jump (by simpa using hI),by omega,by show at_+(sF l[k]:Int)+(dX ((l.drop (k+1)).map au.dat):Nat)≤n;omega⟩
    first|omega|(dsimp only;omega)
   clear H;intro GU Lx Hg a w oh hI H;dsimp only [lca,aR] at H;refine bV ?_;refine (wF H 0 rfl ?_).1;clear H;intro a w H;dsimp only [List.eraseIdx_cons_succ,List.eraseIdx_cons_zero] at H;refine (xE (Lh:=[_,_,_]) _ H ?_).1;clear H;intro a w H;dsimp only [lca,aR] at H;refine (leave0 H results149 ?_).1
   first
    | exact H.hp.bZ (L':=Lx) (by repeat (first|exact bX _|apply List.Sublist.cons)) (.inr hI)
    | exact H.hp.bZ (L':=BQ) (by repeat (first|exact bX _|apply List.Sublist.cons)) (.inr (hb2 (by simpa using uW)))
    | exact H.hp.bZ (L':=Lt) (by repeat (first|exact bX _|apply List.Sublist.cons)) (.inl (by rw [fM (by omega),kR] at bG;have:=bG.len;simp only [List.length_nil,kI] at this;(try rw [bO]);rw [← this];exact bG.now))
  intro p37
  intro a H
  first
   | (have hn6:¬ l[k].kind=6:=p37)
   | (have hn7:¬ l[k].kind=7:=p37)
  refine eB 4 H ?_;clear H;intro a H;refine aG ?_;refine Es ((k+1,at_+sF l[k],j1,Lt,g,ds)) (by exact (H.cu (Pl:=[_,_,_]) (bS:=[_]) [2] (by decide) rfl).sub ⟨rfl,rfl,rfl,rfl,rfl,rfl,bB⟩) ?_ ?_
  ·(try dsimp only);exact ⟨by omega,hgm,by rw [Gg,ah (by omega),iD] at bG;exact bG,by omega,by show at_+(sF l[k]:Int)+(dX ((l.drop (k+1)).map au.dat):Nat)≤n;omega⟩
  first|omega|(dsimp only;omega)
 intro oZ
 intro a H;refine wX ?_;refine (xE (Lh:=[_]) _ H ?_).2;clear H;intro a w H;dsimp only [lca,aR] at H;refine (leave0 H results149 ?_).1
 first
  | exact H.hp.bZ (L':=Lx) (by repeat (first|exact bX _|apply List.Sublist.cons)) (.inr hI)
  | exact H.hp.bZ (L':=BQ) (by repeat (first|exact bX _|apply List.Sublist.cons)) (.inr (hb2 (by simpa using uW)))
  | exact H.hp.bZ (L':=Lt) (by repeat (first|exact bX _|apply List.Sublist.cons)) (.inl (by rw [fM (by omega),kR] at bG;have:=bG.len;simp only [List.length_nil,kI] at this;(try rw [bO]);rw [← this];exact bG.now))
theorem Z9:∀ n:Nat,n≤4294967297→EU n
 | 0,_=>fun _ _ _ _ _ _ h=>absurd h (by omega)
 | n+1,hn=>amr (Z9 n (by omega)) (by omega)
theorem amq (G:GH) (w0:World) (hG:Hold G w0) (l:List au) (id:Int) (v:aj) (hz:aZ l≤4294967296) (hv:av G (.sl 11 (l.map au.dat)) v) :
  Calls prog 84 #[vi id,v] w0 (bD w0 G fun u G'=>∃ bl bi,u=.func (.func 149) #[] #[(aD bl 0),(aD bi 0)]∧Iter prog G' u ((kR id 0 l).map xH)) :=
 Tx (Z9 4294967297 (by omega)) G w0 hG l id v (by omega) hv
end
section
open Go.RowKit
theorem WM:∀ args w,(callFunc 151 args).run prog w=.ok (.enter 151 args) w:=enters func151 rfl (by kernel_rfl)
theorem afc:∀ args w,(callFunc 152 args).run prog w=.ok (.enter 152 args) w:=enters func152 rfl (by kernel_rfl)
theorem agA:∀ args w,(callFunc 87 args).run prog w=.ok (.enter 87 args) w:=enters func87 rfl (by kernel_rfl)
theorem agy:∀ args w,(callFunc 85 args).run prog w=.ok (.enter 85 args) w:=enters func85 rfl (by kernel_rfl)
theorem agB:∀ args w,(callFunc 88 args).run prog w=.ok (.enter 88 args) w:=enters func88 rfl (by kernel_rfl)
theorem agz:∀ args w,(callFunc 86 args).run prog w=.ok (.enter 86 args) w:=enters func86 rfl (by kernel_rfl)
def pO (fv:aj) (G:GH) (d:List Dat) (b:Bool):Prop:=∀ (G1:GH) (w1:World) (cs:List aj),(∀ b o,G b=some o→G1 b=some o)→Hold G1 w1→aN G1 d cs →
 qX prog fv [.agg cs.toArray] w1 (bD w1 G1 fun u G'=>u=.bool b)
def lG (o:Option Nat):Int:=match o with|some i=>i|none=>-1
theorem Za (G:GH) (w0:World) (hG:Hold G w0) (l:List aM) (p:aM→Bool) (v fv:aj) (hv:av G (.sl 6 (l.map aM.dat)) v) (hf:∀ x∈l,pO fv G x.dat (p x)) :
  Calls prog 151 #[v,fv] w0 (bD w0 G fun u G'=>u=vi (lG (l.findIdx? p))):=by
 obtain ⟨A,c,rfl,hc1,hc2,hg⟩:=hv.slice;have hml:maxLen=9223372036854775807:=rfl;rw [bO] at *;refine eN [(0,_),(1,_)] func151 rfl ntmps151 rfl rfl hG ?_;refine ak 10 ?_;intro a H;refine eO (ι:=Nat × GH) (Tc:=[(0,_),(1,_),(7,_)]) (Lc:=[]) (fun gh=>[(8,vi gh.1)]) (fun gh=>[]) (fun gh=>gh.2) (fun gh=>gh.1≤l.length∧(l.take gh.1).findIdx? p=none∧(∀ b o,G b=some o→gh.2 b=some o)) (fun gh=>l.length - gh.1) ((0,G)) sB ?_ ?_
 ·exact ⟨by omega,rfl,fun _ _ h=>h⟩
 clear H;rintro ⟨k,g⟩ a w hI H;dsimp only at hI H;obtain ⟨hk,hno,hgm⟩:=hI;dsimp only [lca,aR] at H;refine dN 4 H ?_ ?_ <;> clear H
 ·intro p9
  have hk2:k < l.length:=by omega
  obtain ⟨b,o,cs,rfl,hcl,hrow,hrep⟩:=hg k l[k].dat (by simp [hk2]);obtain ⟨pA,pn,pc,dA,dn,dc,yA,yn,yc,fA,fn,fc,rfl,-⟩:=hrep.row;replace hrow:=fun j u hj=>aJ hgm (hrow j u hj);refine ak 12 ?_;intro a H;refine bg iU (cs:=[_,_,_,_,_,_]) H wn rfl rfl (fun j v hj=>H.hp.aF (hrow j v hj)) rfl ?_;clear H;intro a H;refine nV H wn rfl rfl (hf _ (iF hk2) _ _ _ hgm H.ro (hrep.mono hgm)) rfl ?_;clear H;rintro v16 uy a w rfl vv H;refine gX 1 H ?_ ?_ <;> clear H
  ·intro h16
   try have p16:=dT h16
   refine aP 4 ?_
   first
    | exact (by rw [tC hk2 hno h16];rfl)
    | exact (by rw [show l.take k=l from jh (by omega)] at hno;rw [hno];rfl)
  intro h16
  try have p16:=dF h16
  refine ak 4 ?_;intro a H;refine aG ?_;refine dH ((k+1,uy)) sB ?_ ?_
  ·(try dsimp only);exact ⟨by omega,CO hk2 hno h16,fun b o h=>vv b o (hgm b o h)⟩
  first|omega|(dsimp only;omega)
 intro p9
 refine aP 4 ?_
 first
  | exact (by rw [tC hk2 hno h16];rfl)
  | exact (by rw [show l.take k=l from jh (by omega)] at hno;rw [hno];rfl)
theorem aee (G:GH) (w0:World) (hG:Hold G w0) (l:List aM) (p:aM→Bool) (v fv:aj) (hv:av G (.sl 6 (l.map aM.dat)) v) (hf:∀ x∈l,pO fv G x.dat (p x)) :
  Calls prog 85 #[v,fv] w0 (bD w0 G fun u G'=>u=.bool (l.findIdx? p).isSome):=by
 refine eN [(0,_),(1,_)] func85 rfl ntmps85 rfl rfl hG ?_;refine ak 6 ?_;intro a H;refine s_call WM H wn rfl (Za _ _ H.ro l p _ _ hv hf) rfl ?_;clear H;rintro v7 G7 a w rfl xu H;refine gH 3 H ?_;cases h:l.findIdx? p <;> simp [lG]
theorem akx (G:GH) (w0:World) (hG:Hold G w0) (l:List aL) (p:aL→Bool) (v fv:aj) (hv:av G (.sl 7 (l.map aL.dat)) v) (hf:∀ x∈l,pO fv G x.dat (p x)) :
  Calls prog 152 #[v,fv] w0 (bD w0 G fun u G'=>u=vi (lG (l.findIdx? p))):=by
 obtain ⟨A,c,rfl,hc1,hc2,hg⟩:=hv.slice;have hml:maxLen=9223372036854775807:=rfl;rw [bO] at *;refine eN [(0,_),(1,_)] func152 rfl ntmps152 rfl rfl hG ?_;refine ak 10 ?_;intro a H;refine eO (ι:=Nat × GH) (Tc:=[(0,_),(1,_),(7,_)]) (Lc:=[]) (fun gh=>[(8,vi gh.1)]) (fun gh=>[]) (fun gh=>gh.2) (fun gh=>gh.1≤l.length∧(l.take gh.1).findIdx? p=none∧(∀ b o,G b=some o→gh.2 b=some o)) (fun gh=>l.length - gh.1) ((0,G)) sB ?_ ?_
 ·exact ⟨by omega,rfl,fun _ _ h=>h⟩
 clear H;rintro ⟨k,g⟩ a w hI H;dsimp only at hI H;obtain ⟨hk,hno,hgm⟩:=hI;dsimp only [lca,aR] at H;refine dN 4 H ?_ ?_ <;> clear H
 ·intro p9
  have hk2:k < l.length:=by omega
  obtain ⟨b,o,cs,rfl,hcl,hrow,hrep⟩:=hg k l[k].dat (by simp [hk2]);obtain ⟨pA,pn,pc,dA,dn,dc,yA,yn,yc,fA,fn,fc,rfl,-⟩:=hrep.cell;replace hrow:=fun j u hj=>aJ hgm (hrow j u hj);refine ak 12 ?_;intro a H;refine bg iw (cs:=[_,_,_,_,_,_,_]) H wn rfl rfl (fun j v hj=>H.hp.aF (hrow j v hj)) rfl ?_;clear H;intro a H;refine nV H wn rfl rfl (hf _ (iF hk2) _ _ _ hgm H.ro (hrep.mono hgm)) rfl ?_;clear H;rintro v16 uy a w rfl vv H;refine gX 1 H ?_ ?_ <;> clear H
  ·intro h16
   try have p16:=dT h16
   refine aP 4 ?_
   first
    | exact (by rw [tC hk2 hno h16];rfl)
    | exact (by rw [show l.take k=l from jh (by omega)] at hno;rw [hno];rfl)
  intro h16
  try have p16:=dF h16
  refine ak 4 ?_;intro a H;refine aG ?_;refine dH ((k+1,uy)) sB ?_ ?_
  ·(try dsimp only);exact ⟨by omega,CO hk2 hno h16,fun b o h=>vv b o (hgm b o h)⟩
  first|omega|(dsimp only;omega)
 intro p9
 refine aP 4 ?_
 first
  | exact (by rw [tC hk2 hno h16];rfl)
  | exact (by rw [show l.take k=l from jh (by omega)] at hno;rw [hno];rfl)
theorem aed (G:GH) (w0:World) (hG:Hold G w0) (l:List aL) (p:aL→Bool) (v fv:aj) (hv:av G (.sl 7 (l.map aL.dat)) v) (hf:∀ x∈l,pO fv G x.dat (p x)) :
  Calls prog 87 #[v,fv] w0 (bD w0 G fun u G'=>u=.bool (l.findIdx? p).isSome):=by
 refine eN [(0,_),(1,_)] func87 rfl ntmps87 rfl rfl hG ?_;refine ak 6 ?_;intro a H;refine s_call afc H wn rfl (akx _ _ H.ro l p _ _ hv hf) rfl ?_;clear H;rintro v7 G7 a w rfl xu H;refine gH 3 H ?_;cases h:l.findIdx? p <;> simp [lG]
def MG (id:Int) (r:aM):Bool:=(r.cells.findIdx? fun c=>decide (c.id=id)).isSome
def F4 (id:Int) (x:au):Bool:=decide (x.id=id) || (x.rows.findIdx? (MG id)).isSome
theorem amn {G:GH} {bi:Nat} {id:Int} (hb:aF G bi 0=some (vi id)) (c:aL):pO (.func (.func 88) #[] #[(aD bi 0)]) G c.dat (decide (c.id=id)):=by
 intro G1 w0 cs hm hG hr;refine jq (caps:=[(aD bi 0)]) agB ?_;obtain ⟨pA,pn,pc,dA,dn,dc,yA,yn,yc,fA,fn,fc,rfl,-⟩:=hr.cell;replace hb:=aJ hm hb;refine eN [(0,_),(1,_)] func88 rfl ntmps88 rfl rfl hG ?_;refine ak 1 ?_;intro a H;refine dU (cs:=[_,_,_,_,_,_,_]) H wn rfl rfl rfl ?_;clear H;intro b2 a w hb2 H;refine gH 9 H ?_;exact rfl
theorem amm {G:GH} {bi:Nat} {id:Int} (hb:aF G bi 0=some (vi id)) (r:aM):pO (.func (.func 86) #[] #[(aD bi 0)]) G r.dat (MG id r):=by
 intro G1 w0 cs hm hG hr;refine jq (caps:=[(aD bi 0)]) agz ?_;obtain ⟨pA,pn,pc,dA,dn,dc,yA,yn,yc,fA,fn,fc,rfl,-,hcl⟩:=hr.row;replace hb:=aJ hm hb;refine eN [(0,_),(1,_)] func86 rfl ntmps86 rfl rfl hG ?_;refine ak 1 ?_;intro a H;refine dU (cs:=[_,_,_,_,_,_]) H wn rfl rfl rfl ?_;clear H;intro b2 a w hb2 H;refine aH 5 H ?_;clear H;intro a H;refine mP H wn rfl rfl ?_;clear H;intro a H;refine s_call agA H wn rfl (aed _ _ H.ro r.cells (fun c=>decide (c.id=id)) _ _ hcl (fun c _=>amn hb c)) rfl ?_;clear H;rintro v7 G7 a w rfl xu H;refine gH 2 H ?_;exact rfl
def zR (l:List au) (id:Int):Option (Int × Int):=((kR 0 0 l).find? fun a=>F4 id a.2).map (·.1)
theorem amo (G:GH) (w0:World) (hG:Hold G w0) (D:jy) (l:List au) (id:Int) (hv:av G (.sl 11 (l.map au.dat)) (aS D.f)) (hz:aZ l≤4294967296) :
  Calls prog 37 #[D.val,vi id] w0 (bD w0 G fun u G'=>u=.tuple #[.agg #[vi ((zR l id).getD (0,0)).1,vi ((zR l id).getD (0,0)).2],.bool (zR l id).isSome]):=by
 refine eN [(0,_),(1,_)] func37 rfl ntmps37 rfl rfl hG ?_;refine ak 1 ?_;intro a H;refine dU (cs:=[_,_,_,_,_,_,_,_,_,_,_]) H wn rfl rfl rfl ?_;clear H;intro b2 a w hb2 H;refine dU (cs:=[_]) H wn rfl rfl rfl ?_;clear H;intro b3 a w hb3 H;refine dx kD H wn rfl ?_;clear H;intro b4 a w hb4 H;refine dx vI H wn rfl ?_;clear H;intro b5 a w hb5 H;refine aH 2 H ?_;clear H;intro a H;have H:=H.cu (Pl:=[_,_,_,_]) (bS:=[_,_,_,_]) [2,0,1,3] (by decide) rfl;obtain ⟨Ga,hma,hb3,H⟩:=H.dP
 have hbi:aF Ga b3 0=some (vi id):=by unfold aF;rw [hb3];rfl
 refine eB 3 H ?_;clear H;intro a H;refine s_call PY H wn rfl (amq _ _ H.ro l 0 _ hz (hv.mono hma)) rfl ?_;clear H;rintro v11 qY a w ⟨bl,bi,rfl,hit⟩ Eb H;refine aH 2 H ?_;clear H;intro a H;refine Aq (ι:=Unit) (κ:=Int × Int) (Lc:=[(_,_)]) (fun (k:Nat) (gh:Unit)=>[(b4,.cells #[vi 0,vi 0] 48 (0,0)),(b5,.cells #[.bool false] 4 (0,0))]) (fun (k:Nat) (gh:Unit)=>[]) (fun (k:Nat) (gh:Unit) (g:GH)=>((kR 0 0 l).take k).find? (fun a=>F4 id a.2)=none) (fun (gx:Int × Int)=>Code.ret) (fun (gx:Int × Int)=>[(b4,.cells #[vi gx.1,vi gx.2] 48 (0,0)),(b5,.cells #[.bool true] 4 (0,0))]) (fun (gx:Int × Int)=>[]) (fun (gx:Int × Int) (g:GH)=>zR l id=some gx) (()) (by exact H.cu (Pl:=[_,_,_]) (bS:=[_,_,_]) [2,1,0] (by decide) rfl) rfl KG (hit) (fun _ _ h=>h) rfl (fun k args g h=>by obtain ⟨_,_,rfl,_⟩:=zQ h;rfl) (fun _ _ _ _ _ h=>h) (fun _ _ _ _ h=>h) (rfl) ?_ ?_ ?_
 ·clear H;intro l2 tQ qH bk k args gh G2 w2 F2 B2 a hk2 hm2 hI QZ RL Mk H;obtain ⟨hk,Kw,rfl,wD⟩:=zQ hk2;obtain ⟨aA,an,ac,bA,bn,bc,Ky,KD,KA,KE,KL,KF,MB,MF,MC,rfl,I4,hf8,hr8⟩:=wD.item;dsimp only [qm,List.cons_append,List.nil_append] at H;replace hbi:=aJ hm2 (aJ Eb hbi);refine wo ?_;refine dx kD H wn rfl ?_;clear H;intro b6 a w hb6 H;refine aV kD 0 (vs:=[_,_]) _ H wn rfl rfl rfl rfl rfl rfl rfl rfl ?_;clear H;intro w H;dsimp only [List.set,setRow] at H;refine aH 2 H ?_;clear H;intro a H;refine dx dR H wn rfl ?_;clear H;intro b7 a w sV H;refine aV dR 0 (vs:=[_,_,_,_,_,_,_,_,_,_,_]) _ H wn rfl rfl rfl rfl rfl rfl rfl rfl ?_;clear H;intro w H;dsimp only [List.set,setRow] at H;refine aG ?_;refine QZ _ _ _ _ _ _ (by exact H.cu (Pl:=[_,_,_,_,_,_]) (bS:=[_,_,_,_,_,_]) [2,0,1,3,4,5] (by decide) rfl) ?_;clear H;intro w H;refine eB 4 H ?_;clear H;intro a H;refine mP H wn rfl rfl ?_;clear H;intro a H;refine s_call agy H wn rfl (aee _ _ H.ro _ (MG id) _ _ hr8 (fun r _=>amm hbi r)) rfl ?_;clear H;rintro v17 xV a w rfl pX H;replace hbi:=aJ pX hbi;refine rJ 8 22 H ?_ ?_ <;> clear H
  ·intro gM
   refine ak 5 ?_;intro a H;refine bg kD (cs:=[_,_]) H wn rfl rfl (H.hp.cK 2 rfl rfl) rfl ?_;clear H;intro a H;refine aV kD 4 (vs:=[_,_]) _ H wn rfl rfl rfl rfl rfl rfl rfl rfl ?_;clear H;intro w H;dsimp only [List.set,setRow] at H;refine aV vI 5 (vs:=[_]) _ H wn rfl rfl rfl rfl rfl rfl rfl rfl ?_;clear H;intro w H;dsimp only [List.set,setRow] at H;refine aG ?_;refine dG ?_;refine bV ?_;refine (Mk ((kR 0 0 l)[k].1) _ _ _ _ _ (by exact H.cu (Pl:=[_,_,_,_,_,_]) (bS:=[_,_,_,_]) [0,3,4,5] (by decide) rfl) ?_).1 rfl;exact (by unfold zR;rw [Qj hk hI (by unfold F4;simp_all)];rfl)
  intro gM
  refine goB 3 ?_ ?_
  ·intro kQ
   refine ak 1 ?_;intro a H;refine bg kD (cs:=[_,_]) H wn rfl rfl (H.hp.cK 2 rfl rfl) rfl ?_;clear H;intro a H;refine aV kD 4 (vs:=[_,_]) _ H wn rfl rfl rfl rfl rfl rfl rfl rfl ?_;clear H;intro w H;dsimp only [List.set,setRow] at H;refine aV vI 5 (vs:=[_]) _ H wn rfl rfl rfl rfl rfl rfl rfl rfl ?_;clear H;intro w H;dsimp only [List.set,setRow] at H;refine aG ?_;refine dG ?_;refine bV ?_;refine (Mk ((kR 0 0 l)[k].1) _ _ _ _ _ (by exact H.cu (Pl:=[_,_,_,_,_,_]) (bS:=[_,_,_,_]) [0,3,4,5] (by decide) rfl) ?_).1 rfl;exact (by unfold zR;rw [Qj hk hI (by unfold F4;simp_all)];rfl)
  intro kQ
  intro a H;refine ji ?_;refine RL (()) _ _ _ _ _ (by exact H.cu (Pl:=[_,_,_,_,_,_]) (bS:=[_,_,_,_]) [0,3,4,5] (by decide) rfl) ?_;exact Xq hk hI (by unfold F4;simp_all)
 ·clear H;intro Oa gh Og a w hm2 hI H;dsimp only [lca,aR] at H;refine dG ?_;refine wo ?_;refine jY Uf [_,_] H wn rfl rfl rfl rfl ?_;clear H;intro a H;refine aV kD 2 (vs:=[_,_]) _ H wn rfl rfl rfl rfl rfl rfl rfl rfl ?_;clear H;intro w H;dsimp only [List.set,setRow] at H;refine aV vI 3 (vs:=[_]) _ H wn rfl rfl rfl rfl rfl rfl rfl rfl ?_;clear H;intro w H;dsimp only [List.set,setRow] at H;refine aG ?_;refine dG ?_;refine bV ?_;refine (wF H 0 rfl ?_).1;clear H;intro a w H;dsimp only [List.eraseIdx_cons_succ,List.eraseIdx_cons_zero] at H;refine (eU H results37 (.cons (rR kD (cs:=[_,_]) H rfl rfl (H.hp.cK 1 rfl rfl)) (.cons (tT vI H rfl (H.hp.nQ 2 rfl rfl)) .nil)) ?_).1
  have h:zR l id=none:=by unfold zR;rw [Qi (by simpa using hI)];rfl
  exact H.rt (by rw [h];rfl)
 clear H;intro Oa x Og a w hm2 hI H;dsimp only [lca,aR] at H;refine bV ?_;refine (wF H 0 rfl ?_).1;clear H;intro a w H;dsimp only [List.eraseIdx_cons_succ,List.eraseIdx_cons_zero] at H;refine (eU H results37 (.cons (rR kD (cs:=[_,_]) H rfl rfl (H.hp.cK 1 rfl rfl)) (.cons (tT vI H rfl (H.hp.nQ 2 rfl rfl)) .nil)) ?_).1;exact H.rt (by rw [hI];rfl)
end
section
open Go.RowKit
theorem afI:∀ args w,(callFunc 203 args).run prog w=.ok (.enter 203 args) w:=enters func203 rfl (by kernel_rfl)
theorem afJ:∀ args w,(callFunc 204 args).run prog w=.ok (.enter 204 args) w:=enters func204 rfl (by kernel_rfl)
theorem qW:prog.underlying 52=some (.slice 3):=by kernel_rfl
instance:jK prog 52 (.slice 3):=⟨qW⟩
theorem afa:∀ args w,(callFunc 141 args).run prog w=.ok (.enter 141 args) w:=enters func141 rfl (by kernel_rfl)
theorem WO:∀ args w,(callFunc 158 args).run prog w=.ok (.enter 158 args) w:=enters func158 rfl (by kernel_rfl)
theorem afh:∀ args w,(callFunc 159 args).run prog w=.ok (.enter 159 args) w:=enters func159 rfl (by kernel_rfl)
instance ahc:dB prog 224 1 1:=⟨by kernel_rfl⟩
theorem Xa:∀ args w,(callFunc 77 args).run prog w=.ok (.enter 77 args) w:=enters func77 rfl (by kernel_rfl)
instance:dB prog 224 2 2:=⟨by kernel_rfl⟩
instance:dB prog 224 3 3:=⟨by kernel_rfl⟩
def kz:jf:=⟨0,0,0,0,0,⟨#[]⟩⟩
def Eo:List Int:=Ep.map jf.num
def lD (k:Int):jf × Bool:=if uY Eo k=true then (Ep.getD (pU Eo k) kz,true) else (kz,false)
theorem find_spec (G:GH) (w0:World) (hG:Hold G w0) (k:Int):Calls prog 158 #[vi k] w0 (bD w0 G fun u G'=>u=.tuple #[.agg (lD k).1.cells.toArray,.bool (lD k).2]):=by
 refine eN [(0,_)] func158 rfl ntmps158 rfl rfl hG ?_;refine ak 1 ?_;intro a H;refine dx wN H wn rfl ?_;clear H;intro b2 a w hb2 H;refine aH 3 H ?_;clear H;intro a H;refine s_call afI H wn rfl (akP _ _ H.ro) rfl ?_;clear H;rintro v7 G7 a w hv7 xu H;obtain ⟨A,c,rfl,hc1,hc2,-⟩:=hv7.slice;rw [bO] at *;refine aH 5 H ?_;clear H;intro a H;refine s_call afJ H wn rfl (acM _ _ H.ro Ep k _ hv7 (by decide)) rfl ?_;clear H;rintro v11 qY a w rfl Eb H;have hv7:=hv7.mono Eb;have hkn:Ep.map jf.num=Eo:=rfl;rw [hkn] at H;obtain ⟨n,hn⟩:∃ n,n=pU Eo k:=⟨_,rfl⟩;obtain ⟨q,hq⟩:∃ q,q=uY Eo k:=⟨_,rfl⟩;rw [← hn,← hq] at H;refine aH 1 H ?_;clear H;intro a H;(iterate 2 refine qh H wn rfl rfl rfl ?_;clear H;intro a H);refine gX 8 H ?_ ?_ <;> clear H
 ·intro KY
  refine ak 1 ?_;intro a H;refine jY aaL [_,_,_,_,_,_] H wn rfl rfl rfl rfl ?_;clear H;intro a H;refine aV wN 0 (vs:=[_,_,_,_,_,_]) _ H wn rfl rfl rfl rfl rfl rfl rfl rfl ?_;clear H;intro w H;dsimp only [List.set,setRow] at H;refine aH 2 H ?_;clear H;intro a H;refine bV ?_;refine (eU H results158 (.cons (rR wN (cs:=[_,_,_,_,_,_]) H rfl rfl (H.hp.cK 0 rfl rfl)) (.cons (aW H rfl) .nil)) ?_).1;exact H.rt (by rw [lD,ah (by rw [← hq];simpa using KY)];rfl)
 intro KY
 have hlt:n < Ep.length:=by have:=aip (ks:=Eo) (t:=k) (by rw [← hq];simpa using KY);rw [← hn] at this;simpa [Eo] using this
 obtain ⟨b,o,rfl,hrow⟩:=Sw hv7 hlt;refine ak 5 ?_;intro a H;refine bg wN (cs:=[_,_,_,_,_,_]) H wn rfl rfl (fun j v hj=>H.hp.aF (hrow j v hj)) rfl ?_;clear H;intro a H;refine aV wN 0 (vs:=[_,_,_,_,_,_]) _ H wn rfl rfl rfl rfl rfl rfl rfl rfl ?_;clear H;intro w H;dsimp only [List.set,setRow] at H;refine aH 2 H ?_;clear H;intro a H;refine bV ?_;refine (eU H results158 (.cons (rR wN (cs:=[_,_,_,_,_,_]) H rfl rfl (H.hp.cK 0 rfl rfl)) (.cons (aW H rfl) .nil)) ?_).1;exact H.rt (by rw [lD,ay (by rw [← hq];simpa using KY),← hn,List.getD_eq_getElem?_getD,dY hlt];rfl)
def dO (e:Int):List Int:=if e=1∨e=4∨e=5∨e=6 then [1] else if e=2 then [1,2] else if e=3 then [3] else if e=7 then [6] else if e=9 then [4] else if e=10 then [5] else []
theorem eT (G:GH) (A:List Int):bE G 1 (A.map fun k=>[li k]) (A.map vi):=by
 refine ⟨A.map fun k=>[vi k],?_,by simp,fun j r cs hr hc=>?_⟩
 ·induction A with
  | nil=>rfl
  | cons a A ih=>simpa using ih
 rw [nE] at hr hc
 cases h:A[j]? with
 | none=>rw [h] at hr;cases hr
 | some x =>
  rw [h] at hr hc
  cases hr;cases hc
  exact ⟨by simp only [aN];exact ⟨_,_,rfl,by simp [av,Value.oneCell'],rfl⟩,rfl⟩
theorem ahH (G:GH) (w0:World) (hG:Hold G w0) (e:Int):Calls prog 159 #[vi e] w0 (bD w0 G fun u G'=>av G' (.sl 1 ((dO e).map fun k=>[li k])) u):=by
  refine eN [(0,_)] func159 rfl ntmps159 rfl rfl hG ?_;refine goC 13 ?_ ?_
  · intro h4
    try have p4:=dT h4
    refine ak 3 ?_;intro a H;refine gK qW bH [_] [_] H wn rfl rfl rfl rfl rfl (by intro i q h;match i,h with|0,h=>exact h|n+1,h=>simp at h) rfl rfl ?_;clear H;intro b9 a w sW H;refine aH 2 H ?_;clear H;intro a H;refine lr H results159 rfl ?_
    first
      | exact H.rt (by rw [dO,ah (by omega),ah (by omega),ah (by omega),ah (by omega),ah (by omega),ah (by omega)];exact av.iT rfl (by decide))
      | (obtain ⟨Gz,hmz,hbz,H⟩:=H.dP
         first
           | exact H.rt (by rw [dO,ay (by omega)];exact av.dZ (n:=1) (cap:=1) hbz rfl (bN _) (show 1≤maxLen by decide) rfl (eT _ [1]))
           | exact H.rt (by rw [dO,ah (by omega),ay (by omega)];exact av.dZ (n:=2) (cap:=2) hbz rfl (bN _) (show 2≤maxLen by decide) rfl (eT _ [1,2]))
           | exact H.rt (by rw [dO,ah (by omega),ah (by omega),ay (by omega)];exact av.dZ (n:=1) (cap:=1) hbz rfl (bN _) (show 1≤maxLen by decide) rfl (eT _ [3]))
           | exact H.rt (by rw [dO,ah (by omega),ah (by omega),ah (by omega),ay (by omega)];exact av.dZ (n:=1) (cap:=1) hbz rfl (bN _) (show 1≤maxLen by decide) rfl (eT _ [6]))
           | exact H.rt (by rw [dO,ah (by omega),ah (by omega),ah (by omega),ah (by omega),ay (by omega)];exact av.dZ (n:=1) (cap:=1) hbz rfl (bN _) (show 1≤maxLen by decide) rfl (eT _ [4]))
           | exact H.rt (by rw [dO,ah (by omega),ah (by omega),ah (by omega),ah (by omega),ah (by omega),ay (by omega)];exact av.dZ (n:=1) (cap:=1) hbz rfl (bN _) (show 1≤maxLen by decide) rfl (eT _ [5])))
  intro h4
  try have p4:=dF h4
  refine goC 4 ?_ ?_
  · intro h4
    try have p4:=dT h4
    refine ak 3 ?_;intro a H;refine gK qW bH [_] [_] H wn rfl rfl rfl rfl rfl (by intro i q h;match i,h with|0,h=>exact h|n+1,h=>simp at h) rfl rfl ?_;clear H;intro b9 a w sW H;refine aH 2 H ?_;clear H;intro a H;refine lr H results159 rfl ?_
    first
      | exact H.rt (by rw [dO,ah (by omega),ah (by omega),ah (by omega),ah (by omega),ah (by omega),ah (by omega)];exact av.iT rfl (by decide))
      | (obtain ⟨Gz,hmz,hbz,H⟩:=H.dP
         first
           | exact H.rt (by rw [dO,ay (by omega)];exact av.dZ (n:=1) (cap:=1) hbz rfl (bN _) (show 1≤maxLen by decide) rfl (eT _ [1]))
           | exact H.rt (by rw [dO,ah (by omega),ay (by omega)];exact av.dZ (n:=2) (cap:=2) hbz rfl (bN _) (show 2≤maxLen by decide) rfl (eT _ [1,2]))
           | exact H.rt (by rw [dO,ah (by omega),ah (by omega),ay (by omega)];exact av.dZ (n:=1) (cap:=1) hbz rfl (bN _) (show 1≤maxLen by decide) rfl (eT _ [3]))
           | exact H.rt (by rw [dO,ah (by omega),ah (by omega),ah (by omega),ay (by omega)];exact av.dZ (n:=1) (cap:=1) hbz rfl (bN _) (show 1≤maxLen by decide) rfl (eT _ [6]))
           | exact H.rt (by rw [dO,ah (by omega),ah (by omega),ah (by omega),ah (by omega),ay (by omega)];exact av.dZ (n:=1) (cap:=1) hbz rfl (bN _) (show 1≤maxLen by decide) rfl (eT _ [4]))
           | exact H.rt (by rw [dO,ah (by omega),ah (by omega),ah (by omega),ah (by omega),ah (by omega),ay (by omega)];exact av.dZ (n:=1) (cap:=1) hbz rfl (bN _) (show 1≤maxLen by decide) rfl (eT _ [5])))
  intro h4
  try have p4:=dF h4
  refine goC 4 ?_ ?_
  · intro h4
    try have p4:=dT h4
    refine ak 3 ?_;intro a H;refine gK qW bH [_] [_] H wn rfl rfl rfl rfl rfl (by intro i q h;match i,h with|0,h=>exact h|n+1,h=>simp at h) rfl rfl ?_;clear H;intro b9 a w sW H;refine aH 2 H ?_;clear H;intro a H;refine lr H results159 rfl ?_
    first
      | exact H.rt (by rw [dO,ah (by omega),ah (by omega),ah (by omega),ah (by omega),ah (by omega),ah (by omega)];exact av.iT rfl (by decide))
      | (obtain ⟨Gz,hmz,hbz,H⟩:=H.dP
         first
           | exact H.rt (by rw [dO,ay (by omega)];exact av.dZ (n:=1) (cap:=1) hbz rfl (bN _) (show 1≤maxLen by decide) rfl (eT _ [1]))
           | exact H.rt (by rw [dO,ah (by omega),ay (by omega)];exact av.dZ (n:=2) (cap:=2) hbz rfl (bN _) (show 2≤maxLen by decide) rfl (eT _ [1,2]))
           | exact H.rt (by rw [dO,ah (by omega),ah (by omega),ay (by omega)];exact av.dZ (n:=1) (cap:=1) hbz rfl (bN _) (show 1≤maxLen by decide) rfl (eT _ [3]))
           | exact H.rt (by rw [dO,ah (by omega),ah (by omega),ah (by omega),ay (by omega)];exact av.dZ (n:=1) (cap:=1) hbz rfl (bN _) (show 1≤maxLen by decide) rfl (eT _ [6]))
           | exact H.rt (by rw [dO,ah (by omega),ah (by omega),ah (by omega),ah (by omega),ay (by omega)];exact av.dZ (n:=1) (cap:=1) hbz rfl (bN _) (show 1≤maxLen by decide) rfl (eT _ [4]))
           | exact H.rt (by rw [dO,ah (by omega),ah (by omega),ah (by omega),ah (by omega),ah (by omega),ay (by omega)];exact av.dZ (n:=1) (cap:=1) hbz rfl (bN _) (show 1≤maxLen by decide) rfl (eT _ [5])))
  intro h4
  try have p4:=dF h4
  refine goB 4 ?_ ?_
  · intro p4
    refine ak 1 ?_;intro a H;refine gK qW bH [_] [_] H wn rfl rfl rfl rfl rfl (by intro i q h;match i,h with|0,h=>exact h|n+1,h=>simp at h) rfl rfl ?_;clear H;intro b9 a w sW H;refine aH 2 H ?_;clear H;intro a H;refine lr H results159 rfl ?_
    first
      | exact H.rt (by rw [dO,ah (by omega),ah (by omega),ah (by omega),ah (by omega),ah (by omega),ah (by omega)];exact av.iT rfl (by decide))
      | (obtain ⟨Gz,hmz,hbz,H⟩:=H.dP
         first
           | exact H.rt (by rw [dO,ay (by omega)];exact av.dZ (n:=1) (cap:=1) hbz rfl (bN _) (show 1≤maxLen by decide) rfl (eT _ [1]))
           | exact H.rt (by rw [dO,ah (by omega),ay (by omega)];exact av.dZ (n:=2) (cap:=2) hbz rfl (bN _) (show 2≤maxLen by decide) rfl (eT _ [1,2]))
           | exact H.rt (by rw [dO,ah (by omega),ah (by omega),ay (by omega)];exact av.dZ (n:=1) (cap:=1) hbz rfl (bN _) (show 1≤maxLen by decide) rfl (eT _ [3]))
           | exact H.rt (by rw [dO,ah (by omega),ah (by omega),ah (by omega),ay (by omega)];exact av.dZ (n:=1) (cap:=1) hbz rfl (bN _) (show 1≤maxLen by decide) rfl (eT _ [6]))
           | exact H.rt (by rw [dO,ah (by omega),ah (by omega),ah (by omega),ah (by omega),ay (by omega)];exact av.dZ (n:=1) (cap:=1) hbz rfl (bN _) (show 1≤maxLen by decide) rfl (eT _ [4]))
           | exact H.rt (by rw [dO,ah (by omega),ah (by omega),ah (by omega),ah (by omega),ah (by omega),ay (by omega)];exact av.dZ (n:=1) (cap:=1) hbz rfl (bN _) (show 1≤maxLen by decide) rfl (eT _ [5])))
  intro p4
  refine goB 4 ?_ ?_
  · intro nk
    refine ak 1 ?_;intro a H;refine gK qW bH [_,_] [_,_] H wn rfl rfl rfl rfl rfl (by intro i q h;match i,h with|0,h=>exact h|1,h=>exact h|n+2,h=>simp at h) rfl rfl ?_;clear H;intro b12 a w D5 H;refine aH 2 H ?_;clear H;intro a H;refine lr H results159 rfl ?_
    first
      | exact H.rt (by rw [dO,ah (by omega),ah (by omega),ah (by omega),ah (by omega),ah (by omega),ah (by omega)];exact av.iT rfl (by decide))
      | (obtain ⟨Gz,hmz,hbz,H⟩:=H.dP
         first
           | exact H.rt (by rw [dO,ay (by omega)];exact av.dZ (n:=1) (cap:=1) hbz rfl (bN _) (show 1≤maxLen by decide) rfl (eT _ [1]))
           | exact H.rt (by rw [dO,ah (by omega),ay (by omega)];exact av.dZ (n:=2) (cap:=2) hbz rfl (bN _) (show 2≤maxLen by decide) rfl (eT _ [1,2]))
           | exact H.rt (by rw [dO,ah (by omega),ah (by omega),ay (by omega)];exact av.dZ (n:=1) (cap:=1) hbz rfl (bN _) (show 1≤maxLen by decide) rfl (eT _ [3]))
           | exact H.rt (by rw [dO,ah (by omega),ah (by omega),ah (by omega),ay (by omega)];exact av.dZ (n:=1) (cap:=1) hbz rfl (bN _) (show 1≤maxLen by decide) rfl (eT _ [6]))
           | exact H.rt (by rw [dO,ah (by omega),ah (by omega),ah (by omega),ah (by omega),ay (by omega)];exact av.dZ (n:=1) (cap:=1) hbz rfl (bN _) (show 1≤maxLen by decide) rfl (eT _ [4]))
           | exact H.rt (by rw [dO,ah (by omega),ah (by omega),ah (by omega),ah (by omega),ah (by omega),ay (by omega)];exact av.dZ (n:=1) (cap:=1) hbz rfl (bN _) (show 1≤maxLen by decide) rfl (eT _ [5])))
  intro nk
  refine goB 4 ?_ ?_
  · intro oW
    refine ak 1 ?_;intro a H;refine gK qW bH [_] [_] H wn rfl rfl rfl rfl rfl (by intro i q h;match i,h with|0,h=>exact h|n+1,h=>simp at h) rfl rfl ?_;clear H;intro b15 a w XO H;refine aH 2 H ?_;clear H;intro a H;refine lr H results159 rfl ?_
    first
      | exact H.rt (by rw [dO,ah (by omega),ah (by omega),ah (by omega),ah (by omega),ah (by omega),ah (by omega)];exact av.iT rfl (by decide))
      | (obtain ⟨Gz,hmz,hbz,H⟩:=H.dP
         first
           | exact H.rt (by rw [dO,ay (by omega)];exact av.dZ (n:=1) (cap:=1) hbz rfl (bN _) (show 1≤maxLen by decide) rfl (eT _ [1]))
           | exact H.rt (by rw [dO,ah (by omega),ay (by omega)];exact av.dZ (n:=2) (cap:=2) hbz rfl (bN _) (show 2≤maxLen by decide) rfl (eT _ [1,2]))
           | exact H.rt (by rw [dO,ah (by omega),ah (by omega),ay (by omega)];exact av.dZ (n:=1) (cap:=1) hbz rfl (bN _) (show 1≤maxLen by decide) rfl (eT _ [3]))
           | exact H.rt (by rw [dO,ah (by omega),ah (by omega),ah (by omega),ay (by omega)];exact av.dZ (n:=1) (cap:=1) hbz rfl (bN _) (show 1≤maxLen by decide) rfl (eT _ [6]))
           | exact H.rt (by rw [dO,ah (by omega),ah (by omega),ah (by omega),ah (by omega),ay (by omega)];exact av.dZ (n:=1) (cap:=1) hbz rfl (bN _) (show 1≤maxLen by decide) rfl (eT _ [4]))
           | exact H.rt (by rw [dO,ah (by omega),ah (by omega),ah (by omega),ah (by omega),ah (by omega),ay (by omega)];exact av.dZ (n:=1) (cap:=1) hbz rfl (bN _) (show 1≤maxLen by decide) rfl (eT _ [5])))
  intro oW
  refine goB 4 ?_ ?_
  · intro p16
    refine ak 1 ?_;intro a H;refine gK qW bH [_] [_] H wn rfl rfl rfl rfl rfl (by intro i q h;match i,h with|0,h=>exact h|n+1,h=>simp at h) rfl rfl ?_;clear H;intro b18 a w LM H;refine aH 2 H ?_;clear H;intro a H;refine lr H results159 rfl ?_
    first
      | exact H.rt (by rw [dO,ah (by omega),ah (by omega),ah (by omega),ah (by omega),ah (by omega),ah (by omega)];exact av.iT rfl (by decide))
      | (obtain ⟨Gz,hmz,hbz,H⟩:=H.dP
         first
           | exact H.rt (by rw [dO,ay (by omega)];exact av.dZ (n:=1) (cap:=1) hbz rfl (bN _) (show 1≤maxLen by decide) rfl (eT _ [1]))
           | exact H.rt (by rw [dO,ah (by omega),ay (by omega)];exact av.dZ (n:=2) (cap:=2) hbz rfl (bN _) (show 2≤maxLen by decide) rfl (eT _ [1,2]))
           | exact H.rt (by rw [dO,ah (by omega),ah (by omega),ay (by omega)];exact av.dZ (n:=1) (cap:=1) hbz rfl (bN _) (show 1≤maxLen by decide) rfl (eT _ [3]))
           | exact H.rt (by rw [dO,ah (by omega),ah (by omega),ah (by omega),ay (by omega)];exact av.dZ (n:=1) (cap:=1) hbz rfl (bN _) (show 1≤maxLen by decide) rfl (eT _ [6]))
           | exact H.rt (by rw [dO,ah (by omega),ah (by omega),ah (by omega),ah (by omega),ay (by omega)];exact av.dZ (n:=1) (cap:=1) hbz rfl (bN _) (show 1≤maxLen by decide) rfl (eT _ [4]))
           | exact H.rt (by rw [dO,ah (by omega),ah (by omega),ah (by omega),ah (by omega),ah (by omega),ay (by omega)];exact av.dZ (n:=1) (cap:=1) hbz rfl (bN _) (show 1≤maxLen by decide) rfl (eT _ [5])))
  intro p16
  refine goB 4 ?_ ?_
  · intro tL
    refine ak 1 ?_;intro a H;refine gK qW bH [_] [_] H wn rfl rfl rfl rfl rfl (by intro i q h;match i,h with|0,h=>exact h|n+1,h=>simp at h) rfl rfl ?_;clear H;intro b21 a w aql H;refine aH 2 H ?_;clear H;intro a H;refine lr H results159 rfl ?_
    first
      | exact H.rt (by rw [dO,ah (by omega),ah (by omega),ah (by omega),ah (by omega),ah (by omega),ah (by omega)];exact av.iT rfl (by decide))
      | (obtain ⟨Gz,hmz,hbz,H⟩:=H.dP
         first
           | exact H.rt (by rw [dO,ay (by omega)];exact av.dZ (n:=1) (cap:=1) hbz rfl (bN _) (show 1≤maxLen by decide) rfl (eT _ [1]))
           | exact H.rt (by rw [dO,ah (by omega),ay (by omega)];exact av.dZ (n:=2) (cap:=2) hbz rfl (bN _) (show 2≤maxLen by decide) rfl (eT _ [1,2]))
           | exact H.rt (by rw [dO,ah (by omega),ah (by omega),ay (by omega)];exact av.dZ (n:=1) (cap:=1) hbz rfl (bN _) (show 1≤maxLen by decide) rfl (eT _ [3]))
           | exact H.rt (by rw [dO,ah (by omega),ah (by omega),ah (by omega),ay (by omega)];exact av.dZ (n:=1) (cap:=1) hbz rfl (bN _) (show 1≤maxLen by decide) rfl (eT _ [6]))
           | exact H.rt (by rw [dO,ah (by omega),ah (by omega),ah (by omega),ah (by omega),ay (by omega)];exact av.dZ (n:=1) (cap:=1) hbz rfl (bN _) (show 1≤maxLen by decide) rfl (eT _ [4]))
           | exact H.rt (by rw [dO,ah (by omega),ah (by omega),ah (by omega),ah (by omega),ah (by omega),ay (by omega)];exact av.dZ (n:=1) (cap:=1) hbz rfl (bN _) (show 1≤maxLen by decide) rfl (eT _ [5])))
  intro tL
  refine goB 4 ?_ ?_
  · intro gM
    refine ak 1 ?_;intro a H;refine gK qW bH [_] [_] H wn rfl rfl rfl rfl rfl (by intro i q h;match i,h with|0,h=>exact h|n+1,h=>simp at h) rfl rfl ?_;clear H;intro b24 a w aqn H;refine aH 2 H ?_;clear H;intro a H;refine lr H results159 rfl ?_
    first
      | exact H.rt (by rw [dO,ah (by omega),ah (by omega),ah (by omega),ah (by omega),ah (by omega),ah (by omega)];exact av.iT rfl (by decide))
      | (obtain ⟨Gz,hmz,hbz,H⟩:=H.dP
         first
           | exact H.rt (by rw [dO,ay (by omega)];exact av.dZ (n:=1) (cap:=1) hbz rfl (bN _) (show 1≤maxLen by decide) rfl (eT _ [1]))
           | exact H.rt (by rw [dO,ah (by omega),ay (by omega)];exact av.dZ (n:=2) (cap:=2) hbz rfl (bN _) (show 2≤maxLen by decide) rfl (eT _ [1,2]))
           | exact H.rt (by rw [dO,ah (by omega),ah (by omega),ay (by omega)];exact av.dZ (n:=1) (cap:=1) hbz rfl (bN _) (show 1≤maxLen by decide) rfl (eT _ [3]))
           | exact H.rt (by rw [dO,ah (by omega),ah (by omega),ah (by omega),ay (by omega)];exact av.dZ (n:=1) (cap:=1) hbz rfl (bN _) (show 1≤maxLen by decide) rfl (eT _ [6]))
           | exact H.rt (by rw [dO,ah (by omega),ah (by omega),ah (by omega),ah (by omega),ay (by omega)];exact av.dZ (n:=1) (cap:=1) hbz rfl (bN _) (show 1≤maxLen by decide) rfl (eT _ [4]))
           | exact H.rt (by rw [dO,ah (by omega),ah (by omega),ah (by omega),ah (by omega),ah (by omega),ay (by omega)];exact av.dZ (n:=1) (cap:=1) hbz rfl (bN _) (show 1≤maxLen by decide) rfl (eT _ [5])))
  intro gM
  refine ak 4 ?_;intro a H;refine lr H results159 rfl ?_
  first
    | exact H.rt (by rw [dO,ah (by omega),ah (by omega),ah (by omega),ah (by omega),ah (by omega),ah (by omega)];exact av.iT rfl (by decide))
    | (obtain ⟨Gz,hmz,hbz,H⟩:=H.dP
       first
         | exact H.rt (by rw [dO,ay (by omega)];exact av.dZ (n:=1) (cap:=1) hbz rfl (bN _) (show 1≤maxLen by decide) rfl (eT _ [1]))
         | exact H.rt (by rw [dO,ah (by omega),ay (by omega)];exact av.dZ (n:=2) (cap:=2) hbz rfl (bN _) (show 2≤maxLen by decide) rfl (eT _ [1,2]))
         | exact H.rt (by rw [dO,ah (by omega),ah (by omega),ay (by omega)];exact av.dZ (n:=1) (cap:=1) hbz rfl (bN _) (show 1≤maxLen by decide) rfl (eT _ [3]))
         | exact H.rt (by rw [dO,ah (by omega),ah (by omega),ah (by omega),ay (by omega)];exact av.dZ (n:=1) (cap:=1) hbz rfl (bN _) (show 1≤maxLen by decide) rfl (eT _ [6]))
         | exact H.rt (by rw [dO,ah (by omega),ah (by omega),ah (by omega),ah (by omega),ay (by omega)];exact av.dZ (n:=1) (cap:=1) hbz rfl (bN _) (show 1≤maxLen by decide) rfl (eT _ [4]))
         | exact H.rt (by rw [dO,ah (by omega),ah (by omega),ah (by omega),ah (by omega),ah (by omega),ay (by omega)];exact av.dZ (n:=1) (cap:=1) hbz rfl (bN _) (show 1≤maxLen by decide) rfl (eT _ [5])))
theorem akC {G:GH} {l:List Int} {A:Option Addr} {n c k:Nat} (hv:av G (.sl 1 (l.map fun k=>[li k])) (.slice A n c)) (hk:k < l.length):∃ b o,A=some ⟨b,o,none⟩∧aF G b (o+k*1)=some (vi l[k]):=by
 obtain ⟨A',c',he,_,_,hg⟩:=hv.slice
 injection he with e1 e2 e3
 subst e1;obtain ⟨b,o,cs,h1,h2,h3,h4⟩:=hg k [li l[k]] (by simp [hk])
 simp only [aN,av] at h4
 obtain ⟨v1,_,rfl,⟨rfl,-⟩,rfl⟩:=h4;exact ⟨b,o,h1,h3 0 _ rfl⟩
theorem aky (G:GH) (w0:World) (hG:Hold G w0) (l:List Int) (t:Int) (v:aj) (hv:av G (.sl 1 (l.map fun k=>[li k])) v) :
  Calls prog 141 #[v,vi t] w0 (bD w0 G fun u G'=>u=vi (lG (l.findIdx? fun x=>decide (t=x)))):=by
 obtain ⟨A,c,rfl,hc1,hc2,-⟩:=hv.slice;have hml:maxLen=9223372036854775807:=rfl;rw [bO] at *;refine eN [(0,_),(1,_)] func141 rfl ntmps141 rfl rfl hG ?_;refine ak 10 ?_;intro a H;refine eO (ι:=Nat) (Tc:=[(0,_),(1,_),(7,_)]) (Lc:=[]) (fun gh=>[(8,vi gh)]) (fun gh=>[]) (fun gh=>G) (fun gh=>gh≤l.length∧(l.take gh).findIdx? (fun x=>decide (t=x))=none) (fun gh=>l.length - gh) (0) sB ?_ ?_
 ·exact ⟨gV _,rfl⟩
 clear H;intro k a w hI H;obtain ⟨hk,hno⟩:=hI;dsimp only [lca,aR] at H;refine dN 4 H ?_ ?_ <;> clear H
 ·intro p9
  have hk2:k < l.length:=by omega
  obtain ⟨b,o,rfl,hrow⟩:=akC hv hk2;refine goB 15 ?_ ?_
  ·intro p16
   refine aP 4 ?_;rw [tC hk2 hno (by simpa using p16)];rfl
  intro p16
  refine ak 4 ?_;intro a H;refine aG ?_;refine dH ((k+1)) sB ?_ ?_
  ·exact ⟨by omega,CO hk2 hno (by simpa using p16)⟩
  first|omega|(dsimp only;omega)
 intro p9
 refine aP 4 ?_;rw [show l.take k=l from jh (by omega)] at hno;rw [hno];rfl
theorem Wm (G:GH) (w0:World) (hG:Hold G w0) (l:List Int) (t:Int) (v:aj) (hv:av G (.sl 1 (l.map fun k=>[li k])) v) :
  Calls prog 77 #[v,vi t] w0 (bD w0 G fun u G'=>u=.bool (decide (t∈l))):=by
 obtain ⟨A,c,rfl,hc1,hc2,-⟩:=hv.slice;rw [bO] at *;refine eN [(0,_),(1,_)] func77 rfl ntmps77 rfl rfl hG ?_;refine ak 6 ?_;intro a H;refine s_call afa H wn rfl (aky _ _ H.ro l t _ hv) rfl ?_;clear H;rintro v7 G7 a w rfl xu H;refine gH 3 H ?_;exact (by
  congr 1
  cases h:l.findIdx? (fun x=>decide (t=x)) with
  | none =>
   rw [List.findIdx?_eq_none_iff] at h;have:t∉l:=fun hm=>absurd (h t hm) (by simp)
   simp [lG,this]
  | some i =>
   obtain ⟨hi,he,-⟩:=List.findIdx?_eq_some_iff_getElem.1 h
   have:t∈l:=by rw [lX he];exact iF _
   simp [lG,this])
def zw (e k:Int):Bool:=(lD k).2 && decide ((lD k).1.zy∈dO e)
theorem Xr (G:GH) (w0:World) (hG:Hold G w0) (e k:Int):Calls prog 98 #[vi e,vi k] w0 (bD w0 G fun u G'=>u=.bool (zw e k)):=by
 refine eN [(0,_),(1,_)] func98 rfl ntmps98 rfl rfl hG ?_;refine ak 5 ?_;intro a H;refine s_call WO H wn rfl (find_spec _ _ H.ro k) rfl ?_;clear H;rintro v9 G9 a w rfl wB H;dsimp only [jf.cells] at H;refine aH 1 H ?_;clear H;intro a H;(iterate 2 refine qh H wn rfl rfl rfl ?_;clear H;intro a H);refine dx wN H wn rfl ?_;clear H;intro b5 a w hb5 H;refine aV wN 0 (vs:=[_,_,_,_,_,_]) _ H wn rfl rfl rfl rfl rfl rfl rfl rfl ?_;clear H;intro w H;dsimp only [List.set,setRow] at H;refine aH 3 H ?_;clear H
 intro a H;by_cases c0:(lD k).2=true
 ·skip
  have ou:∀ (aT:Nat) (v:aj) (G G':GH),(∀ k o,G k=some o→G' k=some o)→(fun (aT:Nat) (v:aj) (G:GH)=>match aT with|0=>v=.bool (lD k).2|1=>v=.bool (decide ((lD k).2=true))|2=>v=vi e|3=>(lD k).2=true→av G (.sl 1 ((dO e).map fun k=>[li k])) v|4=>v=(aD b5 1)|5=>v=vi (lD k).1.zy|6=>v=.bool (decide ((lD k).1.zy∈dO e))|7=>v=.bool (zw e k)|_=>True) aT v G→(fun (aT:Nat) (v:aj) (G:GH)=>match aT with|0=>v=.bool (lD k).2|1=>v=.bool (decide ((lD k).2=true))|2=>v=vi e|3=>(lD k).2=true→av G (.sl 1 ((dO e).map fun k=>[li k])) v|4=>v=(aD b5 1)|5=>v=vi (lD k).1.zy|6=>v=.bool (decide ((lD k).1.zy∈dO e))|7=>v=.bool (zw e k)|_=>True) aT v G':=by
   intro aT v G G' hm h
   match aT,h with
   | 0,h=>exact h
   | 1,h=>exact h
   | 2,h=>exact h
   | 3,h=>exact fun hf=>(h hf).mono hm
   | 4,h=>exact h
   | 5,h=>exact h
   | 6,h=>exact h
   | 7,h=>exact h
   | 8,h=>exact trivial
   | _+9,h=>exact trivial
  refine yj (hmx) [[],[0],[0,1],[0,1,2],[0,1],[0,1,4],(ra 0 6),(ra 0 7),(ra 0 8)] [8] (by kernel_rfl) (by kernel_rfl) (fun (aT:Nat) (v:aj) (G:GH)=>match aT with|0=>v=.bool (lD k).2|1=>v=.bool (decide ((lD k).2=true))|2=>v=vi e|3=>(lD k).2=true→av G (.sl 1 ((dO e).map fun k=>[li k])) v|4=>v=(aD b5 1)|5=>v=vi (lD k).1.zy|6=>v=.bool (decide ((lD k).1.zy∈dO e))|7=>v=.bool (zw e k)|_=>True) ou H ?_ ?_
  ·clear H;refine aC ?_ ?_ ?_ ?_ (aC ?_ ?_ ?_ ?_ (bL (bP rfl) dw))
   ·refine cO [] rfl trivial (by kernel_rfl) ou rfl rfl ?_;intro bF a w G1 hG HT H fin;exact kH H (Rm rfl fun _ H=>fin H iJ rfl)
   ·refine cO [(0,12,_)] rfl ⟨fun _ _ h=>h,bB⟩ (by kernel_rfl) ou rfl rfl ?_;intro bF a w G1 hG HT H fin;refine aH 1 H ?_;clear H;intro a H;exact fin H iJ (by simp)
   ·refine cO [(1,13,_)] rfl ⟨fun _ _ h=>h,bB⟩ (by kernel_rfl) ou rfl rfl ?_;intro bF a w G1 hG HT H fin;exact kH H (YM (aI c0) rfl fun _ H=>fin H iJ rfl)
   ·refine cO [(2,14,_),(1,13,_)] rfl ⟨fun _ _ h=>h,fun _ _ h=>h,bB⟩ (by kernel_rfl) ou rfl rfl ?_;intro bF a w G1 hG HT H fin;refine s_call afh H (wg H rfl rfl (aI c0)) rfl (ahH _ _ H.ro e) rfl ?_;clear H;rintro v15 Af a w CG Cu H;exact fin H Cu (by first|exact fun _=>CG|rfl)
   ·refine cO [(1,13,_)] rfl ⟨fun _ _ h=>h,bB⟩ (by kernel_rfl) ou rfl rfl ?_;intro bF a w G1 hG HT H fin;exact kH H (YF ahc (aI c0) rfl fun _ H=>fin H iJ rfl)
   ·refine cO [(4,16,_),(1,13,_)] rfl ⟨fun _ _ h=>h,fun _ _ h=>h,bB⟩ (by kernel_rfl) ou rfl rfl ?_;intro bF a w G1 hG HT H fin;exact kH H (YO bH 0 (aI c0) rfl fun _ H=>fin H iJ rfl)
   ·intro bF a w G1 _ bT hc hG HT hv;have H:=HT;clear bT;obtain ⟨u15,akg,CG⟩:=hv 3 15 (hc 3 (by decide)) rfl;(try dsimp only at CG);have H:=H.jo akg;have H:=H.aO (hv 5 17 (hc 5 (by decide)) rfl) rfl;have H:=H.aO (hv 1 13 (hc 1 (by decide)) rfl) rfl;have Hb:=H.full;have H:=Hb;clear hc;refine s_call Xa H (wg H rfl rfl (aI c0)) rfl (Wm _ _ H.ro _ _ _ (CG c0)) rfl ?_;clear H;rintro v18 U5 a w rfl ahJ H;refine aG ⟨rfl,?_⟩;exact jr (by kernel_rfl) ou rfl rfl HT Hb hG hv ahJ (rfl) H
   refine cO [(1,13,_),(6,18,_)] rfl ⟨fun _ _ h=>h,fun _ _ h=>h,bB⟩ (by kernel_rfl) ou rfl rfl ?_;intro bF a w G1 hG HT H fin;refine aH 1 H ?_;clear H;intro a H;exact fin H iJ (by unfold zw;simp_all)
  clear H;intro a w G AQ H hv;have H:=H.aO (hv 7 19 rfl rfl) rfl;clear hv;refine t1 2 H ?_;clear H;refine aP 0 ?_;exact rfl
 refine dI hmx [[],[0],[0,1],[0,1,2],[0,1],[0,1,4],(ra 0 6),(ra 0 7),(ra 0 8)] [8] (by kernel_rfl) [_,.bool (decide ((lD k).2=true)),undef,undef,undef,undef,undef,.bool (zw e k)] H (aC (Z0 rfl (Rm rfl)) ?_ (aQ 1 (aY c0) rfl rfl) ?_ (aC (aQ 1 (aY c0) rfl rfl) (aQ 1 (aY c0) rfl rfl) (aQ 1 (aY c0) rfl rfl) ?_ (bL (bP rfl) dw))) ?_
 ·refine dJ 0 12 rfl rfl fun _ a w G1 hG HT H fin=>?_;refine aH 1 H ?_;clear H;intro a H;exact fin H iJ (by show _=_;simp)
 ·intro bF a w G1 _ bT hc hG HT hv;have H:=HT;clear bT;have H:=H.aO (hv 2 14 (hc 2 (by decide)) rfl) rfl;have H:=H.aO (hv 1 13 (hc 1 (by decide)) rfl) rfl;have Hb:=H.full;have H:=Hb;clear hc;refine aH 1 H ?_;clear H;intro a H;refine aG ⟨rfl,?_⟩;exact jr (by kernel_rfl) (fun _ _ _ _ _ h=>h) rfl rfl HT Hb hG hv (fun _ _ h=>h) (by first|exact fun _=>CG|rfl) H
 ·refine dL 1 13 6 18 rfl rfl fun _ a w G1 hG HT H fin=>?_;refine aH 1 H ?_;clear H;intro a H;exact fin H iJ (by show _=_;unfold zw;simp_all)
 clear H;intro a w G AQ H hv;have H:=H.aO (hv 7 19 rfl rfl) rfl;clear hv;refine t1 2 H ?_;clear H;refine aP 0 ?_;exact rfl
def uP (k v:Int):Int:=if (lD k).2=false then 4 else if v < (lD k).1.low∨(lD k).1.high < v then 5 else 0
theorem OX (G:GH) (w0:World) (hG:Hold G w0) (k x:Int):Calls prog 99 #[vi k,vi x] w0 (bD w0 G fun u G'=>u=vi (uP k x)):=by
 refine eN [(0,_),(1,_)] func99 rfl ntmps99 rfl rfl hG ?_;refine ak 5 ?_;intro a H;refine s_call WO H wn rfl (find_spec _ _ H.ro k) rfl ?_;clear H;rintro v9 G9 a w rfl wB H;dsimp only [jf.cells] at H;refine aH 1 H ?_;clear H;intro a H;(iterate 2 refine qh H wn rfl rfl rfl ?_;clear H;intro a H);refine dx wN H wn rfl ?_;clear H;intro b5 a w hb5 H;refine aV wN 0 (vs:=[_,_,_,_,_,_]) _ H wn rfl rfl rfl rfl rfl rfl rfl rfl ?_;clear H;intro w H;dsimp only [List.set,setRow] at H;refine gW 9 H ?_ ?_ <;> clear H
 ·intro nu
  refine aP 3 ?_;unfold uP;simp_all
 intro nu
 refine kT 6 20 ?_ ?_
 ·intro wI
  refine aP 11 ?_;unfold uP;simp_all
 intro wI
 refine goB 7 ?_ ?_
 ·intro oZ
  refine aP 3 ?_;unfold uP;simp_all
 intro oZ
 refine aP 4 ?_;unfold uP;simp_all
end
section
open Go.RowKit
instance Cj:dB prog 171 0 0:=⟨by kernel_rfl⟩
theorem Xc:∀ args w,(callFunc 98 args).run prog w=.ok (.enter 98 args) w:=enters func98 rfl (by kernel_rfl)
instance:dB prog 171 1 1:=⟨by kernel_rfl⟩
theorem P6:∀ args w,(callFunc 99 args).run prog w=.ok (.enter 99 args) w:=enters func99 rfl (by kernel_rfl)
def F5 (q:Option Int) (k:Int):Bool:=match q with|some j=>decide (k < j)|none=>false
def Ar (e:Int):Option Int→List fK→Int
 | _,[]=>0
 | q,p :: r=>if zw e p.key=false then 4 else if q=some p.key then 7 else if F5 q p.key=true then 6 else if uP p.key p.value=0 then Ar e (some p.key) r else uP p.key p.value
def yP (l:List fK) (k:Nat):Option Int:=if k=0 then none else l[k - 1]?.map fK.key
def fV (e:Int) (l:List fK):Int:=if e < 1∨10 < e then 3 else Ar e none l
theorem adz {e:Int} {l:List fK} {k:Nat} (h:k < l.length):Ar e (yP l k) (l.drop k)=if zw e l[k].key=false then 4 else if yP l k=some l[k].key then 7 else if F5 (yP l k) l[k].key=true then 6 else if uP l[k].key l[k].value=0 then Ar e (yP l (k+1)) (l.drop (k+1)) else uP l[k].key l[k].value:=by
 rw [lW h,Ar]
 have:yP l (k+1)=some l[k].key:=by rw [yP,ah (by omega),Nat.add_sub_cancel,dY h];rfl
 rw [this]
theorem M8 {l:List fK} {k:Nat} (h:k=0):yP l k=none:=ay h
theorem aac (G:GH) (w0:World) (hG:Hold G w0) (e:Int) (l:List fK) (v:aj) (hv:av G (.sl 2 (l.map fK.dat)) v) :
  Calls prog 95 #[vi e,v] w0 (bD w0 G fun u G'=>u=vi (fV e l)):=by
 obtain ⟨A,c,rfl,hc1,hc2,-⟩:=hv.slice;have hml:maxLen=9223372036854775807:=rfl;rw [bO] at *;refine eN [(0,_),(1,_)] func95 rfl ntmps95 rfl rfl hG ?_;refine kT 8 10 ?_ ?_
 ·intro nk
  refine aP 8 ?_
  first
   | exact (aB vi (by rw [ah (by simpa using p61)] at heq;rw [fV,ah (by omega)];exact heq))
   | exact (aB vi (by rw [ay (by simpa using h21)] at heq;rw [fV,ah (by omega)];exact heq))
   | exact (aB vi (by rw [fV,ah (by omega)];exact heq))
   | exact (aB vi (by rw [fV,ah (by omega),← heq,show l.drop k=[] from fM (by omega)];rfl))
   | exact (aB vi (by rw [fV,ay (by omega)]))
 intro nk
 refine goB 4 ?_ ?_
 ·intro oW
  refine aP 3 ?_
  first
   | exact (aB vi (by rw [ah (by simpa using p61)] at heq;rw [fV,ah (by omega)];exact heq))
   | exact (aB vi (by rw [ay (by simpa using h21)] at heq;rw [fV,ah (by omega)];exact heq))
   | exact (aB vi (by rw [fV,ah (by omega)];exact heq))
   | exact (aB vi (by rw [fV,ah (by omega),← heq,show l.drop k=[] from fM (by omega)];rfl))
   | exact (aB vi (by rw [fV,ay (by omega)]))
 intro oW
 refine ak 8 ?_;intro a H;refine eO (ι:=Nat × GH) (Tc:=[(0,_),(1,_),(14,_),(15,_)]) (Lc:=[]) (fun gh=>[(16,vi gh.1)]) (fun gh=>[]) (fun gh=>gh.2) (fun gh=>gh.1≤l.length∧Ar e (yP l gh.1) (l.drop gh.1)=Ar e none l∧(∀ b o,G b=some o→gh.2 b=some o)) (fun gh=>l.length - gh.1) ((0,G)) sB ?_ ?_
 ·exact ⟨gV _,rfl,fun _ _ h=>h⟩
 clear H;rintro ⟨k,g⟩ a w hI H;dsimp only at hI H;obtain ⟨hk,heq,hgm⟩:=hI;dsimp only [lca,aR] at H;refine dN 4 H ?_ ?_ <;> clear H
 ·intro kW
  have hk2:k < l.length:=by omega
  have El:=hv.mono hgm;obtain ⟨b,o,rfl,hrow⟩:=Na El hk2
  obtain ⟨pk,hpk⟩:∃ pk,0 < k→aF g b (o+(k - 1)*2+0)=some (vi pk)∧yP l k=some pk:=by
   by_cases h0:0 < k
   ·obtain ⟨b',o',he,hr'⟩:=Na El (show k - 1 < l.length by omega)
    injection he with he
    injection he with e1 e2 e3
    subst e1;subst e2;exact ⟨_,fun _=>⟨hr' 0 _ rfl,by rw [yP,ah (by omega),dY (by omega)];rfl⟩⟩
   exact ⟨0,fun h=>absurd h h0⟩
  rw [adz hk2] at heq;have aqC:=heq;refine ak 6 ?_;intro a H;refine bg pF (cs:=[_,_]) H wn rfl rfl (fun j v hj=>H.hp.aF (hrow j v hj)) rfl ?_;clear H;intro a H;refine dx pF H wn rfl ?_;clear H;intro b6 a w hb6 H;refine aH 1 H ?_;clear H;intro a H;refine aV pF 0 (vs:=[_,_]) _ H wn rfl rfl rfl rfl rfl rfl rfl rfl ?_;clear H;intro w H;dsimp only [List.set,setRow] at H;refine aG ?_;refine dG ?_;refine sH (ι:=GH) (Tc:=[(0,_),(1,_),(6,_),(14,_),(15,_),(16,_)]) (Lc:=[(_,_)]) (fun gh=>[]) (fun gh=>[]) (fun gh=>gh) (fun gh=>(if uP l[k].key l[k].value=0 then Ar e (yP l (k+1)) (l.drop (k+1)) else uP l[k].key l[k].value)=Ar e none l∧(∀ b o,g b=some o→gh b=some o)) sB ?_ ?_
  ·refine eB 5 H ?_;clear H;intro a H;refine s_call Xc H wn rfl (Xr _ _ H.ro e l[k].key) rfl ?_;clear H;rintro v25 G25 a w rfl Ec H;replace hrow:=fun j u hj=>aJ Ec (hrow j u hj);refine gX 3 H ?_ ?_ <;> clear H
   ·intro h21
    try have qy:=dT h21
    refine aP 3 ?_
    first
     | exact (aB vi (by rw [ah (by simpa using p61)] at heq;rw [fV,ah (by omega)];exact heq))
     | exact (aB vi (by rw [ay (by simpa using h21)] at heq;rw [fV,ah (by omega)];exact heq))
     | exact (aB vi (by rw [fV,ah (by omega)];exact heq))
     | exact (aB vi (by rw [fV,ah (by omega),← heq,show l.drop k=[] from fM (by omega)];rfl))
     | exact (aB vi (by rw [fV,ay (by omega)]))
   intro h21
   try have qy:=dF h21
   rw [ah (by simpa using h21)] at heq;refine ak 1 ?_
   intro a H;by_cases c0:0 < (k:Int)
   ·skip
    by_cases c1:l[k].key=pk
    ·refine dI hmx [[],[0],[0,1],[0,1,2],(ra 0 4),[0,1,2],[0,1,2],[0,1,2,6],[0,1,2,5,6,7],[0,1,2,5,6,7,8],[0,1,2,5,6,7,8,9],(ra 0 11),(ra 0 12),(ra 0 13)] [13] (by kernel_rfl) [_,_,_,_,vi l[k].key,_,_,vi ((k - 1:Nat):Int),_,_,_,_,_] H (aC (Z0 rfl (Rm rfl)) (Z1 0 28 rfl (Rc rfl)) (Z1 1 29 rfl (Rm rfl)) (Z1 2 30 rfl (YF Cj (aI c0) rfl)) (aC (Z2 3 31 2 30 rfl (YO bH 0 (aI c0) rfl)) (Z1 2 30 rfl (YM (aI c0) rfl)) (Z1 2 30 rfl (YM (aI c0) rfl)) ?_ (aC (Z3 5 33 7 35 2 30 rfl (YI vJ pF (aI c0) rfl rfl)) (Z2 8 36 2 30 rfl (YF Cj (aI c0) rfl)) (X2 9 37 2 30 rfl fun hG=>YR bH (aI c0) rfl (aJ hG (aJ Ec (hpk (by omega)).1))) (Z3 4 32 10 38 2 30 rfl (YC (aI c0) rfl)) (bL (Z2 2 30 11 39 rfl (Pt (aI c0) rfl)) (bL (bP rfl) dw))))) ?_
     ·refine dL 6 34 2 30 rfl rfl fun _ a w G1 hG HT H fin=>?_;refine lJ _ H (wg H rfl rfl (aI c0)) rfl rfl rfl (by omega) (by omega) rfl ?_;clear H;intro a H;exact fin H iJ (by show _=_;first|rfl|exact aB vi (by omega))
     clear H;intro a w G nL H hv;have H:=H.aO (hv 12 40 rfl rfl) rfl;clear hv;refine t1 3 H ?_;clear H;rw [ay (by rw [(hpk (by omega)).2,c1])] at heq;refine aP 3 ?_
     first
      | exact (aB vi (by rw [ah (by simpa using p61)] at heq;rw [fV,ah (by omega)];exact heq))
      | exact (aB vi (by rw [ay (by simpa using h21)] at heq;rw [fV,ah (by omega)];exact heq))
      | exact (aB vi (by rw [fV,ah (by omega)];exact heq))
      | exact (aB vi (by rw [fV,ah (by omega),← heq,show l.drop k=[] from fM (by omega)];rfl))
      | exact (aB vi (by rw [fV,ay (by omega)]))
    refine dI hmx [[],[0],[0,1],[0,1,2],(ra 0 4),[0,1,2],[0,1,2],[0,1,2,6],[0,1,2,5,6,7],[0,1,2,5,6,7,8],[0,1,2,5,6,7,8,9],(ra 0 11),(ra 0 12),(ra 0 13)] [13] (by kernel_rfl) [_,_,_,_,vi l[k].key,_,_,vi ((k - 1:Nat):Int),_,_,_,_,_] H (aC (Z0 rfl (Rm rfl)) (Z1 0 28 rfl (Rc rfl)) (Z1 1 29 rfl (Rm rfl)) (Z1 2 30 rfl (YF Cj (aI c0) rfl)) (aC (Z2 3 31 2 30 rfl (YO bH 0 (aI c0) rfl)) (Z1 2 30 rfl (YM (aI c0) rfl)) (Z1 2 30 rfl (YM (aI c0) rfl)) ?_ (aC (Z3 5 33 7 35 2 30 rfl (YI vJ pF (aI c0) rfl rfl)) (Z2 8 36 2 30 rfl (YF Cj (aI c0) rfl)) (X2 9 37 2 30 rfl fun hG=>YR bH (aI c0) rfl (aJ hG (aJ Ec (hpk (by omega)).1))) (Z3 4 32 10 38 2 30 rfl (YC (aI c0) rfl)) (bL (Z2 2 30 11 39 rfl (Pt (aI c0) rfl)) (bL (bP rfl) dw))))) ?_
    ·refine dL 6 34 2 30 rfl rfl fun _ a w G1 hG HT H fin=>?_;refine lJ _ H (wg H rfl rfl (aI c0)) rfl rfl rfl (by omega) (by omega) rfl ?_;clear H;intro a H;exact fin H iJ (by show _=_;first|rfl|exact aB vi (by omega))
    clear H;intro a w G nL H hv;have H:=H.aO (hv 12 40 rfl rfl) rfl;clear hv;refine t1 4 H ?_;clear H
    have q1:¬ (0 < (k:Int)∧l[k].key=pk):=by first|exact fun h=>c1 h.2|exact fun h=>c0 h.1
    intro a H;rw [ah (fun h=>q1 (by
     by_cases h0:0 < k
     ·rw [(hpk h0).2] at h
      injection h with h
      exact ⟨by omega,h.symm⟩
     rw [M8 (by omega)] at h
     cases h))] at heq
    by_cases c3:l[k].key < pk
    ·refine dI hmx [[],[0],[0,1],[0,1,2],(ra 0 4),[0,1,2],[0,1,2],[0,1,2,6],[0,1,2,5,6,7],[0,1,2,5,6,7,8],[0,1,2,5,6,7,8,9],(ra 0 11),(ra 0 12),(ra 0 13)] [13] (by kernel_rfl) [_,_,_,_,vi l[k].key,_,_,vi ((k - 1:Nat):Int),_,_,vi pk,_,_] H (aC (Z0 rfl (Rm rfl)) (Z1 0 42 rfl (Rc rfl)) (Z1 1 43 rfl (Rm rfl)) (Z1 2 44 rfl (YF Cj (aI c0) rfl)) (aC (Z2 3 45 2 44 rfl (YO bH 0 (aI c0) rfl)) (Z1 2 44 rfl (YM (aI c0) rfl)) (Z1 2 44 rfl (YM (aI c0) rfl)) ?_ (aC (Z3 5 47 7 49 2 44 rfl (YI vJ pF (aI c0) rfl rfl)) (Z2 8 50 2 44 rfl (YF Cj (aI c0) rfl)) ?_ (Z3 4 46 10 52 2 44 rfl (YC (aI c0) rfl)) (bL (Z2 2 44 11 53 rfl (Pt (aI c0) rfl)) (bL (bP rfl) dw))))) ?_
     ·refine dL 6 48 2 44 rfl rfl fun _ a w G1 hG HT H fin=>?_;refine lJ _ H (wg H rfl rfl (aI c0)) rfl rfl rfl (by omega) (by omega) rfl ?_;clear H;intro a H;exact fin H iJ (by show _=_;first|rfl|exact aB vi (by omega))
     ·refine dL 9 51 2 44 rfl rfl fun _ a w G1 hG HT H fin=>?_;refine kX bH H (wg H rfl rfl (aI c0)) rfl (H.hp.aF (aJ hG (aJ nL (aJ Ec (hpk (by omega)).1)))) rfl ?_;clear H;intro a H;exact fin H iJ rfl
     clear H;intro a w G oI H hv;have H:=H.aO (hv 12 54 rfl rfl) rfl;clear hv;refine t1 3 H ?_;clear H;rw [ay (by rw [(hpk (by omega)).2];exact aI c3)] at heq;refine aP 3 ?_
     first
      | exact (aB vi (by rw [ah (by simpa using p61)] at heq;rw [fV,ah (by omega)];exact heq))
      | exact (aB vi (by rw [ay (by simpa using h21)] at heq;rw [fV,ah (by omega)];exact heq))
      | exact (aB vi (by rw [fV,ah (by omega)];exact heq))
      | exact (aB vi (by rw [fV,ah (by omega),← heq,show l.drop k=[] from fM (by omega)];rfl))
      | exact (aB vi (by rw [fV,ay (by omega)]))
    refine dI hmx [[],[0],[0,1],[0,1,2],(ra 0 4),[0,1,2],[0,1,2],[0,1,2,6],[0,1,2,5,6,7],[0,1,2,5,6,7,8],[0,1,2,5,6,7,8,9],(ra 0 11),(ra 0 12),(ra 0 13)] [13] (by kernel_rfl) [_,_,_,_,vi l[k].key,_,_,vi ((k - 1:Nat):Int),_,_,vi pk,_,_] H (aC (Z0 rfl (Rm rfl)) (Z1 0 42 rfl (Rc rfl)) (Z1 1 43 rfl (Rm rfl)) (Z1 2 44 rfl (YF Cj (aI c0) rfl)) (aC (Z2 3 45 2 44 rfl (YO bH 0 (aI c0) rfl)) (Z1 2 44 rfl (YM (aI c0) rfl)) (Z1 2 44 rfl (YM (aI c0) rfl)) ?_ (aC (Z3 5 47 7 49 2 44 rfl (YI vJ pF (aI c0) rfl rfl)) (Z2 8 50 2 44 rfl (YF Cj (aI c0) rfl)) ?_ (Z3 4 46 10 52 2 44 rfl (YC (aI c0) rfl)) (bL (Z2 2 44 11 53 rfl (Pt (aI c0) rfl)) (bL (bP rfl) dw))))) ?_
    ·refine dL 6 48 2 44 rfl rfl fun _ a w G1 hG HT H fin=>?_;refine lJ _ H (wg H rfl rfl (aI c0)) rfl rfl rfl (by omega) (by omega) rfl ?_;clear H;intro a H;exact fin H iJ (by show _=_;first|rfl|exact aB vi (by omega))
    ·refine dL 9 51 2 44 rfl rfl fun _ a w G1 hG HT H fin=>?_;refine kX bH H (wg H rfl rfl (aI c0)) rfl (H.hp.aF (aJ hG (aJ nL (aJ Ec (hpk (by omega)).1)))) rfl ?_;clear H;intro a H;exact fin H iJ rfl
    clear H;intro a w G oI H hv;have H:=H.aO (hv 12 54 rfl rfl) rfl;clear hv;refine t1 3 H ?_;clear H;intro a H;refine ji ?_;refine ⟨_,sB,?_⟩
    have q2:¬ (0 < (k:Int)∧l[k].key < pk):=by first|exact fun h=>c3 h.2|exact fun h=>c0 h.1
    rw [ah (fun h=>q2 (by
     by_cases h0:0 < k
     ·rw [(hpk h0).2] at h;exact ⟨by omega,lX h⟩
     rw [M8 (by omega)] at h
     cases h))] at heq
    exact ⟨heq,fun b o h=>oI b o (nL b o (Ec b o h))⟩
   refine dI hmx [[],[0],[0,1],[0,1,2],(ra 0 4),[0,1,2],[0,1,2],[0,1,2,6],[0,1,2,5,6,7],[0,1,2,5,6,7,8],[0,1,2,5,6,7,8,9],(ra 0 11),(ra 0 12),(ra 0 13)] [13] (by kernel_rfl) [_,_,_,undef,undef,undef,undef,undef,undef,undef,undef,undef,_] H (aC (Z0 rfl (Rm rfl)) (Z1 0 28 rfl (Rc rfl)) (Z1 1 29 rfl (Rm rfl)) (aQ 2 (aY c0) rfl rfl) (aC (aQ 2 (aY c0) rfl rfl) (aQ 2 (aY c0) rfl rfl) (aQ 2 (aY c0) rfl rfl) (aQ 2 (aY c0) rfl rfl) (aC (aQ 2 (aY c0) rfl rfl) (aQ 2 (aY c0) rfl rfl) (aQ 2 (aY c0) rfl rfl) (aQ 2 (aY c0) rfl rfl) (bL (Z2 2 30 11 39 rfl (Pf (aY c0) rfl)) (bL (bP rfl) dw))))) ?_
   clear H;intro a w G nL H hv;have H:=H.aO (hv 12 40 rfl rfl) rfl;clear hv;refine t1 4 H ?_;clear H
   have q1:¬ (0 < (k:Int)∧l[k].key=pk):=by first|exact fun h=>c1 h.2|exact fun h=>c0 h.1
   intro a H;rw [ah (fun h=>q1 (by
    by_cases h0:0 < k
    ·rw [(hpk h0).2] at h
     injection h with h
     exact ⟨by omega,h.symm⟩
    rw [M8 (by omega)] at h
    cases h))] at heq
   refine dI hmx [[],[0],[0,1],[0,1,2],(ra 0 4),[0,1,2],[0,1,2],[0,1,2,6],[0,1,2,5,6,7],[0,1,2,5,6,7,8],[0,1,2,5,6,7,8,9],(ra 0 11),(ra 0 12),(ra 0 13)] [13] (by kernel_rfl) [_,_,_,undef,undef,undef,undef,undef,undef,undef,undef,undef,_] H (aC (Z0 rfl (Rm rfl)) (Z1 0 42 rfl (Rc rfl)) (Z1 1 43 rfl (Rm rfl)) (aQ 2 (aY c0) rfl rfl) (aC (aQ 2 (aY c0) rfl rfl) (aQ 2 (aY c0) rfl rfl) (aQ 2 (aY c0) rfl rfl) (aQ 2 (aY c0) rfl rfl) (aC (aQ 2 (aY c0) rfl rfl) (aQ 2 (aY c0) rfl rfl) (aQ 2 (aY c0) rfl rfl) (aQ 2 (aY c0) rfl rfl) (bL (Z2 2 44 11 53 rfl (Pf (aY c0) rfl)) (bL (bP rfl) dw))))) ?_
   clear H;intro a w G oI H hv;have H:=H.aO (hv 12 54 rfl rfl) rfl;clear hv;refine t1 3 H ?_;clear H;intro a H;refine ji ?_;refine ⟨_,sB,?_⟩
   have q2:¬ (0 < (k:Int)∧l[k].key < pk):=by first|exact fun h=>c3 h.2|exact fun h=>c0 h.1
   rw [ah (fun h=>q2 (by
    by_cases h0:0 < k
    ·rw [(hpk h0).2] at h;exact ⟨by omega,lX h⟩
    rw [M8 (by omega)] at h
    cases h))] at heq
   exact ⟨heq,fun b o h=>oI b o (nL b o (Ec b o h))⟩
  clear H;intro g2 a w hI H;obtain ⟨heq,iM⟩:=hI;replace hrow:=fun j u hj=>aJ iM (hrow j u hj);dsimp only [lca,aR] at H;refine eB 5 H ?_;clear H;intro a H;refine s_call P6 H wn rfl (OX _ _ H.ro l[k].key l[k].value) rfl ?_;clear H;rintro v59 G59 a w rfl ajg H;refine gW 6 H ?_ ?_ <;> clear H
  ·intro p61
   refine aP 4 ?_
   first
    | exact (aB vi (by rw [ah (by simpa using p61)] at heq;rw [fV,ah (by omega)];exact heq))
    | exact (aB vi (by rw [ay (by simpa using h21)] at heq;rw [fV,ah (by omega)];exact heq))
    | exact (aB vi (by rw [fV,ah (by omega)];exact heq))
    | exact (aB vi (by rw [fV,ah (by omega),← heq,show l.drop k=[] from fM (by omega)];rfl))
    | exact (aB vi (by rw [fV,ay (by omega)]))
  intro p61
  refine ak 4 ?_;intro a H;refine aG ?_;refine dH ((k+1,G59)) (by exact (H.cu (Pl:=[_]) (bS:=[]) [] (by decide) rfl).sub ⟨rfl,rfl,rfl,rfl,rfl,bB⟩) ?_ ?_
  ·(try dsimp only);exact ⟨by omega,by rw [ay (by simpa using p61)] at heq;exact heq,fun b o h=>ajg b o (iM b o (hgm b o h))⟩
  first|omega|(dsimp only;omega)
 intro kW
 refine aP 4 ?_
 first
  | exact (aB vi (by rw [ah (by simpa using p61)] at heq;rw [fV,ah (by omega)];exact heq))
  | exact (aB vi (by rw [ay (by simpa using h21)] at heq;rw [fV,ah (by omega)];exact heq))
  | exact (aB vi (by rw [fV,ah (by omega)];exact heq))
  | exact (aB vi (by rw [fV,ah (by omega),← heq,show l.drop k=[] from fM (by omega)];rfl))
  | exact (aB vi (by rw [fV,ay (by omega)]))
end
section
open Go.RowKit
instance gF:Ty prog 42 1 8 [.int .i64 0] false:=⟨by kernel_rfl,by kernel_rfl⟩
theorem pI:prog.underlying 195=some (.slice 42):=by kernel_rfl
instance:jK prog 195 (.slice 42):=⟨pI⟩
theorem vW:∀ args w,(callFunc 134 args).run prog w=.ok (.enter 134 args) w:=enters func134 rfl (by kernel_rfl)
theorem wE (G:GH) (w0:World) (hG:Hold G w0) (n l h:Int):Calls prog 134 #[vi n,vi l,vi h] w0 (bD w0 G fun u G'=>u=.bool (decide (l≤n∧n≤h))∧G=G'):=by
 refine eN [(0,_),(1,_),(2,_)] func134 rfl ntmps134 rfl rfl hG ?_;refine kT 8 10 ?_ ?_
 ·intro nk
  refine aP 6 ?_;exact ⟨dD (by first|(simp_all;done)|(simp_all;omega)),rfl⟩
 intro nk
 refine aP 6 ?_;exact ⟨dD (by first|(simp_all;done)|(simp_all;omega)),rfl⟩
def bW (b:Bool) (e:Int):Int:=if b=true then e else 0
theorem iW (G:GH) (w0:World) (hG:Hold G w0) (b:Bool) (e:Int):Calls prog 47 #[.bool b,vi e] w0 (bD w0 G fun u G'=>u=vi (bW b e)∧G=G'):=by
 refine eN [(0,_),(1,_)] func47 rfl ntmps47 rfl rfl hG ?_;refine goB 7 ?_ ?_
 ·intro p5
  refine aP 4 ?_;exact ⟨aB vi (by simp_all [bW]),rfl⟩
 intro p5
 refine aP 4 ?_;exact ⟨aB vi (by simp_all [bW]),rfl⟩
def dz:List Int→Int
 | []=>0
 | e :: r=>if e≠0 then e else dz r
theorem KR {l:List Int} {k:Nat} (h:k < l.length):dz (l.drop k)=if l[k]≠0 then l[k] else dz (l.drop (k+1)):=by
 rw [lW h,dz]
theorem pW (G:GH) (w0:World) (hG:Hold G w0) (l:List Int) (v:aj) (hv:av G (.sl 1 (l.map fun k=>[li k])) v) :
  Calls prog 72 #[v] w0 (bD w0 G fun u G'=>u=vi (dz l)∧G=G'):=by
 obtain ⟨A,c,rfl,hc1,hc2,hg⟩:=hv.slice;have hml:maxLen=9223372036854775807:=rfl;rw [bO] at *;refine eN [(0,_)] func72 rfl ntmps72 rfl rfl hG ?_;refine ak 10 ?_;intro a H;refine eO (ι:=Nat) (Tc:=[(5,_),(6,_)]) (Lc:=[]) (fun gh=>[(7,vi gh)]) (fun gh=>[]) (fun gh=>G) (fun gh=>gh≤l.length∧dz (l.drop gh)=dz l) (fun gh=>l.length - gh) (0) sB ?_ ?_
 ·exact ⟨gV _,rfl⟩
 clear H;intro k a w hI H;obtain ⟨hk,he⟩:=hI;dsimp only [lca,aR] at H;refine dN 4 H ?_ ?_ <;> clear H
 ·intro p8
  have hk2:k < l.length:=by omega
  obtain ⟨b,o,cs,rfl,hcl,hrow,hr⟩:=hg k [li l[k]] (by simp [hk2]);obtain ⟨v1,_,rfl,⟨rfl,-⟩,rfl⟩:∃ v vs,cs=v :: vs∧av G (li l[k]) v∧aN G [] vs:=hr
  have hcell:aF G b (o+k*1)=some (vi l[k]):=by simpa using hrow 0 _ rfl
  refine goB 12 ?_ ?_
  ·intro nu
   refine aP 4 ?_;exact ⟨aB vi (by rw [KR hk2,ay nu] at he;exact he),rfl⟩
  intro nu
  refine ak 4 ?_;intro a H;refine aG ?_;refine dH ((k+1)) sB ?_ ?_
  ·exact ⟨by omega,by rw [KR hk2,ah nu] at he;exact he⟩
  first|omega|(dsimp only;omega)
 intro p8
 refine aP 4 ?_;exact ⟨aB vi (by rw [fM (by omega)] at he;exact he),rfl⟩
def qZ (fv:aj) (Gi:GH) (n:Nat) (E:Nat→Int):Prop:=∀ i,i < n→∀ (G1:GH) (w1:World),(∀ b o,Gi b=some o→G1 b=some o)→Hold G1 w1→qX prog fv [vi i] w1 (bD w1 G1 fun u G'=>u=vi (E i))
theorem qZ.mono {fv:aj} {G G':GH} {n:Nat} {E:Nat→Int} (h:qZ fv G n E) (hm:∀ b o,G b=some o→G' b=some o):qZ fv G' n E:=fun i hi G1 w1 hG1=>h i hi G1 w1 fun b o hb=>hG1 b o (hm b o hb)
def iY (E:Nat→Int) (n:Nat):Int:=dz ((List.range n).map E)
theorem DJ {E:Nat→Int} {n k:Nat} (h:k < n):dz (((List.range n).map E).drop k)=if E k≠0 then E k else dz (((List.range n).map E).drop (k+1)):=by
 rw [KR (by simpa using h)];simp
theorem H7 (G:GH) (w0:World) (hG:Hold G w0) (n:Nat) (E:Nat→Int) (fv:aj) (hn:n≤4611686018427387904) (hf:qZ fv G n E) :
  Calls prog 101 #[vi n,fv] w0 (bD w0 G fun u G'=>u=vi (iY E n)):=by
 refine eN [(0,_),(1,_)] func101 rfl ntmps101 rfl rfl hG ?_;refine ak 9 ?_;intro a H;refine eO (ι:=Nat × GH) (Tc:=[(1,_),(7,_)]) (Lc:=[]) (fun gh=>[(8,vi gh.1)]) (fun gh=>[]) (fun gh=>gh.2) (fun gh=>gh.1≤n∧dz (((List.range n).map E).drop gh.1)=iY E n∧(∀ b o,G b=some o→gh.2 b=some o)) (fun gh=>n - gh.1) ((0,G)) sB ?_ ?_
 ·exact ⟨gV _,rfl,fun _ _ h=>h⟩
 clear H;rintro ⟨k,g⟩ a w hI H;dsimp only at hI H;obtain ⟨hk,he,hgm⟩:=hI;dsimp only [lca,aR] at H;refine dN 4 H ?_ ?_ <;> clear H
 ·intro p9
  have hk2:k < n:=by omega
  refine ak 10 ?_;intro a H;refine nV H wn rfl rfl (hf k hk2 _ _ hgm H.ro) rfl ?_;clear H;rintro v13 BL a w rfl vo H;refine gW 6 H ?_ ?_ <;> clear H
  ·intro oZ
   refine aP 4 ?_;exact (aB vi (by rw [DJ hk2,ay oZ] at he;exact he))
  intro oZ
  refine ak 4 ?_;intro a H;refine aG ?_;refine dH ((k+1,BL)) sB ?_ ?_
  ·(try dsimp only);exact ⟨by omega,by rw [DJ hk2,ah oZ] at he;exact he,fun b o h=>vo b o (hgm b o h)⟩
  first|omega|(dsimp only;omega)
 intro p9
 refine aP 4 ?_;exact (aB vi (by rw [fM (by simp;omega)] at he;exact he))
def nP (id:Nat→Int) (i:Nat):Int:=if ¬ (1≤id i∧id i≤1073741824) then 18 else if 0 < i∧id i=id (i - 1) then 7 else if 0 < i∧id i < id (i - 1) then 6 else 0
theorem Sm (G:GH) (w0:World) (hG:Hold G w0) (i:Nat) (id:Nat→Int) (fv:aj) (hn:i≤4611686018427387904) (hf:qZ fv G (i+1) id) :
  Calls prog 131 #[vi i,fv] w0 (bD w0 G fun u G'=>u=vi (nP id i)):=by
 refine eN [(0,_),(1,_)] func131 rfl ntmps131 rfl rfl hG ?_;intro a H;refine kP H (SQ fun _ K1=>SC (kE K1 rfl (SQ fun _ K2=>SB (SQ fun _ K3=>SC (Rm rfl (Rm rfl ?_))))));clear H K1;intro a H;refine nV H wn rfl rfl (hf i (Nat.lt_succ_self _) _ _ (fun _ _ h=>h) H.ro) rfl ?_;clear H;rintro v8 G8 a w rfl xw H;refine s_call vW H wn rfl (wE _ _ H.ro (id i) 1 1073741824) rfl ?_;clear H;rintro v9 _ a w ⟨rfl,rfl⟩ - H;refine kH H (Rn rfl (kE K3 rfl (Cd rfl ?_ ?_))) <;> clear H K3
 ·intro h5 a H
  try have p5:=dT h5
  refine kP H (SQ fun _ K4=>SC (kE K4 rfl ?_));clear H K4;intro a H;refine lr H results131 rfl ?_
  exact H.rt (aB vi (by unfold nP;(repeat' split) <;> first|rfl|(exfalso;simp_all;done)|(exfalso;simp_all;omega)))
 intro h5 a H
 try have p5:=dF h5
 refine kP H (SQ fun _ K5=>SC (Rm rfl (Rc rfl (Rm rfl (Sp 14 rfl ?_ ?_))))) <;> clear H
 ·intro nZ a H
  try have qg:=dT nZ
  refine kH H (YM nZ rfl (YM nZ rfl ?_));clear H;intro a H;refine nV H (wg H rfl rfl nZ) rfl rfl (hf i (Nat.lt_succ_self _) _ _ xw H.ro) rfl ?_;clear H;rintro v17 xV a w rfl pX H;refine kH H (YM nZ rfl (YM nZ rfl ?_));clear H;intro a H;refine lJ _ H (wg H rfl rfl nZ) rfl rfl rfl (by omega) (by omega) rfl ?_;clear H;intro a H;rw [show ((i:Int) - 1)=((i - 1:Nat):Int) by omega] at H;refine nV H (wg H rfl rfl nZ) rfl rfl (hf (i - 1) (by omega) _ _ (fun b o h=>pX b o (xw b o h)) H.ro) rfl ?_;clear H;rintro v21 Ob a w rfl zG H;refine kH H (YC nZ rfl (Pt nZ rfl (kE K5 rfl (Cd rfl ?_ ?_)))) <;> clear H K5
  ·intro h11 a H
   try have oz:=dT h11
   refine kP H (SQ fun _ K6=>SC (kE K6 rfl ?_));clear H K6;intro a H;refine lr H results131 rfl ?_
   exact H.rt (aB vi (by unfold nP;(repeat' split) <;> first|rfl|(exfalso;simp_all;done)|(exfalso;simp_all;omega)))
  intro h11 a H
  try have oz:=dF h11
  refine kP H (SQ fun _ K7=>SC (Rm rfl (Rc rfl (Rm rfl (Sp 27 rfl ?_ ?_))))) <;> clear H
  ·intro h27 a H
   try have p27:=dT h27
   refine kH H (YM h27 rfl (YM h27 rfl ?_));clear H;intro a H;refine nV H (wg H rfl rfl h27) rfl rfl (hf i (Nat.lt_succ_self _) _ _ (fun b o h=>by first|exact zG b o (pX b o (xw b o h))|(exfalso;omega)) H.ro) rfl ?_;clear H;rintro v30 Ai a w rfl wz H;refine kH H (YM h27 rfl (YM h27 rfl ?_));clear H;intro a H;refine lJ _ H (wg H rfl rfl h27) rfl rfl rfl (by omega) (by omega) rfl ?_;clear H;intro a H;rw [show ((i:Int) - 1)=((i - 1:Nat):Int) by omega] at H;refine nV H (wg H rfl rfl h27) rfl rfl (hf (i - 1) (by omega) _ _ (fun b o h=>by first|exact wz b o (zG b o (pX b o (xw b o h)))|(exfalso;omega)) H.ro) rfl ?_;clear H;rintro v34 U8 a w rfl X8 H;refine kH H (YC h27 rfl (Pt h27 rfl (kE K7 rfl (Cd rfl ?_ ?_)))) <;> clear H K7
   ·intro nK a H
    try have kQ:=dT nK
    refine kP H (SQ fun _ K8=>SC (kE K8 rfl ?_));clear H K8;intro a H;refine lr H results131 rfl ?_
    exact H.rt (aB vi (by unfold nP;(repeat' split) <;> first|rfl|(exfalso;simp_all;done)|(exfalso;simp_all;omega)))
   intro nK a H
   try have kQ:=dF nK
   refine kP H (Kc K2 (SQ fun _ K9=>SC (kE K9 rfl ?_)));clear H K2 K9;intro a H;refine lr H results131 rfl ?_
   exact H.rt (aB vi (by unfold nP;(repeat' split) <;> first|rfl|(exfalso;simp_all;done)|(exfalso;simp_all;omega)))
  intro h27 a H
  try have p27:=dF h27
  refine kH H (yZ h27 rfl (yZ h27 rfl (BP h27 rfl (Pf h27 rfl (kE K7 rfl (Cf rfl rfl (Kc K2 (SQ fun _ xW=>SC (kE xW rfl ?_)))))))));clear H K7 K2 xW;intro a H;refine lr H results131 rfl ?_
  exact H.rt (aB vi (by unfold nP;(repeat' split) <;> first|rfl|(exfalso;simp_all;done)|(exfalso;simp_all;omega)))
 intro nZ a H
 try have qg:=dF nZ
 refine kH H (yZ nZ rfl (yZ nZ rfl (BP nZ rfl (Pf nZ rfl (kE K5 rfl (Cf rfl rfl (SQ fun _ sj=>SC (Rm rfl (Rc rfl (Rm rfl (Sp 27 rfl ?_ ?_))))))))))) <;> clear H K5
 ·intro h27 a H
  try have p27:=dT h27
  refine kH H (YM h27 rfl (YM h27 rfl ?_));clear H;intro a H;refine nV H (wg H rfl rfl h27) rfl rfl (hf i (Nat.lt_succ_self _) _ _ (fun b o h=>by first|exact zG b o (pX b o (xw b o h))|(exfalso;omega)) H.ro) rfl ?_;clear H;rintro v30 Ai a w rfl wz H;refine kH H (YM h27 rfl (YM h27 rfl ?_));clear H;intro a H;refine lJ _ H (wg H rfl rfl h27) rfl rfl rfl (by omega) (by omega) rfl ?_;clear H;intro a H;rw [show ((i:Int) - 1)=((i - 1:Nat):Int) by omega] at H;refine nV H (wg H rfl rfl h27) rfl rfl (hf (i - 1) (by omega) _ _ (fun b o h=>by first|exact wz b o (zG b o (pX b o (xw b o h)))|(exfalso;omega)) H.ro) rfl ?_;clear H;rintro v34 U8 a w rfl X8 H;refine kH H (YC h27 rfl (Pt h27 rfl (kE sj rfl (Cd rfl ?_ ?_)))) <;> clear H sj
  ·intro nK a H
   try have kQ:=dT nK
   refine kP H (SQ fun _ yY=>SC (kE yY rfl ?_));clear H yY;intro a H;refine lr H results131 rfl ?_
   exact H.rt (aB vi (by unfold nP;(repeat' split) <;> first|rfl|(exfalso;simp_all;done)|(exfalso;simp_all;omega)))
  intro nK a H
  try have kQ:=dF nK
  refine kP H (Kc K2 (SQ fun _ Hl=>SC (kE Hl rfl ?_)));clear H K2 Hl;intro a H;refine lr H results131 rfl ?_
  exact H.rt (aB vi (by unfold nP;(repeat' split) <;> first|rfl|(exfalso;simp_all;done)|(exfalso;simp_all;omega)))
 intro h27 a H
 try have p27:=dF h27
 refine kH H (yZ h27 rfl (yZ h27 rfl (BP h27 rfl (Pf h27 rfl (kE sj rfl (Cf rfl rfl (Kc K2 (SQ fun _ Ho=>SC (kE Ho rfl ?_)))))))));clear H sj K2 Ho;intro a H;refine lr H results131 rfl ?_
 exact H.rt (aB vi (by unfold nP;(repeat' split) <;> first|rfl|(exfalso;simp_all;done)|(exfalso;simp_all;omega)))
end
section
open Go.RowKit
theorem iR:∀ args w,(callFunc 47 args).run prog w=.ok (.enter 47 args) w:=enters func47 rfl (by kernel_rfl)
theorem pV:∀ args w,(callFunc 72 args).run prog w=.ok (.enter 72 args) w:=enters func72 rfl (by kernel_rfl)
def uM (s:ByteArray):Bool:=decide (1≤s.size∧s.size≤40) && mR s
theorem VG (G:GH) (w0:World) (hG:Hold G w0) (s:ByteArray) (hs:s.size < 4611686018427387904):Calls prog 133 #[.string s] w0 (bD w0 G fun u G'=>u=.bool (uM s)∧G=G'):=by
 refine eN [(0,_)] func133 rfl ntmps133 rfl rfl hG ?_;refine jE 8 6 ?_ ?_
 ·intro h6
  try have p6:=dT h6
  refine ak 1 ?_;intro a H;refine CZ iV H (wg H rfl rfl h6) rfl rfl ?_;clear H;refine jE 3 11 ?_ ?_
  ·intro h11
   try have oz:=dT h11
   refine ak 1 ?_;intro a H;refine s_call Ip H (wg H rfl rfl h11) rfl (JG _ _ H.ro s hs) rfl ?_;clear H;rintro v13 _ a w ⟨rfl,rfl⟩ - H;refine gH 3 H ?_;exact ⟨dD (by unfold uM;first|(simp_all;done)|(simp_all;omega)),rfl⟩
  intro h11
  try have oz:=dF h11
  refine aP 5 ?_;exact ⟨dD (by unfold uM;first|(simp_all;done)|(simp_all;omega)),rfl⟩
 intro h6
 try have p6:=dF h6
 refine aP 10 ?_;exact ⟨dD (by unfold uM;first|(simp_all;done)|(simp_all;omega)),rfl⟩
def Bz (s:ByteArray):Int:=dz [bW (!mR s) 12,bW (decide (1024 < (s.size:Int))) 10]
theorem xM {G:GH} {b:Nat} {x y:Int} (h:G b=some (.cells #[vi x,vi y] 42 (0,0))):av G (.sl 1 ([x,y].map fun k=>[li k])) (.slice (some ⟨b,0,none⟩) 2 2) :=
 av.dZ (n:=2) (cap:=2) h rfl (bN _) (show 2≤maxLen by decide) (jh (bN _)) (eT G [x,y])
theorem Ul (G:GH) (w0:World) (hG:Hold G w0) (s:ByteArray) (hs:s.size < 4611686018427387904):Calls prog 190 #[.string s] w0 (bD w0 G fun u G'=>u=vi (Bz s)):=by
 refine eN [(0,_)] func190 rfl ntmps190 rfl rfl hG ?_;refine ak 5 ?_;intro a H;refine s_call Ip H wn rfl (JG _ _ H.ro s hs) rfl ?_;clear H;rintro v4 _ a w ⟨rfl,rfl⟩ - H;refine aH 1 H ?_;clear H;intro a H;refine s_call iR H wn rfl (iW _ _ H.ro _ 12) rfl ?_;clear H;rintro v6 _ a w ⟨rfl,rfl⟩ - H;refine aH 3 H ?_;clear H;intro a H;refine s_call iR H wn rfl (iW _ _ H.ro _ 10) rfl ?_;clear H;rintro v10 _ a w ⟨rfl,rfl⟩ - H;refine gK pI gF [_,_] [_,_] H wn rfl rfl rfl rfl rfl (by intro i q h;match i,h with|0,h=>exact h|1,h=>exact h|n+2,h=>simp at h) rfl rfl ?_;clear H;intro b11 a w DZ H;obtain ⟨qY,Eb,FI,H⟩:=H.dP;refine s_call pV H wn rfl (pW _ _ H.ro _ _ (xM FI)) rfl ?_;clear H;rintro v12 _ a w ⟨rfl,rfl⟩ - H;refine gH 2 H ?_;exact rfl
def MQ (c:Int):Bool:=decide (97≤uN .or .u8 c 32) && decide (uN .or .u8 c 32≤122)
def EA (c:Int):Bool:=(decide (48≤c) && decide (c≤57)) || decide (c=45) || decide (c=95)
def zP (s:ByteArray) (k:Nat):Bool:=MQ (fG s k) || (decide (k≠0) && EA (fG s k))
def qo (s:ByteArray):Bool:=decide (1≤s.size∧s.size≤40) && (List.range s.size).all (zP s)
theorem O9 (G:GH) (w0:World) (hG:Hold G w0) (s:ByteArray) (hs:s.size < 4611686018427387904):Calls prog 93 #[.string s] w0 (bD w0 G fun u G'=>u=.bool (qo s)∧G=G'):=by
 refine eN [(0,_)] func93 rfl ntmps93 rfl rfl hG ?_;refine jE 9 10 ?_ ?_
 ·intro h10
  try have nk:=dT h10
  refine aP 9 ?_;exact ⟨dD (by unfold qo;rw [jA (by omega)];rfl),rfl⟩
 intro h10
 try have nk:=dF h10
 refine ak 1 ?_;intro a H;refine CZ iV H (wg H rfl rfl h10) rfl rfl ?_;clear H;refine goB 3 ?_ ?_
 ·intro qg
  refine aP 3 ?_;exact ⟨dD (by unfold qo;rw [jA (by omega)];rfl),rfl⟩
 intro qg
 refine ak 8 ?_;intro a H;refine eO (ι:=Nat) (Tc:=[(0,_),(16,_)]) (Lc:=[]) (fun gh=>[(17,vi gh)]) (fun gh=>[]) (fun gh=>G) (fun gh=>gh≤s.size∧(List.range gh).all (zP s)=true) (fun gh=>s.size - gh) (0) sB ?_ ?_
 ·exact ⟨gV _,rfl⟩
 clear H;intro k a w hI H;obtain ⟨hk,hall⟩:=hI;dsimp only [lca,aR] at H;refine dN 4 H ?_ ?_ <;> clear H
 ·intro xG
  have hk2:k < s.size:=by omega
  refine ak 10 ?_;intro a H;refine nW k iV H wn rfl rfl rfl (by omega) rfl ?_;clear H;intro a H;rw [← jQ] at H;refine Js rfl H wn rfl rfl rfl ?_;clear H;refine ak 2 ?_;intro a H;refine sH (ι:=Bool) (Tc:=[(0,_),(3,_),(16,_),(17,_)]) (Lc:=[]) (fun gh=>[(5,.bool gh)]) (fun gh=>[]) (fun gh=>G) (fun gh=>gh=MQ (fG s k)) sB ?_ ?_
  ·refine vZ 4 26 H ?_ ?_ <;> clear H
   ·intro p26
    refine ak 4 ?_;intro a H;refine aG ?_;refine ⟨_,sB,?_⟩
    unfold MQ;first|(simp_all;done)|(simp_all;omega)
   intro p26
   refine ak 4 ?_;intro a H;refine aG ?_;refine ⟨_,sB,?_⟩
   unfold MQ;first|(simp_all;done)|(simp_all;omega)
  clear H;intro lt a w hI H;have hlt:=hI;dsimp only [lca,aR] at H;refine sH (ι:=Bool) (Tc:=[(0,_),(3,_),(5,_),(16,_),(17,_)]) (Lc:=[]) (fun gh=>[(6,.bool gh)]) (fun gh=>[]) (fun gh=>G) (fun gh=>gh=EA (fG s k)) sB ?_ ?_
  ·refine eB 3 H ?_;clear H;intro a H;refine nW k iV H wn rfl rfl rfl (by omega) rfl ?_;clear H;intro a H;rw [← jQ] at H;refine nJ 2 34 H ?_ ?_ <;> clear H
   ·intro uV
    try have p34:=dT uV
    refine ak 2 ?_;intro a H;refine nW k iV H (wg H rfl rfl uV) rfl rfl rfl (by omega) rfl ?_;clear H;intro a H;rw [← jQ] at H;refine nJ 3 40 H ?_ ?_ <;> clear H
    ·intro zB
     try have p40:=dT zB
     refine ak 12 ?_;intro a H;refine aG ?_;refine ⟨_,sB,?_⟩
     unfold EA;first|(simp_all;done)|(simp_all;omega)
    intro zB
    try have p40:=dF zB
    refine ak 2 ?_;intro a H;refine nW k iV H (wg H rfl rfl zB) rfl rfl rfl (by omega) rfl ?_;clear H;intro a H;rw [← jQ] at H;refine nJ 3 46 H ?_ ?_ <;> clear H
    ·intro h46
     try have p46:=dT h46
     refine ak 6 ?_;intro a H;refine aG ?_;refine ⟨_,sB,?_⟩
     unfold EA;first|(simp_all;done)|(simp_all;omega)
    intro h46
    try have p46:=dF h46
    refine ak 2 ?_;intro a H;refine nW k iV H (wg H rfl rfl h46) rfl rfl rfl (by omega) rfl ?_;clear H;intro a H;rw [← jQ] at H;refine aH 3 H ?_;clear H;intro a H;refine aG ?_;refine ⟨_,sB,?_⟩
    unfold EA;first|(simp_all;done)|(simp_all;omega)
   intro uV
   try have p34:=dF uV
   refine ak 6 ?_;intro a H;(iterate 2 refine C8 H (wg H rfl rfl rfl) rfl rfl ?_;clear H;intro a H);refine nW k iV H (wg H rfl rfl rfl) rfl rfl rfl (by omega) rfl ?_;clear H;intro a H;rw [← jQ] at H;refine CY H (wg H rfl rfl rfl) rfl rfl rfl rfl ?_;clear H;refine jE 2 46 ?_ ?_
   ·intro h46
    try have p46:=dT h46
    refine ak 6 ?_;intro a H;refine aG ?_;refine ⟨_,sB,?_⟩
    unfold EA;first|(simp_all;done)|(simp_all;omega)
   intro h46
   try have p46:=dF h46
   refine ak 2 ?_;intro a H;refine nW k iV H (wg H rfl rfl h46) rfl rfl rfl (by omega) rfl ?_;clear H;intro a H;rw [← jQ] at H;refine aH 3 H ?_;clear H;intro a H;refine aG ?_;refine ⟨_,sB,?_⟩
   unfold EA;first|(simp_all;done)|(simp_all;omega)
  clear H;intro ot a w hI H;have hot:=hI;dsimp only [lca,aR] at H;refine vZ 4 54 H ?_ ?_ <;> clear H
  ·intro p54
   refine kT 3 57 ?_ ?_
   ·intro p57
    refine aP 9 ?_
    first
     | exact ⟨dD (by
       unfold qo
       rw [show k=s.size by omega] at hall
       rw [hall,iE (by omega)];rfl),rfl⟩
     | exact ⟨dD (by
       unfold qo
       rw [show (List.range s.size).all (zP s)=false from List.all_eq_false.2 ⟨k,by simpa using hk2,by unfold zP;simp_all⟩,Bool.and_false]),rfl⟩
   intro p57
   refine goB 5 ?_ ?_
   ·intro p61
    refine aP 3 ?_
    first
     | exact ⟨dD (by
       unfold qo
       rw [show k=s.size by omega] at hall
       rw [hall,iE (by omega)];rfl),rfl⟩
     | exact ⟨dD (by
       unfold qo
       rw [show (List.range s.size).all (zP s)=false from List.all_eq_false.2 ⟨k,by simpa using hk2,by unfold zP;simp_all⟩,Bool.and_false]),rfl⟩
   intro p61
   refine ak 4 ?_;intro a H;refine aG ?_;refine dH ((k+1)) sB ?_ ?_
   ·exact ⟨by omega,by rw [List.range_succ,List.all_append,hall];simp [zP];simp_all⟩
   first|omega|(dsimp only;omega)
  intro p54
  refine ak 13 ?_;intro a H;refine aG ?_;refine dH ((k+1)) sB ?_ ?_
  ·exact ⟨by omega,by rw [List.range_succ,List.all_append,hall];simp [zP];simp_all⟩
  first|omega|(dsimp only;omega)
 intro xG
 refine aP 4 ?_
 first
  | exact ⟨dD (by
    unfold qo
    rw [show k=s.size by omega] at hall
    rw [hall,iE (by omega)];rfl),rfl⟩
  | exact ⟨dD (by
    unfold qo
    rw [show (List.range s.size).all (zP s)=false from List.all_eq_false.2 ⟨k,by simpa using hk2,by unfold zP;simp_all⟩,Bool.and_false]),rfl⟩
end
section
open Go.RowKit
section
variable {N:Nat} {D:List Deferred} {w0:World} {F:Nat→Prop} {G0 G:GH} {L:OL} {T:List (Nat × aj)}
variable {r:Option Nat} {P:Program} {ops:Array Oper} {Q:Exit→Act→World→Prop} {rest:List Oper} {a:Act} {w:World}
variable {d:Nat} {ty:TypeId} {pos:String} {aK:Array Edge} {g:Option (Nat × Bool)}
end
end
end Go.Proofs.YthmanofbmnfemaaGreat
