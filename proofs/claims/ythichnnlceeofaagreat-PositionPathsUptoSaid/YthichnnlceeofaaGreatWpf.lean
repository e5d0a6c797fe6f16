/-
  What the claim stands on, part 6: In valid documents no id stands at two places. The model's path is the way that Place leads. The law of positions: paths. From what the form reads to documents in memory. From what the form reads to settings and documents in memory.
-/
import Derived.Test.YthichnnlceeofaaGreatWpe
import Derived.ProofKit
import Derived.Deep.Slices
import Derived.Laws.StructEq
namespace Go.Proofs.YthichnnlceeofaaGreat
section
open Go.RowKit
theorem BX {id:Int} {x:aj}:kM id x=true↔x.id=id∨∃ r∈x.rows,∃ c∈r.cells,c.id=id:=by
 unfold kM
 rw [Bool.or_eq_true,decide_eq_true_iff,List.findIdx?_isSome,List.any_eq_true];refine or_congr Iff.rfl ?_
 constructor
 ·rintro ⟨r,hr,h⟩
  unfold EG at h
  rw [List.findIdx?_isSome,List.any_eq_true] at h;obtain ⟨c,hc,h⟩:=h;exact ⟨r,hr,c,hc,of_decide_eq_true h⟩
 rintro ⟨r,hr,c,hc,h⟩;refine ⟨r,hr,?_⟩
 unfold EG
 rw [List.findIdx?_isSome,List.any_eq_true];exact ⟨c,hc,decide_eq_true h⟩
/-! ## No id at two places -/
abbrev jC (cs:List aJ):List Int:=cs.flatMap fun c=>oW c.flow
abbrev jR (rs:List aN):List Int:=rs.flatMap fun r=>jC r.cells
theorem Ca:∀ cs:List aJ,∀ i∈jC cs,i∈pV cs
 | [],i,h=>by simp [jC] at h
 | c :: cs,i,h=>by
  rw [pV,Hq]
  simp only [jC,List.flatMap_cons,List.mem_append] at h
  rcases h with h|h
  ·exact List.mem_append.2 (.inl (List.mem_cons_of_mem _ h))
  exact List.mem_append.2 (.inr (Ca cs i h))
theorem EI:∀ rs:List aN,∀ i∈jR rs,i∈qJ rs
 | [],i,h=>by simp [jR] at h
 | r :: rs,i,h=>by
  rw [qJ,Hr]
  simp only [jR,List.flatMap_cons,List.mem_append] at h
  rcases h with h|h
  ·exact List.mem_append.2 (.inl (Ca _ i h))
  exact List.mem_append.2 (.inr (EI rs i h))
theorem FN:∀ {cs:List aJ} {c:aJ},c∈cs→c.id∈pV cs
 | d :: cs,c,h=>by
  rw [pV,Hq]
  rcases List.mem_cons.1 h with rfl|h
  ·exact List.mem_append.2 (.inl List.mem_cons_self)
  exact List.mem_append.2 (.inr (FN h))
theorem JH:∀ {rs:List aN} {r:aN} {c:aJ},r∈rs→c∈r.cells→c.id∈qJ rs
 | q :: rs,r,c,h,hc=>by
  rw [qJ,Hr]
  rcases List.mem_cons.1 h with rfl|h
  ·exact List.mem_append.2 (.inl (FN hc))
  exact List.mem_append.2 (.inr (JH h hc))
theorem Pm:∀ {cs:List aJ} {c:aJ},(pV cs).Nodup→c∈cs→c.id∉jC cs
 | d :: cs,c,hn,h=>by
  rw [pV,Hq,List.nodup_append] at hn;obtain ⟨h1,h2,h3⟩:=hn;rw [List.nodup_cons] at h1
  simp only [jC,List.flatMap_cons,List.mem_append,not_or]
  rcases List.mem_cons.1 h with rfl|h
  ·exact ⟨h1.1,fun hm=>h3 _ List.mem_cons_self _ (Ca cs _ hm) rfl⟩
  exact ⟨fun hm=>h3 _ (List.mem_cons_of_mem _ hm) _ (FN h) rfl,Pm h2 h⟩
theorem Pn:∀ {rs:List aN} {r:aN} {c:aJ},(qJ rs).Nodup→r∈rs→c∈r.cells→c.id∉jR rs
 | q :: rs,r,c,hn,h,hc=>by
  rw [qJ,Hr,List.nodup_append] at hn;obtain ⟨h1,h2,h3⟩:=hn
  simp only [jR,List.flatMap_cons,List.mem_append,not_or]
  rcases List.mem_cons.1 h with rfl|h
  ·exact ⟨Pm h1 hc,fun hm=>h3 _ (FN hc) _ (EI rs _ hm) rfl⟩
  exact ⟨fun hm=>h3 _ (Ca _ _ hm) _ (JH h hc) rfl,Pn h2 h hc⟩
mutual
theorem Tg {f t:Int} {id:Int} {a:(Int × Int) × aj}:∀ {x:aj},wI x→a∈xK f t x→kM id a.2=true→id∈xG x
 | .mk k c i tx h fl r,hx,ha,hi=>by
  have hf:fP fl:=hx.fl;have hw:∀ q∈r,∀ c∈q.cells,fP c.flow:=hx.rw;have h0:=hx.TS
  simp only [aj.kind,aj.rows] at h0
  rw [xK] at ha;rw [xG]
  by_cases h6:k=6
  ·rw [if_pos h6] at ha;rw [if_pos (.inl h6),if_pos h6]
   rcases List.mem_cons.1 ha with rfl|ha
   ·rcases BX.1 hi with e|⟨q,hq,_⟩
    ·rw [← e];exact List.mem_append.2 (.inl (List.mem_singleton.2 rfl))
    simp only [aj.rows] at hq;rw [h0 (by omega)] at hq;cases hq
   exact List.mem_append.2 (.inr (List.mem_append.2 (.inl (Cj hf ha hi))))
  rw [if_neg h6] at ha
  by_cases h7:k=7
  ·rw [if_pos h7] at ha;rw [if_pos (.inr h7),if_neg h6,if_pos h7,List.nil_append]
   rcases List.mem_cons.1 ha with rfl|ha
   ·rcases BX.1 hi with e|⟨q,hq,c,hc,e⟩
    ·rw [← e];exact List.mem_append.2 (.inl (List.mem_singleton.2 rfl))
    rw [← e];exact List.mem_append.2 (.inr (JH hq hc))
   exact List.mem_append.2 (.inr (EI _ _ (Ib hw ha hi)))
  rw [if_neg h7] at ha;cases ha
theorem Cj {f t:Int} {id:Int} {a:(Int × Int) × aj}:∀ {l:List aj},fP l→a∈fK f t l→kM id a.2=true→id∈oW l
 | [],_,ha,_=>by rw [fK] at ha;cases ha
 | x :: l,hl,ha,hi=>by
  obtain ⟨hx,hl⟩:=hl.head;rw [fK] at ha;rw [oW]
  rcases List.mem_append.1 ha with ha|ha
  ·exact List.mem_append.2 (.inl (Tg hx ha hi))
  exact List.mem_append.2 (.inr (Cj hl ha hi))
theorem Ti {id:Int} {a:(Int × Int) × aj}:∀ {x:aN},(∀ c∈x.cells,fP c.flow)→a∈xL x→kM id a.2=true→id∈jC x.cells
 | .mk h cs,hx,ha,hi=>by rw [xL] at ha;exact Nc hx ha hi
theorem Ib {id:Int} {a:(Int × Int) × aj}:∀ {l:List aN},(∀ r∈l,∀ c∈r.cells,fP c.flow)→a∈sj l→kM id a.2=true→id∈jR l
 | [],_,ha,_=>by rw [sj] at ha;cases ha
 | x :: l,hx,ha,hi=>by
  rw [sj] at ha
  simp only [jR,List.flatMap_cons,List.mem_append]
  rcases List.mem_append.1 ha with ha|ha
  ·exact .inl (Ti (hx x List.mem_cons_self) ha hi)
  exact .inr (Ib (fun r hr=>hx r (List.mem_cons_of_mem _ hr)) ha hi)
theorem Tf {id:Int} {a:(Int × Int) × aj}:∀ {x:aJ},fP x.flow→a∈vX x→kM id a.2=true→id∈oW x.flow
 | .mk i h fl,hx,ha,hi=>by rw [vX] at ha;exact Cj hx ha hi
theorem Nc {id:Int} {a:(Int × Int) × aj}:∀ {l:List aJ},(∀ c∈l,fP c.flow)→a∈gZ l→kM id a.2=true→id∈jC l
 | [],_,ha,_=>by rw [gZ] at ha;cases ha
 | x :: l,hx,ha,hi=>by
  rw [gZ] at ha
  simp only [jC,List.flatMap_cons,List.mem_append]
  rcases List.mem_append.1 ha with ha|ha
  ·exact .inl (Tf (hx x List.mem_cons_self) ha hi)
  exact .inr (Nc (fun r hr=>hx r (List.mem_cons_of_mem _ hr)) ha hi)
end
abbrev Uq (id:Int) (L:List ((Int × Int) × aj)):Prop:=∀ a b,a∈L→b∈L→kM id a.2=true→kM id b.2=true→a=b
theorem I6 {id:Int} {L M:List ((Int × Int) × aj)} (h1:Uq id L) (h2:Uq id M) (h:∀ a∈L,∀ b∈M,kM id a.2=true→kM id b.2=true→False):Uq id (L++M):=by
 intro a b ha hb ia ib
 rcases List.mem_append.1 ha with ha|ha <;> rcases List.mem_append.1 hb with hb|hb
 ·exact h1 a b ha hb ia ib
 ·exact (h a ha b hb ia ib).elim
 ·exact (h b hb a ha ib ia).elim
 exact h2 a b ha hb ia ib
theorem UD {id:Int} {a:(Int × Int) × aj} {L:List ((Int × Int) × aj)} (h1:Uq id L) (h:kM id a.2=true→∀ b∈L,kM id b.2=true→False):Uq id (a :: L) :=
 I6 (L:=[a]) (fun x y hx hy _ _=>by rw [List.mem_singleton.1 hx,List.mem_singleton.1 hy]) h1 (fun x hx b hb ix ib=>by rw [List.mem_singleton.1 hx] at ix;exact h ix b hb ib)
mutual
theorem afc {f t:Int} (id:Int):∀ {x:aj},wI x→(xG x).Nodup→Uq id (xK f t x)
 | .mk k c i tx h fl r,hx,hn=>by
  have hf:fP fl:=hx.fl;have hw:∀ q∈r,∀ c∈q.cells,fP c.flow:=hx.rw;have h0:=hx.TS
  simp only [aj.kind,aj.rows] at h0
  rw [xG] at hn;rw [xK]
  by_cases h6:k=6
  ·rw [if_pos (.inl h6),if_pos h6,if_neg (by omega),List.append_nil,List.singleton_append,List.nodup_cons] at hn;rw [if_pos h6];refine UD (I7 id hf hn.2) fun ia b hb ib=>?_
   rcases BX.1 ia with e|⟨q,hq,_⟩
   ·exact hn.1 (by have:=Cj hf hb ib;rw [← e] at this;exact this)
   simp only [aj.rows] at hq;rw [h0 (by omega)] at hq;cases hq
  rw [if_neg h6]
  by_cases h7:k=7
  ·rw [if_pos (.inr h7),if_neg h6,if_pos h7,List.nil_append,List.singleton_append,List.nodup_cons] at hn;rw [if_pos h7];refine UD (UE id hw hn.2) fun ia b hb ib=>?_;have hj:=Ib hw hb ib
   rcases BX.1 ia with e|⟨q,hq,c,hc,e⟩
   ·rw [← e] at hj;exact hn.1 (EI _ _ hj)
   rw [← e] at hj;exact Pn hn.2 hq hc hj
  rw [if_neg h7];exact fun a b ha=>by cases ha
theorem I7 {f t:Int} (id:Int):∀ {l:List aj},fP l→(oW l).Nodup→Uq id (fK f t l)
 | [],_,_=>by rw [fK];exact fun a b ha=>by cases ha
 | x :: l,hl,hn=>by
  obtain ⟨hx,hl⟩:=hl.head;rw [oW,List.nodup_append] at hn;rw [fK];exact I6 (afc id hx hn.1) (I7 id hl hn.2.1) fun a ha b hb ia ib=>hn.2.2 _ (Tg hx ha ia) _ (Cj hl hb ib) rfl
theorem afd (id:Int):∀ {x:aN},(∀ c∈x.cells,fP c.flow)→(xH x).Nodup→Uq id (xL x)
 | .mk h cs,hx,hn=>by rw [xH] at hn;rw [xL];exact UC id hx hn
theorem UE (id:Int):∀ {l:List aN},(∀ r∈l,∀ c∈r.cells,fP c.flow)→(qJ l).Nodup→Uq id (sj l)
 | [],_,_=>by rw [sj];exact fun a b ha=>by cases ha
 | x :: l,hx,hn=>by
  rw [qJ,List.nodup_append] at hn;rw [sj];exact I6 (afd id (hx x List.mem_cons_self) hn.1) (UE id (fun r hr=>hx r (List.mem_cons_of_mem _ hr)) hn.2.1) fun a ha b hb ia ib=>hn.2.2 _ (by rw [Hr];exact Ca _ _ (Ti (hx x List.mem_cons_self) ha ia)) _ (EI _ _ (Ib (fun r hr=>hx r (List.mem_cons_of_mem _ hr)) hb ib)) rfl
theorem afb (id:Int):∀ {x:aJ},fP x.flow→(xE x).Nodup→Uq id (vX x)
 | .mk i h fl,hx,hn=>by rw [xE,List.nodup_cons] at hn;rw [vX];exact I7 id hx hn.2
theorem UC (id:Int):∀ {l:List aJ},(∀ c∈l,fP c.flow)→(pV l).Nodup→Uq id (gZ l)
 | [],_,_=>by rw [gZ];exact fun a b ha=>by cases ha
 | x :: l,hx,hn=>by
  rw [pV,List.nodup_append] at hn;rw [gZ];exact I6 (afb id (hx x List.mem_cons_self) hn.1) (UC id (fun r hr=>hx r (List.mem_cons_of_mem _ hr)) hn.2.1) fun a ha b hb ia ib=>hn.2.2 _ (by rw [Hq];exact List.mem_cons_of_mem _ (Tf (hx x List.mem_cons_self) ha ia)) _ (Ca _ _ (Nc (fun r hr=>hx r (List.mem_cons_of_mem _ hr)) hb ib)) rfl
end
theorem adr {l:List aj} (h:nE l) {id:Int} {a:(Int × Int) × aj} (ha:a∈fK 0 0 l) (hi:kM id a.2=true):jc l id=some a.1:=by
 unfold jc
 cases hf:(fK 0 0 l).find? fun a=>kM id a.2 with
 | none=>exact absurd hi (by simpa using List.find?_eq_none.1 hf a ha)
 | some b =>
  have hb:=List.find?_some hf;rw [I7 id h.ok h.nd b a (List.mem_of_find?_eq_some hf) ha hb hi]
  rfl
end
section
open Go.RowKit
theorem QE {α:Type} {p:α→Bool}:∀ l:List α,(l.find? p).isSome=l.any p
 | []=>rfl
 | x :: l=>by
  rw [List.find?_cons,List.any_cons]
  cases h:p x with
  | true=>rfl
  | false=>rw [Bool.false_or];exact QE l
/-- A way from a flow down to another one: each step is the position of what contains the next flow. -/
def tH (L:List aj):Int→List (Int × Int)→Int→Prop
 | g,[],flow=>g=flow
 | g,p :: ps,flow=>p.1=g∧∃ id,id≠0∧jc L id=some p∧tH L id ps flow
theorem Tz {L:List aj} (h:nE L) {id:Int} {a:(Int × Int) × aj} (ha:a∈fK 0 0 L) (hi:kM id a.2=true):id≠0∧jc L id=some a.1:=by
 refine ⟨?_,adr h ha hi⟩;have:=h.pos _ (Cj h.ok ha hi)
 omega
mutual
theorem WR {L:List aj} (h:nE L) (g:Int) (t:Nat) (flow:Int):∀ (x:aj),wI x→(∀ a∈xK g t x,a∈fK 0 0 L)→∀ ps,xO g t flow x=some ps→tH L g ps flow
 | .mk k c i tx hd fl r,hx,hs,ps,e=>by
  have hf:fP fl:=hx.fl;have hw:∀ q∈r,∀ c∈q.cells,fP c.flow:=hx.rw;rw [xO] at e;rw [xK] at hs
  by_cases h6:k=6
  ·rw [if_pos h6] at e hs;obtain ⟨q,e1,rfl⟩:=H7 e;have ha:=hs _ List.mem_cons_self;obtain ⟨hne,hp⟩:=Tz h ha (BX.2 (.inl rfl));refine ⟨rfl,i,hne,hp,?_⟩
   by_cases hi:i=flow
   ·rw [if_pos hi] at e1;cases e1;exact hi
   rw [if_neg hi] at e1;exact Dy h i 0 flow fl hf (fun a ha=>hs a (List.mem_cons_of_mem _ ha)) q e1
  rw [if_neg h6] at e hs
  by_cases h7:k=7
  ·rw [if_pos h7] at e hs;obtain ⟨q,e1,rfl⟩:=H7 e;have ha:=hs _ List.mem_cons_self;obtain ⟨y,hy,d,hd,hq⟩:=Ph h flow r hw (fun a ha=>hs a (List.mem_cons_of_mem _ ha)) q e1;obtain ⟨hne,hp⟩:=Tz h ha (BX.2 (.inr ⟨y,hy,d,hd,rfl⟩));exact ⟨rfl,d.id,hne,hp,hq⟩
  rw [if_neg h7] at e;cases e
theorem Dy {L:List aj} (h:nE L) (g:Int) (t:Nat) (flow:Int):∀ (l:List aj),fP l→(∀ a∈fK g t l,a∈fK 0 0 L)→∀ ps,o7 g t flow l=some ps→tH L g ps flow
 | [],_,_,ps,e=>by rw [o7] at e;cases e
 | x :: l,hl,hs,ps,e=>by
  obtain ⟨hx,hl⟩:=hl.head;rw [fK,show nH x=n1 x by rw [hx.n1];rfl,show (t:Int)+(n1 x:Int)=((t+n1 x:Nat):Int) by push_cast;rfl] at hs;rw [o7,Option.or_eq_some_iff] at e
  rcases e with e|⟨-,e⟩
  ·exact WR h g t flow x hx (fun a ha=>hs a (List.mem_append.2 (.inl ha))) ps e
  exact Dy h g (t+n1 x) flow l hl (fun a ha=>hs a (List.mem_append.2 (.inr ha))) ps e
theorem Ph {L:List aj} (h:nE L) (flow:Int):∀ (l:List aN),(∀ r∈l,∀ c∈r.cells,fP c.flow)→(∀ a∈sj l,a∈fK 0 0 L)→∀ ps,lq flow l=some ps→∃ r∈l,∃ c∈r.cells,tH L c.id ps flow
 | [],_,_,ps,e=>by rw [lq] at e;cases e
 | x :: l,hw,hs,ps,e=>by
  rw [sj] at hs;rw [lq,Option.or_eq_some_iff] at e
  rcases e with e|⟨-,e⟩
  ·obtain ⟨c,hc,h1⟩:=WS h flow x (hw x List.mem_cons_self) (fun a ha=>hs a (List.mem_append.2 (.inl ha))) ps e;exact ⟨x,List.mem_cons_self,c,hc,h1⟩
  obtain ⟨r,hr,h1⟩:=Ph h flow l (fun r hr=>hw r (List.mem_cons_of_mem _ hr)) (fun a ha=>hs a (List.mem_append.2 (.inr ha))) ps e;exact ⟨r,List.mem_cons_of_mem _ hr,h1⟩
theorem WS {L:List aj} (h:nE L) (flow:Int):∀ (x:aN),(∀ c∈x.cells,fP c.flow)→(∀ a∈xL x,a∈fK 0 0 L)→∀ ps,xP flow x=some ps→∃ c∈x.cells,tH L c.id ps flow
 | .mk hd cs,hw,hs,ps,e=>by rw [xP] at e;rw [xL] at hs;exact Pg h flow cs hw hs ps e
theorem Pg {L:List aj} (h:nE L) (flow:Int):∀ (l:List aJ),(∀ c∈l,fP c.flow)→(∀ a∈gZ l,a∈fK 0 0 L)→∀ ps,mD flow l=some ps→∃ c∈l,tH L c.id ps flow
 | [],_,_,ps,e=>by rw [mD] at e;cases e
 | x :: l,hw,hs,ps,e=>by
  rw [gZ] at hs;rw [mD,Option.or_eq_some_iff] at e
  rcases e with e|⟨-,e⟩
  ·exact ⟨x,List.mem_cons_self,WQ h flow x (hw x List.mem_cons_self) (fun a ha=>hs a (List.mem_append.2 (.inl ha))) ps e⟩
  obtain ⟨c,hc,h1⟩:=Pg h flow l (fun r hr=>hw r (List.mem_cons_of_mem _ hr)) (fun a ha=>hs a (List.mem_append.2 (.inr ha))) ps e;exact ⟨c,List.mem_cons_of_mem _ hc,h1⟩
theorem WQ {L:List aj} (h:nE L) (flow:Int):∀ (x:aJ),fP x.flow→(∀ a∈vX x,a∈fK 0 0 L)→∀ ps,xM flow x=some ps→tH L x.id ps flow
 | .mk i hd fl,hw,hs,ps,e=>by
  rw [xM] at e;rw [vX] at hs
  by_cases hi:i=flow
  ·rw [if_pos hi] at e;cases e;exact hi
  rw [if_neg hi] at e;exact Dy h i 0 flow fl hw hs ps e
end
theorem Pk {L:List aj}:∀ (ps:List (Int × Int)) (g flow:Int) (n:Nat) (r:List (Int × Int)),ig L n g=some (some r)→tH L g ps flow→ig L (n+ps.length) flow=some (some (ps.reverse++r))
 | [],g,flow,n,r,h1,h2=>by
  have e:g=flow:=h2;subst e;exact h1
 | p :: ps,g,flow,n,r,h1,h2=>by
  obtain ⟨rfl,id,hne,hp,h3⟩:=h2
  have h4:ig L (n+1) id=some (some (p :: r)):=by rw [ig,if_neg hne,hp];dsimp only;rw [h1];rfl
  have h5:=Pk ps id flow (n+1) (p :: r) h4 h3;rw [List.length_cons,List.reverse_cons,List.append_assoc,List.singleton_append,show n+(ps.length+1)=n+1+ps.length by omega];exact h5
theorem ac9 {L:List aj} (h:nE L) {flow:Int} {ps:List (Int × Int)} (e:cB 0 flow L=some ps):ig L (1+ps.length) flow=some (some ps.reverse):=by
 have h1:ig L 1 0=some (some []):=by rw [ig,if_pos rfl]
 have h2:tH L 0 ps flow:=by
  unfold cB at e
  by_cases h0:(0:Int)=flow
  ·rw [if_pos h0] at e;cases e;exact h0
  rw [if_neg h0] at e;exact Dy h 0 0 flow L h.ok (fun a ha=>ha) ps e
 have h3:=Pk ps 0 flow 1 [] h1 h2;rw [List.append_nil] at h3;exact h3
mutual
theorem adg (g:Int) (t:Nat) (note:Bool) (tt flow:Int):∀ x:aj,(xO g t flow x).isSome=(uY note tt x).any fun F=>decide (F.id=flow)
 | .mk k c i tx h fl r=>by
  have hf:=Ie i 0 true tt flow fl;have hr:=Tt note tt flow r;rw [xO,uY]
  by_cases h6:k=6
  ·rw [if_pos h6,if_pos h6,Option.isSome_map,List.any_cons]
   by_cases hi:i=flow
   ·rw [if_pos hi,decide_eq_true hi];rfl
   rw [if_neg hi,decide_eq_false hi,Bool.false_or];exact hf
  rw [if_neg h6,if_neg h6]
  by_cases h7:k=7
  ·rw [if_pos h7,if_pos h7,Option.isSome_map];exact hr
  rw [if_neg h7,if_neg h7];rfl
theorem Ie (g:Int) (t:Nat) (note:Bool) (tt flow:Int):∀ l:List aj,(o7 g t flow l).isSome=(iw note tt l).any fun F=>decide (F.id=flow)
 | []=>by rw [o7,iw];rfl
 | x :: l=>by rw [o7,iw,List.any_append,Option.isSome_or,adg g t note tt flow x,Ie g (t+n1 x) note tt flow l]
theorem Tt (note:Bool) (tt flow:Int):∀ l:List aN,(lq flow l).isSome=(ny note tt l).any fun F=>decide (F.id=flow)
 | []=>by rw [lq,ny];rfl
 | x :: l=>by rw [lq,ny,List.any_append,Option.isSome_or,adh note tt flow x,Tt note tt flow l]
theorem adh (note:Bool) (tt flow:Int):∀ x:aN,(xP flow x).isSome=(uZ note tt x).any fun F=>decide (F.id=flow)
 | .mk h cs=>by rw [xP,uZ];exact Tq note tt flow cs
theorem Tq (note:Bool) (tt flow:Int):∀ l:List aJ,(mD flow l).isSome=(nO note tt l).any fun F=>decide (F.id=flow)
 | []=>by rw [mD,nO];rfl
 | x :: l=>by rw [mD,nO,List.any_append,Option.isSome_or,adf note tt flow x,Tq note tt flow l]
theorem adf (note:Bool) (tt flow:Int):∀ x:aJ,(xM flow x).isSome=(uW note tt x).any fun F=>decide (F.id=flow)
 | .mk i h fl=>by
  have hf:=Ie i 0 note (tt+1) flow fl;rw [xM,uW,List.any_cons]
  by_cases hi:i=flow
  ·rw [if_pos hi,decide_eq_true hi];rfl
  rw [if_neg hi,decide_eq_false hi,Bool.false_or];exact hf
end
theorem Tn (L:List aj) (flow:Int):(cB 0 flow L).isSome=(fZ L flow).isSome:=by
 unfold fZ cB
 rw [Option.isSome_map,QE,iI,List.any_cons];dsimp only
 by_cases h0:(0:Int)=flow
 ·rw [if_pos h0,decide_eq_true h0];rfl
 rw [if_neg h0,Ie 0 0 false 0 flow L];rw [decide_eq_false h0,Bool.false_or]
end
section
open Go.RowKit
theorem Tk {L:List aj}:∀ {n:Nat} {g:Int} {r:Option (List (Int × Int))},ig L n g=some r→ig L (n+1) g=some r
 | 0,g,r,h=>by rw [ig] at h;cases h
 | n+1,g,r,h=>by
  rw [ig] at h ⊢
  by_cases h0:g=0
  ·rw [if_pos h0] at h ⊢;exact h
  rw [if_neg h0] at h ⊢
  cases hp:jc L g with
  | none=>rw [hp] at h;exact h
  | some p =>
   rw [hp] at h;dsimp only at h ⊢
   cases hq:ig L n p.1 with
   | none=>rw [hq] at h;cases h
   | some q=>rw [hq] at h;rw [Tk hq];exact h
theorem Tj {L:List aj} {n m:Nat} {g:Int} {r:Option (List (Int × Int))} (h:ig L n g=some r) (hm:n≤m):ig L m g=some r:=by
 obtain ⟨k,rfl⟩:=Nat.exists_eq_add_of_le hm
 induction k with
 | zero=>exact h
 | succ k ih=>exact Tk (ih (by omega))
theorem ac7 {L:List aj} {n m:Nat} {g:Int} {r q:Option (List (Int × Int))} (h:ig L n g=some r) (h':ig L m g=some q):r=q:=by
 have h1:=Tj h (Nat.le_max_left n m);have h2:=Tj h' (Nat.le_max_right n m);rw [h1] at h2;exact Option.some.inj h2
theorem JG {L:List aj}:∀ (ps:List (Int × Int)) (g flow:Int) (n:Nat) (r:List (Int × Int)),ig L n g=some (some r)→tH L g ps flow→∀ (i:Nat) (hi:i < ps.length),∃ m q,ig L m ps[i].1=some (some q)∧q.length=r.length+i
 | [],_,_,_,_,_,_,i,hi=>absurd hi (by simp)
 | p :: ps,g,flow,n,r,h1,h2,i,hi=>by
  obtain ⟨rfl,id,hne,hp,h3⟩:=h2
  cases i with
  | zero=>exact ⟨n,r,h1,rfl⟩
  | succ i =>
   have h4:ig L (n+1) id=some (some (p :: r)):=by rw [ig,if_neg hne,hp];dsimp only;rw [h1];rfl
   obtain ⟨m,q,h5,h6⟩:=JG ps id flow (n+1) (p :: r) h4 h3 i (by simpa using hi);exact ⟨m,q,h5,by rw [h6,List.length_cons];omega⟩
theorem Pj {L:List aj} (h:nE L) {flow:Int} {ps:List (Int × Int)} (e:cB 0 flow L=some ps):tH L 0 ps flow:=by
 unfold cB at e
 by_cases h0:(0:Int)=flow
 ·rw [if_pos h0] at e;cases e;exact h0
 rw [if_neg h0] at e;exact Dy h 0 0 flow L h.ok (fun a ha=>ha) ps e
theorem ac8 {L:List aj} (h:nE L) {flow:Int} {ps:List (Int × Int)} (e:cB 0 flow L=some ps) {i j:Nat} (hi:i < ps.length) (hj:j < ps.length) (he:ps[i].1=ps[j].1):i=j:=by
 have h0:ig L 1 0=some (some []):=by rw [ig,if_pos rfl]
 obtain ⟨m,q,h1,h2⟩:=JG ps 0 flow 1 [] h0 (Pj h e) i hi;obtain ⟨m',q',h3,h4⟩:=JG ps 0 flow 1 [] h0 (Pj h e) j hj;rw [he] at h1;have:=Option.some.inj (ac7 h1 h3);rw [this,h4] at h2
 simpa using h2.symm
theorem ada {L:List aj} (h:nE L) (hz:aS L≤1073741824) (f:Int):∃ n res,n≤4294967296∧((fZ L f).isSome=true→ig L n f=some res)∧(∀ ps,res=some ps→ps.length≤4294967296) ∧
  (if (fZ L f).isSome=true then (res.getD []).reverse else [])=(cB 0 f L).getD []∧(if (fZ L f).isSome=true then (if res.isSome=true then (0:Int) else 8) else 8)=if (cB 0 f L).isSome=true then 0 else 8:=by
 have hf:=Tn L f
 cases hM:cB 0 f L with
 | none =>
  rw [hM] at hf;have hf2:(fZ L f).isSome=false:=hf.symm;exact ⟨0,none,by omega,fun h=>(by rw [hf2] at h;cases h),fun ps e=>(by cases e),by rw [hf2];rfl,by rw [hf2];rfl⟩
 | some ps =>
  rw [hM] at hf;have hf2:(fZ L f).isSome=true:=hf.symm;have hl:=Ic hM;refine ⟨1+ps.length,some ps.reverse,by omega,fun _=>ac9 h hM,fun q e=>?_,?_,?_⟩
  ·cases e;rw [List.length_reverse];omega
  ·rw [if_pos hf2,Option.getD_some,List.reverse_reverse];rfl
  rw [if_pos hf2];rfl
abbrev Br (flow:Int) (l:List (Int × Int)):Option Int:=(l.find? fun q=>decide (q.1=flow)).map (·.2)
theorem aah {flow:Int} {ps:List (Int × Int)} {k:Nat} (hk:k < ps.length) (h:¬ ps[k].1=flow):Br flow (ps.take (k+1))=Br flow (ps.take k):=by
 unfold Br
 rw [List.take_succ_eq_append_getElem hk,List.find?_append];rw [show [ps[k]].find? (fun q=>decide (q.1=flow))=none by rw [List.find?_cons,decide_eq_false h];rfl,Option.or_none]
theorem aai {flow:Int} {ps:List (Int × Int)} {k:Nat} (hk:k < ps.length) (hinj:∀ {i j:Nat} (hi:i < ps.length) (hj:j < ps.length),ps[i].1=ps[j].1→i=j) (h:ps[k].1=flow):Br flow (ps.take (k+1))=some ps[k].2:=by
 unfold Br
 rw [List.take_succ_eq_append_getElem hk,List.find?_append]
 have hno:(ps.take k).find? (fun q=>decide (q.1=flow))=none:=by
  rw [List.find?_eq_none];intro q hq hd;obtain ⟨j,hj,rfl⟩:=List.getElem_of_mem hq;rw [List.length_take] at hj;rw [List.getElem_take] at hd;have e:=hinj (i:=j) (j:=k) (by omega) hk (by rw [h];exact of_decide_eq_true hd)
  omega
 rw [hno,Option.none_or,List.find?_cons,decide_eq_true h]
 rfl
theorem Xf {l:List aj} {f t:Int} (h:(fZ l f).isSome=false):¬ mQ l f t t=0:=by
 unfold mQ
 rw [if_neg (by rw [h];decide)]
 decide
set_option maxHeartbeats 2000000 in
theorem adb (G:GH) (w0:World) (hG:Hold G w0) (D:jh) (d:tJ) (hR:zw G D d) (hz:Fj d) (f t flow:Int) :
  Calls Tryz.prog 5 #[D.val,.agg #[vi f,vi t],vi flow] w0 (aU w0 G fun u G'=>u=.bool true):=by
 have yY:=hz.fl;refine eN [(0,_),(1,_),(2,_)] Tryz.func5 rfl Tryz.ntmps5 rfl rfl hG ?_;intro a H;refine aY (fun _ K1=>?_);refine bY (cs:=[_,_,_,_,_,_,_,_,_,_,_]) H wn rfl rfl rfl ?_;clear H;intro b3 a w hb3 H;refine bY (cs:=[_,_]) H wn rfl rfl rfl ?_;clear H;intro b4 a w hb4 H;refine kH H (Ra rfl (Kz K1 (SQ fun _ K2=>SQ fun _ K3=>?_)));clear H K1;intro a H;have H:=H.bL (Pl:=[_,_]) (bB:=[_,_]) [1,0] (by decide) rfl;obtain ⟨Ga,hma,w9,H⟩:=H.dB;have hga:=fun j v hj=>aat (cs:=D.cells) w9 j v hj;replace hR:=hR.mono hma;refine mP ?_;refine s_call Qb H wn rfl (Si _ _ H.hp.ro) rfl ?_;clear H;rintro v16 ql a w rfl nL H;refine kH H (Rn rfl (Rm rfl (Sp 18 rfl ?_ ?_))) <;> clear H
 ·intro h18 a H
  try have oZ:=dT h18
  exact absurd h18 (by decide)
 intro h18 a H
 try have oZ:=dF h18
 refine aK iq (cs:=D.cells) H (wg H rfl rfl h18) rfl rfl (fun j v hj=>H.hp.aB (aD nL (hga j v hj))) rfl ?_;clear H;intro a H;refine s_call ZA H (wg H rfl rfl h18) rfl (aeF _ _ H.hp.ro D d (hR.mono nL) hz) rfl ?_;clear H;rintro v20 AQ a w ⟨b20,rfl,Ls⟩ xu H;replace hR:=(hR.mono nL).mono xu;have hgb:=fun j v hj=>aD xu (aD nL (hga j v hj));refine kH H (YN h18 rfl (Pf h18 rfl (Kn K3 (Cd rfl ?_ ?_)))) <;> clear H K3
 ·intro h22 a H
  try have gP:=dT h22
  refine aY (fun _ K4=>?_);refine s_call Qb H wn rfl (Si _ _ H.hp.ro) rfl ?_;clear H;rintro v23 N9 a w rfl Q9 H;exact kH H (Ra rfl (Kz K4 (LR Tryz.results5 rfl fun H=>H.hp.ret (congrArg Value.bool (by first|rfl|(simp_all [iU];done))))))
 intro h22 a H
 try have gP:=dF h22
 have hok:=acO (Ls (by simpa using h22));obtain ⟨n,res,hn,hp,hpl,hps,QZ⟩:=ada hok yY f;have hpf:=Tn d.flow f;obtain ⟨M,hM⟩:∃ M,M=cB 0 f d.flow:=⟨_,rfl⟩;rw [← hM] at hps QZ hpf;obtain ⟨ps,hpe⟩:∃ ps,ps=M.getD []:=⟨_,rfl⟩;rw [← hpe] at hps
 have hpz:ps.length≤4294967296:=by
  cases hq:M with
  | none=>rw [hpe,hq];simp
  | some q=>rw [hpe,hq];have:=Ic (hM.symm.trans hq);simp only [Option.getD_some];omega
 refine eX ?_;refine K2 _ _ ?_;clear K2;refine aY (fun _ K5=>?_);refine aK iq (cs:=D.cells) H wn rfl rfl (fun j v hj=>H.hp.aB (hgb j v hj)) rfl ?_;clear H;intro a H;refine kH H (Rf qC rfl (Ro ak 0 rfl rfl ?_));clear H;intro a H;refine s_call F6 H wn rfl (Tm _ _ H.hp.ro D d.flow f hR.fl (by omega) n hn res hp) rfl ?_;clear H;rintro v28 Vv a w ⟨x28,rfl,hx28⟩ Rb H;rw [hps] at hx28;rw [QZ] at H;obtain ⟨lA,ln,lc,rfl⟩:=hx28.form;have hln:=hx28.len;rw [List.length_map] at hln;subst hln;replace hR:=hR.mono Rb;replace hgb:=fun j v hj=>aD Rb (hgb j v hj);refine kH H (Rm rfl ?_);clear H;intro a H;(iterate 2 refine gV H wn rfl rfl rfl ?_;clear H;intro a H);refine kH H (Ra rfl (Ra rfl (Kz K5 (SR fun _ K6=>?_))));clear H K5;intro a H;refine aK iq (cs:=D.cells) H wn rfl rfl (fun j v hj=>H.hp.aB (hgb j v hj)) rfl ?_;clear H;intro a H;refine aK bN (cs:=[_,_]) H wn rfl rfl (H.hp.bF 0 rfl rfl) rfl ?_;clear H;intro a H;refine kH H (Rm rfl ?_);clear H;intro a H;refine s_call PY H wn rfl (acv _ _ H.hp.ro D d.flow f t flow hR.fl (by omega) n hn res hp hpl) rfl ?_;clear H;rintro v35 Fq a w rfl Er H;rw [hps] at H;obtain ⟨S,hS⟩:∃ S,S=iU d.flow f t flow ps:=⟨_,rfl⟩;rw [← hS] at H;replace hR:=hR.mono Er;replace hx28:=hx28.mono Er;replace hgb:=fun j v hj=>aD Er (hgb j v hj);refine kH H (Rm rfl ?_);clear H;intro a H;(iterate 2 refine gV H wn rfl rfl rfl ?_;clear H;intro a H);refine kH H (Ra rfl (Ra rfl (Kz K6 (SR fun _ K7=>Rf zQ rfl (Rg iR rfl (hgb 0 _ rfl) (Rf qC rfl (Ro ak 0 rfl rfl ?_)))))));clear H K6;intro a H;refine s_call J4 H wn rfl (acI _ _ H.hp.ro 0 f d.flow _ hR.fl hok.ok (by omega)) rfl ?_;clear H;rintro v43 wG a w ⟨x43,rfl,ED⟩ kC H;rw [← hM] at ED H;rw [← hpe] at ED;obtain ⟨wA,wn,wc,rfl⟩:=ED.form;have hwn:=ED.len;rw [List.length_map] at hwn;subst hwn;replace hR:=hR.mono kC;replace hx28:=hx28.mono kC;replace hgb:=fun j v hj=>aD kC (hgb j v hj);refine kH H (Rm rfl ?_);clear H;intro a H;(iterate 2 refine gV H wn rfl rfl rfl ?_;clear H;intro a H);refine kH H (Ra rfl (Ra rfl (Kz K7 (SQ fun _ K8=>SR fun _ K9=>Rm rfl (Rn rfl (Kz K9 (Cd rfl ?_ ?_))))))) <;> clear H K7 K9
 ·intro h47 a H
  try have p47:=dT h47
  obtain rfl:M=none:=by simpa using h47
  obtain rfl:ps=[]:=hpe
  have hS0:S=none:=by rw [hS,iU,if_neg (Xf hpf.symm)]
  subst hS0;refine kP H (SR fun _ aH=>Rm rfl (Rc rfl (Rm rfl (Sp 50 rfl ?_ ?_)))) <;> clear H
  ·intro h50 a H
   try have p50:=dT h50
   refine kH H (YM h50 rfl (YL jB h50 rfl (YC h50 rfl (Pt h50 rfl (Rm rfl (Sp 55 rfl ?_ ?_)))))) <;> clear H
   ·intro gH a H
    try have p55:=dT gH
    refine kH H (YM gH rfl (YN gH rfl (Pt gH rfl (Rm rfl (Sp 59 rfl ?_ ?_))))) <;> clear H
    ·intro eP a H
     try have p59:=dT eP
     exact kH H (YM eP rfl (YC eP rfl (Pt eP rfl (Ra rfl (Kz aH (LR Tryz.results5 rfl fun H=>H.hp.ret (congrArg Value.bool (by first|rfl|(simp_all [iU];done)))))))))
    intro eP a H
    try have p59:=dF eP
    exact kH H (Ks eP rfl (Ks eP rfl (Pf eP rfl (Ra rfl (Kz aH (LR Tryz.results5 rfl fun H=>H.hp.ret (congrArg Value.bool (by first|rfl|(simp_all [iU];done)))))))))
   intro gH a H
   try have p55:=dF gH
   exact kH H (Ks gH rfl (Ks gH rfl (Pf gH rfl (Rm rfl (Ks rfl rfl (Ks rfl rfl (Pf rfl rfl (Ra rfl (Kz aH (LR Tryz.results5 rfl fun H=>H.hp.ret (congrArg Value.bool (by first|rfl|(simp_all [iU];done)))))))))))))
  intro h50 a H
  try have p50:=dF h50
  refine kH H (Ks h50 rfl (Ks h50 rfl (Ks h50 rfl (Pf h50 rfl (Rm rfl (Ks rfl rfl (Ks rfl rfl (Pf rfl rfl (Rm rfl (Ks rfl rfl (Ks rfl rfl (Pf rfl rfl (Ra rfl (Kz aH ?_))))))))))))));clear H aH;intro a H;refine lr H Tryz.results5 rfl ?_;exact H.hp.ret (congrArg Value.bool (by first|rfl|(simp_all [iU];done)))
 intro h47 a H
 try have p47:=dF h47
 obtain ⟨q,hq⟩:∃ q,M=some q:=Option.isSome_iff_exists.1 (by simpa using h47);subst hq;obtain rfl:ps=q:=hpe;have hinj:∀ {i j:Nat} (hi:i < ps.length) (hj:j < ps.length),ps[i].1=ps[j].1→i=j:=fun hi hj he=>ac8 hok hM.symm hi hj he;refine kP H (Kc K8 (SQ fun _ aX=>SR fun _ bD=>Rm rfl (Rc rfl (Rm rfl (Sp 65 rfl ?_ ?_))))) <;> clear H K8
 ·intro jk a H
  try have p65:=dT jk
  exact absurd jk (by simp)
 intro jk a H
 try have p65:=dF jk
 refine kH H (YM jk rfl (YL jB jk rfl (YM jk rfl (YL jB jk rfl (YC jk rfl (Pf jk rfl (Kz bD (Cd rfl ?_ ?_)))))))) <;> clear H bD
 ·intro lK a H
  try have p71:=dT lK
  exact absurd lK (by simp)
 intro lK a H
 try have p71:=dF lK
 refine kP H (Kc aX (SR fun _ bH=>Ra rfl (Ra rfl (Kz bH (SQ fun _ bG=>SR fun _ bV=>Ra rfl (Kz bV (SB ?_)))))));clear H aX bH bV;intro a H;skip;refine d9 (ι:=Nat × Int × Bool × GH) (Tc:=[(2,_),(3,_),(4,_),(7,_),(9,_),(10,_),(11,_)]) (Lc:=[(_,_)]) (fun (gh:Nat × Int × Bool × GH)=>[(13,vi gh.2.1),(14,.bool gh.2.2.1),(15,vi gh.1)]) (fun (gh:Nat × Int × Bool × GH)=>[]) (fun (gh:Nat × Int × Bool × GH)=>gh.2.2.2) (fun (gh:Nat × Int × Bool × GH)=>gh.1≤ps.length∧Br flow (ps.take gh.1)=(if gh.2.2.1=true then some gh.2.1 else none)∧(∀ b o,wG b=some o→gh.2.2.2 b=some o)) (fun (gh:Nat × Int × Bool × GH)=>ps.length - gh.1) ((0,0,false,wG)) (by exact (H).sub ⟨rfl,rfl,rfl,rfl,rfl,rfl,rfl,rfl,rfl,rfl,trivial⟩) ?_ ?_
 ·exact ⟨Nat.zero_le _,rfl,fun _ _ h=>h⟩
 clear H;intro gh a w hI H;obtain ⟨k,un,has,g⟩:=gh;dsimp only at hI H;obtain ⟨hk,Q0,hgm⟩:=hI;have hl1:=hx28.mono hgm;have hl2:=ED.mono hgm;dsimp only [List.cons_append,List.nil_append,List.append_nil] at H;refine kP H (SQ fun _ bQ=>SR fun _ bS=>Rm rfl (Rm rfl (Rl jB rfl (Rc rfl (Kz bS (Cd rfl ?_ ?_)))))) <;> clear H bS
 ·intro rF a H
  try have p75:=dT rF
  have hk2:k < ps.length:=by omega
  obtain ⟨b,o,cs,rfl,hcl,hrow,hr⟩:=hl1.at_ k (fu ps[k]) (by simp [hk2]);obtain rfl:=Ck hr;obtain ⟨b',o',cs',rfl,hcl',hrow',hr'⟩:=hl2.at_ k (fu ps[k]) (by simp [hk2]);obtain rfl:=Ck hr';refine kP H (Kc bQ (SQ fun _ cO=>SB (SQ fun _ dV=>SQ fun _ dI=>?_)));clear H bQ;intro a H;refine dz (hmx) [[],[],[0,1],[0,1,2],[],[],[4,5],[4,5,6],(List.range 8)] [] (by kernel_rfl) (by kernel_rfl) (fun (aC:Nat) (v:Value) (G:GH)=>match aC with|0=>v=.slice (some ⟨b,o,none⟩) ps.length lc|1=>v=vi k|2=>v=.pointer (some ⟨b,o+k*2,none⟩)|3=>v=.agg #[vi ps[k].1,vi ps[k].2]|4=>v=.slice (some ⟨b',o',none⟩) ps.length wc|5=>v=vi k|6=>v=.pointer (some ⟨b',o'+k*2,none⟩)|7=>v=.agg #[vi ps[k].1,vi ps[k].2]|8=>v=.bool false|_=>True) (fun _ _ _ _ _ h=>h) H ?_ ?_
  ·clear H;refine av (Z0 rfl (Rm rfl)) (Z0 rfl (Rm rfl)) (Z2 0 78 1 79 rfl (Ri jB bN rfl rfl)) ?_ (av (Z0 rfl (Rm rfl)) (Z0 rfl (Rm rfl)) (Z2 4 82 5 83 rfl (Ri jB bN rfl rfl)) ?_ (bq ?_ dh))
   ·refine dS 2 80 rfl rfl fun _ a w G1 hG HT H fin=>?_;refine aK bN (cs:=[vi ps[k].1,vi ps[k].2]) H wn rfl rfl (fun j v hj=>H.hp.aB (aD hG (hrow j v hj))) rfl ?_;clear H;intro a H;exact fin H iJ rfl
   ·refine dS 6 84 rfl rfl fun _ a w G1 hG HT H fin=>?_;refine aK bN (cs:=[vi ps[k].1,vi ps[k].2]) H wn rfl rfl (fun j v hj=>H.hp.aB (aD hG (hrow' j v hj))) rfl ?_;clear H;intro a H;exact fin H iJ rfl
   refine dK 3 81 7 85 rfl rfl fun _ a w G1 hG HT H fin=>?_;refine ad5 (.inr rfl) ZB H wn rfl rfl rfl rfl ?_;clear H;intro a H;exact fin H iJ (congrArg Value.bool (by simp [nJ]))
  clear H;intro a w G vQ H hv;have H:=H.aM (hv 8 86 rfl rfl) rfl;clear hv;refine au ⟨rfl,?_⟩;refine dI _ _ ?_;clear dI;refine mO H rfl rfl ?_;refine kP H (Kc dV (SR fun _ eH=>Rm rfl (Rm rfl (Ri jB bN rfl rfl (Rf qC rfl (Rg ak rfl (aD vQ (hrow 0 _ rfl)) (Rm rfl (Rc rfl (Kz eH (Cd rfl ?_ ?_)))))))))) <;> clear H dV eH
  ·intro KN a H
   try have M9:=dT KN
   refine kP H (SC (Rm rfl (Rm rfl (Ri jB bN rfl rfl (Rf vK rfl (Rg ak rfl (aD vQ (hrow 1 _ rfl)) (Ra rfl (Ra rfl (Kn cO (SC (Rm rfl (Rd rfl (Ra rfl ?_)))))))))))));clear H cO;intro a H;refine au ?_;refine dD ((k+1,ps[k].2,true,_)) (by exact (H).sub ⟨rfl,rfl,rfl,rfl,rfl,rfl,rfl,rfl,rfl,rfl,trivial⟩) ?_ ?_
   ·(try dsimp only);exact ⟨by omega,by rw [aai hk2 hinj M9];rfl,fun b o h=>vQ b o (hgm b o h)⟩
   first|omega|(dsimp only;omega)
  intro KN a H
  try have M9:=dF KN
  refine kP H (Kc cO (SC (Rm rfl (Rd rfl (Ra rfl ?_)))));clear H cO;intro a H;refine au ?_;refine dD ((k+1,un,has,_)) (by exact (H).sub ⟨rfl,rfl,rfl,rfl,rfl,rfl,rfl,rfl,rfl,rfl,trivial⟩) ?_ ?_
  ·(try dsimp only);exact ⟨by omega,by rw [aah hk2 M9];exact Q0,fun b o h=>vQ b o (hgm b o h)⟩
  first|omega|(dsimp only;omega)
 intro rF a H
 try have p75:=dF rF
 obtain rfl:k=ps.length:=by omega
 rw [List.take_length] at Q0;replace hgb:=fun j v hj=>aD hgm (hgb j v hj);replace hR:=hR.mono hgm;refine dL ?_;refine bG _ _ ?_;clear bG;refine kP H (SQ fun _ fq=>SR fun _ gK=>Rf qC rfl (Ro ak 0 rfl rfl (Rm rfl (Rc rfl (Kz gK (Cd rfl ?_ ?_)))))) <;> clear H gK
 ·intro KF a H
  try have acT:=dT KF
  refine kP H (SC (Rf vK rfl (Ro ak 0 rfl rfl (Ra rfl (Ra rfl (Kn fq (SQ fun _ gF=>SR fun _ fO=>Rm rfl (Rn rfl (Rm rfl (Sp 107 rfl ?_ ?_)))))))))) <;> clear H fq
  ·intro jL a H
   try have M5:=dT jL
   refine kH H (Ks jL rfl (Ks jL rfl (Ks jL rfl (Ks jL rfl (Pt jL rfl (Kz fO (Ct rfl rfl (SR fun _ iF=>Rm rfl (Rn rfl (Rm rfl (Sp 115 rfl ?_ ?_))))))))))) <;> clear H fO
   ·intro fT a H
    try have uM:=dT fT
    exact kH H (YM fT rfl (YC fT rfl (Pt fT rfl (Ra rfl (Kz iF (LR Tryz.results5 rfl fun H=>H.hp.ret (congrArg Value.bool (by first|rfl|(simp_all [iU];done)))))))))
   intro fT a H
   try have uM:=dF fT
   exact kH H (Ks fT rfl (Ks fT rfl (Pf fT rfl (Ra rfl (Kz iF (LR Tryz.results5 rfl fun H=>H.hp.ret (congrArg Value.bool (by first|rfl|(simp_all [iU];done)))))))))
  intro jL a H
  try have M5:=dF jL
  refine aK iq (cs:=D.cells) H (wg H rfl rfl jL) rfl rfl (fun j v hj=>H.hp.aB (hgb j v hj)) rfl ?_;clear H;intro a H;refine aK bN (cs:=[_,_]) H (wg H rfl rfl jL) rfl rfl (H.hp.bF 0 rfl rfl) rfl ?_;clear H;intro a H;refine s_call PX H (wg H rfl rfl jL) rfl (SE _ _ H.hp.ro D d.flow f t hR.fl (by omega)) rfl ?_;clear H;rintro afe Vs a w rfl abj H;refine kH H (YC jL rfl (Pf jL rfl (Kz fO (Cd rfl ?_ ?_)))) <;> clear H fO
  ·intro h112 a H
   try have M6:=dT h112
   refine kP H (SR fun _ iT=>Rm rfl (Rn rfl (Rm rfl (Sp 115 rfl ?_ ?_)))) <;> clear H
   ·intro fT a H
    try have uM:=dT fT
    exact kH H (YM fT rfl (YC fT rfl (Pt fT rfl (Ra rfl (Kz iT (LR Tryz.results5 rfl fun H=>H.hp.ret (congrArg Value.bool (by first|rfl|(simp_all [iU];done)))))))))
   intro fT a H
   try have uM:=dF fT
   exact kH H (Ks fT rfl (Ks fT rfl (Pf fT rfl (Ra rfl (Kz iT (LR Tryz.results5 rfl fun H=>H.hp.ret (congrArg Value.bool (by first|rfl|(simp_all [iU];done)))))))))
  intro h112 a H
  try have M6:=dF h112
  refine kP H (Kc gF (SR fun _ gL=>Rm rfl (Rm rfl (Sp 120 rfl ?_ ?_)))) <;> clear H gF
  ·intro iD a H
   try have EL:=dT iD
   exact kH H (YM iD rfl (YM iD rfl (YC iD rfl (Pt iD rfl (Ra rfl (Kz gL (LR Tryz.results5 rfl fun H=>H.hp.ret (congrArg Value.bool (by first|rfl|(simp_all [iU];done))))))))))
  intro iD a H
  try have EL:=dF iD
  exact kH H (Ks iD rfl (Ks iD rfl (Ks iD rfl (Pf iD rfl (Ra rfl (Kz gL (LR Tryz.results5 rfl fun H=>H.hp.ret (congrArg Value.bool (by first|rfl|(simp_all [iU];done))))))))))
 intro KF a H
 try have acT:=dF KF
 refine kP H (Kc fq (SQ fun _ jG=>SR fun _ jV=>Rm rfl (Rn rfl (Rm rfl (Sp 107 rfl ?_ ?_))))) <;> clear H fq
 ·intro jL a H
  try have M5:=dT jL
  refine kH H (Ks jL rfl (Ks jL rfl (Ks jL rfl (Ks jL rfl (Pt jL rfl (Kz jV (Ct rfl rfl (SR fun _ kV=>Rm rfl (Rn rfl (Rm rfl (Sp 115 rfl ?_ ?_))))))))))) <;> clear H jV
  ·intro fT a H
   try have uM:=dT fT
   exact kH H (YM fT rfl (YC fT rfl (Pt fT rfl (Ra rfl (Kz kV (LR Tryz.results5 rfl fun H=>H.hp.ret (congrArg Value.bool (by first|rfl|(simp_all [iU];done)))))))))
  intro fT a H
  try have uM:=dF fT
  exact kH H (Ks fT rfl (Ks fT rfl (Pf fT rfl (Ra rfl (Kz kV (LR Tryz.results5 rfl fun H=>H.hp.ret (congrArg Value.bool (by first|rfl|(simp_all [iU];done)))))))))
 intro jL a H
 try have M5:=dF jL
 refine aK iq (cs:=D.cells) H (wg H rfl rfl jL) rfl rfl (fun j v hj=>H.hp.aB (hgb j v hj)) rfl ?_;clear H;intro a H;refine aK bN (cs:=[_,_]) H (wg H rfl rfl jL) rfl rfl (H.hp.bF 0 rfl rfl) rfl ?_;clear H;intro a H;refine s_call PX H (wg H rfl rfl jL) rfl (SE _ _ H.hp.ro D d.flow f t hR.fl (by omega)) rfl ?_;clear H;rintro afe Vs a w rfl abj H;refine kH H (YC jL rfl (Pf jL rfl (Kz jV (Cd rfl ?_ ?_)))) <;> clear H jV
 ·intro h112 a H
  try have M6:=dT h112
  refine kP H (SR fun _ kE=>Rm rfl (Rn rfl (Rm rfl (Sp 115 rfl ?_ ?_)))) <;> clear H
  ·intro fT a H
   try have uM:=dT fT
   exact kH H (YM fT rfl (YC fT rfl (Pt fT rfl (Ra rfl (Kz kE (LR Tryz.results5 rfl fun H=>H.hp.ret (congrArg Value.bool (by first|rfl|(simp_all [iU];done)))))))))
  intro fT a H
  try have uM:=dF fT
  exact kH H (Ks fT rfl (Ks fT rfl (Pf fT rfl (Ra rfl (Kz kE (LR Tryz.results5 rfl fun H=>H.hp.ret (congrArg Value.bool (by first|rfl|(simp_all [iU];done)))))))))
 intro h112 a H
 try have M6:=dF h112
 refine kP H (Kc jG (SR fun _ ko=>Rm rfl (Rm rfl (Sp 120 rfl ?_ ?_)))) <;> clear H jG
 ·intro iD a H
  try have EL:=dT iD
  exact kH H (YM iD rfl (YM iD rfl (YC iD rfl (Pt iD rfl (Ra rfl (Kz ko (LR Tryz.results5 rfl fun H=>H.hp.ret (congrArg Value.bool (by first|rfl|(simp_all [iU];done))))))))))
 intro iD a H
 try have EL:=dF iD
 exact kH H (Ks iD rfl (Ks iD rfl (Ks iD rfl (Pf iD rfl (Ra rfl (Kz ko (LR Tryz.results5 rfl fun H=>H.hp.ret (congrArg Value.bool (by first|rfl|(simp_all [iU];done))))))))))
end
section
open Go.ChangeShapes Go.RowKit Go.Deep
abbrev mg (W:World):GH:=fun k=>W.heap[k]?
theorem aav {W:World} {b o:Nat} {v:Value} (h:W.cell? ⟨b,o,none⟩=some v):aB (mg W) b o=some v:=by
 unfold World.cell? at h
 unfold aB mg
 split at h
 ·rename_i c e f hh
  simp only at hh
  rw [hh];simpa using h
 cases h
theorem Sm {α:Type} {p:Nat→α→Prop}:∀ n:Nat,(∀ i,i < n→∃ x,p i x)→∃ l:List α,l.length=n∧∀ i x,l[i]?=some x→p i x
 | 0,_=>⟨[],rfl,fun i x h=>by simp at h⟩
 | n+1,h=>by
  obtain ⟨l,hl,hp⟩:=Sm n (fun i hi=>h i (by omega));obtain ⟨x,hx⟩:=h n (by omega);refine ⟨l++[x],by simp [hl],fun i y hy=>?_⟩
  by_cases hi:i < l.length
  ·exact hp i y (by rwa [List.getElem?_append_left hi] at hy)
  rw [List.getElem?_append_right (by omega)] at hy
  have hin:i - l.length=0:=by
   have:=(List.getElem?_eq_some_iff.1 hy).1
   simp at this;omega
  rw [hin] at hy
  simp only [List.getElem?_cons_zero,Option.some.injEq] at hy
  subst hy;rw [show i=n by omega];exact hx
theorem Wj {H:Type} (d:DataW H):1≤Rows.uptoBulk d:=by
 cases d <;> (try simp only [Rows.uptoBulk]) <;> (try omega)
 rename_i x;cases x <;> simp only [Rows.uptoBulk] <;> omega
theorem O1 {H ρ:Type} {dat:ρ→List Dat}:∀ (rs:List ρ) (D:Nat→DataW H),(∀ i r,rs[i]?=some r→bP (dat r)+1≤8*Rows.uptoBulk (D i))→dw (rs.map dat)≤8*Rows.uptoBulkAll ((List.range rs.length).map D)
 | [],D,_=>Nat.zero_le _
 | r :: rs,D,h=>by
  have h0:=h 0 r rfl;have hp:=Wj (D 0);have ih:=O1 rs (fun i=>D (i+1)) (fun i r hr=>h (i+1) r (by simpa using hr));rw [List.length_cons,List.range_succ_eq_map]
  simp only [List.map_cons,List.map_map,dw,Rows.uptoBulkAll]
  have e:(List.map (D ∘ Nat.succ) (List.range rs.length))=(List.map (fun i=>D (i+1)) (List.range rs.length)):=rfl;rw [e];omega
theorem OZ {H:Type} {D:Nat→DataW H}:∀ {n i:Nat},i < n→Rows.uptoBulk (D i)≤Rows.uptoBulkAll ((List.range n).map D)
 | 0,i,h=>absurd h (by omega)
 | n+1,i,h=>by
  have key:∀ (l m:List (DataW H)),Rows.uptoBulkAll (l++m)=Rows.uptoBulkAll l+Rows.uptoBulkAll m:=by
   intro l m
   induction l with
   | nil=>simp [Rows.uptoBulkAll]
   | cons x l ih=>simp only [List.cons_append,Rows.uptoBulkAll,ih];omega
  rw [List.range_succ,List.map_append,key]
  by_cases hi:i < n
  ·have:=OZ (D:=D) hi;omega
  have:i=n:=by omega
  subst this
  simp only [List.map_cons,List.map_nil,Rows.uptoBulkAll];omega
section
variable {H:Type} {enc:TypeId × Value→H} {P:Program} {W:World} {base:Nat} {spare:Nat→Bool} {held:Bool}
/-- A slice whose elements read as rows. -/
theorem qb {ρ:Type} {dat:ρ→List Dat} {t e:TypeId} {sz:Nat} (hsz:0 < sz) {fuel:Nat} {cs:List Value} {x:DataW H × List MemPlace} (ht:P.underlying t=some (.slice e)) (hc:P.cellsOf e=sz) (h:DataW.trod enc P W base spare held fuel t cs=some x)
  (row:∀ n cs' D Pl,DataW.trod enc P W base spare held n e cs'=some (D,Pl)→Rows.uptoBulk D < Rows.uptoBulk x.1→∃ r:ρ,aO (mg W) (dat r) cs'∧bP (dat r)+1≤8*Rows.uptoBulk D) :
  ∃ (rs:List ρ) (v:Value),cs=[v]∧ah (mg W) (.sl sz (rs.map dat)) v∧dw (rs.map dat)+8≤8*Rows.uptoBulk x.1:=by
 rcases open_slice ht h with ⟨rfl,rfl⟩|⟨a,len,cap,m,n,D,Pl,rfl,hb,hl,hm,hmm,rfl,hx⟩
 ·exact ⟨[],_,rfl,ah.gq rfl (by decide),by simp [dw,Rows.uptoBulk]⟩
 obtain ⟨rs,hrl,hrs⟩:=Sm (p:=fun i (r:ρ)=>∃ cs',W.cells? base (a.add (i*sz)) sz=some cs'∧aO (mg W) (dat r) cs'∧bP (dat r)+1≤8*Rows.uptoBulk (D i)) len (fun i hi=>by
  have him:i < m:=by rw [hmm];split <;> omega
  obtain ⟨cs',h1,h2⟩:=hx i him;rw [hc] at h1;have hb1:=OZ (D:=D) hi;obtain ⟨r,hr1,hr2⟩:=row n cs' (D i) (Pl i) h2 (by simp only [Rows.uptoBulk];omega)
  exact ⟨r,cs',h1,hr1,hr2⟩)
 refine ⟨rs,_,rfl,?_,?_⟩
 ·simp only [ah,List.length_map]
  refine ⟨some a,cap,by rw [hrl],by omega,hm,fun hne=>?_⟩;obtain ⟨b,off,spot⟩:=a
  have hlen:0 < rs.length:=by cases rs with|nil=>simp at hne|cons _ _=>simp
  obtain ⟨cs0,h1,-,-⟩:=hrs 0 rs[0] (List.getElem?_eq_getElem hlen);obtain ⟨-,hl0,hg0⟩:=World.cells?_some h1
  have hspot:spot=none:=by
   have h3:=hg0 0 hsz;rw [List.getElem?_eq_getElem (by omega)] at h3
   simpa [Addr.add] using World.cell?_spot h3
  subst hspot;refine ⟨b,off,rfl,jH.mk fun k r hk=>?_⟩;rw [List.getElem?_map] at hk;obtain ⟨y,hy,rfl⟩:=Option.map_eq_some_iff.1 hk;obtain ⟨cs',h2,h3,-⟩:=hrs k y hy;obtain ⟨-,hl1,hg1⟩:=World.cells?_some h2;refine ⟨cs',hl1,fun j u hj=>aav ?_,h3⟩
  have hj2:j < sz:=by rw [← hl1];exact (List.getElem?_eq_some_iff.1 hj).1
  have:=hg1 j hj2;rw [add_add,Go.WideShapes.add_plain] at this;rw [show off+k*sz+j=off+(k*sz+j) by omega,this];exact hj
 have:=O1 rs D (fun i r hr=>(hrs i r hr).choose_spec.2.2);rw [hrl] at this
 simp only [Rows.uptoBulk];omega
end
/-- A struct's fields: their types and where they begin. -/
structure nG (P:Program) (t:TypeId) (sz:Nat) (fs:List (TypeId × Nat × Nat)):Prop where
 und:P.underlying t=some (.struct (P.fieldsOf t))
 cells:P.cellsOf t=sz
 yJ:(P.fieldsOf t).toList.map (fun f=>(f.type,f.offset,P.cellsOf f.type))=fs
theorem oC {P:Program} {H:Type} {enc:TypeId × Value→H} {W:World} {base:Nat} {spare:Nat→Bool} {held:Bool} {t:TypeId} {sz fuel:Nat} {fs:List (TypeId × Nat × Nat)} {cs:List Value} {x:DataW H × List MemPlace} (hs:nG P t sz fs) (h:DataW.trod enc P W base spare held fuel t cs=some x) :
  ∃ (xs:List (DataW H × List MemPlace)) (n:Nat),x.1=.agg (xs.map (·.1))∧cs.length=sz∧xs.length=fs.length∧∀ (i:Nat) (ti:TypeId) (off k:Nat),fs[i]?=some (ti,off,k)→DataW.trod enc P W base spare held n ti ((cs.drop off).take k)=xs[i]?:=by
 obtain ⟨xs,n,-,rfl,hl,hxl,hf⟩:=DataW.trod_struct hs.und h;refine ⟨xs,n,rfl,by rw [hl,hs.cells],by rw [hxl,← hs.yJ];simp,fun i ti off k hi=>?_⟩;rw [← hs.yJ,List.getElem?_map] at hi;obtain ⟨f,hf1,hf2⟩:=Option.map_eq_some_iff.1 hi
 simp only [Prod.mk.injEq] at hf2
 obtain ⟨rfl,rfl,rfl⟩:=hf2;exact hf i f (by simpa using hf1)
section
variable {H:Type} {enc:TypeId × Value→H} {W:World} {base:Nat} {spare:Nat→Bool} {held:Bool}
theorem aey:nG Tryz.prog 147 2 [(3,0,1),(3,1,1)]:=⟨by kernel_rfl,by kernel_rfl,by kernel_rfl⟩
theorem TH {n:Nat} {cs:List Value} {D:DataW H} {Pl:List MemPlace} (h:DataW.trod enc Tryz.prog W base spare held n 147 cs=some (D,Pl)):∃ r:iC,aO (mg W) r.dat cs∧bP r.dat+1≤8*Rows.uptoBulk D:=by
 obtain ⟨xs,m,hx,hl,hxl,hf⟩:=oC aey h
 match cs,hl,xs,hxl with
 | [c0,c1],_,[y0,y1],_ =>
  have h0:=hf 0 _ _ _ rfl;have h1:=hf 1 _ _ _ rfl;obtain ⟨k0,e0,d0,-⟩:=DataW.trod_int Tryz.underlying3 h0;obtain ⟨k1,e1,d1,-⟩:=DataW.trod_int Tryz.underlying3 h1
  simp at e0 e1
  subst e0 e1
  simp only at hx
  refine ⟨⟨k0,k1⟩,?_,?_⟩
  ·simp [aO,iC.dat,ah,Value.oneCell']
  rw [hx];simp [d0,d1,iC.dat,bP,mG,Rows.uptoBulk,Rows.uptoBulkAll]
theorem aep:nG Tryz.prog 150 2 [(3,0,1),(3,1,1)]:=⟨by kernel_rfl,by kernel_rfl,by kernel_rfl⟩
theorem adA {n:Nat} {cs:List Value} {D:DataW H} {Pl:List MemPlace} (h:DataW.trod enc Tryz.prog W base spare held n 150 cs=some (D,Pl)):∃ r:jm,aO (mg W) r.dat cs∧bP r.dat+1≤8*Rows.uptoBulk D:=by
 obtain ⟨xs,m,hx,hl,hxl,hf⟩:=oC aep h
 match cs,hl,xs,hxl with
 | [c0,c1],_,[y0,y1],_ =>
  have h0:=hf 0 _ _ _ rfl;have h1:=hf 1 _ _ _ rfl;obtain ⟨k0,e0,d0,-⟩:=DataW.trod_int Tryz.underlying3 h0;obtain ⟨k1,e1,d1,-⟩:=DataW.trod_int Tryz.underlying3 h1
  simp at e0 e1
  subst e0 e1
  simp only at hx
  refine ⟨⟨k0,k1⟩,?_,?_⟩
  ·simp [aO,jm.dat,ah,Value.oneCell']
  rw [hx];simp [d0,d1,jm.dat,bP,mG,Rows.uptoBulk,Rows.uptoBulkAll]
theorem aeu:nG Tryz.prog 178 4 [(3,0,1),(3,1,1),(3,2,1),(4,3,1)]:=⟨by kernel_rfl,by kernel_rfl,by kernel_rfl⟩
theorem adD {n:Nat} {cs:List Value} {D:DataW H} {Pl:List MemPlace} (h:DataW.trod enc Tryz.prog W base spare held n 178 cs=some (D,Pl)):∃ r:iW,aO (mg W) r.dat cs∧bP r.dat+1≤8*Rows.uptoBulk D:=by
 obtain ⟨xs,m,hx,hl,hxl,hf⟩:=oC aeu h
 match cs,hl,xs,hxl with
 | [c0,c1,c2,c3],_,[y0,y1,y2,y3],_ =>
  have h0:=hf 0 _ _ _ rfl;have h1:=hf 1 _ _ _ rfl;have h2:=hf 2 _ _ _ rfl;have h3:=hf 3 _ _ _ rfl;obtain ⟨k0,e0,d0,-⟩:=DataW.trod_int Tryz.underlying3 h0;obtain ⟨k1,e1,d1,-⟩:=DataW.trod_int Tryz.underlying3 h1;obtain ⟨k2,e2,d2,-⟩:=DataW.trod_int Tryz.underlying3 h2;obtain ⟨k3,e3,d3⟩:=DataW.trod_bool Tryz.underlying4 h3
  simp at e0 e1 e2 e3
  subst e0 e1 e2 e3
  simp only at hx
  refine ⟨⟨k0,k1,k2,k3⟩,?_,?_⟩
  ·simp [aO,iW.dat,ah,Value.oneCell']
  rw [hx];simp [d0,d1,d2,d3,iW.dat,bP,mG,Rows.uptoBulk,Rows.uptoBulkAll]
theorem aex:nG Tryz.prog 27 4 [(3,0,1),(3,1,1),(24,2,1),(25,3,1)]:=⟨by kernel_rfl,by kernel_rfl,by kernel_rfl⟩
theorem aer:nG Tryz.prog 29 5 [(23,0,1),(27,1,4)]:=⟨by kernel_rfl,by kernel_rfl,by kernel_rfl⟩
theorem Pb:Tryz.prog.cellsOf 147=2:=by kernel_rfl
theorem Wz:Tryz.prog.cellsOf 150=2:=by kernel_rfl
theorem WA:Tryz.prog.cellsOf 178=4:=by kernel_rfl
/-- A head among other cells. -/
theorem Im {n:Nat} {cs:List Value} {x:DataW H × List MemPlace} (h:DataW.trod enc Tryz.prog W base spare held n 29 cs=some x):∃ (r:gW) (p d l:Value),cs=[p,vi r.marks.ins,vi r.marks.move,d,l]∧jq (mg W) r p d l∧nC r+15≤8*Rows.uptoBulk x.1:=by
 obtain ⟨xs,m,hx,hl,hxl,hf⟩:=oC aer h
 match cs,hl,xs,hxl with
 | [c0,c1,c2,c3,c4],_,[y0,y1],_ =>
  have h0:=hf 0 _ _ _ rfl;have h1:=hf 1 _ _ _ rfl;obtain ⟨ps,pv,e0,rp,sp⟩:=qb (dat:=iC.dat) (sz:=2) (by omega) Tryz.underlying23 Pb h0 (fun n cs' D Pl hh _=>TH hh);obtain ⟨zs,m2,hz,hzl,hzx,yY⟩:=oC aex h1
  match zs,hzx with
  | [z0,z1,z2,z3],_ =>
   have g0:=yY 0 _ _ _ rfl;have g1:=yY 1 _ _ _ rfl;have g2:=yY 2 _ _ _ rfl;have g3:=yY 3 _ _ _ rfl;obtain ⟨k0,e1,d0,-⟩:=DataW.trod_int Tryz.underlying3 g0;obtain ⟨k1,e2,d1,-⟩:=DataW.trod_int Tryz.underlying3 g1;obtain ⟨ds,dv,e3,rd,sd⟩:=qb (dat:=jm.dat) (sz:=2) (by omega) Tryz.underlying24 Wz g2 (fun n cs' D Pl hh _=>adA hh);obtain ⟨ls,lv,e4,rl,sl⟩:=qb (dat:=iW.dat) (sz:=4) (by omega) Tryz.underlying25 WA g3 (fun n cs' D Pl hh _=>adD hh)
   simp at e0 e1 e2 e3 e4
   subst e0 e1 e2 e3 e4;refine ⟨⟨ps,⟨k0,k1,ds,ls⟩⟩,_,_,_,rfl,⟨rp,rd,rl⟩,?_⟩;have hzh:=Fe ⟨ps,⟨k0,k1,ds,ls⟩⟩
   simp only at hzh
   rw [hx]
   simp only [List.map_cons,List.map_nil,Rows.uptoBulk,Rows.uptoBulkAll,hz,d0,d1]
   omega
theorem aes:nG Tryz.prog 85 11 [(3,0,1),(3,1,1),(3,2,1),(9,3,1),(29,4,5),(22,9,1),(83,10,1)]:=⟨by kernel_rfl,by kernel_rfl,by kernel_rfl⟩
theorem aez:nG Tryz.prog 88 6 [(29,0,5),(86,5,1)]:=⟨by kernel_rfl,by kernel_rfl,by kernel_rfl⟩
theorem aen:nG Tryz.prog 90 7 [(3,0,1),(29,1,5),(22,6,1)]:=⟨by kernel_rfl,by kernel_rfl,by kernel_rfl⟩
theorem JD:Tryz.prog.cellsOf 85=11:=by kernel_rfl
theorem WE:Tryz.prog.cellsOf 88=6:=by kernel_rfl
theorem Wx:Tryz.prog.cellsOf 90=7:=by kernel_rfl
theorem TG:∀ (N:Nat) (n:Nat) (cs:List Value) (D:DataW H) (Pl:List MemPlace),DataW.trod enc Tryz.prog W base spare held n 85 cs=some (D,Pl)→Rows.uptoBulk D < N→∃ r:aj,aO (mg W) r.dat cs∧bP r.dat+1≤8*Rows.uptoBulk D
 | 0,_,_,_,_,_,hN=>absurd hN (by omega)
 | N+1,n,cs,D,Pl,h,hN=>by
  have ih:=TG N;obtain ⟨xs,m,hx,hl,hxl,hf⟩:=oC aes h
  match cs,hl,xs,hxl with
  | [c0,c1,c2,c3,c4,c5,c6,c7,c8,c9,c10],_,[y0,y1,y2,y3,y4,y5,y6],_ =>
   have h0:=hf 0 _ _ _ rfl;have h1:=hf 1 _ _ _ rfl;have h2:=hf 2 _ _ _ rfl;have h3:=hf 3 _ _ _ rfl;have h4:=hf 4 _ _ _ rfl;have h5:=hf 5 _ _ _ rfl;have h6:=hf 6 _ _ _ rfl
   simp only at hx
   have hD:Rows.uptoBulk D=Rows.uptoBulk y0.1+(Rows.uptoBulk y1.1+(Rows.uptoBulk y2.1+(Rows.uptoBulk y3.1+(Rows.uptoBulk y4.1+(Rows.uptoBulk y5.1+(Rows.uptoBulk y6.1+0))))))+1:=by
    rw [hx];simp only [List.map_cons,List.map_nil,Rows.uptoBulk,Rows.uptoBulkAll]
   obtain ⟨k0,e0,d0,-⟩:=DataW.trod_int Tryz.underlying3 h0;obtain ⟨k1,e1,d1,-⟩:=DataW.trod_int Tryz.underlying3 h1;obtain ⟨k2,e2,d2,-⟩:=DataW.trod_int Tryz.underlying3 h2;obtain ⟨s,e3,d3,-⟩:=DataW.trod_string Tryz.underlying9 h3;obtain ⟨hd,p,d,l,e4,rh,sh⟩:=Im h4;obtain ⟨fl,fv,e5,rf,sf⟩:=qb (dat:=aj.dat) (sz:=11) (by omega) Tryz.underlying22 JD h5 (fun n cs' D' bB hh hlt=>ih n cs' D' bB hh (by omega))
   obtain ⟨rs,rv,e6,rr,sr⟩:=qb (dat:=aN.dat) (sz:=6) (by omega) Tryz.underlying83 WE h6 (fun n cs' D' bB hh hlt=>by
    obtain ⟨xs,m,hx,hl,hxl,hf⟩:=oC aez hh
    match cs',hl,xs,hxl with
    | [a0,a1,a2,a3,a4,a5],_,[w0,w1],_ =>
     have g0:=hf 0 _ _ _ rfl;have g1:=hf 1 _ _ _ rfl
     simp only at hx
     have hD':Rows.uptoBulk D'=Rows.uptoBulk w0.1+(Rows.uptoBulk w1.1+0)+1:=by
      rw [hx];simp only [List.map_cons,List.map_nil,Rows.uptoBulk,Rows.uptoBulkAll]
     obtain ⟨hd2,p2,d2',l2,q0,rh2,sh2⟩:=Im g0
     obtain ⟨cl,cv,q1,rc,sc⟩:=qb (dat:=aJ.dat) (sz:=7) (by omega) Tryz.underlying86 Wx g1 (fun n cs'' Vo afQ hh2 hlt2=>by
      obtain ⟨xs,m,hx2,hl2,abZ,hf2⟩:=oC aen hh2
      match cs'',hl2,xs,abZ with
      | [b0,b1,b2,b3,b4,b5,b6],_,[v0,v1,v2],_ =>
       have u0:=hf2 0 _ _ _ rfl;have u1:=hf2 1 _ _ _ rfl;have u2:=hf2 2 _ _ _ rfl
       simp only at hx2
       have afU:Rows.uptoBulk Vo=Rows.uptoBulk v0.1+(Rows.uptoBulk v1.1+(Rows.uptoBulk v2.1+0))+1:=by
        rw [hx2];simp only [List.map_cons,List.map_nil,Rows.uptoBulk,Rows.uptoBulkAll]
       obtain ⟨j0,t0,z0,-⟩:=DataW.trod_int Tryz.underlying3 u0;obtain ⟨hd3,p3,d3',l3,t1,rh3,sh3⟩:=Im u1;obtain ⟨KA,fv3,t2,rf3,sf3⟩:=qb (dat:=aj.dat) (sz:=11) (by omega) Tryz.underlying22 JD u2 (fun n XE D3 VU hh3 hlt3=>ih n XE D3 VU hh3 (by omega))
       simp at t0 t1 t2
       obtain ⟨rfl,rfl,rfl,rfl,rfl⟩:=t1;subst t0 t2;have hz:=u6 (aJ.mk j0 hd3 KA)
       simp only [aJ.head,aJ.flow] at hz
       have bz:Rows.uptoBulk v0.1=1:=by rw [z0];rfl
       exact ⟨aJ.mk j0 hd3 KA,aO.MV (x:=aJ.mk j0 hd3 KA) rh3 rf3,by simp only [aS] at hz;omega⟩)
     simp at q0 q1
     obtain ⟨rfl,rfl,rfl,rfl,rfl⟩:=q0;subst q1;have hz:=tF (aN.mk hd2 cl)
     simp only [aN.head,aN.cells] at hz
     exact ⟨aN.mk hd2 cl,aO.SF (x:=aN.mk hd2 cl) rh2 rc,by simp only [jg] at hz;omega⟩)
   simp at e0 e1 e2 e3 e4 e5 e6
   obtain ⟨rfl,rfl,rfl,rfl,rfl⟩:=e4;subst e0 e1 e2 e3 e5 e6;have hz:=lF (aj.mk k0 k1 k2 s hd fl rs)
   simp only [aj.text,aj.head,aj.flow,aj.rows] at hz
   have b0:Rows.uptoBulk y0.1=1:=by rw [d0];rfl
   have b1:Rows.uptoBulk y1.1=1:=by rw [d1];rfl
   have b2:Rows.uptoBulk y2.1=1:=by rw [d2];rfl
   have b3:Rows.uptoBulk y3.1=s.size+1:=by rw [d3];show s.data.toList.length+1=s.data.size+1;rw [Array.length_toList]
   exact ⟨aj.mk k0 k1 k2 s hd fl rs,aO.mkItem (x:=aj.mk k0 k1 k2 s hd fl rs) rh rf rr,by simp only [aS,fI] at hz;omega⟩
/-- A flow that an argument brings. -/
theorem adC {n:Nat} {cs:List Value} {x:DataW H × List MemPlace} (h:DataW.trod enc Tryz.prog W base spare held n 22 cs=some x):∃ (l:List aj) (v:Value),cs=[v]∧ah (mg W) (.sl 11 (l.map aj.dat)) v∧aS l+8≤8*Rows.uptoBulk x.1 :=
 qb (dat:=aj.dat) (sz:=11) (by omega) Tryz.underlying22 JD h (fun n cs' D' bB hh _=>TG _ n cs' D' bB hh (Nat.lt_succ_self _))
end
end
section
open Go.ChangeShapes Go.RowKit Go.Deep
theorem Av {ρ:Type} {dat:ρ→List Dat}:∀ {l:List ρ} {x:ρ},x∈l→bP (dat x)+1≤dw (l.map dat)
 | y :: l,x,h=>by
  rw [List.map_cons,dw]
  rcases List.mem_cons.1 h with rfl|h
  ·omega
  have:=Av (dat:=dat) h;omega
section
variable {H:Type} {enc:TypeId × Value→H} {W:World} {base:Nat} {spare:Nat→Bool} {held:Bool}
theorem aeC:nG Tryz.prog 141 6 [(3,0,1),(3,1,1),(9,2,1),(3,3,1),(3,4,1),(23,5,1)]:=⟨by kernel_rfl,by kernel_rfl,by kernel_rfl⟩
theorem WH:Tryz.prog.cellsOf 141=6:=by kernel_rfl
theorem adJ {n:Nat} {cs:List Value} {D:DataW H} {Pl:List MemPlace} (h:DataW.trod enc Tryz.prog W base spare held n 141 cs=some (D,Pl)):∃ r:bg,aO (mg W) r.dat cs∧bP r.dat+1≤8*Rows.uptoBulk D:=by
 obtain ⟨xs,m,hx,hl,hxl,hf⟩:=oC aeC h
 match cs,hl,xs,hxl with
 | [c0,c1,c2,c3,c4,c5],_,[y0,y1,y2,y3,y4,y5],_ =>
  have h0:=hf 0 _ _ _ rfl;have h1:=hf 1 _ _ _ rfl;have h2:=hf 2 _ _ _ rfl;have h3:=hf 3 _ _ _ rfl;have h4:=hf 4 _ _ _ rfl;have h5:=hf 5 _ _ _ rfl
  simp only at hx
  have hD:Rows.uptoBulk D=Rows.uptoBulk y0.1+(Rows.uptoBulk y1.1+(Rows.uptoBulk y2.1+(Rows.uptoBulk y3.1+(Rows.uptoBulk y4.1+(Rows.uptoBulk y5.1+0)))))+1:=by rw [hx];simp only [List.map_cons,List.map_nil,Rows.uptoBulk,Rows.uptoBulkAll]
  obtain ⟨k0,e0,d0,-⟩:=DataW.trod_int Tryz.underlying3 h0;obtain ⟨k1,e1,d1,-⟩:=DataW.trod_int Tryz.underlying3 h1;obtain ⟨k2,e2,d2,-⟩:=DataW.trod_string Tryz.underlying9 h2;obtain ⟨k3,e3,d3,-⟩:=DataW.trod_int Tryz.underlying3 h3;obtain ⟨k4,e4,d4,-⟩:=DataW.trod_int Tryz.underlying3 h4;obtain ⟨k5,q5,e5,r5,d5⟩:=qb (dat:=iC.dat) (sz:=2) (by omega) Tryz.underlying23 Pb h5 (fun n cs' D Pl hh _=>TH hh)
  simp at e0 e1 e2 e3 e4 e5
  subst e0 e1 e2 e3 e4 e5
  have b0:Rows.uptoBulk y0.1=1:=by rw [d0];rfl
  have b1:Rows.uptoBulk y1.1=1:=by rw [d1];rfl
  have b2:Rows.uptoBulk y2.1=k2.size+1:=by rw [d2];show k2.data.toList.length+1=k2.data.size+1;rw [Array.length_toList]
  have b3:Rows.uptoBulk y3.1=1:=by rw [d3];rfl
  have b4:Rows.uptoBulk y4.1=1:=by rw [d4];rfl
  refine ⟨⟨k0,k1,k2,k3,k4,k5⟩,?_,?_⟩
  ·exact ⟨_,_,rfl,(by simp [ah,Value.oneCell']),⟨_,_,rfl,(by simp [ah,Value.oneCell']),⟨_,_,rfl,(by simp [ah,Value.oneCell']),⟨_,_,rfl,(by simp [ah,Value.oneCell']),⟨_,_,rfl,(by simp [ah,Value.oneCell']),⟨_,_,rfl,r5,rfl⟩⟩⟩⟩⟩⟩
  simp only [bg.dat,bP,mG];omega
theorem aew:nG Tryz.prog 193 4 [(3,0,1),(3,1,1),(9,2,1),(3,3,1)]:=⟨by kernel_rfl,by kernel_rfl,by kernel_rfl⟩
theorem WC:Tryz.prog.cellsOf 193=4:=by kernel_rfl
theorem adF {n:Nat} {cs:List Value} {D:DataW H} {Pl:List MemPlace} (h:DataW.trod enc Tryz.prog W base spare held n 193 cs=some (D,Pl)):∃ r:lW,aO (mg W) r.dat cs∧bP r.dat+1≤8*Rows.uptoBulk D:=by
 obtain ⟨xs,m,hx,hl,hxl,hf⟩:=oC aew h
 match cs,hl,xs,hxl with
 | [c0,c1,c2,c3],_,[y0,y1,y2,y3],_ =>
  have h0:=hf 0 _ _ _ rfl;have h1:=hf 1 _ _ _ rfl;have h2:=hf 2 _ _ _ rfl;have h3:=hf 3 _ _ _ rfl
  simp only at hx
  have hD:Rows.uptoBulk D=Rows.uptoBulk y0.1+(Rows.uptoBulk y1.1+(Rows.uptoBulk y2.1+(Rows.uptoBulk y3.1+0)))+1:=by rw [hx];simp only [List.map_cons,List.map_nil,Rows.uptoBulk,Rows.uptoBulkAll]
  obtain ⟨k0,e0,d0,-⟩:=DataW.trod_int Tryz.underlying3 h0;obtain ⟨k1,e1,d1,-⟩:=DataW.trod_int Tryz.underlying3 h1;obtain ⟨k2,e2,d2,-⟩:=DataW.trod_string Tryz.underlying9 h2;obtain ⟨k3,e3,d3,-⟩:=DataW.trod_int Tryz.underlying3 h3
  simp at e0 e1 e2 e3
  subst e0 e1 e2 e3
  have b0:Rows.uptoBulk y0.1=1:=by rw [d0];rfl
  have b1:Rows.uptoBulk y1.1=1:=by rw [d1];rfl
  have b2:Rows.uptoBulk y2.1=k2.size+1:=by rw [d2];show k2.data.toList.length+1=k2.data.size+1;rw [Array.length_toList]
  have b3:Rows.uptoBulk y3.1=1:=by rw [d3];rfl
  refine ⟨⟨k0,k1,k2,k3⟩,?_,?_⟩
  ·exact ⟨_,_,rfl,(by simp [ah,Value.oneCell']),⟨_,_,rfl,(by simp [ah,Value.oneCell']),⟨_,_,rfl,(by simp [ah,Value.oneCell']),⟨_,_,rfl,(by simp [ah,Value.oneCell']),rfl⟩⟩⟩⟩
  simp only [lW.dat,bP,mG];omega
theorem aev:nG Tryz.prog 144 2 [(3,0,1),(142,1,1)]:=⟨by kernel_rfl,by kernel_rfl,by kernel_rfl⟩
theorem WB:Tryz.prog.cellsOf 144=2:=by kernel_rfl
theorem adG {n:Nat} {cs:List Value} {D:DataW H} {Pl:List MemPlace} (h:DataW.trod enc Tryz.prog W base spare held n 144 cs=some (D,Pl)):∃ r:eD,aO (mg W) r.dat cs∧bP r.dat+1≤8*Rows.uptoBulk D:=by
 obtain ⟨xs,m,hx,hl,hxl,hf⟩:=oC aev h
 match cs,hl,xs,hxl with
 | [c0,c1],_,[y0,y1],_ =>
  have h0:=hf 0 _ _ _ rfl;have h1:=hf 1 _ _ _ rfl
  simp only at hx
  have hD:Rows.uptoBulk D=Rows.uptoBulk y0.1+(Rows.uptoBulk y1.1+0)+1:=by rw [hx];simp only [List.map_cons,List.map_nil,Rows.uptoBulk,Rows.uptoBulkAll]
  obtain ⟨k0,e0,d0,-⟩:=DataW.trod_int Tryz.underlying3 h0;obtain ⟨k1,q1,e1,r1,d1⟩:=qb (dat:=lW.dat) (sz:=4) (by omega) Tryz.underlying142 WC h1 (fun n cs' D Pl hh _=>adF hh)
  simp at e0 e1
  subst e0 e1
  have b0:Rows.uptoBulk y0.1=1:=by rw [d0];rfl
  refine ⟨⟨k0,k1⟩,?_,?_⟩
  ·exact ⟨_,_,rfl,(by simp [ah,Value.oneCell']),⟨_,_,rfl,r1,rfl⟩⟩
  simp only [eD.dat,bP,mG];omega
theorem aeo:nG Tryz.prog 170 6 [(3,0,1),(3,1,1),(9,2,1),(3,3,1),(9,4,1),(4,5,1)]:=⟨by kernel_rfl,by kernel_rfl,by kernel_rfl⟩
theorem Wy:Tryz.prog.cellsOf 170=6:=by kernel_rfl
theorem adz {n:Nat} {cs:List Value} {D:DataW H} {Pl:List MemPlace} (h:DataW.trod enc Tryz.prog W base spare held n 170 cs=some (D,Pl)):∃ r:gD,aO (mg W) r.dat cs∧bP r.dat+1≤8*Rows.uptoBulk D:=by
 obtain ⟨xs,m,hx,hl,hxl,hf⟩:=oC aeo h
 match cs,hl,xs,hxl with
 | [c0,c1,c2,c3,c4,c5],_,[y0,y1,y2,y3,y4,y5],_ =>
  have h0:=hf 0 _ _ _ rfl;have h1:=hf 1 _ _ _ rfl;have h2:=hf 2 _ _ _ rfl;have h3:=hf 3 _ _ _ rfl;have h4:=hf 4 _ _ _ rfl;have h5:=hf 5 _ _ _ rfl
  simp only at hx
  have hD:Rows.uptoBulk D=Rows.uptoBulk y0.1+(Rows.uptoBulk y1.1+(Rows.uptoBulk y2.1+(Rows.uptoBulk y3.1+(Rows.uptoBulk y4.1+(Rows.uptoBulk y5.1+0)))))+1:=by rw [hx];simp only [List.map_cons,List.map_nil,Rows.uptoBulk,Rows.uptoBulkAll]
  obtain ⟨k0,e0,d0,-⟩:=DataW.trod_int Tryz.underlying3 h0;obtain ⟨k1,e1,d1,-⟩:=DataW.trod_int Tryz.underlying3 h1;obtain ⟨k2,e2,d2,-⟩:=DataW.trod_string Tryz.underlying9 h2;obtain ⟨k3,e3,d3,-⟩:=DataW.trod_int Tryz.underlying3 h3;obtain ⟨k4,e4,d4,-⟩:=DataW.trod_string Tryz.underlying9 h4;obtain ⟨k5,e5,d5⟩:=DataW.trod_bool Tryz.underlying4 h5
  simp at e0 e1 e2 e3 e4 e5
  subst e0 e1 e2 e3 e4 e5
  have b0:Rows.uptoBulk y0.1=1:=by rw [d0];rfl
  have b1:Rows.uptoBulk y1.1=1:=by rw [d1];rfl
  have b2:Rows.uptoBulk y2.1=k2.size+1:=by rw [d2];show k2.data.toList.length+1=k2.data.size+1;rw [Array.length_toList]
  have b3:Rows.uptoBulk y3.1=1:=by rw [d3];rfl
  have b4:Rows.uptoBulk y4.1=k4.size+1:=by rw [d4];show k4.data.toList.length+1=k4.data.size+1;rw [Array.length_toList]
  have b5:Rows.uptoBulk y5.1=1:=by rw [d5];rfl
  refine ⟨⟨k0,k1,k2,k3,k4,k5⟩,?_,?_⟩
  ·exact ⟨_,_,rfl,(by simp [ah,Value.oneCell']),⟨_,_,rfl,(by simp [ah,Value.oneCell']),⟨_,_,rfl,(by simp [ah,Value.oneCell']),⟨_,_,rfl,(by simp [ah,Value.oneCell']),⟨_,_,rfl,(by simp [ah,Value.oneCell']),⟨_,_,rfl,(by simp [ah,Value.oneCell']),rfl⟩⟩⟩⟩⟩⟩
  simp only [gD.dat,bP,mG];omega
theorem aeD:nG Tryz.prog 175 2 [(9,0,1),(9,1,1)]:=⟨by kernel_rfl,by kernel_rfl,by kernel_rfl⟩
theorem WJ:Tryz.prog.cellsOf 175=2:=by kernel_rfl
theorem adK {n:Nat} {cs:List Value} {D:DataW H} {Pl:List MemPlace} (h:DataW.trod enc Tryz.prog W base spare held n 175 cs=some (D,Pl)):∃ r:jW,aO (mg W) r.dat cs∧bP r.dat+1≤8*Rows.uptoBulk D:=by
 obtain ⟨xs,m,hx,hl,hxl,hf⟩:=oC aeD h
 match cs,hl,xs,hxl with
 | [c0,c1],_,[y0,y1],_ =>
  have h0:=hf 0 _ _ _ rfl;have h1:=hf 1 _ _ _ rfl
  simp only at hx
  have hD:Rows.uptoBulk D=Rows.uptoBulk y0.1+(Rows.uptoBulk y1.1+0)+1:=by rw [hx];simp only [List.map_cons,List.map_nil,Rows.uptoBulk,Rows.uptoBulkAll]
  obtain ⟨k0,e0,d0,-⟩:=DataW.trod_string Tryz.underlying9 h0;obtain ⟨k1,e1,d1,-⟩:=DataW.trod_string Tryz.underlying9 h1
  simp at e0 e1
  subst e0 e1
  have b0:Rows.uptoBulk y0.1=k0.size+1:=by rw [d0];show k0.data.toList.length+1=k0.data.size+1;rw [Array.length_toList]
  have b1:Rows.uptoBulk y1.1=k1.size+1:=by rw [d1];show k1.data.toList.length+1=k1.data.size+1;rw [Array.length_toList]
  refine ⟨⟨k0,k1⟩,?_,?_⟩
  ·exact ⟨_,_,rfl,(by simp [ah,Value.oneCell']),⟨_,_,rfl,(by simp [ah,Value.oneCell']),rfl⟩⟩
  simp only [jW.dat,bP,mG];omega
theorem aeA:nG Tryz.prog 135 3 [(3,0,1),(9,1,1),(3,2,1)]:=⟨by kernel_rfl,by kernel_rfl,by kernel_rfl⟩
theorem WG:Tryz.prog.cellsOf 135=3:=by kernel_rfl
theorem adH {n:Nat} {cs:List Value} {D:DataW H} {Pl:List MemPlace} (h:DataW.trod enc Tryz.prog W base spare held n 135 cs=some (D,Pl)):∃ r:dJ,aO (mg W) r.dat cs∧bP r.dat+1≤8*Rows.uptoBulk D:=by
 obtain ⟨xs,m,hx,hl,hxl,hf⟩:=oC aeA h
 match cs,hl,xs,hxl with
 | [c0,c1,c2],_,[y0,y1,y2],_ =>
  have h0:=hf 0 _ _ _ rfl;have h1:=hf 1 _ _ _ rfl;have h2:=hf 2 _ _ _ rfl
  simp only at hx
  have hD:Rows.uptoBulk D=Rows.uptoBulk y0.1+(Rows.uptoBulk y1.1+(Rows.uptoBulk y2.1+0))+1:=by rw [hx];simp only [List.map_cons,List.map_nil,Rows.uptoBulk,Rows.uptoBulkAll]
  obtain ⟨k0,e0,d0,-⟩:=DataW.trod_int Tryz.underlying3 h0;obtain ⟨k1,e1,d1,-⟩:=DataW.trod_string Tryz.underlying9 h1;obtain ⟨k2,e2,d2,-⟩:=DataW.trod_int Tryz.underlying3 h2
  simp at e0 e1 e2
  subst e0 e1 e2
  have b0:Rows.uptoBulk y0.1=1:=by rw [d0];rfl
  have b1:Rows.uptoBulk y1.1=k1.size+1:=by rw [d1];show k1.data.toList.length+1=k1.data.size+1;rw [Array.length_toList]
  have b2:Rows.uptoBulk y2.1=1:=by rw [d2];rfl
  refine ⟨⟨k0,k1,k2⟩,?_,?_⟩
  ·exact ⟨_,_,rfl,(by simp [ah,Value.oneCell']),⟨_,_,rfl,(by simp [ah,Value.oneCell']),⟨_,_,rfl,(by simp [ah,Value.oneCell']),rfl⟩⟩⟩
  simp only [dJ.dat,bP,mG];omega
theorem aeB:nG Tryz.prog 36 4 [(31,0,1),(32,1,1),(33,2,1),(34,3,1)]:=⟨by kernel_rfl,by kernel_rfl,by kernel_rfl⟩
/-- Sizes of settings that were read. -/
structure Js (s:wL) (n:Nat):Prop where
 st:dw (s.styles.map bg.dat)≤n
 li:dw (s.lists.map eD.dat)≤n
 cm:dw (s.comments.map gD.dat)≤n
 va:dw (s.vars.map jW.dat)≤n
theorem Js.zn {s:wL} {n:Nat} (h:Js s n) (hn:n≤4294967296):Jt s∧s.styles.length≤4294967296:=by
 obtain ⟨h1,h2,h3,h4⟩:=h;have l1:=pq (s.styles.map bg.dat);have l2:=pq (s.lists.map eD.dat);have l3:=pq (s.comments.map gD.dat);have l4:=pq (s.vars.map jW.dat);rw [List.length_map] at l1 l2 l3 l4;refine ⟨⟨fun x hx=>?_,by omega,fun x hx y hy=>?_,by omega,fun x hx=>?_,by omega,fun x hx=>?_⟩,by omega⟩
 ·have:=Av (dat:=bg.dat) hx
  simp only [bg.dat,bP,mG] at this;omega
 ·have:=Av (dat:=eD.dat) hx
  simp only [eD.dat,bP,mG] at this
  have h5:=Av (dat:=lW.dat) hy
  simp only [lW.dat,bP,mG] at h5;omega
 ·have:=Av (dat:=gD.dat) hx
  simp only [gD.dat,bP,mG] at this;omega
 have:=Av (dat:=jW.dat) hx
 simp only [jW.dat,bP,mG] at this;omega
/-- Settings among other cells. -/
theorem adI {n:Nat} {cs:List Value} {x:DataW H × List MemPlace} (h:DataW.trod enc Tryz.prog W base spare held n 36 cs=some x):∃ (s:wL) (a b c d:Value),cs=[a,b,c,d]∧Ba (mg W) s a b c d∧Js s (8*Rows.uptoBulk x.1):=by
 obtain ⟨xs,m,hx,hl,hxl,hf⟩:=oC aeB h
 match cs,hl,xs,hxl with
 | [c0,c1,c2,c3],_,[y0,y1,y2,y3],_ =>
  have h0:=hf 0 _ _ _ rfl;have h1:=hf 1 _ _ _ rfl;have h2:=hf 2 _ _ _ rfl;have h3:=hf 3 _ _ _ rfl;obtain ⟨k0,q0,e0,r0,d0⟩:=qb (dat:=bg.dat) (sz:=6) (by omega) Tryz.underlying31 WH h0 (fun n cs' D Pl hh _=>adJ hh);obtain ⟨k1,q1,e1,r1,d1⟩:=qb (dat:=eD.dat) (sz:=2) (by omega) Tryz.underlying32 WB h1 (fun n cs' D Pl hh _=>adG hh);obtain ⟨k2,q2,e2,r2,d2⟩:=qb (dat:=gD.dat) (sz:=6) (by omega) Tryz.underlying33 Wy h2 (fun n cs' D Pl hh _=>adz hh);obtain ⟨k3,q3,e3,r3,d3⟩:=qb (dat:=jW.dat) (sz:=2) (by omega) Tryz.underlying34 WJ h3 (fun n cs' D Pl hh _=>adK hh)
  simp at e0 e1 e2 e3
  subst e0 e1 e2 e3
  have hD:Rows.uptoBulk x.1=Rows.uptoBulk y0.1+(Rows.uptoBulk y1.1+(Rows.uptoBulk y2.1+(Rows.uptoBulk y3.1+0)))+1:=by rw [hx];simp only [List.map_cons,List.map_nil,Rows.uptoBulk,Rows.uptoBulkAll]
  exact ⟨⟨k0,k1,k2,k3⟩,_,_,_,_,rfl,⟨r0,r1,r2,r3⟩,⟨by show dw (k0.map _)≤_;omega,by show dw (k1.map _)≤_;omega,by show dw (k2.map _)≤_;omega,by show dw (k3.map _)≤_;omega⟩⟩
theorem Ue:nG Tryz.prog 38 11 [(22,0,1),(29,1,5),(30,6,1),(36,7,4)]:=⟨by kernel_rfl,by kernel_rfl,by kernel_rfl⟩
theorem xU {G:GH} {sz:Nat} {rs:List (List Dat)} {v:Value} (h:ah G (.sl sz rs) v):∃ x,v=dY x:=by
 obtain ⟨a,n,c,rfl⟩:=h.form;exact ⟨(a,n,c),rfl⟩
/-- A document that an argument brings. -/
theorem adB {n:Nat} {cs:List Value} {x:DataW H × List MemPlace} (h:DataW.trod enc Tryz.prog W base spare held n 38 cs=some x) (hb:Rows.uptoBulk x.1≤1048576):∃ (D:jh) (d:tJ),cs=D.cells∧zw (mg W) D d∧Fj d:=by
 obtain ⟨xs,m,hx,hl,hxl,hf⟩:=oC Ue h
 match cs,hl,xs,hxl with
 | [c0,c1,c2,c3,c4,c5,c6,c7,c8,c9,c10],_,[y0,y1,y2,y3],_ =>
  have h0:=hf 0 _ _ _ rfl;have h1:=hf 1 _ _ _ rfl;have h2:=hf 2 _ _ _ rfl;have h3:=hf 3 _ _ _ rfl;obtain ⟨l,q0,e0,r0,d0⟩:=adC h0;obtain ⟨hd,p,dd,ll,e1,r1,d1⟩:=Im h1;obtain ⟨rv,q2,e2,r2,d2⟩:=qb (dat:=dJ.dat) (sz:=3) (by omega) Tryz.underlying30 WG h2 (fun n cs' D Pl hh _=>adH hh);obtain ⟨s,a,b,c,d,e3,r3,d3⟩:=adI h3
  simp at e0 e1 e2 e3
  obtain ⟨rfl,rfl,rfl,rfl,rfl⟩:=e1;obtain ⟨rfl,rfl,rfl,rfl⟩:=e3;subst e0 e2
  have hD:Rows.uptoBulk x.1=Rows.uptoBulk y0.1+(Rows.uptoBulk y1.1+(Rows.uptoBulk y2.1+(Rows.uptoBulk y3.1+0)))+1:=by rw [hx];simp only [List.map_cons,List.map_nil,Rows.uptoBulk,Rows.uptoBulkAll]
  obtain ⟨x0,rfl⟩:=xU r0;obtain ⟨x1,rfl⟩:=xU r1.props;obtain ⟨x2,rfl⟩:=xU r1.bK;obtain ⟨x3,rfl⟩:=xU r1.layers;obtain ⟨x4,rfl⟩:=xU r2;obtain ⟨x5,rfl⟩:=xU r3.st;obtain ⟨x6,rfl⟩:=xU r3.li;obtain ⟨x7,rfl⟩:=xU r3.cm;obtain ⟨x8,rfl⟩:=xU r3.va;obtain ⟨hz1,hz2⟩:=d3.zn (by omega);have l2:=pq (rv.map dJ.dat);rw [List.length_map] at l2;refine ⟨⟨x0,x1,x2,x3,x4,x5,x6,x7,x8,hd.marks.ins,hd.marks.move⟩,⟨l,hd,rv,s⟩,rfl,⟨r0,r1,rfl,rfl,r2,r3⟩,⟨by show aS l≤_;omega,by show nC hd≤_;omega,by show rv.length≤_;omega,fun x hx=>?_,hz2,hz1⟩⟩;have:=Av (dat:=dJ.dat) hx
  simp only [dJ.dat,bP,mG] at this
  omega
end
end
end Go.Proofs.YthichnnlceeofaaGreat
