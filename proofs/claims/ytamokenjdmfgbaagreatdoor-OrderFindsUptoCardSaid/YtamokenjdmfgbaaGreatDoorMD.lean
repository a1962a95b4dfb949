/- Walks over values told whole: loops over maps and iterators, sorting by the shelf; no condition. -/
import Derived.Test.YtamokenjdmfgbaaGreatDoorMC
import Derived.Test.YtamokenjdmfgbaaGreatDoorMB
import Derived.Maps.RangeRun
import Derived.RangeFuncIn
import Derived.Test.YtamokenjdmfgbaaGreatDoorMA
import Derived.Shelf.SlSortCmp.WholeK
import Derived.Shelf.SlSortCmp.NoneTotal
namespace Go.Vw
open Go.RowKit Go.Am
variable [Drw]
omit [Drw] in
theorem lay_end {α:Type} (d:α):∀ (vs xs:List α) (r:Nat),xs.length≤r→wI vs.length xs (vs++List.replicate r d)=some (vs++xs++List.replicate (r - xs.length) d)
 | [],[],r,_=>by simp [wI]
 | [],x::xs,0,h=>by simp at h
 | [],x::xs,r+1,h=>by
   have ih:=lay_end d [] xs r (by simpa using h)
   simp only [List.length_nil,List.nil_append] at ih ⊢
   rw [List.replicate_succ,wI,ih]
   simp
 | v::vs,[],r,_=>by simp [wI]
 | v::vs,x::xs,r,h=>by
   have ih:=lay_end d vs (x::xs) r h
   simp only [List.length_cons,List.cons_append,wI] at ih ⊢
   rw [ih]
section
variable {P:Program} {S:Hp} {tb:Tab} {o:Oper} {ρ:Operand→Option V} {k:V→Hp→Prop}
omit [Drw] in
theorem elem_zero (hT:TabOk tb P) {el:TypeId} {sz:Nat} (he:elemB tb el sz=true):∃ z',(∀ w2:World,(zeroValue el).run P w2 = .ok z' w2)∧z'.cells.size=sz∧0 < sz∧yf tb el=true:=by
 unfold elemB at he
 split at he
 ·next z hz =>
  simp only [Bool.and_eq_true] at he
  obtain ⟨⟨⟨k1,k2⟩,k3⟩,k4⟩:=he
  unfold uw at hz
  cases hi:tb.info el with
  | none=>rw [hi] at hz; cases hz
  | some i =>
    rw [hi] at hz
    simp only at hz
    cases hz0:i.zero with
    | none=>rw [hz0] at hz; cases hz
    | some z0 =>
      rw [hz0] at hz; cases hz
      refine ⟨z0,fun w2=>?_,?_,by rw [Nat.blt_eq] at k3; exact k3,k4⟩
      ·simp only [zeroValue,Sem.run_bind,Am.run_typeInfo hT hi,Result.andThen]
       rw [hz0]
       rfl
      ·have:=((Is.const (fun _ _=>False) default z0).cells_of k1).length
       rw [Nat.eq_of_beq_eq_true k2] at this
       simpa using this.symm
 ·cases he
omit [Drw] in
theorem iss_any (F:Fz) (w:World):∀ us:List Value,Iss F w (List.replicate us.length .any) us
 | []=>.nil
 | _::us=>.cons (.any _) (iss_any F w us)
theorem qQ (hT:TabOk tb P) {c:Call} {t u el el2:TypeId} {x y:Operand} {tk2:Tok} {news:List (List V)} {f:HE→Hp} {sz:Nat} (ho:o.op = .call c) (hc:c.callee = .builtin .append) (hx':c.args=#[x,y]) (hat':c.argTypes=#[t,u])
  (ht:tb.under t=some (.slice el)) (hu:tb.under u=some (.slice el2)) (hs:tb.size el=some sz) (he:elemB tb el sz=true) (hx:ρ x=some (.slice .zero [])) (hy:ρ y=some (.slice tk2 news)) (hat:At S (.tl .no) f)
  (hn:∀ r∈news,r.length=sz) (hne:0 < news.length) (hl:news.length < 67108864)
  (h:∀ b' c' r',c' * sz=news.length * sz+r'→k (.ref b' 0 news.length c') (f (.cells b' (news.flatten++List.replicate r' .any) el))):OpS P o ρ S k :=
 OpS.mk (by rw [ho]; rfl) fun F w a s hf=>by
  have hvx:=hf _ _ hx
  have hvy:=hf _ _ hy
  obtain ⟨z',hz1,hz2,hspos,hlight⟩:=elem_zero hT he
  obtain ⟨new',hnv,hlx,hfn⟩:=qO (P:=P) hvy hn
  have hnl:new'.length=news.length * sz:=by rw [← hnv.length]; exact (yT news hn).1
  have conv:∀ {v:Value} {w':World},(Builtin.append_ #[t,u] o.type #[a.eval x,a.eval y]).run P w = .ok v w'→(execOp a.eval o).run P w = .ok (.value v) w':=fun {v w'} e=>x8 ho hc (by
   have hm:(#[x,y]:Array Operand).map a.eval=#[a.eval x,a.eval y]:=by simp
   rw [hx',hat',hm]
   simp only [builtin,Sem.run_bind,e,Result.andThen,Sem.run_pure])
  obtain ⟨old',hov,_,hfo⟩:=qO (P:=P) (sz:=sz) hvx (fun r hr=>by cases hr)
  have hold:old'=[]:=by cases hov; rfl
  subst hold
  have h0:∃ base,a.eval x = .slice base 0 0:=by
   generalize a.eval x=u at hvx
   cases hvx with
   | nilSlice _ ba=>exact ⟨ba,rfl⟩
   | slice g hl' hc' hv' hle' hxx htok =>
     have:_=0:=htok
     subst this
     exact ⟨_,rfl⟩
  obtain ⟨base,eb⟩:=h0
  rw [eb] at hfo
  obtain ⟨newCap,c1,c2⟩:=ws (P:=P) (w:=w) (ty:=o.type) (len:=0) (cap:=0) hT hu (fun k h=>by cases h) ht hs hlx (by omega) (by omega) hlight hz1 (hfo w.drew rfl) (hfn w.drew rfl)
  generalize hC:([]++new'++(Builtin.zeroCells z'.cells (newCap - (0+news.length))).toList).toArray=C at c2
  have hzl:(Builtin.zeroCells z'.cells (newCap - (0+news.length))).toList.length=(newCap - news.length) * sz:=by
   rw [Array.length_toList,size_zeroCells,hz2,Nat.zero_add]
  have hiss:Iss F w.drew (news.flatten++List.replicate ((newCap - news.length) * sz) .any) C.toList:=by
   rw [← hC]
   simp only [List.nil_append]
   refine All2.append (hnv.mono (vI F w)) ?_
   rw [← hzl]
   exact iss_any _ _ _
  obtain ⟨s',k'⟩:=s.drew.cells el hiss
  have hmul:newCap * sz=news.length * sz+(newCap - news.length) * sz:=by rw [← Nat.add_mul]; congr 1; omega
  refine .val (conv (by rw [eb]; exact c2)) (v:=.ref w.drew.heap.size 0 news.length newCap) ?_ (hat.swap s') ((Keep.drew F w S).trans (hat.swapK k')) (h _ _ _ hmul)
  rw [Nat.zero_add]
  exact .ref _ _ _ _
theorem qR (hT:TabOk tb P) {c:Call} {t u el el2:TypeId} {x y:Operand} {tk2:Tok} {news:List (List V)} {f:HE→Hp} {sz b n cp r:Nat} {vs:List V} (ho:o.op = .call c) (hc:c.callee = .builtin .append) (hx':c.args=#[x,y]) (hat':c.argTypes=#[t,u])
  (ht:tb.under t=some (.slice el)) (hu:tb.under u=some (.slice el2)) (hs:tb.size el=some sz) (he:elemB tb el sz=true) (hx:ρ x=some (.ref b 0 n cp)) (hy:ρ y=some (.slice tk2 news)) (hat:At S (.cells b (vs++List.replicate r .any) el) f)
  (hvs:vs.length=n * sz) (hcp:cp * sz=n * sz+r) (hn:∀ r∈news,r.length=sz) (hcell:∀ r∈news,zz r=true) (hl:n+news.length < 67108864)
  (h:∀ b' c' r',c' * sz=(n+news.length) * sz+r'→k (.ref b' 0 (n+news.length) c') (f (.cells b' (vs++news.flatten++List.replicate r' .any) el))):OpS P o ρ S k :=
 OpS.mk (by rw [ho]; rfl) fun F w a s hf=>by
  have hvx:=hf _ _ hx
  have hvy:=hf _ _ hy
  obtain ⟨z',hz1,hz2,hspos,hlight⟩:=elem_zero hT he
  obtain ⟨new',hnv,hlx,hfn⟩:=qO (P:=P) hvy hn
  have hnl:new'.length=news.length * sz:=by rw [← hnv.length]; exact (yT news hn).1
  have hnfl:news.flatten.length=news.length * sz:=(yT news hn).1
  have conv:∀ {v:Value} {w':World},(Builtin.append_ #[t,u] o.type #[a.eval x,a.eval y]).run P w = .ok v w'→(execOp a.eval o).run P w = .ok (.value v) w':=fun {v w'} e=>x8 ho hc (by
   have hm:(#[x,y]:Array Operand).map a.eval=#[a.eval x,a.eval y]:=by simp
   rw [hx',hat',hm]
   simp only [builtin,Sem.run_bind,e,Result.andThen,Sem.run_pure])
  have eb:a.eval x = .slice (some ⟨b,0,none⟩) n cp:=by
   generalize a.eval x=u at hvx
   cases hvx
   rfl
  obtain ⟨⟨C0,e1,hv0⟩,_⟩:=s.ok _ hat.mem
  by_cases hfit:n+news.length≤cp
  ·have hr:news.length * sz≤r:=by
    have:=Nat.mul_le_mul_right sz hfit
    rw [Nat.add_mul] at this
    omega
   have hlay:wI (n * sz) news.flatten (vs++List.replicate r .any)=some (vs++news.flatten++List.replicate (r - news.length * sz) .any):=by
    have:=lay_end V.any vs news.flatten r (by omega)
    rw [hvs,hnfl] at this
    exact this
   obtain ⟨C,eC,hsz,s',k'⟩:=s.store hat hlay hnv
   have hCs:C.size=vs.length+r:=by
    have e2:C0=C:=by rw [eC] at e1; cases e1; rfl
    subst e2
    have:=hv0.length
    simpa using this.symm
   have hst:=xD (P:=P) (b:=b) (o:=n * sz) new' 0 w C eC (vg hnv (qD hcell)) (by omega)
   rw [Nat.add_zero] at hst
   have e:=xT (P:=P) (w:=w) (w':=_) (ty:=o.type) (len:=n) (n:=news.length) (cap:=cp) (base:=some ⟨b,0,none⟩) (new:=new') hT hu (fun k h=>by cases h) ht hs hlx hfit (hfn w rfl) (by simp only [Am.Addr.add_eq,Nat.zero_add]; exact hst)
   exact .val (conv (by rw [eb]; exact e)) (v:=.ref b 0 (n+news.length) cp) (.ref _ _ _ _) s' k' (h _ _ _ (by rw [Nat.add_mul]; omega))
  ·have hold:∃ old',Iss F w vs old'∧old'.length=n * sz∧∀ j v,old'[j]?=some v→w.cell? ⟨b,0+j,none⟩=some v:=by
    refine ⟨C0.toList.take (n * sz),?_,?_,fun j v hj=>?_⟩
    ·have hlen:vs.length≤C0.toList.length:=by rw [← hv0.length]; simp
     refine All2.of_get (by simp only [List.length_take]; omega) fun i x y=>?_
     obtain ⟨u,e2,r2⟩:=hv0.get i vs[i] (by rw [List.getElem?_append_left (by omega)]; simp)
     have e3:(C0.toList.take (n * sz))[i]=u:=by
      rw [List.getElem_take]
      have:=List.getElem?_eq_some_iff.1 e2
      exact this.2
     rw [e3]; exact r2
    ·have hlen:=hv0.length
     simp only [List.length_append,List.length_replicate] at hlen
     simp only [List.length_take]
     omega
    ·rw [Nat.zero_add]
     unfold World.cell?
     rw [e1]
     obtain ⟨hj1,hj2⟩:=List.getElem?_eq_some_iff.1 hj
     rw [List.getElem_take] at hj2
     simp only [Option.isSome_none,Bool.false_eq_true,if_false]
     rw [List.length_take] at hj1
     have hj3:j < C0.size:=by simpa using (by omega:j < C0.toList.length)
     rw [Array.getElem?_eq_getElem hj3]
     simpa using hj2
   obtain ⟨old',hov,hol,hoc⟩:=hold
   have hfo:∀ w2:World,w2.heap=w.heap→(Builtin.firstCells sz n (.slice (some ⟨b,0,none⟩) n cp)).run P w2 = .ok old'.toArray w2:=fun w2 hw=>by
    refine run_firstCells_some w2 sz n _ n cp old' hol fun j v hj=>?_
    rw [Am.Addr.add_eq]
    have hcw:∀ a:Addr,w2.cell? a=w.cell? a:=fun a=>World.cell?_of_block (by rw [hw])
    rw [hcw]
    exact hoc j v hj
   obtain ⟨newCap,c1,c2⟩:=ws (P:=P) (w:=w) (ty:=o.type) hT hu (fun k h=>by cases h) ht hs hlx hfit hl hlight hz1 (hfo w.drew rfl) (hfn w.drew rfl)
   generalize hC:(old'++new'++(Builtin.zeroCells z'.cells (newCap - (n+news.length))).toList).toArray=C at c2
   have hzl:(Builtin.zeroCells z'.cells (newCap - (n+news.length))).toList.length=(newCap - (n+news.length)) * sz:=by
    rw [Array.length_toList,size_zeroCells,hz2]
   have hiss:Iss F w.drew (vs++news.flatten++List.replicate ((newCap - (n+news.length)) * sz) .any) C.toList:=by
    rw [← hC]
    refine All2.append (All2.append (hov.mono (vI F w)) (hnv.mono (vI F w))) ?_
    rw [← hzl]
    exact iss_any _ _ _
   obtain ⟨s',k'⟩:=s.drew.cells el hiss
   have hmul:newCap * sz=(n+news.length) * sz+(newCap - (n+news.length)) * sz:=by rw [← Nat.add_mul]; congr 1; omega
   exact .val (conv (by rw [eb]; exact c2)) (v:=.ref w.drew.heap.size 0 (n+news.length) newCap) (.ref _ _ _ _) (hat.swap s') ((Keep.drew F w S).trans (hat.swapK k')) (h _ _ _ hmul)
end
end Go.Vw
namespace Go.Vw
open Go.RowKit Go.Am
variable [Drw]
section
variable {P:Program} {S:Hp} {tb:Tab} {o:Oper} {ρ:Operand→Option V} {k:V→Hp→Prop}
theorem kg (hT:TabOk tb P) {t el:TypeId} {n:Nat} (ho:o.op = .buildSlice t 0 #[]) (ht:tb.under t=some (.slice el)) (hs:tb.size el=some n) (h:k (.slice .zero []) S):OpS P o ρ S k :=
 OpS.mk (by rw [ho]; rfl) fun F w a s hr=>by
  have hm:((#[]:Array (Nat×Operand)).map (fun p=>(p.1,a.eval p.2))).toList=[]:=by simp
  have hf:∀ (pl:Nat→Option (Nat×Nat)) (c:Array Value),Instr.fill pl c []=some c:=fun _ _=>rfl
  have run:∃ c',(execOp a.eval o).run P w = .ok (.value (.slice (some ⟨w.heap.size,0,none⟩) 0 0)) (w.alloc (.cells c' el)):=by
   refine ⟨(Array.range (0 * n)).map (fun k=>(#[]:Array Value)[k % (#[]:Array Value).size]!),?_⟩
   simp only [execOp,ho,Instr.buildSlice,Sem.run_bind,zF hT ht,Am.run_size hT hs,Sem.run_pure,Result.andThen,if_pos (Nat.zero_mul n)]
   rw [if_neg (by omega)]
   simp only [Sem.run_bind,Sem.run_pure,Result.andThen,hm,hf,xd]
  obtain ⟨c',run⟩:=run
  obtain ⟨s',k'⟩:=s.rowsP c' el c'.size n (Nat.le_refl _)
  exact .val run (.nilSlice _ _) (Sub.sat (.drop (.refl _)) s') (Sub.keep' (.drop (.refl _)) k') h
end
def Turn (S S':Hp):Prop:=∀ F w,Sat F w S→∃ F',Sat F' w S'∧Keep F w S F' w S'
theorem Turn.perm {S S':Hp} (h:List.Perm S S'):Turn S S':=fun F w s=>⟨F,s.perm h,(Keep.refl _ _ _).perm h⟩
theorem Turn.frame {S S':Hp} (h:Turn S S') (R:Hp):Turn (S++R) (S'++R):=fun F w s=>by
 obtain ⟨F',s',k'⟩:=h F w (s.sub (List.sublist_append_left S R))
 exact ⟨F',s.frame k' s',k'.frame⟩
section
variable {P:Program} {σ:Sg} {K:List Kt} {fr:Fr} {S:Hp} {Q:Exit→Fr→Hp→Prop} {ops:Array Oper} {l:List Oper}
theorem VAt.turn {G:Act→World→Prop} {S':Hp} (x:Turn S S') (h:VAt σ G fr S'):VAt σ G fr S:=fun F w a s k=>by
 obtain ⟨F',s',k'⟩:=x F w s.sat
 refine h F' w a ⟨s',fun t v e=>?_,s.size,s.defers⟩ (k.trans k')
 obtain ⟨u,e2,r⟩:=s.fr t v e
 exact ⟨u,e2,r.mono k'.toGrow⟩
theorem run_turn {c:Code} {S':Hp} (x:Turn S S') (h:VT P σ (.run c K fr) S' Q):zv P σ c K fr S Q:=VAt.turn x h
theorem ops_turn {S':Hp} (x:Turn S S') (h:VT P σ (.ops ops l K fr) S' Q):yE P σ ops l K fr S Q:=fun i hi=>VAt.turn x (h i hi)
end
def Cold (F:Fz) (w:World):HE→Prop
 | .cells b cs e=>(∀ k,k < cs.length→F b k)∧∃ c,w.heap[b]?=some (.cells c e (0,0))∧Iss F w cs c.toList
 | _=>True
theorem Cold.mono {F:Fz} {w:World} {F':Fz} {S S':Hp} (k:Keep F w S F' w S') {x:HE} (h:Cold F w x):Cold F' w x:=by
 cases x with
 | cells b cs e =>
   obtain ⟨h1,c,h2,h3⟩:=h
   exact ⟨fun j hj=>k.fz _ _ (h1 j hj),c,h2,h3.mono k.toGrow⟩
 | _=>trivial
theorem zBF {F:Fz} {w:World}:∀ (l pre post:Hp),(∀ x∈l,(∃ b cs e,x = .cells b cs e)∨x = .tl .no)→Sat F w (pre++(l++post))→∃ F',Sat F' w (pre++(l.map (fun _=>HE.tl .no)++post))∧Keep F w (pre++(l++post)) F' w (pre++(l.map (fun _=>HE.tl .no)++post))∧∀ x∈l,Cold F' w x
 | [],pre,post,_,s=>⟨F,s,.refl _ _ _,fun x hx=>by cases hx⟩
 | x::l,pre,post,hl,s=>by
   have e1:pre++(x::l++post)=(pre++[x])++(l++post):=by simp
   rw [e1] at s
   obtain ⟨F1,s1,k1,c1⟩:=zBF l (pre++[x]) post (fun y hy=>hl y (List.mem_cons_of_mem _ hy)) s
   rw [← e1] at k1
   have e2:∀ y:HE,(pre++[y])++(l.map (fun _=>HE.tl .no)++post)=pre++(y::(l.map (fun _=>HE.tl .no)++post)):=fun y=>by simp
   rw [e2] at s1 k1
   rcases hl x (List.mem_cons_self ..) with ⟨b,cs,e,rfl⟩ | rfl
   ·have hat:At (pre++(HE.cells b cs e::(l.map (fun _=>HE.tl .no)++post))) (.cells b cs e) (fun y=>pre++(y::(l.map (fun _=>HE.tl .no)++post))):=by
     clear s1 k1 c1 s e1 hl e2
     induction pre with
     | nil=>exact .here
     | cons p pre ih=>exact .there ih
    obtain ⟨F2,s2,k2,h2,c,h3,h4⟩:=s1.freeze hat
    refine ⟨F2,s2,k1.trans k2,fun y hy=>?_⟩
    rcases List.mem_cons.1 hy with rfl | hy
    ·exact ⟨h2,c,h3,h4⟩
    ·exact (c1 y hy).mono k2
   ·refine ⟨F1,s1,k1,fun y hy=>?_⟩
    rcases List.mem_cons.1 hy with rfl | hy
    ·trivial
    ·exact c1 y hy
end Go.Vw
namespace Go.Vw
open Go.RowKit Go.Am
variable [Drw]
section
variable {P:Program} {ρ:Operand→Option V} {S:Hp} {k:V→Hp→Prop} {o:Oper} {tb:Tab}
omit [Drw] in
theorem Sat.swap {F:Fz} {w:World} (h:Sat F w S) {x y:HE} {f:HE→Hp} (hat:At S x f) (e:x.blk=y.blk) (ok:HOk F w y):Sat F w (f y)∧Hp.dom (f y)=Hp.dom S:=by
 obtain ⟨l,r,rfl,hf⟩:=hat.split
 have hd:Hp.dom (f y)=Hp.dom (l++x::r):=by rw [hf y]; simp [Hp.dom,List.filterMap_append,List.filterMap_cons,e]
 refine ⟨⟨h.fz,by rw [hd]; exact h.nodup,fun z hz=>?_⟩,hd⟩
 rw [hf y] at hz
 rcases List.mem_append.1 hz with h1 | h1
 ·exact h.ok z (List.mem_append_left _ h1)
 ·rcases List.mem_cons.1 h1 with rfl | h1
  ·exact ok
  ·exact h.ok z (List.mem_append_right _ (List.mem_cons_of_mem _ h1))
theorem Sat.garbage {F:Fz} {w:World} (h:Sat F w S) (o:Obj):Sat F (w.alloc o) S∧Keep F w S F (w.alloc o) S:=by
 have g:=zA3 h o
 refine ⟨⟨fun b q hb=>?_,h.nodup,fun y hy=>(h.ok y hy).mono g fun b hb=>⟨Below.heap_alloc _ _ _ ((h.ok y hy).lt hb),fun _ h=>h⟩⟩,⟨g,rfl,rfl,rfl,by simp,fun b hb _=>⟨Below.heap_alloc _ _ _ hb,fun _ h=>h⟩,fun b hb=>.inl hb,fun _=>Nat.le_refl _⟩⟩
 obtain ⟨v,e⟩:=h.fz b q hb
 exact ⟨v,(g.cell b q hb).trans e⟩
def stamped (es':Array MapEntry) (es:List (V×V)):List (Nat×V×V):=(es'.toList.map (·.born)).zip es
omit [Drw] in
theorem zBw {F:Fz} {w:World}:∀ {es:List (V×V)} {l:List MapEntry},All2 (MR F w) es l →
  ((l.map (·.born)).zip es).map (·.2)=es∧((l.map (·.born)).zip es).map (·.1)=l.map (·.born)∧All2 (MRB F w) ((l.map (·.born)).zip es) l
 | _,_,.nil=>⟨rfl,rfl,.nil⟩
 | _,_,.cons h r=>by
   obtain ⟨a,b,c⟩:=zBw r
   exact ⟨by simpa using a,by simpa using b,.cons ⟨rfl,h.key,h.val⟩ c⟩
theorem s_next {x:Operand} {r b cl off:Nat} {seen:List Nat} {es:List (Nat×V×V)} {f:HE→Hp} (ho:o.op = .next x false) (hx:ρ x=some (.ptr r off)) (hoff:off=0) (hat:At S (.iter r b cl seen) f) (hm:HE.mapB b es cl∈S)
  (h0:(∀ e∈es,e.1∈seen)→k (.tup [.bool false]) S) (h1:∀ e∈es,e.1 ∉ seen→k (.tup [.bool true,e.2.1,e.2.2]) (f (.iter r b cl (seen++[e.1])))):OpS P o ρ S k :=
 OpS.mk (by rw [ho]; rfl) fun F w a s hf=>by
  subst hoff
  have hr:w.heap[r]?=some (.mapIter (some b) cl seen.toArray cl):=s.ok _ hat.mem
  obtain ⟨es',e1,ha,bn⟩:=s.ok _ hm
  have hv:=hf _ _ hx
  generalize hb:a.eval x=u at hv
  cases hv
  have hmem:∀ m∈es'.toList,∃ e∈es,MRB F w e m:=fun m hm=>by
   obtain ⟨i,hi,rfl⟩:=List.mem_iff_getElem.1 hm
   have hl:=ha.length
   obtain ⟨q,q1,q2⟩:=ha.get i _ (List.getElem?_eq_getElem (by omega:i < es.length))
   rw [List.getElem?_eq_getElem hi] at q1; cases q1
   exact ⟨_,List.getElem_mem _,q2⟩
  have hmem2:∀ e∈es,∃ m∈es'.toList,MRB F w e m:=fun e he=>by
   obtain ⟨i,hi,rfl⟩:=List.mem_iff_getElem.1 he
   obtain ⟨q,q1,q2⟩:=ha.get i _ (List.getElem?_eq_getElem hi)
   exact ⟨q,List.mem_of_getElem? q1,q2⟩
  rcases run_next_at (P:=P) w o.type r b cl cl seen.toArray es' cl hr e1 bn.2 (Nat.le_refl _) with ⟨z,e2⟩ | ⟨m,m1,w1,hw1,e2⟩
  ·refine .val (w':=w) (u:=.tuple #[.bool false]) ?_ (Is.tup_of (.cons (.bool _) .nil)) s (.refl _ _ _) (h0 fun e he=>?_)
   ·simp only [execOp,ho,hb,Sem.run_bind,e2,Result.andThen,Sem.run_pure]
   ·obtain ⟨m,m1,m2⟩:=hmem2 e he
    rcases Classical.em (e.1∈seen) with h | h
    ·exact h
    ·exfalso
     have:m∈leftOf es' seen.toArray:=by
      unfold leftOf
      rw [Array.mem_filter]
      exact ⟨Array.mem_toList_iff.1 m1,by simpa [m2.born] using h⟩
     rw [Array.eq_empty_of_size_eq_zero z] at this
     simp at this
  ·have m2:m∈es'.toList∧m.born ∉ seen:=by
    have:m∈leftOf es' seen.toArray:=Array.mem_toList_iff.1 m1
    unfold leftOf at this
    rw [Array.mem_filter] at this
    exact ⟨Array.mem_toList_iff.2 this.1,by simpa using this.2⟩
   obtain ⟨e,he,mb⟩:=hmem m m2.1
   have hrw:r < w.heap.size:=(Array.getElem?_eq_some_iff.1 hr).1
   have hdr:w1.heap=w.heap:=by rcases hw1 with rfl | rfl <;> rfl
   have hcell:∀ (b q:Nat),w1.cell? ⟨b,q,none⟩=w.cell? ⟨b,q,none⟩:=fun b q=>by unfold World.cell?; rw [hdr]
   have hnf:∀ q,¬ F r q:=fun q hq=>by
    obtain ⟨v,e3⟩:=s.fz r q hq
    simp [World.cell?,hr] at e3
   have hst:Go.ChangeMaps.setBlock w1 r (.mapIter (some b) cl (seen.toArray.push m.born) cl)=w1.putObj r (.mapIter (some b) cl (seen.toArray.push m.born) cl):=rfl
   have g1:Grow F w F w1:=⟨fun _ _ h=>h,fun b q _=>hcell b q⟩
   have s1:Sat F w1 S:=⟨fun b q hq=>by rw [hcell]; exact s.fz b q hq,s.nodup,fun y hy=>(s.ok y hy).mono g1 fun b _=>⟨by rw [hdr],fun _ h=>h⟩⟩
   have k1:Keep F w S F w1 S:=by
    rcases hw1 with rfl | rfl
    ·exact .refl _ _ _
    ·exact ⟨g1,rfl,rfl,rfl,Nat.le_refl _,fun _ _ _=>⟨rfl,fun _ h=>h⟩,fun _ h=>.inl h,fun _=>Nat.le_succ _⟩
   have hr1:w1.heap[r]?=some (.mapIter (some b) cl seen.toArray cl):=by rw [hdr]; exact hr
   obtain ⟨s2,k2⟩:=s1.put (F':=F) (o:=.mapIter (some b) cl (seen.toArray.push m.born) cl) hat rfl (y:=.iter r b cl (seen++[e.1])) rfl (fun _ _ h=>h) (fun _ _ _ h=>h) (fun q hq=>absurd hq (hnf q)) (fun q hq=>absurd hq (hnf q))
    (by
     show (w1.putObj r _).heap[r]?=_
     rw [World.putObj_heap_same (by rw [hdr]; exact hrw),mb.born]
     simp)
   have g2:=k2.toGrow
   refine .val (w':=w1.putObj r (.mapIter (some b) cl (seen.toArray.push m.born) cl)) (u:=.tuple #[.bool true,m.key,m.val]) ?_ (Is.tup_of (.cons (.bool _) (.cons ((mb.key.mono g1).mono g2) (.cons ((mb.val.mono g1).mono g2) .nil)))) s2 (k1.trans k2) (h1 e he (by rw [← mb.born]; exact m2.2))
   simp only [execOp,ho,hb,Sem.run_bind,e2,Result.andThen,Sem.run_pure,hst]
theorem s_entry {x:Operand} {r b cl off:Nat} {seen:List Nat} {es:List (Nat×V×V)} {e:Nat×V×V} (ho:o.op = .entry x) (hx:ρ x=some (.ptr r off)) (hoff:off=0) (hat:HE.iter r b cl (seen++[e.1])∈S) (hm:HE.mapB b es cl∈S) (he:e∈es) (_hn:(es.map (·.1)).Nodup)
  (h:k (.tup [e.2.1,e.2.2]) S):OpS P o ρ S k :=
 OpS.mk (by rw [ho]; rfl) fun F w a s hf=>by
  subst hoff
  have hr:w.heap[r]?=some (.mapIter (some b) cl (seen++[e.1]).toArray cl):=s.ok _ hat
  obtain ⟨es',e1,ha,bn⟩:=s.ok _ hm
  have hv:=hf _ _ hx
  generalize hb:a.eval x=u at hv
  cases hv
  obtain ⟨i,hi,rfl⟩:=List.mem_iff_getElem.1 he
  obtain ⟨m,q1,q2⟩:=ha.get i _ (List.getElem?_eq_getElem hi)
  have hr':w.heap[r]?=some (.mapIter (some b) cl (seen.toArray.push m.born) cl):=by rw [hr,q2.born]; simp
  have run:=run_entry_at (P:=P) w r b cl seen.toArray es' cl m hr' e1 (List.mem_of_getElem? q1) bn.1
  refine .val (w':=w) (u:=.tuple #[m.key,m.val]) ?_ (Is.tup_of (.cons q2.key (.cons q2.val .nil))) s (.refl _ _ _) h
  simp only [execOp,ho,hb,Sem.run_bind,run,Result.andThen,Sem.run_pure]
end
end Go.Vw
namespace Go.Vw
open Go.RowKit Go.Am
variable [Drw]
section
variable {P:Program} {ρ:Operand→Option V} {S:Hp} {k:V→Hp→Prop} {o:Oper} {tb:Tab} {σ:Sg} {K:List Kt} {fr:Fr} {Q:Exit→Fr→Hp→Prop}
def VY (P:Program) (l:Nat) (args:List V) (S:Hp) (Q:V→Hp→Prop):Prop:=∀ F w (us:Array Value),Sat F w S→Iss F w args us.toList →
 ∃ f tm asg body,(Instr.yield l us).run P w = .ok (.round l f tm asg body) w∧∀ n,RoundIn Fence.wide n P l f tm asg body w fun e w'=>∃ v u F' S',e = .returned u∧Is F' w' v u∧Sat F' w' S'∧Keep F w S F' w' S'∧Q v S'
theorem VY.mono {l:Nat} {args:List V} {Q Q':V→Hp→Prop} (h:VY P l args S Q) (hk:∀ v S',Q v S'→Q' v S'):VY P l args S Q':=fun F w us s a=>by
 obtain ⟨f,tm,asg,body,e,hc⟩:=h F w us s a
 exact ⟨f,tm,asg,body,e,fun n=>(hc n).mono fun _ _ ⟨v,u,F',S',e1,e2,e3,e4,e5⟩=>⟨v,u,F',S',e1,e2,e3,e4,hk v S' e5⟩⟩
theorem VY.frame {l:Nat} {args:List V} {Q:V→Hp→Prop} (h:VY P l args S Q) (R:Hp):VY P l args (S++R) fun v S'=>∃ S1,S'=S1++R∧Q v S1:=fun F w us s a=>by
 obtain ⟨f,tm,asg,body,e,hc⟩:=h F w us (s.sub (List.sublist_append_left S R)) a
 refine ⟨f,tm,asg,body,e,fun n=>(hc n).mono ?_⟩
 rintro e w' ⟨v,u,F',S',e1,e2,e3,e4,e5⟩
 exact ⟨v,u,F',S'++R,e1,e2,s.frame e4 e3,e4.frame,S',rfl,e5⟩
theorem s_yield {c:Call} {x:Operand} {l:Nat} {args:List V} (ho:o.op = .call c) (hc:c.callee = .value x) (hx:ρ x=some (.yield l)) (ha:valsV ρ c.args.toList=some args) (h:VY P l args S k):OpS P o ρ S k :=
 OpS.mk (by rw [ho]; rfl) fun F w a s hr=>by
  have hv:=hr _ _ hx
  generalize hu:a.eval x=u at hv
  cases hv
  have hargs:Iss F w args (#[]++c.args.map a.eval:Array Value).toList:=by
   simp only [Array.empty_append,Array.toList_map]
   exact ve hr ha
  obtain ⟨f,tm,asg,body,e,hc2⟩:=h F w _ s hargs
  refine .inr (.inr ⟨l,_,f,tm,asg,body,?_,e,hc2⟩)
  simp only [execOp,ho,resolve,hc,hu,Deferred.ofValue,Sem.run_bind,Sem.run_pure,Result.andThen,invoke]
def layFr:List Tmp→List V→Fr→Fr
 | p::ps,v::vs,fr=>layFr ps vs ((p,v)::fr)
 | _,_,fr=>fr
def belowT (n:Nat):List Tmp→Bool
 | []=>true
 | p::ps=>cond (Nat.blt p n) (belowT n ps) false
omit [Drw] in
theorem zDL {F:Fz} {w:World} {n:Nat}:∀ {ps:List Tmp} {vs:List V} {us:List Value} {fr:Fr} {tm:Array Value},Iss F w vs us→FrIs F w fr tm→tm.size=n→belowT n ps=true →
  FrIs F w (layFr ps vs fr) ((ps.zip us).foldl (fun tmps (x:Tmp×Value)=>tmps.setIfInBounds x.1 x.2) tm)
 | [],_,_,_,_,_,h,_,_=>by simpa [layFr] using h
 | _::_,_,_,_,_,.nil,h,_,_=>by simpa [layFr] using h
 | p::ps,_,_,fr,tm,.cons h1 h2,h,hs,hb=>by
   unfold belowT at hb
   cases hp:Nat.blt p n
   ·rw [hp] at hb; cases hb
   rw [hp] at hb
   simp only [cond_true] at hb
   have hpl:p < n:=by simpa [Nat.blt_eq] using hp
   refine zDL (n:=n) (tm:=tm.setIfInBounds p _) h2 (fun t v e=>?_) (by simp [hs]) hb
   rw [x6] at e
   split at e
   ·next e'=>subst e'; cases e; exact ⟨_,by simp [hs,hpl],h1⟩
   ·next e' =>
    obtain ⟨u,q1,q2⟩:=h t v e
    exact ⟨u,by rw [Array.getElem?_setIfInBounds_ne e']; exact q1,q2⟩
omit [Drw] in
theorem lay_size:∀ (ps:List (Tmp×Value)) (tm:Array Value),(ps.foldl (fun tmps (x:Tmp×Value)=>tmps.setIfInBounds x.1 x.2) tm).size=tm.size
 | [],_=>rfl
 | _::ps,_=>by rw [List.foldl_cons,lay_size ps]; simp
theorem put_loop {F:Fz} {w:World} {l:Nat} {b b':Bool} {L:LoopV} {lr:Loop} {f:HE→Hp} (s:Sat F w S) (hat:At S (.loop b l L) f) (e:w.heap[l]?=some (.loop lr)) (hl:LoopIs F w b L lr) (st:LoopState) (hst:st=if b' then .busy else .ready) :
  Sat F (w.putObj l (.loop { lr with state:=st })) (f (.loop b' l L))∧Keep F w S F (w.putObj l (.loop { lr with state:=st })) (f (.loop b' l L)):=by
 have hnf:∀ q,¬ F l q:=fun q hq=>by
  obtain ⟨v,e3⟩:=s.fz l q hq
  simp [World.cell?,e] at e3
 have hlt:l < w.heap.size:=(Array.getElem?_eq_some_iff.1 e).1
 have g:Grow F w F (w.putObj l (.loop { lr with state:=st })):=⟨fun _ _ h=>h,fun b' q hq=>xX w _ fun e=>by subst e; exact hnf q hq⟩
 exact s.put (F':=F) hat rfl (y:=.loop b' l L) rfl (fun _ _ h=>h) (fun _ _ _ h=>h) (fun q hq=>absurd hq (hnf q)) (fun q hq=>absurd hq (hnf q))
  ⟨_,World.putObj_heap_same hlt,{ hl with state:=hst,fr:=hl.fr.mono g }⟩
theorem VY.of {l:Nat} {L:LoopV} {args:List V} {Q:V→Hp→Prop} {f:HE→Hp} (hat:At S (.loop false l L) f) (hn:L.ps.size=args.length) (hb:belowT L.n L.ps.toList=true)
  (h:∀ m F w S0,VT P ⟨some l,m,L.n,F,w,S0,[]⟩ (.run L.asg [] (layFr L.ps.toList args L.fr)) S fun e fr1 S1=>e = .normal∧∃ f1,At S1 (.loop false l L) f1 ∧
   ∀ F w S0 ds,VT P ⟨some l,m,L.n,F,w,S0,ds⟩ (.run L.body [] fr1) (f1 (.loop true l L)) fun e _ S2=>e = .normal∧∃ f2,At S2 (.loop true l L) f2∧Q (.bool true) (f2 (.loop false l L))):VY P l args S Q:=fun F w us s a=>by
 obtain ⟨lr,e1,hl⟩:=s.ok _ hat.mem
 have hlen:us.size=lr.params.size:=by rw [hl.params,hn]; have:=a.length; simp at this; omega
 refine ⟨lr.fn,_,lr.assign,lr.body,run_yield (P:=P) e1 hlen,fun n=>roundIn_of_wpIn trivial ?_⟩
 have htm:(lr.params.zip us).foldl (fun tmps (t,a)=>tmps.setIfInBounds t a) lr.tmps=(L.ps.toList.zip us.toList).foldl (fun tmps (x:Tmp×Value)=>tmps.setIfInBounds x.1 x.2) lr.tmps:=by
  rw [hl.params,← Array.foldl_toList,Array.toList_zip]
 rw [htm,hl.assign]
 have key:=h n F w S F w { tmps:=(L.ps.toList.zip us.toList).foldl (fun tmps (x:Tmp×Value)=>tmps.setIfInBounds x.1 x.2) lr.tmps,defers:=[] } ⟨s,zDL a hl.fr hl.size hb,(lay_size _ _).trans hl.size,rfl⟩ (.refl _ _ _)
 refine wpIn_mono key fun e a1 w1 hq=>?_
 obtain ⟨F1,fr1,S1,Ds,s1,_,k1,rfl,f1,hat1,hbody⟩:=hq
 obtain ⟨lr1,e2,hl1⟩:=s1.sat.ok _ hat1.mem
 obtain ⟨s2,k2⟩:=put_loop (b':=true) s1.sat hat1 e2 hl1 .busy rfl
 refine ⟨_,run_beginRound (P:=P) e2 hl1.state,?_⟩
 rw [hl.body]
 have key2:=hbody F1 _ _ a1.defers F1 _ a1 ⟨s2,s1.fr.mono k2.toGrow,s1.size,rfl⟩ (.refl _ _ _)
 refine wpIn_mono key2 fun e a2 w2 hq=>?_
 obtain ⟨F2,fr2,S2,Ds2,s3,_,k3,rfl,f2,hat2,hQ⟩:=hq
 obtain ⟨lr2,e3,hl2⟩:=s3.sat.ok _ hat2.mem
 refine ⟨_,_,run_endRound (P:=P) none e3,.bool true,_,F2,f2 (.loop false l L),rfl,.bool _,?_,?_,hQ⟩
 ·have:=put_loop (b':=false) s3.sat hat2 e3 hl2 .ready rfl
  have q:({ lr2 with state:=.ready }:Loop)={ lr2 with state:=if (none:Option Code).isNone then .ready else .done,pending:=none }:=by
   have:=hl2.pending
   cases lr2; simp_all
  rw [q] at this
  exact this.1
 ·have:=put_loop (b':=false) s3.sat hat2 e3 hl2 .ready rfl
  have q:({ lr2 with state:=.ready }:Loop)={ lr2 with state:=if (none:Option Code).isNone then .ready else .done,pending:=none }:=by
   have:=hl2.pending
   cases lr2; simp_all
  rw [q] at this
  exact ((k1.trans k2).trans k3).trans this.2
def noLoop:List Kt→Bool
 | []=>true
 | .loop _::_=>false
 | _::K=>noLoop K
theorem zBG {σ':Sg} (hr:σ'.r=σ.r) (hm:σ'.m=σ.m) {R R':Exit→Act→World→Prop} (h:∀ e a w,R e a w→R' e a w):∀ {K:List Kt},noLoop K=true→∀ e a w,y8 P σ' K R e a w→y8 P σ K R' e a w
 | [],_,e,a,w,x=>h e a w x
 | .loop _::_,q,_,_,_,_=>by cases q
 | .code y::K,q,e,a,w,x=>by
   have ih:=zBG hr hm h (K:=K) q
   show Exit.then (y.wpIn (FF σ.r) σ.m P (y8 P σ K R')) (y8 P σ K R') e a w
   have x':Exit.then (y.wpIn (FF σ'.r) σ'.m P (y8 P σ' K R)) (y8 P σ' K R) e a w:=x
   rw [hr,hm] at x'
   cases e with
   | normal=>exact wpIn_mono x' ih
   | _=>exact ih _ _ _ x'
 | .block id::K,q,e,a,w,x=>by
   have ih:=zBG hr hm h (K:=K) q
   show Exit.inBlock id (y8 P σ K R') e a w
   have x':Exit.inBlock id (y8 P σ' K R) e a w:=x
   cases e with
   | exit j =>
     have x2:if j=id then y8 P σ' K R .normal a w else y8 P σ' K R (.exit j) a w:=x'
     show if j=id then y8 P σ K R' .normal a w else y8 P σ K R' (.exit j) a w
     by_cases hj:j=id
     ·rw [if_pos hj] at x2 ⊢; exact ih _ _ _ x2
     ·rw [if_neg hj] at x2 ⊢; exact ih _ _ _ x2
   | _=>exact ih _ _ _ x'
theorem run_rangeFunc (hT:TabOk tb P) {x:Operand} {ps:Array Tmp} {asg body:Code} {g:FuncId} {first cap:List V} {fn:Func} {gb:Code} (hr:σ.r=none) (hK:noLoop K=true) (hx:fr.val x=some (.func g first cap)) (hf:tb.func g=some fn) (hb:fn.body=some gb)
  (h:∀ l,VC P g (first++[.yield l]++cap) (.loop false l ⟨σ.n,fr,ps,asg,body⟩::S) fun _ S'=>∃ S2,S' = .loop false l ⟨σ.n,fr,ps,asg,body⟩::S2∧∀ σ':Sg,σ'.r=none→σ'.n=σ.n→VT P σ' (.next K fr) S2 Q):zv P σ (.rangeFunc x ps asg body) K fr S Q:=fun F w a s k=>by
 have hv:=s.fr.val hx
 generalize hu:a.eval x=u at hv
 cases hv with
 | func h1 h2 h3 h4 =>
   next first' cap' =>
   refine wpIn_rangeFunc fun fid _=>?_
   obtain ⟨s1,k1⟩:=s.sat.garbage (.deferred (some []))
   have hD:w.heap.size ∉ S.dom:=fun hm=>Nat.lt_irrefl _ (s.sat.lt hm)
   let L:LoopV:=⟨σ.n,fr,ps,asg,body⟩
   let o2:Obj:=.loop { state:=.ready,pending:=none,fn:=fid,tmps:=a.tmps,params:=ps,assign:=asg,body:=body,defers:=w.heap.size }
   have hsz:(w.alloc (.deferred (some []))).heap.size=w.heap.size+1:=by simp
   obtain ⟨s2,k2⟩:=s1.new (o:=o2) (x:=.loop false (w.alloc (.deferred (some []))).heap.size L) rfl
    ⟨_,World.alloc_heap_new _ _,rfl,rfl,(s.fr.mono k1.toGrow).mono (zA3 s1 o2),s.size,rfl,rfl,rfl⟩
   generalize hw2:(w.alloc (.deferred (some []))).alloc o2=w2 at s2 k2
   generalize hl:(w.alloc (.deferred (some []))).heap.size=l at s2 k2
   have hD2:w2.heap[w.heap.size]?=some (.deferred (some [])):=by
    rw [← hw2,Below.heap_alloc _ _ _ (by rw [hsz]; exact Nat.lt_succ_self _)]
    exact World.alloc_heap_new w _
   have hDl:w.heap.size≠l:=by rw [← hl,hsz]; omega
   have hargs:Iss F w2 (first++[.yield l]++cap) ((first'++#[Value.func (.yield l) #[] #[]])++cap').toList:=by
    simp only [Array.toList_append]
    have g:=(k1.trans k2).toGrow
    exact All2.append (All2.append ((Iss.of_array h1 h2).mono g) (.cons (.yield l) .nil)) ((Iss.of_array h3 h4).mono g)
   have hcall:=h l F w2 _ s2 hargs
   rw [show (FF σ.r).round=none from hr]
   refine ⟨l,[markD w.heap.size],w2,{ target:=.fn (.func g) cap',args:=first'++#[Value.func (.yield l) #[] #[]] },w2,g,_,w2,?_,?_,fun _ _=>trivial,xf hT hf hb _ w2,(fun hd=>by cases hd),?_⟩
   ·rw [← hl,← hw2,hsz]
    exact run_enterLoop_outer (P:=P) (w:=w) fid a.tmps ps asg body
   ·simp only [resolve,hu,Deferred.ofValue,Sem.run_pure]
    simp [Act.eval]
   ·have hcs:CallsIn (FF σ.r) (σ.m - 1) P g _ w2 _:=(callsIn_wide (n:=σ.m - 1)).2 hcall
    refine hcs.mono ?_
    rintro en w3 ⟨v,u,F3,S',rfl,r3,s3,k3,S2,rfl,hnext⟩
    obtain ⟨lr,q1,q2⟩:=s3.ok _ (List.mem_cons_self ..)
    have hld:l ∉ Hp.dom S2:=by
     have:=s3.nodup
     rw [xk] at this
     exact (List.nodup_cons.1 this).1
    have sub:Sub (.loop false l L::S2) S2:=.drop (.refl _)
    have k13:=(k1.trans k2).trans k3
    have hl0:w.heap.size≤l:=by rw [← hl,hsz]; omega
    obtain ⟨s4,k4,g4⟩:=(sub.sat s3).other (sub.keep' (k.trans k13)) (D:=l) (Nat.le_trans k.size hl0) hld (fun q=>by simp [World.cell?,q1]) (.loop { lr with state:=.exhausted })
    have hD3:w3.heap[w.heap.size]?=some (.deferred (some []))∧w.heap.size ∉ Hp.dom (.loop false l L::S2):=by
     have hlt2:w.heap.size < w2.heap.size:=(Array.getElem?_eq_some_iff.1 hD2).1
     have hn2:w.heap.size ∉ Hp.dom (.loop false l L::S):=by
      rw [xk]
      intro hm
      rcases List.mem_cons.1 hm with e | hm
      ·exact hDl e
      ·exact hD hm
     refine ⟨(k3.out _ hlt2 hn2).1.trans hD2,fun hm=>?_⟩
     rcases k3.dom _ hm with x | x
     ·exact hn2 x
     ·omega
    have hD4:(w3.putObj l (.loop { lr with state:=.exhausted })).heap[w.heap.size]?=some (.deferred (some [])):=(World.putObj_heap_other hDl).trans hD3.1
    have hnd:w.heap.size ∉ Hp.dom S2:=fun hm=>hD3.2 (by rw [xk]; exact List.mem_cons_of_mem _ hm)
    have hend:(Instr.endLoop l).run P w3 = .ok none (w3.putObj l (.loop { lr with state:=.exhausted })):=(run_endLoop (P:=P) q1 (by rw [q2.state]; decide)).trans (by rw [q2.pending])
    revert s4 k4 g4 hD4 hend
    generalize w3.putObj l (.loop { lr with state:=.exhausted })=w4
    intro s4 k4 g4 hD4 hend
    refine ⟨none,w4,hend,?_⟩
    have fin:=hnext ⟨none,σ.m,σ.n,F3,w4,S2,markD w.heap.size::σ.ds⟩ rfl rfl F3 w4 { a with defers:=[markD w.heap.size]++a.defers } ⟨s4,(s.fr.mono k13.toGrow).mono g4,s.size,by show _::a.defers=_; rw [s.defers]⟩ (.refl _ _ _)
    refine zBG (σ':=⟨none,σ.m,σ.n,F3,w4,S2,markD w.heap.size::σ.ds⟩) hr.symm rfl (fun e a' w' hp=>?_) hK _ _ _ fin
    obtain ⟨F5,fr5,S5,Ds,s5,⟨m1,m2⟩,k5,hQ⟩:=hp
    have hltD:=(Array.getElem?_eq_some_iff.1 hD4).1
    refine ⟨F5,fr5,S5,Ds++[w.heap.size],⟨s5.sat,s5.fr,s5.size,by rw [s5.defers]; simp⟩,⟨?_,fun D hDm=>?_⟩,k4.trans k5,hQ⟩
    ·rw [List.nodup_append]
     refine ⟨m1,by simp,fun a ha b hb' e=>?_⟩
     rw [List.mem_singleton.1 hb'] at e
     have:=(m2 a ha).1
     subst e
     exact Nat.lt_irrefl _ (Nat.lt_of_lt_of_le hltD this)
    ·rcases List.mem_append.1 hDm with hDm | hDm
     ·obtain ⟨q3,q4,q5⟩:=m2 D hDm
      exact ⟨Nat.le_trans k4.size q3,q4,q5⟩
     ·rw [List.mem_singleton.1 hDm]
      refine ⟨k.size,fun hm=>?_,(k5.out _ hltD hnd).1.trans hD4⟩
      rcases k5.dom _ hm with x | x
      ·exact hnd x
      ·exact Nat.lt_irrefl _ (Nat.lt_of_lt_of_le hltD x)
end
end Go.Vw
namespace Go.Ord
inductive Rch (es:List (Nat×Nat)):Nat→Nat→Prop
 | refl (a:Nat):Rch es a a
 | step {a b c:Nat} (h:(a,b)∈es) (k:Rch es b c):Rch es a c
theorem Rch.trans {es:List (Nat×Nat)} {a b c:Nat} (h:Rch es a b) (k:Rch es b c):Rch es a c:=by
 induction h with
 | refl=>exact k
 | step h _ ih=>exact .step h (ih k)
theorem Rch.one {es:List (Nat×Nat)} {a b:Nat} (h:(a,b)∈es):Rch es a b:=.step h (.refl b)
inductive Way (es:List (Nat×Nat)):Nat→List Nat→Nat→Prop
 | nil (a:Nat):Way es a [] a
 | cons {a b c:Nat} {r:List Nat} (h:(a,b)∈es) (k:Way es b r c):Way es a (b::r) c
theorem Way.from_mem {es:List (Nat×Nat)} {b c:Nat} {r:List Nat} (h:Way es b r c):∀ {a:Nat},a∈b::r→(b::r).Nodup→∃ r',Way es a r' c∧(a::r').Nodup:=by
 induction h with
 | nil b =>
   intro a ha _
   rw [List.mem_singleton.1 ha]
   exact ⟨[],.nil b,by simp⟩
 | @cons x b c r h k ih =>
   intro a ha hn
   rcases List.mem_cons.1 ha with rfl | ha
   ·exact ⟨b::r,.cons h k,hn⟩
   ·exact ih ha (List.nodup_cons.1 hn).2
theorem Rch.way {es:List (Nat×Nat)} {a c:Nat} (h:Rch es a c):∃ r,Way es a r c∧(a::r).Nodup:=by
 induction h with
 | refl a=>exact ⟨[],.nil a,by simp⟩
 | @step a b c h _ ih =>
   obtain ⟨r,k,hn⟩:=ih
   rcases Classical.em (a∈b::r) with ha | ha
   ·exact k.from_mem ha hn
   ·exact ⟨b::r,.cons h k,List.nodup_cons.2 ⟨ha,hn⟩⟩
theorem nodup_le:∀ (L:Nat) (p:List Nat),p.Nodup→(∀ x∈p,x < L)→p.length≤L
 | 0,[],_,_=>Nat.le_refl _
 | 0,x::_,_,h=>absurd (h x (by simp)) (Nat.not_lt_zero _)
 | L+1,p,hn,h=>by
   have h1:=nodup_le L (p.erase L) (hn.erase L) fun x hx=>by
    have:=(hn.mem_erase_iff).1 hx
    have:=h x this.2
    omega
   have:=List.length_erase (a:=L) (l:=p)
   rw [this] at h1
   split at h1 <;> omega
theorem Way.lt {es:List (Nat×Nat)} {L:Nat} (he:∀ e∈es,e.1 < L∧e.2 < L) {a c:Nat} {r:List Nat} (h:Way es a r c):∀ x∈r,x < L:=by
 induction h with
 | nil a=>intro x hx; cases hx
 | cons h _ ih =>
   intro x hx
   rcases List.mem_cons.1 hx with rfl | hx
   ·exact (he _ h).2
   ·exact ih x hx
theorem Rch.short {es:List (Nat×Nat)} {L:Nat} (he:∀ e∈es,e.1 < L∧e.2 < L) {a c:Nat} (ha:a < L) (h:Rch es a c):∃ r,Way es a r c∧r.length < L:=by
 obtain ⟨r,w,hn⟩:=h.way
 have:=nodup_le L (a::r) hn fun x hx=>by
  rcases List.mem_cons.1 hx with rfl | hx
  ·exact ha
  ·exact w.lt he x hx
 exact ⟨r,w,by simp at this; omega⟩
theorem Rch.lt {es:List (Nat×Nat)} {L:Nat} (he:∀ e∈es,e.1 < L∧e.2 < L) {a c:Nat} (h:Rch es a c):a < L→c < L:=by
 induction h with
 | refl=>exact id
 | step h _ ih=>exact fun _=>ih (he _ h).2
def wt (B:List Nat) (i:Nat):Nat:=(B[i]?).getD 0
theorem getN_set (B:List Nat) (i j v:Nat) (h:i < B.length):wt (B.set i v) j=if i=j then v else wt B j:=by
 unfold wt
 rw [List.getElem?_set]
 by_cases hij:i=j
 ·subst hij; simp [h]
 ·simp [hij]
def xu (B:List Nat) (e:Nat×Nat):List Nat:=B.set e.1 (wt B e.1 ||| wt B e.2)
def wT (es:List (Nat×Nat)) (B:List Nat):List Nat:=es.foldl xu B
def iter {α:Type} (f:α→α):Nat→α→α
 | 0,x=>x
 | n+1,x=>iter f n (f x)
theorem uP {α:Type} (f:α→α):∀ (n:Nat) (x:α),iter f (n+1) x=f (iter f n x)
 | 0,_=>rfl
 | n+1,x=>uP f n (f x)
def xI (L:Nat):List Nat:=(List.range L).map (2 ^ ·)
def uZ (L:Nat) (es:List (Nat×Nat)):List Nat:=iter (wT es) L (xI L)
theorem uQ (B:List Nat) (e:Nat×Nat):(xu B e).length=B.length:=by simp [xu]
theorem zBH:∀ (es:List (Nat×Nat)) (B:List Nat),(wT es B).length=B.length
 | [],_=>rfl
 | e::es,B=>by
   show (wT es (xu B e)).length=_
   rw [zBH es,uQ]
def MoreB (B C:List Nat):Prop:=C.length=B.length∧∀ l v,(wt B l).testBit v=true→(wt C l).testBit v=true
theorem MoreB.trans {B C D:List Nat} (h:MoreB B C) (k:MoreB C D):MoreB B D:=⟨k.1.trans h.1,fun l v x=>k.2 l v (h.2 l v x)⟩
theorem zEm (B:List Nat) (e:Nat×Nat) (h:e.1 < B.length):MoreB B (xu B e):=⟨uQ B e,fun l v x=>by
 unfold xu
 rw [getN_set _ _ _ _ h]
 split
 ·next q=>subst q; rw [Nat.testBit_or,x]; rfl
 ·exact x⟩
theorem edgeB_has (B:List Nat) (e:Nat×Nat) (h:e.1 < B.length) (v:Nat) (x:(wt B e.2).testBit v=true):(wt (xu B e) e.1).testBit v=true:=by
 unfold xu
 rw [getN_set _ _ _ _ h,if_pos rfl,Nat.testBit_or,x,Bool.or_true]
theorem kh:∀ (es:List (Nat×Nat)) (B:List Nat),(∀ e∈es,e.1 < B.length)→MoreB B (wT es B)
 | [],B,_=>⟨rfl,fun _ _ h=>h⟩
 | e::es,B,h=>(zEm B e (h e (by simp))).trans (kh es (xu B e) fun x hx=>by rw [uQ]; exact h x (List.mem_cons_of_mem _ hx))
theorem zEn:∀ (es:List (Nat×Nat)) (B:List Nat),(∀ e∈es,e.1 < B.length)→∀ e∈es,∀ v,(wt B e.2).testBit v=true→(wt (wT es B) e.1).testBit v=true
 | e::es,B,h,x,hx,v,hv=>by
   have hm:=kh es (xu B e) fun x hx=>by rw [uQ]; exact h x (List.mem_cons_of_mem _ hx)
   rcases List.mem_cons.1 hx with rfl | hx
   ·exact hm.2 _ v (edgeB_has B x (h x (by simp)) v hv)
   ·exact zEn es (xu B e) (fun x hx=>by rw [uQ]; exact h x (List.mem_cons_of_mem _ hx)) x hx v ((zEm B e (h e (by simp))).2 _ v hv)
def zCb (es:List (Nat×Nat)) (L:Nat) (B:List Nat):Prop:=B.length=L∧∀ l v,l < L→(wt B l).testBit v=true→Rch es l v
theorem edgeB_sound {es:List (Nat×Nat)} {L:Nat} (he:∀ e∈es,e.1 < L∧e.2 < L) {B:List Nat} (h:zCb es L B) {e:Nat×Nat} (hm:e∈es):zCb es L (xu B e):=⟨(uQ B e).trans h.1,fun l v hl x=>by
 unfold xu at x
 rw [getN_set _ _ _ _ (by rw [h.1]; exact (he e hm).1)] at x
 split at x
 ·next q =>
  subst q
  rw [Nat.testBit_or,Bool.or_eq_true] at x
  rcases x with x | x
  ·exact h.2 _ v hl x
  ·exact .step hm (h.2 _ v (he e hm).2 x)
 ·exact h.2 l v hl x⟩
theorem zDM {es:List (Nat×Nat)} {L:Nat} (he:∀ e∈es,e.1 < L∧e.2 < L):∀ (ds:List (Nat×Nat)) (B:List Nat),(∀ d∈ds,d∈es)→zCb es L B→zCb es L (ds.foldl xu B)
 | [],_,_,h=>h
 | d::ds,B,hd,h=>zDM he ds (xu B d) (fun x hx=>hd x (List.mem_cons_of_mem _ hx)) (edgeB_sound he h (hd d (by simp)))
theorem zEo {L l:Nat} (h:l < L):wt (xI L) l=2 ^ l:=by
 unfold wt xI
 rw [List.getElem?_map,List.getElem?_range h]; rfl
theorem startB_sound (es:List (Nat×Nat)) (L:Nat):zCb es L (xI L):=⟨by simp [xI],fun l v hl x=>by
 rw [zEo hl,Nat.testBit_two_pow] at x
 have:=of_decide_eq_true x
 subst this
 exact .refl _⟩
theorem ki {es:List (Nat×Nat)} {L:Nat} (he:∀ e∈es,e.1 < L∧e.2 < L):∀ n,zCb es L (iter (wT es) n (xI L))
 | 0=>startB_sound es L
 | n+1=>by rw [uP]; exact zDM he es _ (fun _ h=>h) (ki he n)
theorem zCc {es:List (Nat×Nat)} {L:Nat} (he:∀ e∈es,e.1 < L∧e.2 < L):∀ (n:Nat) (a c:Nat) (r:List Nat),a < L→Way es a r c→r.length≤n→(wt (iter (wT es) n (xI L)) a).testBit c=true
 | 0,a,c,r,ha,w,hr=>by
   have hr0:r=[]:=List.eq_nil_of_length_eq_zero (Nat.le_zero.1 hr)
   subst hr0
   cases w
   show (wt (xI L) a).testBit a=true
   rw [zEo ha,Nat.testBit_two_pow]; simp
 | n+1,a,c,r,ha,w,hr=>by
   have hs:=ki (L:=L) he n
   have hl:∀ e∈es,e.1 < (iter (wT es) n (xI L)).length:=fun e h=>by rw [hs.1]; exact (he e h).1
   rw [uP]
   cases w with
   | nil=>exact (kh es _ hl).2 _ _ (zCc he n a a [] ha (.nil a) (Nat.zero_le _))
   | cons h k =>
     next b r =>
     exact zEn es _ hl (a,b) h c (zCc he n b c r (he _ h).2 k (by simp at hr; omega))
theorem zEp {es:List (Nat×Nat)} {L:Nat} (he:∀ e∈es,e.1 < L∧e.2 < L) {a c:Nat} (ha:a < L):(wt (uZ L es) a).testBit c=true↔Rch es a c :=
 ⟨(ki he L).2 a c ha,fun h=>by
   obtain ⟨r,w,hr⟩:=h.short he ha
   exact zCc he L a c r ha w (Nat.le_of_lt hr)⟩
def fwStep (R:Nat→Nat→Bool) (k:Nat):Nat→Nat→Bool:=fun i j=>R i j || (R i k && R k j)
def fw (R:Nat→Nat→Bool):Nat→Nat→Nat→Bool
 | 0=>R
 | n+1=>fwStep (fw R n) n
def startR (es:List (Nat×Nat)):Nat→Nat→Bool:=fun i j=>i == j || es.contains (i,j)
theorem fw_more (R:Nat→Nat→Bool):∀ (n i j:Nat),R i j=true→fw R n i j=true
 | 0,_,_,h=>h
 | n+1,i,j,h=>by
   show (fw R n i j || _)=true
   rw [fw_more R n i j h,Bool.true_or]
theorem zBx {es:List (Nat×Nat)} {R:Nat→Nat→Bool} (h:∀ i j,R i j=true→Rch es i j):∀ (n i j:Nat),fw R n i j=true→Rch es i j
 | 0,i,j,x=>h i j x
 | n+1,i,j,x=>by
   have x':(fw R n i j || (fw R n i n && fw R n n j))=true:=x
   rw [Bool.or_eq_true,Bool.and_eq_true] at x'
   rcases x' with x' | ⟨x1,x2⟩
   ·exact zBx h n i j x'
   ·exact (zBx h n i n x1).trans (zBx h n n j x2)
theorem fw_closed (R:Nat→Nat→Bool):∀ (n k:Nat),k < n→∀ i j,fw R n i k=true→fw R n k j=true→fw R n i j=true
 | n+1,k,hk,i,j,h1,h2=>by
   have h1':(fw R n i k || (fw R n i n && fw R n n k))=true:=h1
   have h2':(fw R n k j || (fw R n k n && fw R n n j))=true:=h2
   show (fw R n i j || (fw R n i n && fw R n n j))=true
   rw [Bool.or_eq_true,Bool.and_eq_true] at *
   by_cases hkn:k=n
   ·subst hkn
    have a1:fw R k i k=true:=by rcases h1' with h | h; exact h; exact h.1
    have a2:fw R k k j=true:=by rcases h2' with h | h; exact h; exact h.2
    exact .inr ⟨a1,a2⟩
   ·have ih:=fw_closed R n k (by omega)
    rcases h1' with a | ⟨a1,a2⟩
    ·rcases h2' with b | ⟨b1,b2⟩
     ·exact .inl (ih i j a b)
     ·exact .inr ⟨ih i n a b1,b2⟩
    ·rcases h2' with b | ⟨b1,b2⟩
     ·exact .inr ⟨a1,ih n j a2 b⟩
     ·exact .inr ⟨a1,b2⟩
def wu (L:Nat) (es:List (Nat×Nat)):Nat→Nat→Bool:=fw (startR es) L
theorem zDN {es:List (Nat×Nat)} {L:Nat} (he:∀ e∈es,e.1 < L∧e.2 < L) {a c:Nat}:wu L es a c=true↔Rch es a c:=by
 constructor
 ·refine zBx (fun i j h=>?_) L a c
  unfold startR at h
  rw [Bool.or_eq_true] at h
  rcases h with h | h
  ·rw [eq_of_beq h]; exact .refl _
  ·exact .one (by simpa using h)
 ·intro h
  induction h with
  | refl a=>exact fw_more _ L a a (by simp [startR])
  | @step a b c h k ih =>
    have h1:wu L es a b=true:=fw_more _ L a b (by simp [startR,h])
    exact fw_closed _ L b (he _ h).2 a c h1 ih
end Go.Ord
namespace Go.Ord
structure Tot {α:Type} (lt:α→α→Bool):Prop where
 irr:∀ a,lt a a=false
 tr:∀ a b c,lt a b=true→lt b c=true→lt a c=true
 tot:∀ a b,lt a b=false→lt b a=false→a=b
def SSorted {α:Type} (lt:α→α→Bool) (l:List α):Prop:=l.Pairwise fun a b=>lt a b=true
section
variable {α:Type} {lt:α→α→Bool}
theorem Tot.asym (h:Tot lt) {a b:α} (x:lt a b=true):lt b a=false:=by
 cases e:lt b a
 ·rfl
 ·have:=h.tr _ _ _ x e
  rw [h.irr] at this; cases this
theorem SSorted.unique (h:Tot lt):∀ {l k:List α},SSorted lt l→SSorted lt k→(∀ x,x∈l↔x∈k)→l=k
 | [],[],_,_,_=>rfl
 | [],y::k,_,_,e=>absurd ((e y).2 (by simp)) (by simp)
 | x::l,[],_,_,e=>absurd ((e x).1 (by simp)) (by simp)
 | x::l,y::k,hl,hk,e=>by
   unfold SSorted at hl hk
   rw [List.pairwise_cons] at hl hk
   have hxy:x=y:=by
    rcases List.mem_cons.1 ((e x).1 (by simp)) with h1 | h1
    ·exact h1
    rcases List.mem_cons.1 ((e y).2 (by simp)) with h2 | h2
    ·exact h2.symm
    have a:=hk.1 x h1
    have b:=hl.1 y h2
    rw [h.asym a] at b; cases b
   subst hxy
   have hx:∀ z∈l,z≠x:=fun z hz e=>by subst e; have:=hl.1 _ hz; rw [h.irr] at this; cases this
   have hy:∀ z∈k,z≠x:=fun z hz e=>by subst e; have:=hk.1 _ hz; rw [h.irr] at this; cases this
   rw [SSorted.unique h hl.2 hk.2 fun z=>⟨fun hz=>?_,fun hz=>?_⟩]
   ·rcases List.mem_cons.1 ((e z).1 (List.mem_cons_of_mem _ hz)) with h1 | h1
    ·exact absurd h1 (hx z hz)
    ·exact h1
   ·rcases List.mem_cons.1 ((e z).2 (List.mem_cons_of_mem _ hz)) with h1 | h1
    ·exact absurd h1 (hy z hz)
    ·exact h1
variable [DecidableEq α]
def uE (lt:α→α→Bool) (d:α):Bool→List α→List α
 | put,[]=>if put then [] else [d]
 | put,x::r=>(if !put && lt d x then [d] else [])++x::uE lt d (put || lt d x || decide (x=d)) r
theorem qS (d:α):∀ l:List α,uE lt d true l=l
 | []=>rfl
 | x::r=>by simp [uE,qS d r]
theorem insR_mem (d:α):∀ (l:List α) (z:α),z∈uE lt d false l↔z=d∨z∈l
 | [],z=>by simp [uE]
 | x::r,z=>by
   unfold uE
   cases h1:lt d x
   ·by_cases h2:x=d
    ·subst h2
     simp [qS]
    ·simp only [Bool.not_false,Bool.and_false,Bool.false_eq_true,if_false,List.nil_append,decide_eq_false h2,Bool.or_false,List.mem_cons,insR_mem d r z]
     constructor
     ·rintro (h | h | h) <;> simp [h]
     ·rintro (h | h | h) <;> simp [h]
   ·simp [qS]
theorem zDO (h:Tot lt) (d:α):∀ {l:List α},SSorted lt l→SSorted lt (uE lt d false l)
 | [],_=>by simp [uE,SSorted]
 | x::r,hl=>by
   unfold SSorted at hl
   rw [List.pairwise_cons] at hl
   unfold uE
   cases h1:lt d x
   ·by_cases h2:x=d
    ·subst h2
     simp only [Bool.not_false,Bool.and_false,Bool.false_eq_true,if_false,List.nil_append,decide_true,Bool.or_true,qS]
     exact List.pairwise_cons.2 hl
    ·simp only [Bool.not_false,Bool.and_false,Bool.false_eq_true,if_false,List.nil_append,decide_eq_false h2,Bool.or_false]
     refine List.pairwise_cons.2 ⟨fun z hz=>?_,zDO h d hl.2⟩
     rcases (insR_mem d r z).1 hz with rfl | hz
     ·cases e:lt x z
      ·exact absurd (h.tot _ _ e h1) h2
      ·rfl
     ·exact hl.1 z hz
   ·simp only [Bool.not_false,Bool.true_and,if_true,Bool.false_or,Bool.true_or,qS,List.singleton_append]
    refine List.pairwise_cons.2 ⟨fun z hz=>?_,List.pairwise_cons.2 hl⟩
    rcases List.mem_cons.1 hz with rfl | hz
    ·exact h1
    ·exact h.tr _ _ _ h1 (hl.1 z hz)
def xl (lt:α→α→Bool) (l:List α):List α:=l.foldl (fun out d=>uE lt d false out) []
theorem zBI (h:Tot lt) (l:List α):SSorted lt (xl lt l)∧∀ z,z∈xl lt l↔z∈l:=by
 have key:∀ (l:List α) (out:List α),SSorted lt out→SSorted lt (l.foldl (fun out d=>uE lt d false out) out)∧∀ z,z∈l.foldl (fun out d=>uE lt d false out) out↔z∈out∨z∈l:=by
  intro l
  induction l with
  | nil=>intro out ho; exact ⟨ho,fun z=>by simp⟩
  | cons d l ih =>
    intro out ho
    obtain ⟨h1,h2⟩:=ih _ (zDO h d ho)
    refine ⟨h1,fun z=>?_⟩
    rw [List.foldl_cons,h2,insR_mem]
    simp only [List.mem_cons]
    constructor
    ·rintro ((h | h) | h) <;> simp [h]
    ·rintro (h | h | h) <;> simp [h]
 obtain ⟨h1,h2⟩:=key l [] .nil
 exact ⟨h1,fun z=>by rw [xl,h2]; simp⟩
def zg:List α→List α
 | []=>[]
 | [x]=>[x]
 | x::y::r=>if x=y then zg (y::r) else x::zg (y::r)
theorem uF:∀ (l:List α) (z:α),z∈zg l↔z∈l
 | [],z=>by simp [zg]
 | [x],z=>by simp [zg]
 | x::y::r,z=>by
   unfold zg
   split
   ·next e=>subst e; rw [uF (x::r)]; simp
   ·rw [List.mem_cons,uF (y::r),List.mem_cons (a:=z) (b:=x)]
theorem vq (h:Tot lt):∀ {l:List α},(l.Pairwise fun a b=>lt b a=false)→SSorted lt (zg l)
 | [],_=>.nil
 | [x],_=>by simp [zg,SSorted]
 | x::y::r,hl=>by
   rw [List.pairwise_cons] at hl
   unfold zg
   split
   ·exact vq h hl.2
   ·next e =>
    refine List.pairwise_cons.2 ⟨fun z hz=>?_,vq h hl.2⟩
    rw [uF] at hz
    have hz':=hl.1 z hz
    cases e1:lt x z
    ·have:=h.tot _ _ e1 hz'
     subst this
     exfalso
     rcases List.mem_cons.1 hz with e2 | hm
     ·exact e e2
     ·have h3:=hl.1 y (by simp)
      have h4:=(List.pairwise_cons.1 hl.2).1 _ hm
      exact e (h.tot _ _ h4 h3)
    ·rfl
theorem compact_sortR (h:Tot lt) {l k:List α} (hs:l.Pairwise fun a b=>lt b a=false) (e:∀ z,z∈l↔z∈k):zg l=xl lt k:=by
 obtain ⟨h1,h2⟩:=zBI h k
 exact SSorted.unique h (vq h hs) h1 fun z=>by rw [uF,h2,e]
end
def ltP (a b:Int×Int):Bool:=decide (a.1 < b.1) || (decide (a.1=b.1) && decide (a.2 < b.2))
theorem tot_ltP:Tot ltP where
 irr a:=by simp [ltP]
 tr a b c h k:=by
  simp only [ltP,Bool.or_eq_true,Bool.and_eq_true,decide_eq_true_eq] at *
  omega
 tot a b h k:=by
  simp only [ltP,Bool.or_eq_false_iff,Bool.and_eq_false_imp,decide_eq_false_iff_not,decide_eq_true_eq] at *
  obtain ⟨a1,a2⟩:=a
  obtain ⟨b1,b2⟩:=b
  simp only at *
  have:a1=b1:=by omega
  subst this
  have h2:=h.2 rfl
  have k2:=k.2 rfl
  congr 1
  omega
def lessS (a b:ByteArray):Bool:=Am.lessB (Am.bytes a) (Am.bytes b)
theorem less_irr:∀ a:List UInt8,Am.lessB a a=false
 | []=>rfl
 | a::r=>by
   have h:Nat.blt a.toNat a.toNat=false:=by
    cases e:Nat.blt a.toNat a.toNat
    ·rfl
    ·exact absurd (Nat.le_of_ble_eq_true e) (Nat.not_succ_le_self _)
   simp [Am.lessB,less_irr r,h]
theorem less_cons (a b:UInt8) (r s:List UInt8):Am.lessB (a::r) (b::s)=(decide (a.toNat < b.toNat) || (decide (a.toNat=b.toNat) && Am.lessB r s)):=by
 show cond (Nat.blt a.toNat b.toNat) true (cond (Nat.beq a.toNat b.toNat) (Am.lessB r s) false)=_
 have h1:Nat.blt a.toNat b.toNat=decide (a.toNat < b.toNat):=by
  cases h:Nat.blt a.toNat b.toNat
  ·have:¬ a.toNat < b.toNat:=fun hl=>by rw [← Nat.blt_eq] at hl; rw [hl] at h; cases h
   simp [this]
  ·have:a.toNat < b.toNat:=Nat.le_of_ble_eq_true h
   simp [this]
 have h2:Nat.beq a.toNat b.toNat=decide (a.toNat=b.toNat):=by
  cases h:Nat.beq a.toNat b.toNat
  ·have:=Nat.ne_of_beq_eq_false h
   simp [this]
  ·have:=Nat.eq_of_beq_eq_true h
   simp [this]
 rw [h1,h2]
 cases decide (a.toNat < b.toNat) <;> cases decide (a.toNat=b.toNat) <;> cases Am.lessB r s <;> rfl
theorem less_tr:∀ a b c:List UInt8,Am.lessB a b=true→Am.lessB b c=true→Am.lessB a c=true
 | [],[],_,h,_=>by cases h
 | [],_::_,[],_,k=>by cases k
 | [],_::_,_::_,_,_=>rfl
 | _::_,[],_,h,_=>by cases h
 | _::_,_::_,[],_,k=>by cases k
 | a::r,b::s,c::t,h,k=>by
   rw [less_cons] at *
   simp only [Bool.or_eq_true,Bool.and_eq_true,decide_eq_true_eq] at *
   rcases h with h | ⟨h,h'⟩ <;> rcases k with k | ⟨k,k'⟩
   ·left; omega
   ·left; omega
   ·left; omega
   ·right; exact ⟨by omega,less_tr r s t h' k'⟩
theorem less_tot:∀ a b:List UInt8,Am.lessB a b=false→Am.lessB b a=false→a=b
 | [],[],_,_=>rfl
 | [],_::_,h,_=>by cases h
 | _::_,[],_,k=>by cases k
 | a::r,b::s,h,k=>by
   rw [less_cons] at *
   simp only [Bool.or_eq_false_iff,Bool.and_eq_false_imp,decide_eq_false_iff_not,decide_eq_true_eq] at *
   have e:a.toNat=b.toNat:=by omega
   have e':a=b:=UInt8.toNat_inj.1 e
   rw [e',less_tot r s (h.2 e) (k.2 e.symm)]
theorem tot_lessS:Tot lessS where
 irr a:=less_irr _
 tr a b c h k:=less_tr _ _ _ h k
 tot a b h k:=by
  have:=less_tot _ _ h k
  exact ByteArray.ext (Array.toList_inj.1 this)
abbrev yj:=Int×Int×ByteArray
def ltD (a b:yj):Bool:=decide (a.1 < b.1) || (decide (a.1=b.1) && (decide (a.2.1 < b.2.1) || (decide (a.2.1=b.2.1) && lessS a.2.2 b.2.2)))
theorem tot_ltD:Tot ltD where
 irr a:=by simp [ltD,tot_lessS.irr]
 tr a b c h k:=by
  simp only [ltD,Bool.or_eq_true,Bool.and_eq_true,decide_eq_true_eq] at *
  rcases h with h | ⟨h,h2 | ⟨h2,h3⟩⟩ <;> rcases k with k | ⟨k,k2 | ⟨k2,k3⟩⟩
  ·left; omega
  ·left; omega
  ·left; omega
  ·left; omega
  ·right; exact ⟨by omega,.inl (by omega)⟩
  ·right; exact ⟨by omega,.inl (by omega)⟩
  ·left; omega
  ·right; exact ⟨by omega,.inl (by omega)⟩
  ·right; exact ⟨by omega,.inr ⟨by omega,tot_lessS.tr _ _ _ h3 k3⟩⟩
 tot a b h k:=by
  simp only [ltD,Bool.or_eq_false_iff,Bool.and_eq_false_imp,decide_eq_false_iff_not,decide_eq_true_eq] at *
  obtain ⟨a1,a2,a3⟩:=a
  obtain ⟨b1,b2,b3⟩:=b
  simp only at *
  have e1:a1=b1:=by omega
  obtain ⟨h1,h2⟩:=h.2 e1
  obtain ⟨k1,k2⟩:=k.2 e1.symm
  have e2:a2=b2:=by omega
  rw [e1,e2,tot_lessS.tot _ _ (h2 e2) (k2 e2.symm)]
end Go.Ord
namespace Go.Vw
open Go.RowKit Go.Am
variable [Drw]
section
variable {P:Program} {S:Hp} {tb:Tab} {o:Oper} {ρ:Operand→Option V} {k:V→Hp→Prop}
theorem s_rangeB (hT:TabOk tb P) {t kt e:TypeId} {x:Operand} {b cl:Nat} {es:List (Nat×V×V)} {f:HE→Hp} (ho:o.op = .range t x) (ht:tb.under t=some (.map kt e)) (hx:ρ x=some (.map b)) (hat:At S (.mapB b es cl) f)
  (h:∀ r,(es.map (·.1)).Nodup→k (.ptr r 0) (.iter r b cl []::S)):OpS P o ρ S k :=
 OpS.mk (by rw [ho]; rfl) fun F w a s hf=>by
  obtain ⟨es',e1,ha,bn⟩:=s.ok _ hat.mem
  have hv:=hf _ _ hx
  generalize hb:a.eval x=u at hv
  cases hv
  have hst:∀ {es:List (Nat×V×V)} {l:List MapEntry},All2 (MRB F w) es l→es.map (·.1)=l.map (·.born):=by
   intro es l h
   induction h with
   | nil=>rfl
   | cons h _ ih=>rw [List.map_cons,List.map_cons,ih,h.born]
  obtain ⟨s2,k2⟩:=s.new (o:=.mapIter (some b) cl #[] cl) (x:=.iter w.heap.size b cl []) rfl (World.alloc_heap_new w _)
  refine .val (u:=.pointer (some ⟨w.heap.size,0,none⟩)) (w':=w.alloc (.mapIter (some b) cl #[] cl)) ?_ (.ptr _ _) s2 k2 (h _ (by rw [hst ha]; exact bn.1))
  simp only [execOp,ho,hb,Sem.run_bind,Instr.range,zF hT ht,Result.andThen,yh e1,Sem.run_pure]
  simp [newObj,Sem.run]
omit [Drw] in
theorem g_sliceArr (hT:TabOk tb P) {t el:TypeId} {x:Operand} {cs:List V} {rows:List (List V)} {len n:Nat} (ho:o.op = .slice t x none none none) (ht:tb.under t=some (.array len el)) (hs:tb.size el=some n)
  (hx:ρ x=some (.pin cs 0)) (hc:zCY n len cs=some rows):QG P o ρ S (.slice .no rows) :=
 QG.mk (by rw [ho]; rfl) fun F w a s hf=>by
  have hv:=hf _ _ hx
  obtain ⟨e1,e2,e3⟩:=kZ _ _ _ hc
  obtain ⟨f1,f2⟩:=yT rows e3
  rw [e1] at f1 f2
  generalize hb:a.eval x=u at hv
  cases hv with
  | pin g hcc hvv =>
    next b q =>
    have run:(execOp a.eval o).run P w = .ok (.value (.slice (some ⟨b,q,none⟩) rows.length rows.length)) w:=by
     rw [e2]
     simp only [execOp,ho,hb,Instr.sliceAt,Sem.run_bind,zF hT ht,Result.andThen,Instr.sureAddr,Sem.run_pure,Instr.sliceBounds,Option.map,Am.run_size hT hs,Nat.add_zero,Nat.sub_zero,Nat.zero_mul,Am.Addr.add_eq,ite_self]
    refine Gives.of run (.slice (off:=q) (x:=q) (sz:=n) (fun i k=>g (i * n+k)) (fun i h=>e3 _ (List.getElem_mem h)) (fun i hi k hk=>?_) (fun i hi k hk=>?_) (Nat.le_refl _) (.inr rfl) trivial)
    ·have hl:i * n+k < cs.length:=by
      rw [f1]
      have:i * n+n≤rows.length * n:=by rw [← Nat.succ_mul]; exact Nat.mul_le_mul_right _ hi
      omega
     have:=hcc (i * n+k) hl
     rw [← Nat.add_assoc] at this
     exact this
    ·have hk':k < n:=by rw [e3 _ (List.getElem_mem hi)] at hk; exact hk
     have hl:i * n+k < cs.length:=by
      rw [f1]
      have:i * n+n≤rows.length * n:=by rw [← Nat.succ_mul]; exact Nat.mul_le_mul_right _ hi
      omega
     have h1:=f2 i k hi hk'
     rw [List.getElem?_eq_getElem hl,List.getElem?_eq_getElem hk] at h1
     rw [← Option.some.inj h1]
     exact hvv _ hl
omit [Drw] in
theorem zEr (hT:TabOk tb P) {t el:TypeId} {x ix:Operand} {cs:List V} {off len n:Nat} {κ:IntKind} {i:Int} (ho:o.op = .indexAddr t x ix) (ht:tb.under t=some (.array len el)) (hs:tb.size el=some n)
  (hx:ρ x=some (.pin cs off)) (hi:ρ ix=some (.int κ i)) (h0:0≤i) (hlt:i < len):QG P o ρ S (.pin cs (off+i.toNat * n)) :=
 QG.mk (by rw [ho]; rfl) fun F w a s hf=>by
  have hiv:=int_inv (hf _ _ hi)
  have hv:=hf _ _ hx
  generalize hb:a.eval x=u at hv
  cases hv with
  | pin g hcc hvv =>
    next b q =>
    refine Gives.of (u:=.pointer (some ⟨b,q+(off+i.toNat * n),none⟩)) ?_ (.pin g hcc hvv)
    simp only [execOp,ho,hiv,hb,Instr.indexAt,Instr.sureAddr,asIntOf,Sem.run_bind,Sem.run_pure,Result.andThen,zF hT ht]
    rw [if_pos ⟨h0,hlt⟩]
    simp only [Sem.run_bind,Am.run_size hT hs,Result.andThen,Sem.run_pure,Am.Addr.add_eq,Nat.add_assoc]
end
theorem zBJ {P:Program} {σ:Sg} {K:List Kt} {fr:Fr} {S:Hp} {Q:Exit→Fr→Hp→Prop} {tb:Tab} (hT:TabOk tb P) {x:Operand} {ps:Array Tmp} {asg body:Code} {g:FuncId} {first cap:List V} {fn:Func} {gb:Code} (hr:σ.r=none) (hK:noLoop K=true) (hx:fr.val x=some (.func g first cap)) (hf:tb.func g=some fn) (hb:fn.body=some gb)
  (h:∀ l L,L=⟨σ.n,fr,ps,asg,body⟩→VC P g (first++[.yield l]++cap) (.loop false l L::S) fun _ S'=>∃ S2,S' = .loop false l L::S2∧∀ σ':Sg,σ'.r=none→σ'.n=σ.n→VT P σ' (.next K fr) S2 Q):zv P σ (.rangeFunc x ps asg body) K fr S Q :=
 run_rangeFunc hT hr hK hx hf hb fun l=>h l _ rfl
theorem VY.ofL {P:Program} {S:Hp} {l n:Nat} {L:LoopV} {fr:Fr} {ps:Array Tmp} {asg body:Code} {args:List V} {Q:V→Hp→Prop} {f:HE→Hp} (hL:L=⟨n,fr,ps,asg,body⟩) (hat:At S (.loop false l L) f) (hn:ps.size=args.length) (hb:belowT n ps.toList=true)
  (h:∀ m F w S0,VT P ⟨some l,m,n,F,w,S0,[]⟩ (.run asg [] (layFr ps.toList args fr)) S fun e fr1 S1=>e = .normal∧∃ f1,At S1 (.loop false l L) f1 ∧
   ∀ F w S0 ds,VT P ⟨some l,m,n,F,w,S0,ds⟩ (.run body [] fr1) (f1 (.loop true l L)) fun e _ S2=>e = .normal∧∃ f2,At S2 (.loop true l L) f2∧Q (.bool true) (f2 (.loop false l L))):VY P l args S Q:=by
 subst hL
 exact VY.of hat hn hb h
theorem VC.stamped {P:Program} {f:FuncId} {args:List V} {b:Nat} {es:List (V×V)} {R:Hp} {Q:V→Hp→Prop} (h:∀ es' cl,es'.map (·.2)=es→VC P f args (.mapB b es' cl::R) Q):VC P f args (.map b es::R) Q:=fun F w us s a=>by
 obtain ⟨es',cl,e1,ha,bn⟩:=s.ok _ (List.mem_cons_self ..)
 obtain ⟨z1,z2,z3⟩:=zBw ha
 obtain ⟨s1,hd⟩:=s.swap (.here) (y:=.mapB b ((es'.toList.map (·.born)).zip es) cl) rfl ⟨es',e1,z3,bn⟩
 refine (h _ cl z1 F w us s1 a).mono ?_
 rintro e w' ⟨v,u,F',S',q1,q2,q3,q4,q5⟩
 exact ⟨v,u,F',S',q1,q2,q3,q4.more fun b hb=>by rw [hd] at hb; exact hb,q5⟩
omit [Drw] in
theorem slice_front {F:Fz} {w:World} {b n c' sz:Nat} {rest:List V} {rows:List (List V)} {e:TypeId} {c:Array Value} (hF:∀ k,k < (rows.flatten++rest).length→F b k) (e1:w.heap[b]?=some (.cells c e (0,0))) (hv:Iss F w (rows.flatten++rest) c.toList) (hr:∀ r∈rows,r.length=sz) (hn:rows.length=n) (hc:n≤c'):Is F w (.slice .no rows) (.slice (some ⟨b,0,none⟩) n c'):=by
 subst hn
 have key:∀ (a d:List V) {l:List Value},Iss F w (a++d) l→∃ l1 l2,l=l1++l2∧Iss F w a l1∧Iss F w d l2:=by
  intro a
  induction a with
  | nil=>intro d l h; exact ⟨[],l,rfl,.nil,h⟩
  | cons x a ih =>
    intro d l h
    cases h with
    | cons h1 h2 =>
      obtain ⟨l1,l2,rfl,h3,h4⟩:=ih d h2
      exact ⟨_::l1,l2,rfl,.cons h1 h3,h4⟩
 obtain ⟨l1,l2,hl,h1,h2⟩:=key _ _ hv
 refine vJ (t:=.no) (sz:=sz) hr hc trivial h1 fun j v hj=>?_
 have hjl:=(List.getElem?_eq_some_iff.1 hj).1
 rw [Nat.zero_add]
 refine ⟨hF j (by rw [List.length_append,h1.length]; omega),?_⟩
 unfold World.cell?
 rw [e1]
 have:c.toList[j]?=some v:=by rw [hl,List.getElem?_append_left hjl]; exact hj
 simpa using this
theorem VC.freeze {P:Program} {f:FuncId} {args:List V} {S:Hp} {Q Q':V→Hp→Prop} (h:VC P f args S Q) (k:∀ v S',Q v S'→Q' v S'∨∃ b n c sz rows rest e R,v = .ref b 0 n c∧S' = .cells b (List.flatten rows++rest) e::R∧(∀ r∈rows,r.length=sz)∧rows.length=n∧n≤c∧Q' (.slice .no rows) R):VC P f args S Q':=fun F w us s a=>by
 refine (h F w us s a).mono ?_
 rintro en w' ⟨v,u,F',S',q1,q2,q3,q4,q5⟩
 rcases k v S' q5 with h | ⟨b,n,c,sz,rows,rest,e,R,rfl,rfl,h1,h2,h3,h4⟩
 ·exact ⟨v,u,F',S',q1,q2,q3,q4,h⟩
 ·obtain ⟨F2,s2,k2,hF,C,e1,hv⟩:=q3.freeze .here
  have sub:Sub (.tl .no::R) R:=.drop (.refl _)
  cases q2
  exact ⟨.slice .no rows,_,F2,R,q1,slice_front hF e1 hv h1 h2 h3,sub.sat s2,sub.keep' (q4.trans k2),h4⟩
omit [Drw] in
theorem sub_dropL:∀ (S R:Hp),Sub (S++R) R
 | [],R=>.refl R
 | _::S,R=>.drop (sub_dropL S R)
omit [Drw] in
theorem rows_cold {F:Fz} {w:World} {t:Tok} {n sz:Nat} {e:TypeId} {bl:List (Nat×List (List V))} {u:Value} (hb:∀ x∈bl,x.2.length=n∧∀ r∈x.2,r.length=sz) (hk:∀ x∈bl,Cold F w (.cells x.1 x.2.flatten e)) (h:Is F w (.slice t (bl.map fun x=>[.ref x.1 0 n n])) u):Is F w (.slice .no (bl.map fun x=>[.slice .no x.2])) u:=by
 have one:∀ x∈bl,∀ u,Is F w (.ref x.1 0 n n) u→Is F w (.slice .no x.2) u:=fun x hx u hu=>by
  cases hu
  obtain ⟨h1,C,h2,h3⟩:=hk x hx
  obtain ⟨h4,h5⟩:=hb x hx
  exact slice_of h1 h2 h3 rfl h5 h4 (Nat.le_refl _)
 have hl2:(bl.map fun x=>[V.slice .no x.2]).length=bl.length:=List.length_map _
 have hlN:(bl.map fun x=>[V.ref x.1 0 n n]).length=bl.length:=List.length_map _
 have hget:∀ i (hi:i < (bl.map fun x=>[V.ref x.1 0 n n]).length),(bl.map fun x=>[V.ref x.1 0 n n])[i]=[V.ref (bl[i]'(by rw [hlN] at hi; exact hi)).1 0 n n]:=fun i hi=>by simp
 generalize (bl.map fun x=>[V.ref x.1 0 n n])=rows at h hlN hget
 cases h with
 | nilSlice _ x =>
   have:bl=[]:=List.length_eq_zero_iff.1 (by simpa using hlN.symm)
   subst this
   exact .nilSlice _ _
 | slice g hl hc hv hn hx ht =>
   rename_i b off c x s
   have hbl:bl.length=rows.length:=hlN.symm
   by_cases h0:rows.length=0
   ·have:bl=[]:=List.length_eq_zero_iff.1 (by omega)
    subst this
    rw [h0]
    exact .slice (off:=off) (sz:=s) g (fun i h=>by simp at h) (fun i h=>by simp at h) (fun i h=>by simp at h) (Nat.zero_le _) hx trivial
   ·have hs:s=1:=by
     have:=hl 0 (by omega)
     rw [hget 0 (by omega)] at this
     exact this.symm
    subst hs
    rw [← hl2.trans hbl]
    refine .slice (off:=off) (sz:=1) g (fun i h=>by simp) (fun i hi k hk=>hc i (by rw [hl2] at hi; omega) k hk) (fun i hi k hk=>?_) (by rw [hl2,hbl]; exact hn) hx trivial
    have hi2:i < bl.length:=by rwa [hl2] at hi
    have hi3:i < rows.length:=by omega
    have hk0:k=0:=by
     have:k < ((bl.map fun x=>[V.slice .no x.2])[i]).length:=hk
     simp at this
     exact this
    subst hk0
    have:=hv i hi3 0 (by rw [hget i hi3]; exact Nat.zero_lt_one)
    simp only [hget i hi3,List.getElem_cons_zero] at this
    simp only [List.getElem_map,List.getElem_cons_zero]
    exact one _ (List.getElem_mem hi2) _ this
theorem VC.freezeM {P:Program} {f:FuncId} {args:List V} {S:Hp} {Q Q':V→Hp→Prop} (h:VC P f args S Q) (k:∀ v S',Q v S'→∃ t n sz e R,∃ bl:List (Nat×List (List V)),v = .slice t (bl.map fun x=>[.ref x.1 0 n n])∧S'=(bl.map fun x=>HE.cells x.1 x.2.flatten e)++R∧(∀ x∈bl,x.2.length=n∧∀ r∈x.2,r.length=sz)∧Q' (.slice .no (bl.map fun x=>[.slice .no x.2])) R):VC P f args S Q':=fun F w us s a=>by
 refine (h F w us s a).mono ?_
 rintro en w' ⟨v,u,F',S',q1,q2,q3,q4,q5⟩
 obtain ⟨t,n,sz,e,R,bl,rfl,rfl,h1,h2⟩:=k v S' q5
 obtain ⟨F2,s2,k2,c2⟩:=zBF (bl.map fun x=>HE.cells x.1 x.2.flatten e) [] R (fun x hx=>by obtain ⟨y,_,rfl⟩:=List.mem_map.1 hx; exact .inl ⟨_,_,_,rfl⟩) q3
 have sub:Sub ([]++((bl.map fun x=>HE.cells x.1 x.2.flatten e).map (fun _=>HE.tl .no)++R)) R:=sub_dropL _ R
 exact ⟨_,u,F2,R,q1,rows_cold h1 (fun x hx=>c2 _ (List.mem_map.2 ⟨x,hx,rfl⟩)) (q2.mono k2.toGrow),sub.sat s2,sub.keep' (q4.trans k2),h2⟩
section
open Go.Shelf Go.Sort Go.Proofs
omit [Drw] in
theorem grown_of {w w':World} (h1:w'.os=w.os) (h2:w'.tape=w.tape) (h3:w'.output=w.output) (h4:w.drawn≤w'.drawn) (h5:w.heap.size≤w'.heap.size) (h6:∀ k,k < w.heap.size→w'.heap[k]?=w.heap[k]?):∃ q os,w'=grow (w.drewN q) os:=by
 refine ⟨w'.drawn - w.drawn,w'.heap.extract w.heap.size w'.heap.size,?_⟩
 obtain ⟨heap',tape',drawn',os',out'⟩:=w'
 obtain ⟨heap,tape,drawn,os,out⟩:=w
 simp only at *
 subst h1 h2 h3
 unfold grow World.drewN
 simp only [World.mk.injEq,true_and,and_true]
 refine ⟨?_,by omega⟩
 apply Array.ext_getElem?
 intro k
 rw [Array.getElem?_append]
 split
 ·next h=>exact h6 k h
 ·next h =>
  rw [Array.getElem?_extract]
  split
  ·congr 1; omega
  ·next h'=>rw [Array.getElem?_eq_none_iff]; omega
omit [Drw] in
theorem All2.split {α β:Type} {R:α→β→Prop}:∀ (a b:List α) {l:List β},All2 R (a++b) l→∃ l1 l2,l=l1++l2∧All2 R a l1∧All2 R b l2
 | [],b,l,h=>⟨[],l,rfl,.nil,h⟩
 | x::a,b,_,.cons h1 h2=>by
   obtain ⟨l1,l2,rfl,h3,h4⟩:=All2.split a b h2
   exact ⟨_::l1,l2,rfl,.cons h1 h3,h4⟩
variable {α:Type} {en:α→List V} {enc:α→List Value}
omit [Drw] in
theorem iss_rows (hde:∀ F w x us,Iss F w (en x) us→us=enc x) {F:Fz} {w:World}:∀ (xs:List α) {us:List Value},Iss F w (xs.map en).flatten us→us=(xs.map enc).flatten
 | [],_,.nil=>rfl
 | x::xs,us,h=>by
   rw [List.map_cons,List.flatten_cons] at h
   obtain ⟨l1,l2,rfl,h1,h2⟩:=All2.split _ _ h
   rw [hde _ _ _ _ h1,iss_rows hde xs h2]
   rfl
omit [Drw] in
theorem rows_iss (hen:∀ F w x,Iss F w (en x) (enc x)) (F:Fz) (w:World):∀ xs:List α,Iss F w (xs.map en).flatten (xs.map enc).flatten
 | []=>.nil
 | x::xs=>by
   rw [List.map_cons,List.flatten_cons,List.map_cons,List.flatten_cons]
   exact All2.append (hen F w x) (rows_iss hen F w xs)
omit [Drw] in
theorem zEs [Inhabited α] {k:Nat} (hk:∀ x,(enc x).length=k) (xs:List α):(flatK enc k xs.toArray).toList=(xs.map enc).flatten:=by
 have hr:∀ r∈xs.map enc,r.length=k:=fun r hr=>by
  obtain ⟨x,_,rfl⟩:=List.mem_map.1 hr
  exact hk x
 obtain ⟨h1,h2⟩:=yT (xs.map enc) hr
 rw [List.length_map] at h1
 apply List.ext_getElem
 ·simp [h1]
 ·intro j ha hb
  have hj:j < xs.length * k:=by simpa using ha
  have k0:0 < k:=Nat.pos_of_ne_zero fun h=>by subst h; simp at hj
  have hi:j / k < xs.length:=Nat.div_lt_of_lt_mul (by rwa [Nat.mul_comm] at hj)
  have hc:j % k < k:=Nat.mod_lt _ k0
  have e:=h2 (j / k) (j % k) (by simpa using hi) hc
  have ej:j / k * k+j % k=j:=by rw [Nat.mul_comm]; exact Nat.div_add_mod j k
  rw [ej,List.getElem?_eq_getElem hb] at e
  have hl:j % k < (enc xs[j / k]).length:=by rw [hk]; exact hc
  have e2:((xs.map enc)[j / k]'(by simpa using hi))[j % k]?=some ((enc xs[j / k])[j % k]'hl):=by
   rw [List.getElem_map,List.getElem?_eq_getElem hl]
  rw [e2] at e
  rw [Option.some.inj e]
  have:=get_flatK enc k xs.toArray j (by simpa using hj)
  rw [getElem!_pos (flatK enc k xs.toArray) j (by simpa using ha)] at this
  rw [Array.getElem_toList,this]
  rw [getElem!_pos xs.toArray (j / k) (by simpa using hi)]
  simp only [List.getElem_toArray]
  rw [getElem!_pos (enc xs[j / k]) (j % k) hl]
omit [Drw] in
theorem cmp_lays {P:Program} [Inhabited α] (hen:∀ F w x,Iss F w (en x) (enc x)) {k:Nat} {cf:α→α→Int} {g:Nat} (hcmp:∀ [Drw] x y,Pure P g [.agg (en x),.agg (en y)] (.int .i64 (cf x y))) (blk off size:Nat) (w:World):CmpLays P g #[] enc k cf blk off size w:=fun m os dk _ x y=>by
 letI:Drw:=⟨True⟩
 have h:=hcmp x y (fun _ _=>False) (sortWorldK enc k w blk off m dk os) (#[.agg (enc x).toArray,.agg (enc y).toArray]++#[]) ⟨fun _ _ h=>h.elim,.nil,fun _ h=>by cases h⟩ (.cons (Is.agg_of (by simpa using hen _ _ x)) (.cons (Is.agg_of (by simpa using hen _ _ y)) .nil))
 refine h.mono ?_
 rintro e w' ⟨v,u,F',S',rfl,q2,q3,q4,rfl⟩
 rw [int_inv q2]
 exact ⟨rfl,grown_of q4.os q4.tape q4.output (q4.drawn trivial) q4.size fun b hb=>(q4.out b hb (by simp [Hp.dom])).1⟩
theorem zDP [Inhabited α] {P:Program} {ρr:Go.Shelf.Ren} (L:SlLaysF0.n6 P ρr) (k:Nat) (aE:∀ w,(isAgg (ρr.t 24)).run P w = .ok true w) (zE:∀ w,(Go.sizeOf (ρr.t 24)).run P w = .ok k w)
  (hde:∀ F w x us,Iss F w (en x) us→us=enc x) (hen:∀ F w x,Iss F w (en x) (enc x)) (hk:∀ x,(enc x).length=k) (h1:∀ x,∀ v∈enc x,v.oneCell'=true) (cf:α→α→Int) (hO:SWO (ltOf cf)) (hT:∀ x y,(ltOf cf) x y=false→(ltOf cf) y x=false→x=y) (g:Nat)
  (eg:∀ args w,(callFunc g args).run P w = .ok (.enter g args) w) (hcmp:∀ [Drw] x y,Pure P g [.agg (en x),.agg (en y)] (.int .i64 (cf x y))) (b n c r:Nat) (el:TypeId) (xs:List α) (hn:xs.length=n) (hl:n < 4611686018427387904) :
  VC P (ρr.f 6) [.ref b 0 n c,.func g [] []] [.cells b ((xs.map en).flatten++List.replicate r .any) el] fun v S'=>v = .tup []∧S'=[.cells b (((xs.mergeSort fun x y=>!(ltOf cf) y x).map en).flatten++List.replicate r .any) el]:=fun F w us s a=>by
 subst hn
 obtain ⟨us,hus⟩:∃ l:List Value,us=l.toArray:=⟨us.toList,by simp⟩
 subst hus
 have a':Iss F w [.ref b 0 xs.length c,.func g [] []] us:=by simpa using a
 cases a' with
 | cons q1 q2 =>
   cases q2 with
   | cons q2 q3 =>
     cases q3
     cases q1
     cases q2 with
     | func f1 f2 f3 f4 =>
       next A B =>
       have hA:A=#[]:=Array.eq_empty_of_size_eq_zero (by simpa using f1.symm)
       have hB:B=#[]:=Array.eq_empty_of_size_eq_zero (by simpa using f3.symm)
       subst hA hB
       obtain ⟨⟨C,e1,e2⟩,hF⟩:=s.ok _ (List.mem_cons_self ..)
       obtain ⟨l1,l2,hC,i1,i2⟩:=All2.split _ _ e2
       have hl1:=iss_rows hde xs i1
       subst hl1
       have hflat:=zEs hk xs
       have hsz:(flatK enc k xs.toArray).size=xs.length * k:=by simp
       have hfl:(xs.map enc).flatten.length=xs.length * k:=by rw [← hflat]; simp
       have hCs:C.size=xs.length * k+l2.length:=by
        have:=congrArg List.length hC
        simpa [hfl] using this
       have hH:HoldsK enc k w b 0 xs.toArray:=fun j hj=>by
        rw [hsz] at hj
        have hjC:j < C.size:=by omega
        refine ⟨?_,?_⟩
        ·unfold World.cell?
         rw [e1]
         simp only [Option.isSome_none,Bool.false_eq_true,if_false,Nat.zero_add]
         have:C.toList[j]?=(xs.map enc).flatten[j]?:=by rw [hC,List.getElem?_append_left (by omega)]
         rw [← hflat] at this
         simp only [Array.getElem?_toList] at this
         rw [this,Array.getElem?_eq_getElem (by rw [hsz]; exact hj),getElem!_pos _ j (by rw [hsz]; exact hj)]
         rfl
        ·unfold World.frozen?
         rw [e1]
         simp
       have hbw:b < w.heap.size:=(Array.getElem?_eq_some_iff.1 e1).1
       have key:=AnyQ.slices_SortFunc_total L k aE zE enc hk h1 cf hO g #[] b 0 c xs.toArray w eg (cmp_lays hen hcmp b 0 _ w) hH hbw (by simpa using hl) hT
       have hargs:(#[.slice (some ⟨b,0,none⟩) xs.toArray.size c,.func (.func g) #[] #[]]:Array Value)=[.slice (some ⟨b,0,none⟩) xs.length c,.func (.func g) #[] #[]].toArray:=by simp
       rw [hargs] at key
       refine key.mono ?_
       rintro e w' ⟨rfl,m,os,hw'⟩
       generalize hys:(xs.mergeSort fun x y=>!(ltOf cf) y x)=ys at hw' ⊢
       have hlen:ys.length=xs.length:=by rw [← hys]; exact List.length_mergeSort _
       have hflat':=zEs hk ys
       have hsz':(flatK enc k ys.toArray).size=xs.length * k:=by simp [hlen]
       have hfl':(ys.map enc).flatten.length=xs.length * k:=by rw [← hflat']; simp [hlen]
       have hb1:∀ q,q < w.heap.size→w'.heap[q]?=(if b=q then some (.cells (putCells id 0 (flatK enc k ys.toArray) C) el (0,0)) else w.heap[q]?):=fun q hq=>by
        rw [hw']
        unfold sortWorldK grow putRowK putRow mapBlock Sort.ahead
        simp only
        rw [Array.getElem?_append_left (by simpa using hq),Array.getElem?_modify]
        split
        ·next h=>subst h; rw [e1]; rfl
        ·rfl
       have hsize:w.heap.size≤w'.heap.size:=by
        rw [hw']
        unfold sortWorldK grow putRowK putRow mapBlock Sort.ahead
        simp
       have hos:w'.os=w.os∧w'.tape=w.tape∧w'.output=w.output∧w.drawn≤w'.drawn:=by
        rw [hw']
        exact ⟨rfl,rfl,rfl,Nat.le_add_right _ _⟩
       clear hw' key
       have hput:(putCells id 0 (flatK enc k ys.toArray) C).toList=(ys.map enc).flatten++l2:=by
        apply List.ext_getElem?
        intro j
        simp only [putCells,Array.getElem?_toList,Array.getElem?_mapIdx]
        by_cases hj:j < xs.length * k
        ·rw [List.getElem?_append_left (by omega),← hflat',Array.getElem?_toList]
         rw [Array.getElem?_eq_getElem (by omega:j < C.size),Array.getElem?_eq_getElem (by omega:j < (flatK enc k ys.toArray).size)]
         simp only [Option.map_some,Nat.zero_le,true_and,Nat.zero_add,Nat.sub_zero,id]
         rw [if_pos (by omega),getElem!_pos _ j (by omega)]
        ·rw [List.getElem?_append_right (by omega)]
         have:C[j]?=l2[j - xs.length * k]?:=by
          have h5:C.toList[j]?=l2[j - xs.length * k]?:=by rw [hC,List.getElem?_append_right (by omega),hfl]
          simpa using h5
         rw [hfl',← this]
         cases C[j]? with
         | none=>rfl
         | some x =>
           simp only [Option.map_some,Nat.zero_add,Nat.zero_le,true_and]
           rw [if_neg (by omega)]
       have hdom:Hp.dom [.cells b ((xs.map en).flatten++List.replicate r .any) el]=[b]:=rfl
       have hne:∀ q i,F q i→q < w.heap.size∧b≠q:=fun q i h=>⟨s.fz_lt h,fun e=>by subst e; exact hF i h⟩
       have hcell:∀ q i,F q i→w'.cell? ⟨q,i,none⟩=w.cell? ⟨q,i,none⟩:=fun q i h=>by
        obtain ⟨h1,h2⟩:=hne q i h
        unfold World.cell?
        rw [hb1 q h1,if_neg h2]
       have gr:Grow F w F w':=⟨fun _ _ h=>h,hcell⟩
       refine ⟨.tup [],.tuple #[],F,[.cells b ((ys.map en).flatten++List.replicate r .any) el],rfl,Is.tup_of .nil,⟨fun q i h=>?_,?_,fun x hx=>?_⟩,⟨gr,hos.1,hos.2.1,hos.2.2.1,hsize,fun q hq hn=>⟨?_,fun _ h=>h⟩,fun q hq=>.inl hq,fun _=>hos.2.2.2⟩,rfl,rfl⟩
       ·rw [hcell q i h]; exact s.fz q i h
       ·show [b].Nodup; simp
       ·rw [List.mem_singleton] at hx
        subst hx
        refine ⟨⟨_,by rw [hb1 b hbw,if_pos rfl],?_⟩,hF⟩
        rw [hput]
        exact All2.append (rows_iss hen F w' ys) (Iss.mono gr i2)
       ·rw [hb1 q hq,if_neg fun e=>by subst e; exact hn (by simp [hdom])]
theorem zDQ {P:Program} {ρr:Go.Shelf.Ren} (L:SlLaysF0.n6 P ρr) (fv:V) (S:Hp):VC P (ρr.f 6) [.slice .zero [],fv] S fun v S'=>v = .tup []∧S'=S:=fun F w us s a=>by
 obtain ⟨us,hus⟩:∃ l:List Value,us=l.toArray:=⟨us.toList,by simp⟩
 subst hus
 have a':Iss F w [.slice .zero [],fv] us:=by simpa using a
 have fin:∀ (p:Option Addr) (u:Value),Calls P (ρr.f 6) #[.slice p 0 0,u] w fun e w'=>∃ v u F' S',e = .returned u∧Is F' w' v u∧Sat F' w' S'∧Keep F w S F' w' S'∧v = .tup []∧S'=S:=fun p u=>by
  refine (AnyF.slices_SortFunc_none L p 0 u w).mono ?_
  rintro e w' ⟨rfl,rfl⟩
  exact ⟨.tup [],.tuple #[],F,S,rfl,Is.tup_of .nil,s,.refl _ _ _,rfl,rfl⟩
 cases a' with
 | cons q1 q2 =>
   cases q2 with
   | cons q2 q3 =>
     cases q3
     rename_i u1 u2
     have h:∃ p,u1 = .slice p 0 0:=by
      cases q1 with
      | nilSlice _ x=>exact ⟨x,rfl⟩
      | slice g hl hc hv hn hx ht =>
        have:_=0:=ht
        subst this
        exact ⟨_,rfl⟩
     obtain ⟨p,rfl⟩:=h
     exact fin p u2
omit [Drw] in
theorem swo_of {α:Type} {lt:α→α→Bool} (irr:∀ a,lt a a=false) (tr:∀ a b c,lt a b=true→lt b c=true→lt a c=true) (tot:∀ a b,lt a b=false→lt b a=false→a=b):SWO lt:=⟨irr,tr,fun x y z h k=>by
 cases e:lt x z
 ·rfl
 ·cases e2:lt y x
  ·have:=tot _ _ h e2
   subst this
   rw [k] at e; cases e
  ·rw [tr _ _ _ e2 e] at k; cases k⟩
end
end Go.Vw
namespace Go.Am
open Go.RowKit
def kvV (agg:Bool) (k:List Int):Vw.V:=cond agg (.agg (k.map (Vw.V.int .i64))) (match k with | [a]=>.int .i64 a | _=>.any)
section
open Vw
theorem intsOf_eq:∀ {l:List Value} {k:List Int},intsOf l=some k→l=k.map (Value.int .i64)
 | [],k,h=>by cases h; rfl
 | x::l,k,h=>by
   unfold intsOf at h
   split at h
   ·next h1=>cases h1
   ·next a r h1 =>
    cases h1
    split at h
    ·next k' e=>cases h; rw [intsOf_eq e]; rfl
    ·cases h
   ·cases h
theorem vrs_ints {ρ:Ren}:∀ {k:List Int} {us:List Value},VRs ρ (k.map (Value.int .i64)) us→us=k.map (Value.int .i64)
 | [],_,.nil=>rfl
 | a::k,_,.cons h1 h2=>by cases h1; rw [vrs_ints h2]; rfl
theorem iss_ints (F:Fz) (w:World):∀ k:List Int,Iss F w (k.map (V.int .i64)) (k.map (Value.int .i64))
 | []=>.nil
 | _a::k=>.cons (.int _ _) (iss_ints F w k)
theorem key_is {ρ:Ren} {agg:Bool} {v v':Value} {k:List Int} (h:keyNs agg v=some k) (r:VR ρ v v') (F:Fz) (w:World):Is F w (kvV agg k) v':=by
 unfold keyNs at h
 split at h
 ·next cs =>
  cases agg
  ·cases h
  ·have e:=intsOf_eq h
   cases r with
   | agg h1 h2 =>
     have:=VRs.of_array h1 h2
     rw [e] at this
     exact Is.agg_of (by rw [vrs_ints this]; exact iss_ints F w k)
 ·next a =>
  cases agg
  ·cases h; cases r; exact .int _ _
  ·cases h
 ·cases h
theorem key_det {agg:Bool} {k:List Int} {u v:Value} {F F':Fz} {w w':World} (hk:agg=false→k.length=1) (h:Is F w (kvV agg k) u) (h':Is F' w' (kvV agg k) v):u=v:=by
 have dets:∀ {k:List Int} {us:List Value} {F:Fz} {w:World},Iss F w (k.map (V.int .i64)) us→us=k.map (Value.int .i64):=by
  intro k
  induction k with
  | nil=>intro us F w h; cases h; rfl
  | cons a k ih=>intro us F w h; cases h with | cons h1 h2=>rw [int_inv h1,ih h2]; rfl
 cases agg
 ·match k,hk rfl with
  | [a],_=>exact (int_inv h).trans (int_inv h').symm
 ·cases h with
  | agg h1 h2 =>
    cases h' with
    | agg h3 h4 =>
      have a:=dets (Iss.of_array h1 h2)
      have b:=dets (Iss.of_array h3 h4)
      rw [Array.toList_inj.1 (a.trans b.symm)]
theorem keys_mrb {ρ:Ren} {agg:Bool} (F:Fz) (w:World):∀ {es es':List MapEntry} {ks:List (Nat×List Int)},keysOfM agg es=some ks→All2 (ER ρ) es es'→All2 (MRB F w) (ks.map fun k=>(k.1,kvV agg k.2,V.agg [])) es'
 | [],_,ks,h,.nil=>by cases h; exact .nil
 | e::es,_,ks,h,.cons r rs=>by
   unfold keysOfM at h
   split at h
   ·next k l h1 h2 h3 =>
    cases h
    refine .cons ⟨r.born,key_is h1 r.key F w,?_⟩ (keys_mrb F w h3 rs)
    have hv:=r.val
    unfold emptyV at h2
    split at h2
    ·next cs hx =>
     have hc:cs=#[]:=by
      have:cs.toList=[]:=by simpa using h2
      exact Array.toList_eq_nil_iff.1 this
     rw [hx] at hv
     generalize hb:MapEntry.val _=bv at hv ⊢
     cases hv with
     | agg h4 h5 =>
       next a' =>
       have:a'=#[]:=Array.eq_empty_of_size_eq_zero (by rw [← h4,hc]; rfl)
       subst this
       exact Is.agg_of .nil
    ·cases h2
   ·cases h
theorem agg_nil {F:Fz} {w:World} {u:Value} (h:Is F w (.agg []) u):u = .agg #[]:=by
 cases h with
 | agg h1 h2 =>
   next a' =>
   have:a'=#[]:=Array.eq_empty_of_size_eq_zero (by simpa using h1.symm)
   rw [this]
theorem zEt {cl:Nat}:∀ {ks:List (Nat×List Int)},bornsB cl ks=true→(ks.map (·.1)).Nodup∧∀ k∈ks,k.1 < cl
 | [],_=>⟨.nil,fun _ h=>by cases h⟩
 | k::ks,h=>by
   unfold bornsB at h
   cases h1:Nat.blt k.1 cl
   ·rw [h1] at h; cases h
   cases h2:(ks.any fun x=>Nat.beq x.1 k.1)
   ·rw [h1,h2] at h
    obtain ⟨a,b⟩:=zEt h
    refine ⟨?_,fun x hx=>?_⟩
    ·rw [List.map_cons,List.nodup_cons]
     refine ⟨fun hm=>?_,a⟩
     obtain ⟨x,hx,e⟩:=List.mem_map.1 hm
     rw [List.any_eq_false] at h2
     exact h2 x hx (by rw [e]; exact Nat.beq_refl _)
    ·rcases List.mem_cons.1 hx with rfl | hx
     ·simpa [Nat.blt_eq] using h1
     ·exact b x hx
   ·rw [h1,h2] at h; cases h
theorem zCd:∀ a b:List Int,xj a b=false→xj b a=false→a=b
 | [],[],_,_=>rfl
 | [],_::_,h,_=>by cases h
 | _::_,[],_,k=>by cases k
 | a::r,b::s,h,k=>by
   unfold xj at h k
   by_cases h1:a < b
   ·rw [decide_eq_true h1] at h; cases h
   by_cases h2:b < a
   ·rw [decide_eq_true h2] at k; cases k
   have e:a=b:=by omega
   subst e
   simp only [h1,decide_false,cond_false,decide_true,cond_true] at h k
   rw [zCd r s h k]
theorem zCe (x:List Int):∀ l,(insL x l).Perm (x::l)
 | []=>.refl _
 | y::r=>by
   unfold insL
   cases xj y x
   ·exact .refl _
   ·exact ((zCe x r).cons y).trans (.swap x y r)
theorem qp:∀ l,(sortL l).Perm l
 | []=>.refl _
 | x::r=>(zCe x _).trans ((qp r).cons x)
theorem lessL_tr:∀ a b c:List Int,xj a b=true→xj b c=true→xj a c=true
 | [],[],_,h,_=>by cases h
 | [],_::_,[],_,k=>by cases k
 | [],_::_,_::_,_,_=>rfl
 | _::_,[],_,h,_=>by cases h
 | _::_,_::_,[],_,k=>by cases k
 | a::r,b::s,c::t,h,k=>by
   have un:∀ (a b:Int) (r s:List Int),xj (a::r) (b::s)=(decide (a < b) || (decide (a=b) && xj r s)):=fun a b r s=>by
    show cond _ _ (cond _ _ _)=_
    cases decide (a < b) <;> cases decide (a=b) <;> cases xj r s <;> rfl
   rw [un] at *
   simp only [Bool.or_eq_true,Bool.and_eq_true,decide_eq_true_eq] at *
   rcases h with h | ⟨h,h'⟩ <;> rcases k with k | ⟨k,k'⟩
   ·left; omega
   ·left; omega
   ·left; omega
   ·right; exact ⟨by omega,lessL_tr r s t h' k'⟩
theorem zDR (x:List Int):∀ {l:List (List Int)},(l.Pairwise fun a b=>xj b a=false)→(insL x l).Pairwise fun a b=>xj b a=false
 | [],_=>by simp [insL]
 | y::r,h=>by
   rw [List.pairwise_cons] at h
   unfold insL
   cases e:xj y x
   ·refine List.pairwise_cons.2 ⟨fun z hz=>?_,List.pairwise_cons.2 h⟩
    rcases List.mem_cons.1 hz with rfl | hz
    ·exact e
    ·cases e2:xj z x
     ·rfl
     ·have h3:=h.1 z hz
      cases e4:xj y z
      ·have:=zCd _ _ e4 h3
       subst this
       rw [e] at e2; cases e2
      ·rw [lessL_tr _ _ _ e4 e2] at e; cases e
   ·refine List.pairwise_cons.2 ⟨fun z hz=>?_,zDR x h.2⟩
    have hz:=(zCe x r).mem_iff.1 hz
    rcases List.mem_cons.1 hz with rfl | hz
    ·cases e2:xj z y
     ·rfl
     ·have:=lessL_tr _ _ _ e e2
      have irr:∀ a:List Int,xj a a=false:=by
       intro a
       induction a with
       | nil=>rfl
       | cons b r ih=>unfold xj; simp [ih]
      rw [irr] at this; cases this
    ·exact h.1 z hz
theorem zBz:∀ l,(sortL l).Pairwise fun a b=>xj b a=false
 | []=>.nil
 | x::r=>zDR x (zBz r)
theorem sortL_unique {l ys:List (List Int)} (h1:ys.Perm l) (h2:ys.Pairwise fun a b=>xj b a=false):ys=sortL l :=
 List.Perm.eq_of_pairwise (le:=fun a b=>xj b a=false) (fun _a _b _ _ x y=>zCd _ _ y x) h2 (zBz l) (h1.trans (qp l).symm)
theorem zCf:∀ l:List (List Int),cellsL l=(l.map fun k=>k.map (Value.int .i64)).flatten
 | []=>rfl
 | p::r=>by rw [List.map_cons,List.flatten_cons,← zCf r]; rfl
open Vw in
theorem rows_det {F:Fz} {w:World}:∀ (l:List (List Int)) {us:List Value},Iss F w (l.map fun k=>k.map (V.int .i64)).flatten us→us=cellsL l
 | [],_,.nil=>rfl
 | p::r,us,h=>by
   rw [List.map_cons,List.flatten_cons] at h
   obtain ⟨l1,l2,rfl,h1,h2⟩:=All2.split _ _ h
   have dets:∀ {k:List Int} {us:List Value},Iss F w (k.map (V.int .i64)) us→us=k.map (Value.int .i64):=by
    intro k
    induction k with
    | nil=>intro us h; cases h; rfl
    | cons a k ih=>intro us h; cases h with | cons h1 h2=>rw [int_inv h1,ih h2]; rfl
   rw [dets h1,rows_det r h2]
   rfl
section
open Vw
variable [Drw]
theorem extKeys_sound {tb:Tab} {P:Program} {B:Nat} {w₀:World} (hT:TabOk tb P) {agg:Bool} {n f keys elem:Nat} {rest:List Value→Bool} {fn:Func} {c:Code} (hf:tb.func f=some fn) (hb:fn.body=some c) (hs:tb.size elem=some n) (hagg:agg=false→n=1) (restV:List V)
  (hrest:∀ more ρ more' F w,rest more=true→VRs ρ more more'→Iss F w restV more')
  (hVC:∀ b cl (ks:List (Nat×List Int)),ks≠[]→(∀ k∈ks,k.2.length=n)→ks.length < 65536→VC P f (.func keys [] [.pin [.map b] 0]::restV) [.mapB b (ks.map fun k=>(k.1,kvV agg k.2,.agg [])) cl] fun v S'=>∃ (b' c' r:Nat) (ys:List (List Int)),ys.Perm (ks.map (·.2))∧(ys.Pairwise fun x y=>xj y x=false)∧v = .ref b' 0 ks.length c'∧ks.length≤c'∧c' * n=ks.length * n+r∧S'=[.cells b' ((ys.map fun k=>k.map (V.int .i64)).flatten++List.replicate r .any) elem,.mapB b (ks.map fun k=>(k.1,kvV agg k.2,.agg [])) cl])
  {args:List Value} {H H':AH} {v:Value} (e:extKeys agg n keys elem rest args H=some (v,H')) {ρ:Ren} {w:World} {args':Array Value} (h:SR tb B w₀ ρ H w) (hv:VRs ρ args args'.toList) :
  (callFunc f args').run P w = .ok (.enter f args') w∧∀ n,CallsIn Fence.wide n P f args' w (Fin tb B w₀ ρ H v H'):=by
 refine ⟨xf hT hf hb _ _,fun m=>callsIn_wide.2 ?_⟩
 unfold extKeys at e
 split at e
 ·next g a cap more =>
  cases h1:(Nat.beq g keys && a.toList.isEmpty && rest more)
  ·rw [h1] at e; cases e
  rw [h1] at e
  simp only [cond_true] at e
  simp only [Bool.and_eq_true] at h1
  obtain ⟨⟨h1,h2⟩,h3⟩:=h1
  have hg:g=keys:=Nat.eq_of_beq_eq_true h1
  subst hg
  split at e
  ·next box hcap =>
   split at e
   ·next mm _ _ hbox =>
    split at e
    ·next es cl hm =>
     split at e
     ·cases e
     ·next ks hne hks =>
      cases h4:(bornsB cl ks && ks.all (fun k=>Nat.beq k.2.length n) && Nat.blt ks.length 65536)
      ·rw [h4] at e; cases e
      rw [h4] at e
      simp only [cond_true] at e
      simp only [Bool.and_eq_true,List.all_eq_true] at h4
      obtain ⟨⟨h4,h5⟩,h6⟩:=h4
      have hlen:∀ k∈ks,k.2.length=n:=fun k hk=>Nat.eq_of_beq_eq_true (h5 k hk)
      have h7:ks.length < 65536:=by simpa [Nat.blt_eq] using h6
      split at e
      ·next i H1 hal =>
       cases e
       generalize hus:args'.toList=us at hv
       cases hv with
       | cons q1 q2 =>
         cases q1 with
         | func f1 f2 f3 f4 =>
           next a' cap' =>
           have ha':a'=#[]:=Array.eq_empty_of_size_eq_zero (by rw [← f1]; simpa using h2)
           subst ha'
           have hcv:=VRs.of_array f3 f4
           rw [hcap] at hcv
           generalize hc2:cap'.toList=cl2 at hcv
           cases hcv with
           | cons p1 p2 =>
             cases p2
             cases p1 with
             | ptr hρ =>
               next bb ss =>
               obtain ⟨o1,o1',g1,g2,g3⟩:=h.obj _ _ _ hρ
               rw [hbox] at g1
               cases g1
               cases o1' with
               | cells C el fz =>
                 obtain ⟨g3,_⟩:=g3
                 obtain ⟨v1,g4,g5⟩:=g3 0 _ rfl
                 cases g5 with
                 | map hρm =>
                   next mb =>
                   obtain ⟨o2,o2',g6,g7,g8⟩:=h.obj _ _ _ hρm
                   rw [hm] at g6
                   cases g6
                   cases o2' with
                   | map es2 cl2' =>
                     obtain ⟨_,rfl,g9⟩:=g8
                     let F:Fz:=fun b k=>b=bb∧k=ss
                     have hcell:w.cell? ⟨bb,ss,none⟩=some (.map (some mb)):=by
                      unfold World.cell?
                      rw [g2]
                      simpa using g4
                     have hbm:bb≠mb:=fun e=>by subst e; rw [g2] at g7; cases g7
                     have hmr:=keys_mrb F w hks g9
                     obtain ⟨b1,b2⟩:=zEt h4
                     have hbe:(es2.toList.map (·.born))=ks.map (·.1):=by
                      have:∀ {ks:List (Nat×List Int)} {l:List MapEntry},All2 (MRB F w) (ks.map fun k=>(k.1,kvV agg k.2,V.agg [])) l→l.map (·.born)=ks.map (·.1):=by
                       intro ks
                       induction ks with
                       | nil=>intro l h; cases h; rfl
                       | cons k ks ih=>intro l h; cases h with | cons h1 h2=>rw [List.map_cons,List.map_cons,ih h2,h1.born]
                      exact this hmr
                     have hsat:Sat F w [.mapB mb (ks.map fun k=>(k.1,kvV agg k.2,V.agg [])) cl2']:=by
                      refine ⟨fun b k hbk=>?_,(by show [mb].Nodup; simp),fun x hx=>?_⟩
                      ·obtain ⟨rfl,rfl⟩:=hbk
                       exact ⟨_,hcell⟩
                      ·rw [List.mem_singleton] at hx
                       subst hx
                       refine ⟨es2,g7,hmr,by rw [hbe]; exact b1,fun x hx=>?_⟩
                       have:x.born∈es2.toList.map (·.born):=List.mem_map.2 ⟨x,hx,rfl⟩
                       rw [hbe] at this
                       obtain ⟨k,hk,e⟩:=List.mem_map.1 this
                       rw [← e]; exact b2 k hk
                     have hargs:Iss F w (.func g [] [.pin [.map mb] 0]::restV) args'.toList:=by
                      rw [hus]
                      refine .cons (.func rfl (fun i x=>by simp at x) (by have:=congrArg List.length hc2; simpa using this.symm) fun i x y=>?_) (hrest _ _ _ _ _ h3 q2)
                      have hi:i=0:=by simpa using x
                      subst hi
                      have:cap'[0] = .pointer (some ⟨bb,ss+0,none⟩):=by
                       have h9:cap'.toList[0]?=some (.pointer (some ⟨bb,ss+0,none⟩)):=by rw [hc2]; rfl
                       rw [Array.getElem?_toList,Array.getElem?_eq_getElem y] at h9
                       exact Option.some.inj h9
                      rw [this]
                      exact .pin (fun _=>.map (some mb)) (fun k hk=>by
                       have:k=0:=by simpa using hk
                       subst this
                       exact ⟨⟨rfl,rfl⟩,hcell⟩) (fun k hk=>by
                       have:k=0:=by simpa using hk
                       subst this
                       exact .map mb)
                     refine (hVC mb cl2' ks (fun e=>hne (by rw [← e])) hlen h7 F w args' hsat hargs).mono ?_
                     rintro en w' ⟨v2,u2,F',S',rfl,r1,r2,r3,b',c',r,ys,y1,y2,rfl,y3,y4,rfl⟩
                     have hd:Hp.dom [.mapB mb (ks.map fun k=>(k.1,kvV agg k.2,V.agg [])) cl2']=[mb]:=rfl
                     have hrf:u2 = .slice (some ⟨b',0,none⟩) ks.length c':=by cases r1; rfl
                     subst hrf
                     obtain ⟨⟨C',x1,x2⟩,_⟩:=r2.ok _ (List.mem_cons_self ..)
                     obtain ⟨es3,x3,x4,_⟩:=r2.ok (.mapB mb (ks.map fun k=>(k.1,kvV agg k.2,V.agg [])) cl2') (by simp)
                     have hbb:mb≠b':=fun e=>by subst e; rw [x1] at x3; cases x3
                     have hes:es3=es2:=by
                      have key:∀ {ks:List (Nat×List Int)} {l l':List MapEntry},(∀ k∈ks,k.2.length=n)→All2 (MRB F w) (ks.map fun k=>(k.1,kvV agg k.2,V.agg [])) l→All2 (MRB F' w') (ks.map fun k=>(k.1,kvV agg k.2,V.agg [])) l'→l=l':=by
                       intro ks
                       induction ks with
                       | nil=>intro l l' _ h h'; cases h; cases h'; rfl
                       | cons k ks ih =>
                         intro l l' hk h h'
                         cases h with
                         | cons h1 h2 =>
                           cases h' with
                           | cons h3 h4 =>
                             rename_i m1 _ m2 _
                             rw [ih (fun x hx=>hk x (List.mem_cons_of_mem _ hx)) h2 h4]
                             have e1:m1.key=m2.key:=key_det (fun ha=>(hk k (List.mem_cons_self ..)).trans (hagg ha)) h1.key h3.key
                             have e2:m1.val=m2.val:=(agg_nil h1.val).trans (agg_nil h3.val).symm
                             have e3:m1.born=m2.born:=h1.born.trans h3.born.symm
                             obtain ⟨⟩:=m1
                             obtain ⟨⟩:=m2
                             simp only at e1 e2 e3
                             subst e1 e2 e3
                             rfl
                      exact (Array.toList_inj.1 (key hlen hmr x4)).symm
                     have hbel:Below w.heap.size w w':=⟨r3.os,r3.tape,r3.output,r3.size,fun k hk=>by
                      by_cases hkm:k=mb
                      ·subst hkm; rw [x3,hes,g7]
                      ·exact (r3.out k hk (by rw [hd]; simpa using hkm)).1⟩
                     have hbnew:w.heap.size≤b':=by
                      rcases r3.dom b' (by simp [Hp.dom,HE.blk]) with hx | hx
                      ·rw [hd] at hx; exact absurd (List.mem_singleton.1 hx).symm hbb
                      ·exact hx
                     obtain ⟨l1,l2,hC,i1,i2⟩:=All2.split _ _ x2
                     have hl1:=rows_det ys i1
                     rw [sortL_unique y1 y2] at hl1
                     subst hl1
                     have hcl:(cellsL (sortL (ks.map (·.2)))).length=ks.length * n:=by
                      have:=(yT ((sortL (ks.map (·.2))).map fun k=>k.map (Value.int .i64)) (sz:=n) fun r hr=>by
                       obtain ⟨k,hk,rfl⟩:=List.mem_map.1 hr
                       obtain ⟨k',hk',rfl⟩:=List.mem_map.1 ((qp _).mem_iff.1 hk)
                       simpa using hlen k' hk').1
                      rw [zCf,this,List.length_map,(qp _).length_eq,List.length_map]
                     have hCs:C'.size=c' * n:=by
                      have:=congrArg List.length hC
                      have h9:=i2.length
                      simp at this h9
                      rw [hcl] at this
                      omega
                     obtain ⟨sr,kp,hp⟩:=h.behind hbel (o':=.cells C' elem (0,0)) (r:=(C'.size,n)) hal hbnew x1 ⟨fun k v hk=>⟨v,by
                      have:C'.toList[k]?=some v:=by rw [hC,List.getElem?_append_left (List.getElem?_eq_some_iff.1 hk).1]; exact hk
                      rw [Nat.zero_add]
                      simpa using this,by
                      rw [zCf] at hk
                      have hm:=List.mem_of_getElem? hk
                      obtain ⟨q,hq,hm⟩:=List.mem_flatten.1 hm
                      obtain ⟨k',_,rfl⟩:=List.mem_map.1 hq
                      obtain ⟨z,_,rfl⟩:=List.mem_map.1 hm
                      exact .int _ _⟩,fun _=>rfl⟩ (fun c e fr h=>by cases h; rfl) (fun c e ro h=>by cases h; exact hs)
                     refine ⟨_,kp,sr,?_⟩
                     have:=VR.slice (ρ:=ρ.put i (b',0) (C'.size,n)) (off:=0) (n:=ks.length) (c:=ks.length) (c':=c') (x:=0) hp y3 (.inr rfl) (.inr (by
                      rw [Ren.put_row,if_pos rfl,Nat.zero_add,hCs]
                      exact Nat.le_refl _))
                     exact this
                   | _=>exact g8.elim
               | _=>exact g3.elim
      ·cases e
     ·cases e
    ·cases e
   ·cases e
  ·cases e
 ·cases e
end
end
end Go.Am
namespace Go.Vw
open Go.RowKit Go.Am
variable [Drw]
section
variable {P:Program} {S:Hp} {tb:Tab} {o:Oper} {ρ:Operand→Option V} {k:V→Hp→Prop}
omit [Drw] in
theorem run_bound {i:Nat} {κ:IntKind} {w:World} {q:BoundsCode}:∀ y:Nat,i≤y→(Instr.sliceBound (.int κ (i:Int)) y q).run P w = .ok i w:=fun y hy=>by
 simp only [Instr.sliceBound,asIntOf,Sem.run_bind,Sem.run_pure,Result.andThen]
 rw [if_pos ⟨Int.natCast_nonneg _,Int.ofNat_le.2 hy⟩]
 simp only [Int.toNat_natCast,Sem.run_pure]
omit [Drw] in
theorem g_refFrom (hT:TabOk tb P) {t el:TypeId} {x lo:Operand} {b off n c sz:Nat} {κ:IntKind} {i:Nat} (ho:o.op = .slice t x (some lo) none none) (ht:tb.under t=some (.slice el)) (hs:tb.size el=some sz)
  (hx:ρ x=some (.ref b off n c)) (hl:ρ lo=some (.int κ (i:Int))) (hi:i≤n) (hc:i < c):QG P o ρ S (.ref b (off+i * sz) (n - i) (c - i)) :=
 QG.mk (by rw [ho]; rfl) fun F w a s hf=>by
  have hvx:=hf _ _ hx
  have hlv:=int_inv (hf _ _ hl)
  generalize hb:a.eval x=u at hvx
  cases hvx
  refine Gives.of (u:=.slice (some ⟨b,off+i * sz,none⟩) (n - i) (c - i)) ?_ (.ref _ _ _ _)
  have sb:(Instr.sliceBounds true n c (some (.int κ (i:Int))) none none).run P w = .ok (i,n,c) w:=by
   simp only [Instr.sliceBounds,Option.isSome,Sem.run_bind,Sem.run_pure,Result.andThen,Bool.false_eq_true,if_false,run_bound n hi]
  simp only [execOp,ho,hb,Instr.sliceAt,Option.map,hlv,Sem.run_bind,zF hT ht,Result.andThen,Instr.slice,sb,Am.run_size hT hs,Sem.run_pure]
  rw [if_neg (by omega)]
  simp only [Am.Addr.add_eq]
omit [Drw] in
theorem g_refTo (hT:TabOk tb P) {t el:TypeId} {x hi:Operand} {b off n c sz:Nat} {κ:IntKind} {i:Nat} (ho:o.op = .slice t x none (some hi) none) (ht:tb.under t=some (.slice el)) (hs:tb.size el=some sz)
  (hx:ρ x=some (.ref b off n c)) (hl:ρ hi=some (.int κ (i:Int))) (hc:i≤c):QG P o ρ S (.ref b off i c) :=
 QG.mk (by rw [ho]; rfl) fun F w a s hf=>by
  have hvx:=hf _ _ hx
  have hlv:=int_inv (hf _ _ hl)
  generalize hb:a.eval x=u at hvx
  cases hvx
  refine Gives.of (u:=.slice (some ⟨b,off,none⟩) i c) ?_ (.ref _ _ _ _)
  have sb:(Instr.sliceBounds true n c none (some (.int κ (i:Int))) none).run P w = .ok (0,i,c) w:=by
   simp only [Instr.sliceBounds,Sem.run_bind,Sem.run_pure,Result.andThen,if_true,run_bound c hc]
  simp only [execOp,ho,hb,Instr.sliceAt,Option.map,hlv,Sem.run_bind,zF hT ht,Result.andThen,Instr.slice,sb,Am.run_size hT hs,Sem.run_pure]
  simp only [Nat.zero_mul,Nat.sub_zero,Am.Addr.add_eq,Nat.add_zero,ite_self]
theorem s_clear (hT:TabOk tb P) {c:Call} {t el:TypeId} {x:Operand} {b off n cp sz:Nat} {cs cs':List V} {e:TypeId} {f:HE→Hp} {z:V} (ho:o.op = .call c) (hc:c.callee = .builtin .clear) (hx':c.args=#[x]) (hat':c.argTypes=#[t])
  (ht:tb.under t=some (.slice el)) (_hs:tb.size el=some sz) (hz:uw tb el=some z) (hzs:(z.solid && Nat.beq z.cells.length sz)=true) (hzc:zz z.cells=true) (hn:0 < n) (hsz:0 < sz) (hx:ρ x=some (.ref b off n cp)) (hat:At S (.cells b cs e) f) (hp:wI off (uk n z.cells) cs=some cs')
  (h:k (.tup []) (f (.cells b cs' e))):OpS P o ρ S k :=
 OpS.mk (by rw [ho]; rfl) fun F w a s hf=>by
  simp only [Bool.and_eq_true] at hzs
  obtain ⟨z1,z2⟩:=hzs
  have hzn:=Nat.eq_of_beq_eq_true z2
  obtain ⟨z',rz,hz'⟩:=qN (P:=P) hT hz w F w
  have hcz:=hz'.cells_of z1
  have hcs:=zBA (m:=n) hcz hzn
  have hvx:=hf _ _ hx
  obtain ⟨q,e1,hsz2,s',k'⟩:=s.store hat hp hcs
  have hz2:z'.cells.size=sz:=by rw [← hzn,hcz.length]; simp
  have hne:uk n z.cells≠[]:=fun e0=>by
   have:=(qP n z.cells).1
   rw [e0,hzn] at this
   have:0 < n * sz:=Nat.mul_pos hn hsz
   simp at *; omega
  have hcell:∀ u∈((Array.range (n * sz)).map (fun k=>z'.cells[k % z'.cells.size]!)).toList,isCell u=true:=fun u hu=>by
   obtain ⟨j,hj,rfl⟩:=List.mem_iff_getElem.1 hu
   have hj2:j % z'.cells.size < z'.cells.size:=Nat.mod_lt _ (by omega)
   simp only [Array.toList_map,List.getElem_map,Array.getElem_toList]
   rw [getElem!_pos z'.cells _ (by simpa using Nat.mod_lt _ (by omega:0 < z'.cells.size))]
   exact vg hcz hzc _ (Array.getElem_mem_toList ..)
  have st:=xD (P:=P) (b:=b) (o:=off) _ 0 w q e1 hcell (by have:=hsz2 hne; omega)
  rw [Nat.add_zero] at st
  simp only [hz2] at st
  generalize hb:a.eval x=u at hvx
  cases hvx
  refine .val (u:=.tuple #[]) (x8 ho hc ?_) (Is.tup_of .nil) s' k' h
  have hm:(#[x]:Array Operand).map a.eval=#[.slice (some ⟨b,off,none⟩) n cp]:=by simp [hb]
  rw [hx',hat',hm]
  obtain ⟨m,rfl⟩:∃ m,n=m+1:=⟨n - 1,by omega⟩
  simp only [builtin,Builtin.clear_,Sem.run_bind,zF hT ht,Result.andThen,Sem.run_pure,List.getElem?_toArray,List.getElem?_cons_zero,rz,Builtin.zeroCells,hz2,st]
end
section
variable {tb:Tab} {sz:Nat}
omit [Drw] in
theorem vY {α:Type}:∀ {n:Nat} {l r:List α},r.length=n→(∀ k,k < n→l[k]?=r[k]?)→kT n l=some r
 | 0,l,[],_,_=>rfl
 | n+1,[],x::r,h,k=>by have:=k 0 (by omega); simp at this
 | n+1,y::l,x::r,h,k=>by
   have h0:=k 0 (by omega)
   simp at h0
   subst h0
   unfold kT
   rw [vY (n:=n) (l:=l) (r:=r) (by simpa using h) fun j hj=>by have:=k (j+1) (by omega); simpa using this]
omit [Drw] in
theorem rows_part {t:TypeId} {rows:List (List V)} {X:List V} {i:Nat} (ha:tb.isAgg t=some true) (hs:tb.size t=some sz) (hr:∀ r∈rows,r.length=sz) (hi:i < rows.length):xH tb t (rows.flatten++X) (i * sz)=some (.agg rows[i]):=by
 unfold xH
 rw [ha,hs]
 dsimp only
 obtain ⟨h1,h2⟩:=yT rows hr
 rw [vY (r:=rows[i]) (hr _ (List.getElem_mem hi)) fun j hj=>by
  rw [uY,List.getElem?_append_left (by have:i * sz+sz≤rows.length * sz:=(by rw [← Nat.succ_mul]; exact Nat.mul_le_mul_right _ hi); rw [h1]; omega)]
  exact h2 i j hi hj]
omit [Drw] in
theorem layV_skip {α:Type}:∀ (a:List α) (n:Nat) (vs l:List α),wI (a.length+n) vs (a++l)=(wI n vs l).map (a++·)
 | [],n,vs,l=>by simp
 | x::a,n,[],l=>by
   simp [wI]
 | x::a,n,v::vs,l=>by
   have ih:=layV_skip a n (v::vs) l
   rw [List.length_cons,Nat.add_right_comm]
   show (match wI (a.length+n) (v::vs) (a++l) with | some r=>some (x::r) | none=>none)=_
   rw [ih]
   cases wI n (v::vs) l <;> rfl
omit [Drw] in
theorem layV_over {α:Type}:∀ (vs us l:List α),us.length=vs.length→wI 0 vs (us++l)=some (vs++l)
 | [],[],l,_=>by simp [wI]
 | v::vs,u::us,l,h=>by
   show (match wI 0 vs (us++l) with | some r=>some (v::r) | none=>none)=_
   rw [layV_over vs us l (by simpa using h)]
   rfl
omit [Drw] in
theorem lay_mid {α:Type} {a vs us l:List α} {n:Nat} (hn:a.length=n) (h:us.length=vs.length):wI n vs (a++(us++l))=some (a++(vs++l)):=by
 have:=layV_skip a 0 vs (us++l)
 rw [Nat.add_zero,hn,layV_over vs us l h] at this
 exact this
omit [Drw] in
theorem split_at {α:Type} {l:List α} {i:Nat} (h:i < l.length):l=l.take i++l[i]::l.drop (i+1):=by
 rw [List.getElem_cons_drop,List.take_append_drop]
omit [Drw] in
theorem rows_lay {rows:List (List V)} {X r:List V} {i:Nat} (hr:∀ r∈rows,r.length=sz) (hi:i < rows.length) (h:r.length=sz):wI (i * sz) r (rows.flatten++X)=some ((rows.set i r).flatten++X):=by
 have e1:rows.flatten++X=(rows.take i).flatten++(rows[i]++((rows.drop (i+1)).flatten++X)):=by
  have e0:=congrArg (fun l=>List.flatten l++X) (split_at hi)
  simp only [List.flatten_append,List.flatten_cons,List.append_assoc] at e0
  exact e0
 have e2:(rows.set i r).flatten++X=(rows.take i).flatten++(r++((rows.drop (i+1)).flatten++X)):=by
  rw [List.set_eq_take_append_cons_drop,if_pos hi]
  simp
 rw [e1,e2]
 refine lay_mid ?_ ?_
 ·rw [(yT (rows.take i) fun x hx=>hr x (List.mem_of_mem_take hx)).1,List.length_take]
  congr 1; omega
 ·rw [h,hr _ (List.getElem_mem hi)]
omit [Drw] in
theorem rows_store {t:TypeId} {rows:List (List V)} {X r:List V} {i:Nat} (hs:tb.size t=some sz) (hr:∀ r∈rows,r.length=sz) (hi:i < rows.length) (h:r.length=sz) (hc:zz r=true):vG tb t (.agg r) (i * sz) (rows.flatten++X)=some ((rows.set i r).flatten++X):=by
 unfold vG
 rw [hs]
 have e:V.cells (.agg r)=r:=rfl
 simp only [e,hc,h,Nat.beq_refl,Bool.and_self,cond_true]
 exact rows_lay hr hi h
omit [Drw] in
theorem rows_clear {rows:List (List V)} {X z:List V} {i:Nat} (hr:∀ r∈rows,r.length=sz) (hi:i≤rows.length) (h:z.length=sz):wI (i * sz) (uk (rows.length - i) z) (rows.flatten++X)=some ((rows.take i).flatten++(uk (rows.length - i) z++X)):=by
 have e1:rows.flatten++X=(rows.take i).flatten++((rows.drop i).flatten++X):=by
  have e0:=congrArg (fun l=>List.flatten l++X) (List.take_append_drop i rows).symm
  simp only [List.flatten_append,List.append_assoc] at e0
  exact e0
 rw [e1]
 refine lay_mid ?_ ?_
 ·rw [(yT (rows.take i) fun x hx=>hr x (List.mem_of_mem_take hx)).1,List.length_take]
  congr 1; omega
 ·rw [(yT (rows.drop i) fun x hx=>hr x (List.mem_of_mem_drop hx)).1,(qP _ z).1,h,List.length_drop]
end
end Go.Vw
