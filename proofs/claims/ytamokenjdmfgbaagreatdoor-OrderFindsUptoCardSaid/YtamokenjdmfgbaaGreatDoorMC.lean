/- Walks over values told whole: what stands for what, the rules, a row of arguments; no condition. -/
import Derived.Test.YtamokenjdmfgbaaGreatDoorMA
import Derived.Test.YtamokenjdmfgbaaGreatDoorMB
import Derived.RangeFuncRecord
import Derived.RangeFuncLeaves
import Derived.ChangeArms
import Derived.DataReads
namespace Go.Vw
open Go.RowKit Go.Am
inductive Tok where
 | no | zero | own (b n m s:Nat)
inductive V where
 | any | skip
 | bool (b:Bool) | ob (b:Bool) | int (k:IntKind) (n:Int) | str (s:ByteArray)
 | nilp | ptr (b off:Nat) | pin (cs:List V) (off:Nat)
 | slice (t:Tok) (rows:List (List V)) | ref (b off n c:Nat)
 | nilm | map (b:Nat)
 | func (f:FuncId) (first cap:List V) | yield (l:Nat) | nilf
 | iface (t:TypeId) (v:V) | nili
 | agg (cs:List V) | tup (vs:List V)
abbrev Fz:=Nat→Nat→Prop
def TokIs (t:Tok) (b e c l z:Nat):Prop :=
 match t with
 | .no=>True
 | .zero=>c=0
 | .own b' n m s=>c=0∨(b'=b∧n=e∧l≤m∧z=s)
inductive Is (F:Fz) (w:World):V→Value→Prop
 | any (v:Value):Is F w .any v
 | skip:Is F w .skip undef
 | bool (b:Bool):Is F w (.bool b) (.bool b)
 | ob (b:Bool):Is F w (.ob b) (.bool b)
 | int (k:IntKind) (n:Int):Is F w (.int k n) (.int k n)
 | str (s:ByteArray):Is F w (.str s) (.string s)
 | nilp:Is F w .nilp (.pointer none)
 | ptr (b off:Nat):Is F w (.ptr b off) (.pointer (some ⟨b,off,none⟩))
 | pin {cs:List V} {off b o:Nat} (g:Nat→Value) (hc:∀ k,k < cs.length→F b (o+k)∧w.cell? ⟨b,o+k,none⟩=some (g k))
    (hv:∀ k (h:k < cs.length),Is F w cs[k] (g k)):Is F w (.pin cs off) (.pointer (some ⟨b,o+off,none⟩))
 | nilSlice (t:Tok) (x:Option Addr):Is F w (.slice t []) (.slice x 0 0)
 | slice {t:Tok} {rows:List (List V)} {b off c x sz:Nat} (g:Nat→Nat→Value) (hl:∀ i (h:i < rows.length),rows[i].length=sz)
    (hc:∀ i,i < rows.length→∀ k,k < sz→F b (off+i * sz+k)∧w.cell? ⟨b,off+i * sz+k,none⟩=some (g i k))
    (hv:∀ i (h:i < rows.length) k (h':k < rows[i].length),Is F w rows[i][k] (g i k))
    (hn:rows.length≤c) (hx:c=0∨x=off) (ht:TokIs t b (off+rows.length * sz) c (off+c * sz) sz):Is F w (.slice t rows) (.slice (some ⟨b,x,none⟩) rows.length c)
 | ref (b off n c:Nat):Is F w (.ref b off n c) (.slice (some ⟨b,off,none⟩) n c)
 | nilm:Is F w .nilm (.map none)
 | map (b:Nat):Is F w (.map b) (.map (some b))
 | func {f:FuncId} {a c:List V} {a' c':Array Value} (ha:a.length=a'.size) (h:∀ (i:Nat) (x:i < a.length) (y:i < a'.size),Is F w a[i] a'[i])
    (hc:c.length=c'.size) (k:∀ (i:Nat) (x:i < c.length) (y:i < c'.size),Is F w c[i] c'[i]):Is F w (.func f a c) (.func (.func f) a' c')
 | yield (l:Nat):Is F w (.yield l) (.func (.yield l) #[] #[])
 | nilf:Is F w .nilf .nilFunc
 | iface (t:TypeId) {v:V} {u:Value} (h:Is F w v u):Is F w (.iface t v) (.iface t u)
 | nili:Is F w .nili .nilIface
 | agg {a:List V} {a':Array Value} (ha:a.length=a'.size) (h:∀ (i:Nat) (x:i < a.length) (y:i < a'.size),Is F w a[i] a'[i]):Is F w (.agg a) (.agg a')
 | tup {a:List V} {a':Array Value} (ha:a.length=a'.size) (h:∀ (i:Nat) (x:i < a.length) (y:i < a'.size),Is F w a[i] a'[i]):Is F w (.tup a) (.tuple a')
structure Grow (F:Fz) (w:World) (F':Fz) (w':World):Prop where
 fz:∀ b k,F b k→F' b k
 cell:∀ b k,F b k→w'.cell? ⟨b,k,none⟩=w.cell? ⟨b,k,none⟩
theorem Grow.refl (F:Fz) (w:World):Grow F w F w:=⟨fun _ _ h=>h,fun _ _ _=>rfl⟩
theorem Grow.trans {F w F' w' F'' w''} (h:Grow F w F' w') (k:Grow F' w' F'' w''):Grow F w F'' w'' :=
 ⟨fun b i x=>k.fz b i (h.fz b i x),fun b i x=>(k.cell b i (h.fz b i x)).trans (h.cell b i x)⟩
theorem Is.mono {F:Fz} {w:World} {F':Fz} {w':World} (l:Grow F w F' w') {v:V} {u:Value} (h:Is F w v u):Is F' w' v u:=by
 induction h with
 | any v=>exact .any v
 | skip=>exact .skip
 | bool b=>exact .bool b
 | ob b=>exact .ob b
 | int k n=>exact .int k n
 | str s=>exact .str s
 | nilp=>exact .nilp
 | ptr b off=>exact .ptr b off
 | pin g hc hv ih=>exact .pin g (fun k hk=>⟨l.fz _ _ (hc k hk).1,(l.cell _ _ (hc k hk).1).trans (hc k hk).2⟩) ih
 | nilSlice t x=>exact .nilSlice t x
 | slice g hl hc hv hn hx ht ih=>exact .slice g hl (fun i hi k hk=>⟨l.fz _ _ (hc i hi k hk).1,(l.cell _ _ (hc i hi k hk).1).trans (hc i hi k hk).2⟩) ih hn hx ht
 | ref b off n c=>exact .ref b off n c
 | nilm=>exact .nilm
 | map b=>exact .map b
 | func ha _ hc _ ih ik=>exact .func ha ih hc ik
 | yield l=>exact .yield l
 | nilf=>exact .nilf
 | iface t _ ih=>exact .iface t ih
 | nili=>exact .nili
 | agg ha _ ih=>exact .agg ha ih
 | tup ha _ ih=>exact .tup ha ih
abbrev Iss (F:Fz) (w:World):List V→List Value→Prop:=All2 (Is F w)
theorem Iss.mono {F:Fz} {w:World} {F':Fz} {w':World} (l:Grow F w F' w') {v:List V} {u:List Value} (h:Iss F w v u):Iss F' w' v u:=All2.mono (fun _ _=>Is.mono l) h
theorem Iss.of_array {F:Fz} {w:World} {a:List V} {a':Array Value} (ha:a.length=a'.size) (h:∀ (i:Nat) (x:i < a.length) (y:i < a'.size),Is F w a[i] a'[i]):Iss F w a a'.toList :=
 All2.of_get (by simpa using ha) (fun i x y=>by simpa using h i x (by simpa using y))
theorem Iss.array {F:Fz} {w:World} {a:List V} {a':Array Value} (h:Iss F w a a'.toList):a.length=a'.size∧∀ (i:Nat) (x:i < a.length) (y:i < a'.size),Is F w a[i] a'[i]:=by
 refine ⟨by simpa using h.length,fun i x y=>?_⟩
 obtain ⟨b,e,r⟩:=h.get i a[i] (by simp [x])
 have:b=a'[i]:=by simp [y] at e; exact e.symm
 exact this ▸ r
theorem Is.agg_of {F:Fz} {w:World} {a:List V} {a':Array Value} (h:Iss F w a a'.toList):Is F w (.agg a) (.agg a'):=.agg h.array.1 h.array.2
theorem Is.tup_of {F:Fz} {w:World} {a:List V} {a':Array Value} (h:Iss F w a a'.toList):Is F w (.tup a) (.tuple a'):=.tup h.array.1 h.array.2
def V.cells:V→List V
 | .agg cs=>cs
 | v=>[v]
def V.isCell:V→Bool
 | .any=>false
 | .skip=>false
 | .agg _=>false
 | .tup _=>false
 | _=>true
def V.solid:V→Bool
 | .any=>false
 | .skip=>false
 | .tup _=>false
 | _=>true
theorem Is.cell_of {F:Fz} {w:World} {v:V} {u:Value} (h:Is F w v u) (hc:v.isCell=true):isCell u=true:=by
 cases h <;> first | rfl | (simp [V.isCell] at hc)
theorem Is.cells_of {F:Fz} {w:World} {v:V} {u:Value} (h:Is F w v u) (hc:v.solid=true):Iss F w v.cells u.cells.toList:=by
 have hh:=h
 cases h with
 | agg ha k=>exact Iss.of_array ha k
 | any=>simp [V.solid] at hc
 | skip=>simp [V.solid] at hc
 | tup=>simp [V.solid] at hc
 | _=>exact .cons hh .nil
abbrev Fr:=List (Nat×V)
def Fr.get:Fr→Nat→Option V
 | [],_=>none
 | (d,v)::r,t=>cond (Nat.beq d t) (some v) (Fr.get r t)
def FrIs (F:Fz) (w:World) (fr:Fr) (tm:Array Value):Prop:=∀ t v,fr.get t=some v→∃ u,tm[t]?=some u∧Is F w v u
theorem FrIs.mono {F w F' w'} (l:Grow F w F' w') {fr:Fr} {tm:Array Value} (h:FrIs F w fr tm):FrIs F' w' fr tm:=fun t v e=>by
 obtain ⟨u,e1,r⟩:=h t v e
 exact ⟨u,e1,r.mono l⟩
structure LoopV where
 n:Nat
 fr:Fr
 ps:Array Tmp
 asg:Code
 body:Code
inductive HE where
 | cells (b:Nat) (vs:List V) (e:TypeId)
 | map (b:Nat) (es:List (V×V))
 | tl (t:Tok)
 | eq (b k:Nat) (v:Value)
 | loop (busy:Bool) (l:Nat) (L:LoopV)
 | mapB (b:Nat) (es:List (Nat×V×V)) (cl:Nat)
 | iter (r b cl:Nat) (seen:List Nat)
def HE.blk:HE→Option Nat
 | .cells b _ _=>some b
 | .map b _=>some b
 | .tl (.own b _ _ _)=>some b
 | .tl _=>none
 | .eq _ _ _=>none
 | .loop _ l _=>some l
 | .mapB b _ _=>some b
 | .iter r _ _ _=>some r
abbrev Hp:=List HE
def Hp.dom (S:Hp):List Nat:=S.filterMap HE.blk
structure MR (F:Fz) (w:World) (e:V×V) (m:MapEntry):Prop where
 key:Is F w e.1 m.key
 val:Is F w e.2 m.val
theorem MR.mono {F:Fz} {w:World} {F':Fz} {w':World} (l:Grow F w F' w') {e:V×V} {m:MapEntry} (h:MR F w e m):MR F' w' e m:=⟨h.key.mono l,h.val.mono l⟩
structure MRB (F:Fz) (w:World) (e:Nat×V×V) (m:MapEntry):Prop where
 born:m.born=e.1
 key:Is F w e.2.1 m.key
 val:Is F w e.2.2 m.val
theorem MRB.mono {F:Fz} {w:World} {F':Fz} {w':World} (l:Grow F w F' w') {e:Nat×V×V} {m:MapEntry} (h:MRB F w e m):MRB F' w' e m:=⟨h.born,h.key.mono l,h.val.mono l⟩
def Borns (es:Array MapEntry) (cl:Nat):Prop:=(es.toList.map (·.born)).Nodup∧∀ e∈es.toList,e.born < cl
structure LoopIs (F:Fz) (w:World) (busy:Bool) (L:LoopV) (lr:Loop):Prop where
 state:lr.state=if busy then .busy else .ready
 pending:lr.pending=none
 fr:FrIs F w L.fr lr.tmps
 size:lr.tmps.size=L.n
 params:lr.params=L.ps
 assign:lr.assign=L.asg
 body:lr.body=L.body
def HOk (F:Fz) (w:World):HE→Prop
 | .cells b vs e=>(∃ c,w.heap[b]?=some (.cells c e (0,0))∧Iss F w vs c.toList)∧∀ k,¬ F b k
 | .map b es=>∃ es' cl,w.heap[b]?=some (.map es' cl)∧All2 (MR F w) es es'.toList∧Borns es' cl
 | .tl (.own b n m _)=>∃ c e,w.heap[b]?=some (.cells c e (0,0))∧c.size=m∧∀ k,n≤k→¬ F b k
 | .tl _=>True
 | .eq b k v=>F b k∧w.cell? ⟨b,k,none⟩=some v
 | .loop busy l L=>∃ lr:Loop,w.heap[l]?=some (.loop lr)∧LoopIs F w busy L lr
 | .mapB b es cl=>∃ es',w.heap[b]?=some (.map es' cl)∧All2 (MRB F w) es es'.toList∧Borns es' cl
 | .iter r b cl seen=>w.heap[r]?=some (.mapIter (some b) cl seen.toArray cl)
structure Sat (F:Fz) (w:World) (S:Hp):Prop where
 fz:∀ b k,F b k→∃ v,w.cell? ⟨b,k,none⟩=some v
 nodup:S.dom.Nodup
 ok:∀ h∈S,HOk F w h
theorem HOk.lt {F:Fz} {w:World} {h:HE} (k:HOk F w h) {b:Nat} (e:h.blk=some b):b < w.heap.size:=by
 cases h with
 | cells b' vs el =>
   cases e
   obtain ⟨⟨c,e1,_⟩,_⟩:=k
   exact (Array.getElem?_eq_some_iff.1 e1).1
 | map b' es =>
   cases e
   obtain ⟨es',cl,e1,_⟩:=k
   exact (Array.getElem?_eq_some_iff.1 e1).1
 | tl t =>
   cases t with
   | own b' n m z =>
     cases e
     obtain ⟨c,el,e1,_⟩:=k
     exact (Array.getElem?_eq_some_iff.1 e1).1
   | _=>cases e
 | eq b k v=>cases e
 | loop busy l L =>
   cases e
   obtain ⟨lr,e1,_⟩:=k
   exact (Array.getElem?_eq_some_iff.1 e1).1
 | mapB b' es cl =>
   cases e
   obtain ⟨es',e1,_⟩:=k
   exact (Array.getElem?_eq_some_iff.1 e1).1
 | iter r b' cl seen =>
   cases e
   exact (Array.getElem?_eq_some_iff.1 k).1
theorem Sat.lt {F:Fz} {w:World} {S:Hp} (h:Sat F w S) {b:Nat} (hb:b∈S.dom):b < w.heap.size:=by
 obtain ⟨x,hx,e⟩:=List.mem_filterMap.1 hb
 exact (h.ok x hx).lt e
theorem cell_lt {w:World} {b k:Nat} {v:Value} (h:w.cell? ⟨b,k,none⟩=some v):b < w.heap.size:=by
 unfold World.cell? at h
 cases e:w.heap[b]? with
 | none=>simp [e] at h
 | some o=>exact (Array.getElem?_eq_some_iff.1 e).1
theorem Sat.fz_lt {F:Fz} {w:World} {S:Hp} (h:Sat F w S) {b k:Nat} (x:F b k):b < w.heap.size:=by
 obtain ⟨v,e⟩:=h.fz b k x
 exact cell_lt e
class Drw where
 on:Prop
variable [Drw]
structure Keep (F:Fz) (w:World) (S:Hp) (F':Fz) (w':World) (S':Hp):Prop extends Grow F w F' w' where
 os:w'.os=w.os
 tape:w'.tape=w.tape
 output:w'.output=w.output
 size:w.heap.size≤w'.heap.size
 out:∀ b,b < w.heap.size→b ∉ S.dom→w'.heap[b]?=w.heap[b]?∧∀ k,F' b k→F b k
 dom:∀ b,b∈S'.dom→b∈S.dom∨w.heap.size≤b
 drawn:Drw.on→w.drawn≤w'.drawn
theorem Keep.refl (F:Fz) (w:World) (S:Hp):Keep F w S F w S:=⟨.refl _ _,rfl,rfl,rfl,Nat.le_refl _,fun _ _ _=>⟨rfl,fun _ h=>h⟩,fun _ h=>.inl h,fun _=>Nat.le_refl _⟩
theorem Keep.trans {F w S F' w' S' F'' w'' S''} (h:Keep F w S F' w' S') (k:Keep F' w' S' F'' w'' S''):Keep F w S F'' w'' S'':=by
 refine ⟨h.toGrow.trans k.toGrow,k.os.trans h.os,k.tape.trans h.tape,k.output.trans h.output,Nat.le_trans h.size k.size,fun b hb hn=>?_,fun b hb=>?_,fun d=>Nat.le_trans (h.drawn d) (k.drawn d)⟩
 ·obtain ⟨e1,f1⟩:=h.out b hb hn
  have hn':b ∉ S'.dom:=fun hm=>by rcases h.dom b hm with x | x; exact hn x; omega
  obtain ⟨e2,f2⟩:=k.out b (Nat.lt_of_lt_of_le hb h.size) hn'
  exact ⟨e2.trans e1,fun i x=>f1 i (f2 i x)⟩
 ·rcases k.dom b hb with x | x
  ·exact h.dom b x
  ·exact .inr (Nat.le_trans h.size x)
theorem Keep.less {F w S F' w' S' S''} (h:Keep F w S F' w' S') (k:∀ b∈Hp.dom S'',b∈Hp.dom S'):Keep F w S F' w' S'':=⟨h.toGrow,h.os,h.tape,h.output,h.size,h.out,fun b hb=>h.dom b (k b hb),h.drawn⟩
theorem Keep.more {F w S F' w' S' S0} (h:Keep F w S F' w' S') (k:∀ b∈Hp.dom S,b∈Hp.dom S0):Keep F w S0 F' w' S' :=
 ⟨h.toGrow,h.os,h.tape,h.output,h.size,fun b hb hn=>h.out b hb (fun x=>hn (k b x)),fun b hb=>(h.dom b hb).imp (k b) id,h.drawn⟩
theorem Keep.below {F w F' w' S'} (h:Keep F w [] F' w' S'):Below w.heap.size w w':=⟨h.os,h.tape,h.output,h.size,fun k hk=>(h.out k hk (by simp [Hp.dom])).1⟩
omit [Drw] in
theorem HOk.mono {F:Fz} {w:World} {F':Fz} {w':World} (l:Grow F w F' w') {h:HE} (k:HOk F w h) (hb:∀ b,h.blk=some b→w'.heap[b]?=w.heap[b]?∧∀ k,F' b k→F b k):HOk F' w' h:=by
 cases h with
 | cells b vs e =>
   obtain ⟨e1,f1⟩:=hb b rfl
   obtain ⟨⟨c,e2,r⟩,f2⟩:=k
   exact ⟨⟨c,e1.trans e2,r.mono l⟩,fun k x=>f2 k (f1 k x)⟩
 | map b es =>
   obtain ⟨e1,_⟩:=hb b rfl
   obtain ⟨es',cl,e2,r,bn⟩:=k
   exact ⟨es',cl,e1.trans e2,All2.mono (fun _ _=>MR.mono l) r,bn⟩
 | tl t =>
   cases t with
   | own b n m z =>
     obtain ⟨e1,f1⟩:=hb b rfl
     obtain ⟨c,e,e2,hm,f2⟩:=k
     exact ⟨c,e,e1.trans e2,hm,fun k hk x=>f2 k hk (f1 k x)⟩
   | _=>trivial
 | eq b i v=>exact ⟨l.fz _ _ k.1,(l.cell _ _ k.1).trans k.2⟩
 | loop busy b L =>
   obtain ⟨e1,_⟩:=hb b rfl
   obtain ⟨lr,e2,r⟩:=k
   exact ⟨lr,e1.trans e2,{ r with fr:=r.fr.mono l }⟩
 | mapB b es cl =>
   obtain ⟨e1,_⟩:=hb b rfl
   obtain ⟨es',e2,r,bn⟩:=k
   exact ⟨es',e1.trans e2,All2.mono (fun _ _=>MRB.mono l) r,bn⟩
 | iter b b' cl seen =>
   obtain ⟨e1,_⟩:=hb b rfl
   exact e1.trans k
omit [Drw] in
theorem mapB_map {F:Fz} {w:World} {b cl:Nat} {es:List (Nat×V×V)} (h:HOk F w (.mapB b es cl)):HOk F w (.map b (es.map (·.2))):=by
 obtain ⟨es',e1,r,bn⟩:=h
 refine ⟨es',cl,e1,?_,bn⟩
 clear e1 bn
 revert r
 generalize es'.toList=l
 intro r
 induction r with
 | nil=>exact .nil
 | cons h _ ih=>exact .cons ⟨h.key,h.val⟩ ih
omit [Drw] in
theorem xz (S R:Hp):Hp.dom (S++R)=Hp.dom S++Hp.dom R:=List.filterMap_append ..
theorem Sat.frame {F:Fz} {w:World} {S R:Hp} {F':Fz} {w':World} {S':Hp} (h:Sat F w (S++R)) (k:Keep F w S F' w' S') (h':Sat F' w' S'):Sat F' w' (S'++R):=by
 have hnd:=h.nodup
 rw [xz,List.nodup_append] at hnd
 obtain ⟨_,n2,n3⟩:=hnd
 have hout:∀ b,b∈Hp.dom R→b < w.heap.size∧b ∉ Hp.dom S:=fun b hb=>⟨h.lt (by rw [xz]; exact List.mem_append_right _ hb),fun hs=>n3 b hs b hb rfl⟩
 refine ⟨h'.fz,?_,?_⟩
 ·rw [xz,List.nodup_append]
  refine ⟨h'.nodup,n2,fun a ha b hb e=>?_⟩
  subst e
  obtain ⟨l1,l2⟩:=hout a hb
  rcases k.dom a ha with x | x
  ·exact l2 x
  ·omega
 ·intro x hx
  rcases List.mem_append.1 hx with hx | hx
  ·exact h'.ok x hx
  ·refine (h.ok x (List.mem_append_right _ hx)).mono k.toGrow fun b hb=>?_
   obtain ⟨l1,l2⟩:=hout b (List.mem_filterMap.2 ⟨x,hx,hb⟩)
   exact k.out b l1 l2
theorem Keep.frame {F:Fz} {w:World} {S R:Hp} {F':Fz} {w':World} {S':Hp} (k:Keep F w S F' w' S'):Keep F w (S++R) F' w' (S'++R):=by
 refine ⟨k.toGrow,k.os,k.tape,k.output,k.size,fun b hb hn=>k.out b hb fun x=>hn (by rw [xz]; exact List.mem_append_left _ x),fun b hb=>?_,k.drawn⟩
 rw [xz] at hb ⊢
 rcases List.mem_append.1 hb with x | x
 ·exact (k.dom b x).imp (fun y=>List.mem_append_left _ y) id
 ·exact .inl (List.mem_append_right _ x)
omit [Drw] in
theorem Sat.perm {F:Fz} {w:World} {S S':Hp} (h:Sat F w S) (p:List.Perm S S'):Sat F w S' :=
 ⟨h.fz,(p.filterMap _).nodup_iff.1 h.nodup,fun x hx=>h.ok x (p.mem_iff.2 hx)⟩
omit [Drw] in
theorem Sat.sub {F:Fz} {w:World} {S S':Hp} (h:Sat F w S) (p:List.Sublist S' S):Sat F w S' :=
 ⟨h.fz,h.nodup.sublist (p.filterMap _),fun x hx=>h.ok x (p.subset hx)⟩
theorem Keep.perm {F w S F' w' S' S''} (h:Keep F w S F' w' S') (p:List.Perm S' S''):Keep F w S F' w' S'' :=
 h.less fun _b hb=>(p.filterMap HE.blk).mem_iff.2 hb
theorem Keep.sub {F w S F' w' S' S''} (h:Keep F w S F' w' S') (p:List.Sublist S'' S'):Keep F w S F' w' S'' :=
 h.less fun _b hb=>(p.filterMap HE.blk).subset hb
end Go.Vw
namespace Go.Vw
open Go.RowKit Go.Am
variable [Drw]
def cutV {α:Type}:Nat→List α→List α
 | 0,l=>l
 | n+1,_::l=>cutV n l
 | _+1,[]=>[]
def kT {α:Type}:Nat→List α→Option (List α)
 | 0,_=>some []
 | _+1,[]=>none
 | n+1,v::l=>match kT n l with | some r=>some (v::r) | none=>none
def wI {α:Type}:Nat→List α→List α→Option (List α)
 | _,[],l=>some l
 | 0,v::vs,_::l=>match wI 0 vs l with | some r=>some (v::r) | none=>none
 | 0,_::_,[]=>none
 | n+1,v::vs,x::l=>match wI n (v::vs) l with | some r=>some (x::r) | none=>none
 | _+1,_::_,[]=>none
omit [Drw] in
theorem uY {α:Type}:∀ (n:Nat) (l:List α) (k:Nat),(cutV n l)[k]?=l[n+k]?
 | 0,l,k=>by simp [cutV]
 | n+1,[],k=>by simp [cutV]
 | n+1,_::l,k=>by simp only [cutV,uY n l]; rw [show n+1+k=(n+k)+1 by omega,List.getElem?_cons_succ]
omit [Drw] in
theorem zAJ {α:Type}:∀ (n:Nat) (l r:List α),kT n l=some r→r.length=n∧∀ k,k < n→r[k]?=l[k]?
 | 0,l,r,h=>by simp [kT] at h; subst h; simp
 | n+1,[],r,h=>by simp [kT] at h
 | n+1,v::l,r,h=>by
   simp only [kT] at h
   split at h
   ·next x e =>
    cases h
    obtain ⟨h1,h2⟩:=zAJ n l x e
    refine ⟨by simp [h1],fun k hk=>?_⟩
    cases k with
    | zero=>simp
    | succ k=>simp only [List.getElem?_cons_succ]; exact h2 k (by omega)
   ·cases h
omit [Drw] in
theorem kU {α:Type}:∀ (off:Nat) (vs c c':List α),wI off vs c=some c' →
  c'.length=c.length∧(vs≠[]→off+vs.length≤c.length)∧∀ k,c'[k]?=if off≤k∧k < off+vs.length then vs[k - off]? else c[k]?
 | off,[],c,c',h=>by
   have:c'=c:=by cases off <;> simp [wI] at h <;> exact h.symm
   subst this
   refine ⟨rfl,fun h=>absurd rfl h,fun k=>?_⟩
   rw [if_neg (by simp)]
 | 0,v::vs,[],c',h=>by simp [wI] at h
 | 0,v::vs,x::c,c',h=>by
   simp only [wI] at h
   split at h
   ·next r e =>
    cases h
    obtain ⟨h1,h2,h3⟩:=kU 0 vs c r e
    refine ⟨by simp [h1],fun _=>?_,fun k=>?_⟩
    ·by_cases hv:vs=[]
     ·subst hv; simp
     ·have:=h2 hv; simp at this ⊢; omega
    ·cases k with
     | zero=>simp
     | succ k =>
       simp only [List.getElem?_cons_succ,h3 k,Nat.zero_le,true_and,Nat.zero_add,List.length_cons,Nat.sub_zero]
       by_cases hk:k < vs.length
       ·rw [if_pos hk,if_pos (by omega)]
       ·rw [if_neg hk,if_neg (by omega)]
   ·cases h
 | off+1,v::vs,[],c',h=>by simp [wI] at h
 | off+1,v::vs,x::c,c',h=>by
   simp only [wI] at h
   split at h
   ·next r e =>
    cases h
    obtain ⟨h1,h2,h3⟩:=kU off (v::vs) c r e
    refine ⟨by simp [h1],fun _=>?_,fun k=>?_⟩
    ·have:=h2 (by simp); simp at this ⊢; omega
    ·cases k with
     | zero=>simp
     | succ k =>
       simp only [List.getElem?_cons_succ,h3 k]
       by_cases hk:off≤k∧k < off+(v::vs).length
       ·rw [if_pos hk,if_pos (by omega)]
        congr 1; omega
       ·rw [if_neg hk,if_neg (by omega)]
   ·cases h
omit [Drw] in
theorem qK {α β:Type} {R:α→β→Prop} {l:List α} {m:List β} (hl:l.length=m.length) (h:∀ (k:Nat) a,l[k]?=some a→∃ b,m[k]?=some b∧R a b):All2 R l m :=
 All2.of_get hl fun i hi hj=>by
  obtain ⟨b,e,r⟩:=h i l[i] (by simp)
  have:b=m[i]:=by rw [List.getElem?_eq_getElem hj] at e; exact (Option.some.inj e).symm
  exact this ▸ r
section
variable {F:Fz} {w:World} {S:Hp}
omit [Drw] in
theorem zEU {off:Nat} {vs c cl:List V} {vs':List Value} {c':Array Value} (h:wI off vs c=some cl) (hv:Iss F w vs vs') (hc:Iss F w c c'.toList):Iss F w cl (wN off vs' c').toList:=by
 obtain ⟨h1,h2,h3⟩:=kU off vs c cl h
 have hl:=hv.length
 have hcl:=hc.length
 have hcs:c.length=c'.size:=by simpa using hcl
 refine qK (by simp [wW,h1,hcs]) fun k a hk=>?_
 rw [h3 k] at hk
 have hkc:k < c.length:=by
  by_cases hin:off≤k∧k < off+vs.length
  ·have hne:vs≠[]:=by intro h0; subst h0; simp at hin; omega
   have:=h2 hne
   omega
  ·rw [if_neg hin] at hk
   exact (List.getElem?_eq_some_iff.1 hk).1
 rw [Array.getElem?_toList,wm]
 by_cases hin:off≤k∧k < off+vs.length
 ·rw [if_pos hin] at hk
  rw [if_pos ⟨hin.1,by omega,by omega⟩]
  exact hv.get _ _ hk
 ·rw [if_neg hin] at hk
  rw [if_neg (by omega)]
  obtain ⟨b,e,r⟩:=hc.get _ _ hk
  exact ⟨b,by simpa using e,r⟩
inductive At:Hp→HE→(HE→Hp)→Prop
 | here {h:HE} {S:Hp}:At (h::S) h (fun x=>x::S)
 | there {h e:HE} {S:Hp} {f:HE→Hp} (k:At S h f):At (e::S) h (fun x=>e::f x)
omit [Drw] in
theorem At.split {S:Hp} {h:HE} {f:HE→Hp} (k:At S h f):∃ l r,S=l++h::r∧∀ x,f x=l++x::r:=by
 induction k with
 | here=>exact ⟨[],_,rfl,fun _=>rfl⟩
 | there _ ih =>
   obtain ⟨l,r,e1,e2⟩:=ih
   exact ⟨_::l,r,by rw [e1]; rfl,fun x=>congrArg _ (e2 x)⟩
omit [Drw] in
theorem At.mem {S:Hp} {h:HE} {f:HE→Hp} (k:At S h f):h∈S:=by
 obtain ⟨l,r,rfl,_⟩:=k.split
 simp
omit [Drw] in
theorem zA2 (w:World) (o:Obj) {b k:Nat} (h:b < w.heap.size):(w.alloc o).cell? ⟨b,k,none⟩=w.cell? ⟨b,k,none⟩:=by
 unfold World.cell?
 rw [Below.heap_alloc _ _ _ h]
omit [Drw] in
theorem xX (w:World) (o:Obj) {b b' k:Nat} (h:b'≠b):(w.putObj b o).cell? ⟨b',k,none⟩=w.cell? ⟨b',k,none⟩:=by
 unfold World.cell?
 rw [World.putObj_heap_other h]
theorem Sat.new (h:Sat F w S) {o:Obj} {x:HE} (hx:x.blk=some w.heap.size) (ok:HOk F (w.alloc o) x) :
  Sat F (w.alloc o) (x::S)∧Keep F w S F (w.alloc o) (x::S):=by
 have g:Grow F w F (w.alloc o):=⟨fun _ _ h=>h,fun b k hb=>zA2 w o (h.fz_lt hb)⟩
 have hd:Hp.dom (x::S)=w.heap.size::S.dom:=by simp [Hp.dom,hx]
 refine ⟨⟨fun b k hb=>?_,?_,fun y hy=>?_⟩,⟨g,rfl,rfl,rfl,by simp,fun b hb _=>⟨Below.heap_alloc _ _ _ hb,fun _ h=>h⟩,fun b hb=>?_,fun _=>Nat.le_refl _⟩⟩
 ·obtain ⟨v,e⟩:=h.fz b k hb
  exact ⟨v,(g.cell b k hb).trans e⟩
 ·rw [hd,List.nodup_cons]
  exact ⟨fun hm=>Nat.lt_irrefl _ (h.lt hm),h.nodup⟩
 ·rcases List.mem_cons.1 hy with rfl | hy
  ·exact ok
  ·exact (h.ok y hy).mono g fun b hb=>⟨Below.heap_alloc _ _ _ ((h.ok y hy).lt hb),fun _ h=>h⟩
 ·rw [hd] at hb
  rcases List.mem_cons.1 hb with rfl | hb
  ·exact .inr (Nat.le_refl _)
  ·exact .inl hb
omit [Drw] in
theorem zA3 (h:Sat F w S) (o:Obj):Grow F w F (w.alloc o):=⟨fun _ _ h=>h,fun _b _k hb=>zA2 w o (h.fz_lt hb)⟩
theorem Sat.cells (h:Sat F w S) {vs:List V} {c:Array Value} (e:TypeId) (hv:Iss F w vs c.toList) :
  Sat F (w.alloc (.cells c e)) (.cells w.heap.size vs e::S)∧Keep F w S F (w.alloc (.cells c e)) (.cells w.heap.size vs e::S) :=
 h.new rfl ⟨⟨c,World.alloc_heap_new w _,hv.mono (zA3 h _)⟩,fun _k hk=>Nat.lt_irrefl _ (h.fz_lt hk)⟩
theorem Sat.emptyMap (h:Sat F w S):Sat F (w.alloc (.map #[] 0)) (.map w.heap.size []::S)∧Keep F w S F (w.alloc (.map #[] 0)) (.map w.heap.size []::S) :=
 h.new rfl ⟨#[],0,World.alloc_heap_new w _,.nil,by simp [Borns]⟩
def Fz.add (F:Fz) (b n m:Nat):Fz:=fun b' k=>F b' k∨(b'=b∧n≤k∧k < m)
theorem Sat.put (h:Sat F w S) {x y:HE} {f:HE→Hp} {b:Nat} (hat:At S x f) (hx:x.blk=some b) (hy:y.blk=some b) {o:Obj} {F':Fz}
  (hF:∀ b' k,F b' k→F' b' k) (hG:∀ b',b'≠b→∀ k,F' b' k→F b' k) (hc:∀ k,F b k→(w.putObj b o).cell? ⟨b,k,none⟩=w.cell? ⟨b,k,none⟩) (hn:∀ k,F' b k→∃ v,(w.putObj b o).cell? ⟨b,k,none⟩=some v)
  (ok:HOk F' (w.putObj b o) y):Sat F' (w.putObj b o) (f y)∧Keep F w S F' (w.putObj b o) (f y):=by
 obtain ⟨l,r,rfl,hf⟩:=hat.split
 have hf':f y=l++y::r:=hf y
 rw [hf']
 have hd:Hp.dom (l++y::r)=Hp.dom (l++x::r):=by simp [Hp.dom,hx,hy]
 have hnd:=h.nodup
 have g:Grow F w F' (w.putObj b o):=⟨hF,fun b' k hk=>by
  by_cases hb:b'=b
  ·subst hb; exact hc k hk
  ·exact xX w o hb⟩
 refine ⟨⟨fun b' k hk=>?_,by rw [hd]; exact hnd,fun z hz=>?_⟩,⟨g,rfl,rfl,rfl,by simp,fun b' hb hout=>?_,fun b' hb=>?_,fun _=>Nat.le_refl _⟩⟩
 ·by_cases hb:b'=b
  ·subst hb; exact hn k hk
  ·obtain ⟨v,e⟩:=h.fz b' k (hG b' hb k hk)
   exact ⟨v,(xX w o hb).trans e⟩
 ·have hz':z=y∨(z∈l∨z∈r):=by
   rcases List.mem_append.1 hz with h1 | h1
   ·exact .inr (.inl h1)
   ·rcases List.mem_cons.1 h1 with h1 | h1
    ·exact .inl h1
    ·exact .inr (.inr h1)
  rcases hz' with rfl | hz'
  ·exact ok
  ·have hzm:z∈l++x::r:=by
    rcases hz' with h1 | h1
    ·exact List.mem_append_left _ h1
    ·exact List.mem_append_right _ (List.mem_cons_of_mem _ h1)
   refine (h.ok z hzm).mono g fun b' hb=>?_
   have hne:b'≠b:=by
    intro e
    subst e
    simp only [Hp.dom,List.filterMap_append,List.filterMap_cons,hx] at hnd
    rw [List.nodup_append] at hnd
    obtain ⟨_,h2,h3⟩:=hnd
    rw [List.nodup_cons] at h2
    rcases hz' with hz' | hz'
    ·exact h3 b' (List.mem_filterMap.2 ⟨z,hz',hb⟩) b' (by simp) rfl
    ·exact h2.1 (List.mem_filterMap.2 ⟨z,hz',hb⟩)
   exact ⟨World.putObj_heap_other hne,hG b' hne⟩
 ·have hne:b'≠b:=by
   intro e
   subst e
   exact hout (List.mem_filterMap.2 ⟨x,by simp,hx⟩)
  exact ⟨World.putObj_heap_other hne,hG b' hne⟩
 ·rw [hd] at hb
  exact .inl hb
theorem Sat.other (h:Sat F w S) {F0:Fz} {w0:World} {S0:Hp} (k:Keep F0 w0 S0 F w S) {D:Nat} (hb:w0.heap.size≤D) (hd:D ∉ S.dom) (hc:∀ q,w.cell? ⟨D,q,none⟩=none) (o:Obj) :
  Sat F (w.putObj D o) S∧Keep F0 w0 S0 F (w.putObj D o) S∧Grow F w F (w.putObj D o):=by
 have hn:∀ b q,F b q→b≠D:=fun b q hq e=>by
  subst e
  obtain ⟨v,e⟩:=h.fz b q hq
  rw [hc q] at e; cases e
 have g:Grow F w F (w.putObj D o):=⟨fun _ _ h=>h,fun b q hq=>xX w o (hn b q hq)⟩
 refine ⟨⟨fun b q hq=>?_,h.nodup,fun z hz=>(h.ok z hz).mono g fun b hb'=>⟨World.putObj_heap_other fun e=>hd (by subst e; exact List.mem_filterMap.2 ⟨z,hz,hb'⟩),fun _ h=>h⟩⟩,⟨k.toGrow.trans g,k.os,k.tape,k.output,by simpa using k.size,fun b hb' hs=>?_,k.dom,k.drawn⟩,g⟩
 ·obtain ⟨v,e⟩:=h.fz b q hq
  exact ⟨v,(g.cell b q hq).trans e⟩
 ·obtain ⟨e1,f1⟩:=k.out b hb' hs
  exact ⟨(World.putObj_heap_other (by omega)).trans e1,f1⟩
theorem Sat.store (h:Sat F w S) {b off:Nat} {vs xs vs':List V} {e:TypeId} {f:HE→Hp} {us:List Value} (hat:At S (.cells b vs e) f) (hl:wI off xs vs=some vs') (hx:Iss F w xs us) :
  ∃ c,w.heap[b]?=some (.cells c e (0,0))∧(xs≠[]→off+us.length≤c.size)∧Sat F (w.putObj b (.cells (wN off us c) e (0,0))) (f (.cells b vs' e))∧Keep F w S F (w.putObj b (.cells (wN off us c) e (0,0))) (f (.cells b vs' e)):=by
 obtain ⟨⟨c,e1,r⟩,hF⟩:=h.ok _ hat.mem
 have hb:b < w.heap.size:=(Array.getElem?_eq_some_iff.1 e1).1
 have g:Grow F w F (w.putObj b (.cells (wN off us c) e (0,0))):=⟨fun _ _ h=>h,fun b' k hk=>by
  by_cases hb:b'=b
  ·subst hb; exact absurd hk (hF k)
  ·exact xX w _ hb⟩
 have hlen:=(kU _ _ _ _ hl).2.1
 have hrl:=r.length
 have hxl:=hx.length
 refine ⟨c,e1,fun hne=>by have:=hlen hne; simp at hrl; omega,h.put hat rfl rfl (fun _ _ h=>h) (fun _ _ _ h=>h) (fun k hk=>absurd hk (hF k)) (fun k hk=>absurd hk (hF k)) ⟨⟨_,World.putObj_heap_same hb,(zEU hl hx r).mono g⟩,hF⟩⟩
theorem Sat.growIn (h:Sat F w S) {b n m z:Nat} {c:Array Value} {e:TypeId} {f:HE→Hp} {us:List Value} (hat:At S (.tl (.own b n m z)) f) (hw:w.heap[b]?=some (.cells c e (0,0))) (hc:n+us.length≤c.size) :
  Sat (F.add b n (n+us.length)) (w.putObj b (.cells (wN n us c) e (0,0))) (f (.tl (.own b (n+us.length) m z)))∧Keep F w S (F.add b n (n+us.length)) (w.putObj b (.cells (wN n us c) e (0,0))) (f (.tl (.own b (n+us.length) m z))) ∧
   ∀ k u,us[k]?=some u→(w.putObj b (.cells (wN n us c) e (0,0))).cell? ⟨b,n+k,none⟩=some u:=by
 obtain ⟨c',e',e1,hm,hF⟩:=h.ok _ hat.mem
 rw [hw] at e1
 cases e1
 have hb:b < w.heap.size:=(Array.getElem?_eq_some_iff.1 hw).1
 have hcell:∀ k,(w.putObj b (.cells (wN n us c) e (0,0))).cell? ⟨b,k,none⟩=(wN n us c)[k]?:=fun k=>by
  simp [World.cell?,World.putObj_heap_same hb]
 have hold:∀ k,w.cell? ⟨b,k,none⟩=c[k]?:=fun k=>by simp [World.cell?,hw]
 obtain ⟨s1,s2⟩:=h.put (F':=F.add b n (n+us.length)) (y:=.tl (.own b (n+us.length) m z)) (o:=.cells (wN n us c) e (0,0)) hat rfl rfl (fun _ _ h=>.inl h)
  (fun b' hb' k hk=>by rcases hk with hk | ⟨rfl,_⟩; exact hk; exact absurd rfl hb')
  (fun k hk=>by
   rw [hcell,hold,wm,if_neg]
   intro ⟨h1,_⟩
   exact hF k h1 hk)
  (fun k hk=>by
   rw [hcell]
   have:k < c.size:=by
    rcases hk with hk | ⟨_,_,hk⟩
    ·obtain ⟨v,ev⟩:=h.fz b k hk
     rw [hold] at ev
     exact (Array.getElem?_eq_some_iff.1 ev).1
    ·omega
   exact ⟨(wN n us c)[k]'(by rw [wW]; exact this),by simp [wW,this]⟩)
  ⟨_,_,World.putObj_heap_same hb,by rw [wW]; exact hm,fun k hk hf=>by
   rcases hf with hf | ⟨_,_,hf⟩
   ·exact hF k (by omega) hf
   ·omega⟩
 refine ⟨s1,s2,fun k u hk=>?_⟩
 have hkl:=(List.getElem?_eq_some_iff.1 hk).1
 rw [hcell,wm,if_pos ⟨by omega,by omega,by omega⟩,Nat.add_sub_cancel_left]
 exact hk
end
end Go.Vw
namespace Go.Vw
open Go.RowKit Go.Am
variable [Drw]
def Fr.put (fr:Fr) (d:Option Tmp) (v:V):Fr :=
 match d with
 | some d=>(d,v)::fr
 | none=>fr
omit [Drw] in
theorem x6 (d:Nat) (v:V) (fr:Fr) (t:Nat):Fr.get ((d,v)::fr) t=if d=t then some v else fr.get t:=by
 unfold Fr.get
 by_cases h:d=t
 ·subst h; simp
 ·have:Nat.beq d t=false:=by cases e:Nat.beq d t; rfl; exact absurd (Nat.eq_of_beq_eq_true e) h
  rw [this,if_neg h,cond_false]; cases fr <;> rfl
omit [Drw] in
theorem FrIs.put {F w} {fr:Fr} {a:Act} (h:FrIs F w fr a.tmps) (d:Option Tmp) {v:V} {u:Value} (hv:Is F w v u) (hd:∀ x,d=some x→x < a.tmps.size):FrIs F w (fr.put d v) (a.put d u).tmps:=by
 cases d with
 | none=>exact h
 | some d =>
   intro t v' e
   rw [show Fr.put fr (some d) v=(d,v)::fr from rfl,x6] at e
   have hlt:=hd d rfl
   show ∃ u',(a.tmps.setIfInBounds d u)[t]?=some u'∧_
   by_cases hdt:d=t
   ·subst hdt
    rw [if_pos rfl] at e
    cases e
    exact ⟨u,by rw [Array.getElem?_setIfInBounds_self_of_lt hlt],hv⟩
   ·rw [if_neg hdt] at e
    obtain ⟨u',e1,r⟩:=h t v' e
    exact ⟨u',by rw [Array.getElem?_setIfInBounds_ne hdt]; exact e1,r⟩
def zCT:Value→V
 | .bool b=>.bool b
 | .int k n=>.int k n
 | .string s=>.str s
 | .pointer none=>.nilp
 | .slice none 0 0=>.slice .zero []
 | .map none=>.nilm
 | .nilFunc=>.nilf
 | .nilIface=>.nili
 | _=>.any
def mapFlat:List Value→List V
 | []=>[]
 | v::r=>zCT v::mapFlat r
def ofConst:Value→V
 | .iface t v=>.iface t (zCT v)
 | .agg cs=>.agg (mapFlat cs.toList)
 | v=>zCT v
omit [Drw] in
theorem Is.flat (F:Fz) (w:World) (v:Value):Is F w (zCT v) v:=by
 unfold zCT
 split <;> constructor
omit [Drw] in
theorem Iss.flat (F:Fz) (w:World):∀ l:List Value,Iss F w (mapFlat l) l
 | []=>.nil
 | v::l=>.cons (.flat F w v) (Iss.flat F w l)
omit [Drw] in
theorem Is.const (F:Fz) (w:World) (v:Value):Is F w (ofConst v) v:=by
 unfold ofConst
 split
 ·exact .iface _ (.flat F w _)
 ·exact Is.agg_of (Iss.flat F w _)
 ·exact .flat F w _
def Fr.val (fr:Fr):Operand→Option V
 | .tmp t=>fr.get t
 | .const v=>some (ofConst v)
 | .global g=>some (.ptr g 0)
 | .func f=>some (.func f [] [])
omit [Drw] in
theorem FrIs.val {F w} {fr:Fr} {a:Act} (h:FrIs F w fr a.tmps) {x:Operand} {v:V} (e:fr.val x=some v):Is F w v (a.eval x):=by
 cases x with
 | tmp t =>
   obtain ⟨u,e1,r⟩:=h t v e
   show Is F w v (a.tmps.getD t undef)
   rw [Array.getD_eq_getD_getElem?,e1]; exact r
 | const c=>cases e; exact .const F w c
 | global g=>cases e; exact .ptr g 0
 | func f=>cases e; exact .func rfl (fun i x=>by simp at x) rfl (fun i x=>by simp at x)
def xH (tb:Tab) (t:TypeId) (cs:List V) (off:Nat):Option V :=
 match tb.isAgg t,tb.size t with
 | some true,some n=>match kT n (cutV off cs) with | some r=>some (.agg r) | none=>none
 | some false,_=>match cutV off cs with | v::_=>some v | []=>none
 | _,_=>none
section
variable {F:Fz} {w:World} {tb:Tab} {P:Program} (hT:TabOk tb P)
omit [Drw] in
theorem cutV_head {off:Nat} {cs:List V} {v:V} {r:List V} (h:cutV off cs=v::r):cs[off]?=some v:=by
 have:=uY off cs 0
 rw [h] at this
 simpa using this.symm
include hT
omit [Drw] in
theorem uv {t:TypeId} {b o off:Nat} {cs:List V} {v:V} (hc:∀ k v,cs[k]?=some v→∃ u,w.cell? ⟨b,o+k,none⟩=some u∧Is F w v u) (e:xH tb t cs off=some v) :
  ∃ u,(Go.loadVar t ⟨b,o+off,none⟩).run P w = .ok u w∧Is F w v u:=by
 unfold xH at e
 split at e
 ·next n ha hs =>
  split at e
  ·next r hp =>
   cases e
   obtain ⟨h1,h2⟩:=zAJ _ _ _ hp
   have each:∀ k (hk:k < n),∃ u,w.cell? ⟨b,o+off+k,none⟩=some u∧Is F w (r[k]'(by omega)) u:=by
    intro k hk
    have e1:=h2 k hk
    rw [uY,List.getElem?_eq_getElem (by omega)] at e1
    obtain ⟨u,e2,r2⟩:=hc _ _ e1.symm
    exact ⟨u,by rw [Nat.add_assoc]; exact e2,r2⟩
   let us:=(List.range n).map fun k=>(w.cell? ⟨b,o+off+k,none⟩).getD undef
   have hus:us.length=n:=by simp [us]
   have hget:∀ k,k < n→us[k]?=some ((w.cell? ⟨b,o+off+k,none⟩).getD undef):=fun k hk=>by simp [us,hk]
   refine ⟨.agg us.toArray,?_,Is.agg_of (qK (by simp [hus,h1]) fun k v hk=>?_)⟩
   ·simp only [Go.loadVar,Sem.run_bind,xq hT ha,run_size hT hs,Result.andThen,if_true,loadCells]
    rw [Am.run_loadCellsFrom b (o+off) n 0 #[] us hus (fun k v hk=>by
     have hkn:k < n:=by have:=(List.getElem?_eq_some_iff.1 hk).1; omega
     rw [hget k hkn] at hk
     cases hk
     obtain ⟨u,e2,_⟩:=each k hkn
     rw [Nat.zero_add,e2]; rfl)]
    simp [Sem.run_pure]
   ·have hkn:k < n:=by have:=(List.getElem?_eq_some_iff.1 hk).1; omega
    obtain ⟨u,e2,r2⟩:=each k hkn
    refine ⟨u,?_,?_⟩
    ·rw [show us.toArray.toList=us from rfl,hget k hkn,e2]; rfl
    ·have:r[k]'(by omega)=v:=(List.getElem?_eq_some_iff.1 hk).2
     rw [this] at r2; exact r2
  ·cases e
 ·next x ha =>
  split at e
  ·next u r hp =>
   cases e
   obtain ⟨u',e2,r2⟩:=hc _ _ (cutV_head hp)
   refine ⟨u',?_,r2⟩
   simp only [Go.loadVar,Sem.run_bind,xq hT ha,Result.andThen,Bool.false_eq_true,if_false,Go.load,Sem.run]
   rw [e2]
  ·cases e
 ·cases e
omit [Drw] in
theorem x7 {t:TypeId} {cs:List V} {cs':Array Value} {off:Nat} {v:V} (hc:Iss F w cs cs'.toList) (e:xH tb t cs off=some v) :
  ∃ v',(part t cs' off).run P w = .ok v' w∧Is F w v v':=by
 unfold xH at e
 split at e
 ·next n ha hs =>
  split at e
  ·next r hp =>
   cases e
   obtain ⟨h1,h2⟩:=zAJ _ _ _ hp
   refine ⟨.agg (cs'.extract off (off+n)),?_,Is.agg_of (All2.of_get ?_ ?_)⟩
   ·simp only [part,Sem.run_bind,xq hT ha,run_size hT hs,Result.andThen,if_true]
    rfl
   ·have hl:=hc.length
    by_cases hn:n=0
    ·subst hn; simp; simpa using h1
    ·have e1:=h2 (n - 1) (by omega)
     rw [uY] at e1
     have:off+(n - 1) < cs.length:=by
      have hr:(n - 1) < r.length:=by omega
      rw [List.getElem?_eq_getElem hr] at e1
      exact (List.getElem?_eq_some_iff.1 e1.symm).1
     simp at hl
     simp
     omega
   ·intro i hi hi'
    have e1:=h2 i (by omega)
    rw [uY] at e1
    have e2:r[i]?=some r[i]:=List.getElem?_eq_getElem hi
    obtain ⟨u,hu,ru⟩:=hc.get _ _ (e1.symm.trans e2)
    have:u=(cs'.extract off (off+n)).toList[i]:=by
     simp at hu
     have h3:=(Array.getElem?_eq_some_iff.1 hu).2
     simp [h3]
    rw [← this]
    simpa using ru
  ·cases e
 ·next x ha =>
  split at e
  ·next u r hp =>
   cases e
   obtain ⟨u',hu,ru⟩:=hc.get _ _ (cutV_head hp)
   refine ⟨u',?_,ru⟩
   simp only [part,Sem.run_bind,xq hT ha,Result.andThen,Bool.false_eq_true,if_false]
   have:cs'[off]?=some u':=by simpa using hu
   rw [this]
   rfl
  ·cases e
 ·cases e
end
omit [Drw] in
theorem zBk (a b:ByteArray):(a == b)=decide (a=b):=by
 rw [beq_toListBytes,ByteArray.toList_eq,ByteArray.toList_eq]
 by_cases h:a=b
 ·subst h; simp
 ·rw [decide_eq_false h]
  refine beq_eq_false_iff_ne.mpr fun e=>h ?_
  exact ByteArray.ext (Array.toList_inj.1 e)
def eqAllV (tb:Tab) (eq:TypeId→V→V→Option Bool) (fs:List Field) (a b:List V):Option Bool :=
 match fs with
 | []=>some true
 | f::fs=>match xH tb f.type a f.offset,xH tb f.type b f.offset with
   | some x,some y=>match eq f.type x y,eqAllV tb eq fs a b with
     | some p,some q=>some (p && q)
     | _,_=>none
   | _,_=>none
def eqRowV (tb:Tab) (eq:V→V→Option Bool) (e n:Nat):Nat→Nat→List V→List V→Option Bool
 | 0,_,_,_=>some true
 | m+1,i,a,b=>match xH tb e a (i * n),xH tb e b (i * n) with
   | some x,some y=>match eq x y,eqRowV tb eq e n m (i+1) a b with
     | some p,some q=>some (p && q)
     | _,_=>none
   | _,_=>none
def eqV (tb:Tab):Nat→TypeId→V→V→Option Bool
 | 0,_,_,_=>none
 | d+1,t,x,y=>match tb.under t,x,y with
   | some .bool,.bool a,.bool b=>some (a == b)
   | some .bool,.ob a,.ob b=>some (a == b)
   | some (.int _),.int k a,.int k' b=>cond (decide (k=k')) (some (decide (a=b))) none
   | some .string,.str a,.str b=>some (decide (a=b))
   | some (.pointer _),.nilp,.nilp=>some true
   | some (.pointer _),.nilp,.ptr _ _=>some false
   | some (.pointer _),.ptr _ _,.nilp=>some false
   | some (.pointer _),.nilp,.pin _ _=>some false
   | some (.pointer _),.pin _ _,.nilp=>some false
   | some (.struct fs),.agg a,.agg b=>cond (tb.eqs t) (eqAllV tb (eqV tb d) fs.toList a b) none
   | some (.array n e),.agg a,.agg b=>match tb.size e with
     | some sz=>eqRowV tb (eqV tb d e) e sz n 0 a b
     | none=>none
   | _,_,_=>none
section
variable {F:Fz} {w:World} {tb:Tab} {P:Program} (hT:TabOk tb P)
include hT
omit [Drw] in
theorem zBl {eq:TypeId→V→V→Option Bool} {m:Nat} (ih:∀ t x y b,eq t x y=some b→∀ x' y',Is F w x x'→Is F w y y'→(Op.equalIn m t x' y').run P w = .ok b w)
  {xs ys : List V} {xs' ys' : Array Value} (hx : Iss F w xs xs'.toList) (hy : Iss F w ys ys'.toList) : ∀ (fs : List Field) (b : Bool), (∀ f ∈ fs, f.name ≠ "_") → eqAllV tb eq fs xs ys = some b → (Op.eqFields m xs' ys' fs).run P w = .ok b w
 | [],b,_,e=>by cases e; rfl
 | f::fs,b,hn,e=>by
   unfold eqAllV at e
   split at e
   ·next x y h1 h2 =>
    obtain ⟨x',r1,v1⟩:=x7 (P:=P) (w:=w) hT hx h1
    obtain ⟨y',r2,v2⟩:=x7 (P:=P) (w:=w) hT hy h2
    split at e
    ·next p q h3 h4 =>
     cases e
     unfold Op.eqFields
     rw [if_pos (hn f (by simp))]
     simp only [Sem.run_bind,r1,r2,ih _ _ _ _ h3 _ _ v1 v2,Result.andThen]
     cases p with
     | true=>exact zBl ih hx hy fs q (fun g hg=>hn g (by simp [hg])) h4
     | false=>rfl
    ·cases e
   ·cases e
omit [Drw] in
theorem zBm {eq:V→V→Option Bool} {m:Nat} {t:TypeId} {n:Nat} (ih:∀ x y b,eq x y=some b→∀ x' y',Is F w x x'→Is F w y y'→(Op.equalIn m t x' y').run P w = .ok b w)
  {xs ys:List V} {xs' ys':Array Value} (hx:Iss F w xs xs'.toList) (hy:Iss F w ys ys'.toList):∀ (c i:Nat) (b:Bool),eqRowV tb eq t n c i xs ys=some b→(Op.eqItems m t n xs' ys' (List.range' i c)).run P w = .ok b w
 | 0,i,b,e=>by cases e; rfl
 | c+1,i,b,e=>by
   unfold eqRowV at e
   split at e
   ·next x y h1 h2 =>
    obtain ⟨x',r1,v1⟩:=x7 (P:=P) (w:=w) hT hx h1
    obtain ⟨y',r2,v2⟩:=x7 (P:=P) (w:=w) hT hy h2
    split at e
    ·next p q h3 h4 =>
     cases e
     rw [List.range'_succ]
     unfold Op.eqItems
     simp only [Sem.run_bind,r1,r2,ih _ _ _ h3 _ _ v1 v2,Result.andThen]
     cases p with
     | true=>exact zBm ih hx hy c (i+1) q h4
     | false=>rfl
    ·cases e
   ·cases e
omit [Drw] in
theorem qL:∀ (d:Nat) (t:TypeId) (x y:V) (b:Bool),eqV tb d t x y=some b→∀ x' y',Is F w x x'→Is F w y y'→∀ n,d≤n→(Op.equalIn n t x' y').run P w = .ok b w
 | 0,_,_,_,_,e,_,_,_,_,_,_=>by cases e
 | d+1,t,x,y,b,e,x',y',hx,hy,n,hn=>by
   obtain ⟨m,rfl⟩:∃ m,n=m+1:=⟨n - 1,by omega⟩
   have ih:=fun t x y b e x' y' hx hy=>qL d t x y b e x' y' hx hy m (by omega)
   unfold eqV at e
   split at e
   case h_1 a c hu=>cases e; cases hx; cases hy; simp only [Op.equalIn,Sem.run_bind,zF hT hu,Result.andThen]; rfl
   case h_2 a c hu=>cases e; cases hx; cases hy; simp only [Op.equalIn,Sem.run_bind,zF hT hu,Result.andThen]; rfl
   case h_3 k k' a k2 c hu =>
    cases hx; cases hy
    cases hk:decide (k'=k2)
    ·rw [hk] at e; cases e
    ·rw [hk] at e; cases e
     simp only [Op.equalIn,Sem.run_bind,zF hT hu,Result.andThen,if_pos (of_decide_eq_true hk)]; rfl
   case h_4 a c hu =>
    cases e; cases hx; cases hy
    simp only [Op.equalIn,Sem.run_bind,zF hT hu,Result.andThen]
    rw [← zBk]; rfl
   case h_5 hu=>cases e; cases hx; cases hy; simp only [Op.equalIn,Sem.run_bind,zF hT hu,Result.andThen]; rfl
   case h_6 hu=>cases e; cases hx; cases hy; simp only [Op.equalIn,Sem.run_bind,zF hT hu,Result.andThen]; rfl
   case h_7 hu=>cases e; cases hx; cases hy; simp only [Op.equalIn,Sem.run_bind,zF hT hu,Result.andThen]; rfl
   case h_8 hu=>cases e; cases hx; cases hy; simp only [Op.equalIn,Sem.run_bind,zF hT hu,Result.andThen]; rfl
   case h_9 hu=>cases e; cases hx; cases hy; simp only [Op.equalIn,Sem.run_bind,zF hT hu,Result.andThen]; rfl
   case h_10 fs a c hu =>
    cases hq:tb.eqs t
    ·rw [hq] at e; cases e
    ·rw [hq] at e
     simp only [cond_true] at e
     obtain ⟨q1,q2⟩:=hT.eqs t hq
     have hu':=Am.run_underlying hT hu
     have hf:P.fieldsOf t=fs:=by simp [Program.fieldsOf,hu']
     cases hx with
     | agg ha hk =>
       cases hy with
       | agg hb hj =>
         rw [run_equalIn_struct w m t _ _ (by rw [hf]; exact hu') q1,hf]
         exact zBl hT ih (Iss.of_array ha hk) (Iss.of_array hb hj) _ _ (q2 fs hu') e
   case h_11 l el a c hu =>
    split at e
    ·next sz hs =>
     have hu':=Am.run_underlying hT hu
     cases hi:tb.info el with
     | none=>unfold Tab.size at hs; rw [hi] at hs; cases hs
     | some i =>
       have hi':=hT.info el i hi
       have hsz:P.cellsOf el=sz:=by
        unfold Tab.size at hs; rw [hi] at hs
        simp only [Option.map_some,Option.some.injEq] at hs
        simp [Program.cellsOf,hi',hs]
       cases hx with
       | agg ha hk =>
         cases hy with
         | agg hb hj =>
           rw [run_equalIn_array w m _ _ hu' hi',hsz,List.range_eq_range']
           exact zBm hT (fun x y b=>ih el x y b) (Iss.of_array ha hk) (Iss.of_array hb hj) _ _ _ e
    ·cases e
   case h_12=>cases e
end
end Go.Vw
namespace Go.Vw
open Go.RowKit Go.Am
variable [Drw]
omit [Drw] in
theorem wpIn_loopG {α:Type} {F:Fence} {n:Nat} {P:Program} {c:Code} {Q:Exit→Act→World→Prop} {a:Act} {w:World} (I:α→Act→World→Prop) (μ:α→Nat) (x0:α) (h₀:I x0 a w)
  (round:∀ x a w,I x a w→c.wpIn F n P (Exit.then (fun a' w'=>∃ y,I y a' w'∧μ y < μ x) Q) a w):(Code.loop c).wpIn F n P Q a w:=by
 intro b k cs hro hb hr
 have key:∀ j x a w,μ x=j→I x a w →
   ∃ e a' w',Q e a' w'∧ArrivesIn (Machine.fenced P F) P (lone (b.atR a (.code c::.inLoop c::k)) cs w) b k cs e a' w':=by
  intro j
  induction j using Nat.strongRecOn with
  | _ j ih =>
    intro x a w hn hI
    obtain ⟨e,a₁,w₁,hq,harr⟩:=round x a w hI b (.inLoop c::k) cs hro hb hr
    cases e with
    | normal =>
      obtain ⟨y,hI₁,hlt⟩:=hq
      obtain ⟨e₂,a₂,w₂,hq₂,harr₂⟩:=ih (μ y) (hn ▸ hlt) y a₁ w₁ rfl hI₁
      exact ⟨e₂,a₂,w₂,hq₂,.of_steps (StepsIn.trans harr (.one (fenced_calm hb hr rfl) stepR_inLoop)) harr₂⟩
    | exit id=>exact ⟨_,a₁,w₁,hq,.pass (x:=.inLoop c) rfl (fun _ _=>.inl (by simp)) harr⟩
    | goto l=>exact ⟨_,a₁,w₁,hq,.pass (x:=.inLoop c) rfl (fun _ _=>.inl (by simp)) harr⟩
    | ret=>exact ⟨_,a₁,w₁,hq,.pass (x:=.inLoop c) rfl (fun _ _=>.inl (by simp)) harr⟩
    | panic ch=>exact ⟨_,a₁,w₁,hq,.pass (x:=.inLoop c) rfl (fun _ _=>.inl (by simp)) harr⟩
    | outgrown=>exact ⟨_,a₁,w₁,hq,.pass (x:=.inLoop c) rfl (fun _ _=>.inl (by simp)) harr⟩
 obtain ⟨e,a',w',hq,harr⟩:=key _ x0 a w rfl h₀
 exact ⟨e,a',w',hq,.of_steps (.one (fenced_calm hb hr rfl) stepR_loop) harr⟩
structure Sg where
 r:Option Nat
 m:Nat
 n:Nat
 F:Fz
 w:World
 S:Hp
 ds:List Deferred
structure St (n:Nat) (ds:List Deferred) (F:Fz) (w:World) (fr:Fr) (S:Hp) (a:Act):Prop where
 sat:Sat F w S
 fr:FrIs F w fr a.tmps
 size:a.tmps.size=n
 defers:a.defers=ds
def VAt (σ:Sg) (G:Act→World→Prop) (fr:Fr) (S:Hp):Prop:=∀ F w a,St σ.n σ.ds F w fr S a→Keep σ.F σ.w σ.S F w S→G a w
def markD (D:Nat):Deferred:={ target:=.collected D,args:=#[] }
def Marks (b0:Nat) (S:Hp) (w:World) (Ds:List Nat):Prop:=Ds.Nodup∧∀ D∈Ds,b0≤D∧D ∉ S.dom∧w.heap[D]?=some (.deferred (some []))
def Post (σ:Sg) (Q:Exit→Fr→Hp→Prop):Exit→Act→World→Prop:=fun e a w=>∃ F fr S Ds,St σ.n (Ds.map markD++σ.ds) F w fr S a∧Marks σ.w.heap.size S w Ds∧Keep σ.F σ.w σ.S F w S∧Q e fr S
theorem post_of {σ:Sg} {Q:Exit→Fr→Hp→Prop} {e:Exit} {F:Fz} {w:World} {fr:Fr} {S:Hp} {a:Act} (s:St σ.n σ.ds F w fr S a) (k:Keep σ.F σ.w σ.S F w S) (h:Q e fr S):Post σ Q e a w :=
 ⟨F,fr,S,[],s,⟨.nil,fun _ h=>by cases h⟩,k,h⟩
inductive Kt where
 | code (c:Code) | block (id:Nat) | loop (I:Fr→Hp→Prop)
def y8 (P:Program) (σ:Sg):List Kt→(Exit→Act→World→Prop)→Exit→Act→World→Prop
 | [],R=>R
 | .code y::K,R=>Exit.then (y.wpIn (FF σ.r) σ.m P (y8 P σ K R)) (y8 P σ K R)
 | .block id::K,R=>Exit.inBlock id (y8 P σ K R)
 | .loop I::K,R=>Exit.then (fun a w=>∃ F fr S,St σ.n σ.ds F w fr S a∧Keep σ.F σ.w σ.S F w S∧I fr S) (y8 P σ K R)
section
variable (P:Program) (σ:Sg)
def zv (c:Code) (K:List Kt) (fr:Fr) (S:Hp) (Q:Exit→Fr→Hp→Prop):Prop:=VAt σ (c.wpIn (FF σ.r) σ.m P (y8 P σ K (Post σ Q))) fr S
def zq (K:List Kt) (fr:Fr) (S:Hp) (Q:Exit→Fr→Hp→Prop):Prop:=VAt σ (fun a w=>y8 P σ K (Post σ Q) .normal a w) fr S
def yE (ops:Array Oper) (l:List Oper) (K:List Kt) (fr:Fr) (S:Hp) (Q:Exit→Fr→Hp→Prop):Prop :=
 ∀ i,ops.toList.drop i=l→VAt σ (fun a w=>wpOpsIn (FF σ.r) σ.m P ops (y8 P σ K (Post σ Q)) (List.range' i l.length) a w) fr S
end
section
variable {P:Program} {σ:Sg} {K:List Kt} {fr:Fr} {S:Hp} {Q:Exit→Fr→Hp→Prop}
theorem run_seq {x y:Code} (h:zv P σ x (.code y::K) fr S Q):zv P σ (.seq x y) K fr S Q:=fun F w a s k=>wpIn_seq (h F w a s k)
theorem run_block {id:Nat} {c:Code} (h:zv P σ c (.block id::K) fr S Q):zv P σ (.block id c) K fr S Q:=fun F w a s k=>wpIn_block (h F w a s k)
theorem run_skip (h:zq P σ K fr S Q):zv P σ .skip K fr S Q:=fun F w a s k=>wpIn_skip (h F w a s k)
theorem run_label {l:Nat} (h:zq P σ K fr S Q):zv P σ (.label l) K fr S Q:=fun F w a s k=>wpIn_label (h F w a s k)
theorem run_cond_t {c:Operand} {x y:Code} (hc:fr.val c=some (.bool true)) (h:zv P σ x K fr S Q):zv P σ (.cond c x y) K fr S Q:=fun F w a s k=>by
 have:=s.fr.val hc
 exact wpIn_cond_true (by generalize a.eval c=u at this; cases this; rfl) (h F w a s k)
theorem run_cond_f {c:Operand} {x y:Code} (hc:fr.val c=some (.bool false)) (h:zv P σ y K fr S Q):zv P σ (.cond c x y) K fr S Q:=fun F w a s k=>by
 have:=s.fr.val hc
 exact wpIn_cond_false (by generalize a.eval c=u at this; cases this; rfl) (h F w a s k)
theorem run_ob_t {c:Operand} {x y:Code} (hc:fr.val c=some (.ob true)) (h:zv P σ x K fr S Q):zv P σ (.cond c x y) K fr S Q:=fun F w a s k=>by
 have:=s.fr.val hc
 exact wpIn_cond_true (by generalize a.eval c=u at this; cases this; rfl) (h F w a s k)
theorem run_ob_f {c:Operand} {x y:Code} (hc:fr.val c=some (.ob false)) (h:zv P σ y K fr S Q):zv P σ (.cond c x y) K fr S Q:=fun F w a s k=>by
 have:=s.fr.val hc
 exact wpIn_cond_false (by generalize a.eval c=u at this; cases this; rfl) (h F w a s k)
theorem run_cond_f' {c:Operand} {x y:Code} {b:Bool} (hc:fr.val c=some (.ob b)) (hb:b=false) (h:zv P σ y K fr S Q):zv P σ (.cond c x y) K fr S Q:=by subst hb; exact run_ob_f hc h
theorem run_cond {c:Operand} {x y:Code} {b:Bool} (hc:fr.val c=some (.ob b)) (h1:b=true→zv P σ x K fr S Q) (h2:b=false→zv P σ y K fr S Q):zv P σ (.cond c x y) K fr S Q:=by
 cases b
 ·exact run_ob_f hc (h2 rfl)
 ·exact run_ob_t hc (h1 rfl)
def popTo (id:Nat):List Kt→Option (List Kt)
 | []=>none
 | .block j::K=>cond (Nat.beq id j) (some K) (popTo id K)
 | _::K=>popTo id K
theorem zAK {id:Nat} {R:Exit→Act→World→Prop}:∀ {K K':List Kt},popTo id K=some K'→∀ {a w},y8 P σ K' R .normal a w→y8 P σ K R (.exit id) a w
 | [],_,e,_,_,_=>by cases e
 | .block j::K,K',e,a,w,h=>by
   unfold popTo at e
   show Exit.inBlock j (y8 P σ K R) (.exit id) a w
   cases hb:Nat.beq id j
   ·rw [hb] at e
    have hne:¬ id=j:=fun h=>by subst h; rw [Nat.beq_refl] at hb; cases hb
    simp only [Exit.inBlock,if_neg hne]
    exact zAK e h
   ·rw [hb] at e
    cases e
    simp only [Exit.inBlock,if_pos (Nat.eq_of_beq_eq_true hb)]
    exact h
 | .code y::K,K',e,a,w,h=>zAK (K:=K) e h
 | .loop I::K,K',e,a,w,h=>zAK (K:=K) e h
theorem zAL {R:Exit→Act→World→Prop}:∀ {K:List Kt} {a w},R .ret a w→y8 P σ K R .ret a w
 | [],_,_,h=>h
 | .block _j::K,_,_,h=>zAL (K:=K) h
 | .code _y::K,_,_,h=>zAL (K:=K) h
 | .loop _I::K,_,_,h=>zAL (K:=K) h
theorem run_exit {id:Nat} {K':List Kt} (e:popTo id K=some K') (h:zq P σ K' fr S Q):zv P σ (.exit id) K fr S Q:=fun F w a s k=>wpIn_exit (zAK e (h F w a s k))
theorem run_ret (h:Q .ret fr S):zv P σ .ret K fr S Q:=fun _F _w _a s k=>wpIn_ret (zAL (post_of s k h))
theorem zAM {y:Code} (h:zv P σ y K fr S Q):zq P σ (.code y::K) fr S Q:=fun F w a s k=>h F w a s k
theorem next_block {id:Nat} (h:zq P σ K fr S Q):zq P σ (.block id::K) fr S Q:=fun F w a s k=>h F w a s k
theorem next_loop {I:Fr→Hp→Prop} (h:I fr S):zq P σ (.loop I::K) fr S Q:=fun F _w _ s k=>⟨F,fr,S,s,k,h⟩
theorem next_nil (h:Q .normal fr S):zq P σ [] fr S Q:=fun _F _ _ s k=>post_of s k h
theorem run_region {id:Nat} {ops:Array Oper} {l:List Oper} (e:ops.toList=l) (h:yE P σ ops l K fr S Q):zv P σ (.region id ops false) K fr S Q:=fun F w a s k=>by
 refine wpIn_region ?_
 have:=h 0 (by simpa using e) F w a s k
 rw [List.range_eq_range',show ops.size=l.length by rw [← e]; simp]
 exact this
theorem ops_nil {ops:Array Oper} (h:zq P σ K fr S Q):yE P σ ops [] K fr S Q:=fun _ _ F w a s k=>h F w a s k
def V.Le (v v':V):Prop:=∀ F w u,Is F w v u→Is F w v' u
omit [Drw] in
theorem V.Le.refl (v:V):v.Le v:=fun _ _ _ h=>h
omit [Drw] in
theorem V.Le.slice (t:Tok) (r:List (List V)):V.Le (.slice t r) (.slice .no r):=fun F w u h=>by
 cases h with
 | nilSlice=>exact .nilSlice _ _
 | slice g hl hc hv hn hx ht=>exact .slice g hl hc hv hn hx trivial
omit [Drw] in
theorem lk {fr:Fr} {t:Tmp} {v:V} (h:fr.get t=some v):∃ v0,fr.get t=some v0∧v0.Le v:=⟨v,h,.refl _⟩
def FrLe (fr:Fr):Fr→Prop
 | []=>True
 | (t,v)::r=>(∃ v0,fr.get t=some v0∧v0.Le v)∧FrLe fr r
omit [Drw] in
theorem FrLe.sound {fr fr':Fr} (h:FrLe fr fr') {F w tm} (k:FrIs F w fr tm):FrIs F w fr' tm:=by
 induction fr' with
 | nil=>intro t v e; cases e
 | cons x r ih =>
   obtain ⟨t,v⟩:=x
   obtain ⟨⟨v0,e0,l⟩,hr⟩:=h
   intro t' v' e
   rw [x6] at e
   split at e
   ·next ht =>
    subst ht; cases e
    obtain ⟨u,e1,r1⟩:=k _ _ e0
    exact ⟨u,e1,l _ _ _ r1⟩
   ·exact ih hr t' v' e
inductive VsLe:List V→List V→Prop
 | nil:VsLe [] []
 | cons {v v':V} {l l':List V} (h:v.Le v') (k:VsLe l l'):VsLe (v::l) (v'::l')
omit [Drw] in
theorem VsLe.refl:∀ l:List V,VsLe l l
 | []=>.nil
 | v::l=>.cons (.refl v) (VsLe.refl l)
omit [Drw] in
theorem VsLe.sound {l l':List V} (h:VsLe l l') {F w us} (k:Iss F w l us):Iss F w l' us:=by
 induction h generalizing us with
 | nil=>exact k
 | cons h _ ih=>cases k with | cons a b=>exact .cons (h _ _ _ a) (ih b)
inductive Sub:Hp→Hp→Prop
 | nil {S:Hp}:Sub S []
 | keep {h:HE} {S S':Hp} (k:Sub S S'):Sub (h::S) (h::S')
 | cells {b:Nat} {vs vs':List V} {e:TypeId} {S S':Hp} (l:VsLe vs vs') (k:Sub S S'):Sub (.cells b vs e::S) (.cells b vs' e::S')
 | drop {h:HE} {S S':Hp} (k:Sub S S'):Sub (h::S) S'
 | stamps {b cl:Nat} {es:List (Nat×V×V)} {es':List (V×V)} {S S':Hp} (e:es.map (·.2)=es') (k:Sub S S'):Sub (.mapB b es cl::S) (.map b es'::S')
 | zero {S S':Hp} (k:Sub S S'):Sub S (.tl .zero::S')
 | no {S S':Hp} (k:Sub S S'):Sub S (.tl .no::S')
omit [Drw] in
theorem Sub.refl:∀ S:Hp,Sub S S
 | []=>.nil
 | _::S=>.keep (Sub.refl S)
omit [Drw] in
theorem xk (h:HE) (S:Hp):Hp.dom (h::S)=(match h.blk with | some b=>b::Hp.dom S | none=>Hp.dom S):=by
 unfold Hp.dom
 cases e:h.blk <;> simp [e]
omit [Drw] in
theorem Sub.dom {S S':Hp} (h:Sub S S'):List.Sublist (Hp.dom S') (Hp.dom S):=by
 induction h with
 | nil=>exact List.nil_sublist _
 | keep _ ih =>
   rename_i x _ _ _
   rw [xk,xk]
   cases x.blk with
   | none=>exact ih
   | some b=>exact ih.cons_cons b
 | cells _ _ ih=>rw [xk,xk]; exact ih.cons_cons _
 | stamps _ _ ih=>rw [xk,xk]; exact ih.cons_cons _
 | drop _ ih =>
   rename_i x _ _ _
   rw [xk]
   cases x.blk with
   | none=>exact ih
   | some b=>exact ih.cons b
 | zero _ ih=>exact ih
 | no _ ih=>exact ih
omit [Drw] in
theorem Sub.ok {S S':Hp} (h:Sub S S') {F w} (k:∀ x∈S,HOk F w x):∀ x∈S',HOk F w x:=by
 induction h with
 | nil=>intro x hx; cases hx
 | keep _ ih =>
   intro x hx
   rcases List.mem_cons.1 hx with rfl | hx
   ·exact k _ (by simp)
   ·exact ih (fun y hy=>k y (List.mem_cons_of_mem _ hy)) x hx
 | cells l _ ih =>
   intro x hx
   rcases List.mem_cons.1 hx with rfl | hx
   ·obtain ⟨⟨c,e1,r⟩,f⟩:=k _ (List.mem_cons_self ..)
    exact ⟨⟨c,e1,l.sound r⟩,f⟩
   ·exact ih (fun y hy=>k y (List.mem_cons_of_mem _ hy)) x hx
 | stamps e _ ih =>
   intro x hx
   rcases List.mem_cons.1 hx with rfl | hx
   ·have:=mapB_map (k _ (List.mem_cons_self ..))
    rw [e] at this
    exact this
   ·exact ih (fun y hy=>k y (List.mem_cons_of_mem _ hy)) x hx
 | drop _ ih=>exact ih (fun y hy=>k y (List.mem_cons_of_mem _ hy))
 | zero _ ih =>
   intro x hx
   rcases List.mem_cons.1 hx with rfl | hx
   ·trivial
   ·exact ih k x hx
 | no _ ih =>
   intro x hx
   rcases List.mem_cons.1 hx with rfl | hx
   ·trivial
   ·exact ih k x hx
omit [Drw] in
theorem Sub.sat {S S':Hp} (h:Sub S S') {F w} (k:Sat F w S):Sat F w S':=⟨k.fz,k.nodup.sublist h.dom,h.ok k.ok⟩
theorem Sub.keep' {S S':Hp} (h:Sub S S') {F w S0 F' w'} (k:Keep F w S0 F' w' S):Keep F w S0 F' w' S':=k.less fun _ hb=>h.dom.subset hb
structure Wk (fr:Fr) (S:Hp) (fr':Fr) (S':Hp):Prop where
 fr:FrLe fr fr'
 st:Sub S S'
theorem VAt.wk {G:Act→World→Prop} {fr':Fr} {S':Hp} (l:Wk fr S fr' S') (h:VAt σ G fr' S'):VAt σ G fr S:=fun F w a s k=>h F w a ⟨l.st.sat s.sat,l.fr.sound s.fr,s.size,s.defers⟩ (l.st.keep' k)
theorem run_wk {c:Code} {fr':Fr} {S':Hp} (l:Wk fr S fr' S') (h:zv P σ c K fr' S' Q):zv P σ c K fr S Q:=VAt.wk l h
theorem next_wk {fr':Fr} {S':Hp} (l:Wk fr S fr' S') (h:zq P σ K fr' S' Q):zq P σ K fr S Q:=VAt.wk l h
def VC (P:Program) (f:FuncId) (args:List V) (S:Hp) (Q:V→Hp→Prop):Prop:=∀ F w (us:Array Value),Sat F w S→Iss F w args us.toList →
 Calls P f us w fun e w'=>∃ v u F' S',e = .returned u∧Is F' w' v u∧Sat F' w' S'∧Keep F w S F' w' S'∧Q v S'
theorem VC.mono {f:FuncId} {args:List V} {Q Q':V→Hp→Prop} (h:VC P f args S Q) (k:∀ v S',Q v S'→Q' v S'):VC P f args S Q':=fun F w us s a =>
 (h F w us s a).mono fun _ _ ⟨v,u,F',S',e1,e2,e3,e4,e5⟩=>⟨v,u,F',S',e1,e2,e3,e4,k v S' e5⟩
theorem VC.frame {f:FuncId} {args:List V} {Q:V→Hp→Prop} (h:VC P f args S Q) (R:Hp):VC P f args (S++R) fun v S'=>∃ S1,S'=S1++R∧Q v S1:=fun F w us s a=>by
 refine (h F w us (s.sub (List.sublist_append_left S R)) a).mono ?_
 rintro e w' ⟨v,u,F',S',e1,e2,e3,e4,e5⟩
 exact ⟨v,u,F',S'++R,e1,e2,s.frame e4 e3,e4.frame,S',rfl,e5⟩
def Pure (P:Program) (f:FuncId) (args:List V) (v:V):Prop:=VC P f args [] fun v' _=>v'=v
theorem Pure.call {f:FuncId} {args:List V} {v:V} {Q:V→Hp→Prop} (h:Pure P f args v) (k:Q v S):VC P f args S Q:=fun F w us s a=>by
 refine ((VC.frame h S) F w us s a).mono ?_
 rintro e w' ⟨v',u,F',S',e1,e2,e3,e4,S1,rfl,rfl⟩
 exact ⟨v',u,F',S,e1,e2,e3.sub (List.sublist_append_right _ _),e4.sub (List.sublist_append_right _ _),k⟩
def argFr:Nat→List V→Fr
 | _,[]=>[]
 | i,v::vs=>(i,v)::argFr (i+1) vs
omit [Drw] in
theorem argFr_get:∀ (vs:List V) (i t:Nat) (v:V),(argFr i vs).get t=some v→i≤t∧vs[t - i]?=some v
 | [],_,_,_,e=>by cases e
 | v::vs,i,t,u,e=>by
   unfold argFr at e
   rw [x6] at e
   split at e
   ·next h=>subst h; cases e; exact ⟨Nat.le_refl _,by simp⟩
   ·next h =>
    obtain ⟨h1,h2⟩:=argFr_get vs (i+1) t u e
    refine ⟨by omega,?_⟩
    rw [show t - i=(t - (i+1))+1 by omega,List.getElem?_cons_succ]
    exact h2
omit [Drw] in
theorem argFr_is {F:Fz} {w:World} {args:List V} {us:Array Value} (h:Iss F w args us.toList) (n:Nat):FrIs F w (argFr 0 args) (us++Array.replicate n undef):=fun t v e=>by
 obtain ⟨_,h2⟩:=argFr_get _ _ _ _ e
 rw [Nat.sub_zero] at h2
 obtain ⟨u,e1,r⟩:=h.get _ _ h2
 rw [Array.getElem?_toList] at e1
 have hlt:=(Array.getElem?_eq_some_iff.1 e1).1
 exact ⟨u,by rw [Array.getElem?_append_left hlt]; exact e1,r⟩
inductive Res (tb:Tab) (fr:Fr) (S:Hp):List ResultVar→List V→Prop
 | nil:Res tb fr S [] []
 | tmp {t:Tmp} {v:V} {r:List ResultVar} {vs:List V} (h:fr.get t=some v) (k:Res tb fr S r vs):Res tb fr S (.tmp t::r) (v::vs)
 | tmpL {t:Tmp} {v0 v:V} {r:List ResultVar} {vs:List V} (h:fr.get t=some v0) (l:v0.Le v) (k:Res tb fr S r vs):Res tb fr S (.tmp t::r) (v::vs)
 | cell {ad:Tmp} {ty:TypeId} {b off:Nat} {cs:List V} {e:TypeId} {f:HE→Hp} {v:V} {r:List ResultVar} {vs:List V} (h:fr.get ad=some (.ptr b off)) (hat:At S (.cells b cs e) f) (hp:xH tb ty cs off=some v) (k:Res tb fr S r vs):Res tb fr S (.cell ad ty::r) (v::vs)
 | pin {ad:Tmp} {ty:TypeId} {off:Nat} {cs:List V} {v:V} {r:List ResultVar} {vs:List V} (h:fr.get ad=some (.pin cs off)) (hp:xH tb ty cs off=some v) (k:Res tb fr S r vs):Res tb fr S (.cell ad ty::r) (v::vs)
def oneV:List V→V
 | [v]=>v
 | vs=>.tup vs
omit [Drw] in
theorem At.cells_get {F:Fz} {w:World} {b:Nat} {cs:List V} {e:TypeId} {f:HE→Hp} (hat:At S (.cells b cs e) f) (h:Sat F w S):∀ k v,cs[k]?=some v→∃ u,w.cell? ⟨b,0+k,none⟩=some u∧Is F w v u:=fun k v hk=>by
 obtain ⟨⟨c,e1,r⟩,_⟩:=h.ok _ hat.mem
 obtain ⟨u,e2,r2⟩:=r.get k v hk
 exact ⟨u,by rw [Nat.zero_add]; unfold World.cell?; rw [e1]; simpa using e2,r2⟩
omit [Drw] in
theorem pin_get {F:Fz} {w:World} {cs:List V} {off:Nat} {u:Value} (h:Is F w (.pin cs off) u):∃ b o,u = .pointer (some ⟨b,o+off,none⟩)∧∀ k v,cs[k]?=some v→∃ u,w.cell? ⟨b,o+k,none⟩=some u∧Is F w v u:=by
 cases h with
 | pin g hc hv =>
   refine ⟨_,_,rfl,fun k v hk=>?_⟩
   obtain ⟨hlt,rfl⟩:=List.getElem?_eq_some_iff.1 hk
   exact ⟨g k,(hc k hlt).2,hv k hlt⟩
omit [Drw] in
theorem qM {tb:Tab} (hT:TabOk tb P) {n:Nat} {ds:List Deferred} {F:Fz} {w:World} {a:Act} (s:St n ds F w fr S a) {f:ResultVar→Sem Value} (hf1:∀ t,f (.tmp t)=pure (a.tmps.getD t undef)) (hf2:∀ ad t,f (.cell ad t)=(do loadVar t (← asAddr (a.tmps.getD ad undef)))) :
  ∀ {rs:List ResultVar} {vs:List V},Res tb fr S rs vs→∃ us,(rs.mapM f).run P w = .ok us w∧Iss F w vs us
 | _,_,.nil=>⟨[],by simp [Sem.run_pure],.nil⟩
 | _,_,.tmp (t:=t) h k=>by
   obtain ⟨us,e1,r1⟩:=qM hT s hf1 hf2 k
   obtain ⟨u,e2,r2⟩:=s.fr _ _ h
   refine ⟨u::us,?_,.cons r2 r1⟩
   have:a.tmps.getD t undef=u:=by rw [Array.getD_eq_getD_getElem?,e2]; rfl
   simp only [List.mapM_cons,hf1,Sem.run_bind,Sem.run_pure,Result.andThen,e1,this]
 | _,_,.tmpL (t:=t) h l k=>by
   obtain ⟨us,e1,r1⟩:=qM hT s hf1 hf2 k
   obtain ⟨u,e2,r2⟩:=s.fr _ _ h
   refine ⟨u::us,?_,.cons (l _ _ _ r2) r1⟩
   have:a.tmps.getD t undef=u:=by rw [Array.getD_eq_getD_getElem?,e2]; rfl
   simp only [List.mapM_cons,hf1,Sem.run_bind,Sem.run_pure,Result.andThen,e1,this]
 | _,_,.cell (ad:=ad) (b:=b) (off:=off) h hat hp k=>by
   obtain ⟨us,e1,r1⟩:=qM hT s hf1 hf2 k
   obtain ⟨u,e2,r2⟩:=s.fr _ _ h
   have hu:a.tmps.getD ad undef = .pointer (some ⟨b,0+off,none⟩):=by rw [Array.getD_eq_getD_getElem?,e2]; cases r2; simp
   obtain ⟨u',e3,r3⟩:=uv (P:=P) (w:=w) (F:=F) hT (b:=b) (o:=0) (hat.cells_get s.sat) hp
   refine ⟨u'::us,?_,.cons r3 r1⟩
   simp only [List.mapM_cons,hf2,hu,asAddr,Sem.run_bind,Sem.run_pure,Result.andThen,e1,e3]
 | _,_,.pin (ad:=ad) (off:=off) h hp k=>by
   obtain ⟨us,e1,r1⟩:=qM hT s hf1 hf2 k
   obtain ⟨u,e2,r2⟩:=s.fr _ _ h
   obtain ⟨b,o,rfl,hc⟩:=pin_get r2
   have hu:a.tmps.getD ad undef = .pointer (some ⟨b,o+off,none⟩):=by rw [Array.getD_eq_getD_getElem?,e2]; rfl
   obtain ⟨u',e3,r3⟩:=uv (P:=P) (w:=w) (F:=F) hT hc hp
   refine ⟨u'::us,?_,.cons r3 r1⟩
   simp only [List.mapM_cons,hf2,hu,asAddr,Sem.run_bind,Sem.run_pure,Result.andThen,e1,e3]
omit [Drw] in
theorem fin_sound {tb:Tab} (hT:TabOk tb P) {n:Nat} {ds:List Deferred} {F:Fz} {w:World} {a:Act} (s:St n ds F w fr S a) {fn:Func} {vs:List V} (h:Res tb fr S fn.results.toList vs):∃ u,(results fn a.tmps).run P w = .ok u w∧Is F w (oneV vs) u:=by
 have key:∃ us,(results fn a.tmps).run P w = .ok (if h:us.toArray.size=1 then us.toArray[0] else .tuple us.toArray) w∧Iss F w vs us:=by
  unfold results
  generalize fn.results=rs at h ⊢
  obtain ⟨l⟩:=rs
  rw [List.mapM_toArray]
  generalize hf:(fun (x:ResultVar)=>(match x with
   | .tmp t=>pure (a.tmps.getD t undef)
   | .cell ad t=>do Go.loadVar t (← asAddr (a.tmps.getD ad undef)):Sem Value))=f
  obtain ⟨us,r1,r2⟩:=qM (P:=P) hT s (f:=f) (fun t=>by rw [← hf]) (fun x t=>by rw [← hf]) h
  refine ⟨us,?_,r2⟩
  simp only [Sem.run_bind,Sem.run_map]
  rw [r1]
  rfl
 obtain ⟨us,r1,r2⟩:=key
 refine ⟨_,r1,?_⟩
 unfold oneV
 split
 ·cases r2 with
  | cons a b=>cases b; exact a
 ·next hne =>
  rw [dif_neg]
  ·exact Is.tup_of (by simpa using r2)
  ·intro hs
   have hl:=r2.length
   simp only [List.size_toArray] at hs
   rw [hs] at hl
   match vs,hl with
   | [u],_=>exact hne u rfl
def Ret (tb:Tab) (fn:Func) (Q:V→Hp→Prop):Exit→Fr→Hp→Prop:=fun e fr S=>(e = .ret∨e = .normal)∧∃ vs,Res tb fr S fn.results.toList vs∧Q (oneV vs) S
theorem zDG {tb:Tab} (hT:TabOk tb P) {fn:Func} {F0:Fz} {w0:World} {S0:Hp} {F:Fz} {a:Act} {vs:List V} {R:Ending→World→Prop} (hr:Res tb fr S fn.results.toList vs)
  (h:∀ w u,Sat F w S→Keep F0 w0 S0 F w S→Is F w (oneV vs) u→R (.returned u) w):∀ (Ds:List Nat) (w:World),Sat F w S→FrIs F w fr a.tmps→Keep F0 w0 S0 F w S→Marks w0.heap.size S w Ds →
  LeavesInM Fence.wide 0 P fn a.tmps R (Ds.map markD) .returning w
 | [],w,s,f,k,_=>by
   obtain ⟨u,e1,r1⟩:=fin_sound hT (n:=a.tmps.size) (ds:=a.defers) ⟨s,f,rfl,rfl⟩ hr
   exact ⟨u,e1,h w u s k r1⟩
 | D::Ds,w,s,f,k,hm=>by
   obtain ⟨m1,m2⟩:=hm
   obtain ⟨d1,d2,d3⟩:=m2 D (by simp)
   obtain ⟨s',k',g⟩:=s.other k d1 d2 (fun q=>by simp [World.cell?,d3]) (.deferred none)
   refine ⟨by simp,.inl ⟨D,_,rfl,run_takeDeferred (P:=P) d3,?_⟩⟩
   refine zDG hT hr h Ds _ s' (f.mono g) k' ⟨(List.nodup_cons.1 m1).2,fun E hE=>?_⟩
   obtain ⟨q1,q2,q3⟩:=m2 E (List.mem_cons_of_mem _ hE)
   exact ⟨q1,q2,(World.putObj_heap_other fun e=>(List.nodup_cons.1 m1).1 (by rw [← e]; exact hE)).trans q3⟩
theorem VC.of {tb:Tab} (hT:TabOk tb P) {f:FuncId} {fn:Func} {c:Code} {args:List V} {Q:V→Hp→Prop} (hf:P.funcs[f]?=some fn) (hb:fn.body=some c) (hn:args.length≤fn.ntmps)
  (h:∀ F w S0,zv P ⟨none,0,fn.ntmps,F,w,S0,[]⟩ c [] (argFr 0 args) S (Ret tb fn Q)):VC P f args S Q:=fun F w us s a=>by
 have hl:=a.length
 refine callsIn_wide (n:=0).1 ?_
 refine callsIn_of_wp_marks hf hb trivial ?_
 have key:=h F w S F w { tmps:=us++Array.replicate (fn.ntmps - us.size) undef,defers:=[] } ⟨s,argFr_is a _,by simp at hl ⊢; omega,rfl⟩ (.refl _ _ _)
 refine wpIn_mono key fun e a' w' hq=>?_
 obtain ⟨F',fr',S',Ds,s',hm,k',he,vs,hr,hQ⟩:=hq
 have fin:=zDG (a:=a') hT hr (F0:=F) (w0:=w) (S0:=S) (R:=fun e w'=>∃ v u F' S',e = .returned u∧Is F' w' v u∧Sat F' w' S'∧Keep F w S F' w' S'∧Q v S') (fun w2 u s2 k2 r2=>⟨_,u,F',S',rfl,r2,s2,k2,hQ⟩) Ds w' s'.sat s'.fr k' hm
 have hd:a'.defers=Ds.map markD:=by rw [s'.defers]; exact List.append_nil _
 rcases he with rfl | rfl
 ·show LeavesInM _ _ _ _ _ _ a'.defers _ _
  rw [hd]; exact fin
 ·show LeavesInM _ _ _ _ _ _ a'.defers _ _
  rw [hd]; exact fin
end
end Go.Vw
namespace Go.Vw
open Go.RowKit Go.Am
variable [Drw]
def valsV (ρ:Operand→Option V):List Operand→Option (List V)
 | []=>some []
 | x::r=>match ρ x,valsV ρ r with
   | some v,some vs=>some (v::vs)
   | _,_=>none
def zCU (ρ:Operand→Option V):List (Nat×Operand)→Option (List (Nat×V))
 | []=>some []
 | (i,x)::r=>match ρ x,zCU ρ r with
   | some v,some vs=>some ((i,v)::vs)
   | _,_=>none
def fillV (place:Nat→Option (Nat×Nat)) (cells:List V):List (Nat×V)→Option (List V)
 | []=>some cells
 | (i,v)::rest=>match place i with
   | none=>none
   | some (off,size)=>cond (Nat.beq v.cells.length size && v.solid && Nat.blt 0 size) (match wI off v.cells cells with | some c=>fillV place c rest | none=>none) none
def uw (tb:Tab) (t:TypeId):Option V:=match tb.info t with | some i=>(match i.zero with | some z=>some (ofConst z) | none=>none) | none=>none
def strBin (op:BinOp) (a b:ByteArray):Option V :=
 match op with
 | .eql=>some (.ob (decide (a=b)))
 | .neq=>some (.ob (!(decide (a=b))))
 | .lss=>some (.ob (lessB (Am.bytes a) (Am.bytes b)))
 | .leq=>some (.ob (lessB (Am.bytes a) (Am.bytes b) || eqB (Am.bytes a) (Am.bytes b)))
 | .gtr=>some (.ob (!(lessB (Am.bytes a) (Am.bytes b) || eqB (Am.bytes a) (Am.bytes b))))
 | .geq=>some (.ob (!(lessB (Am.bytes a) (Am.bytes b))))
 | _=>none
def intBin (op:BinOp) (k:IntKind) (a:Int) (k':IntKind) (b:Int):Option V :=
 match op with
 | .and=>match wM .and k a k' b with | some (.int k n)=>some (.int k n) | _=>none
 | .or=>match wM .or k a k' b with | some (.int k n)=>some (.int k n) | _=>none
 | .xor=>match wM .xor k a k' b with | some (.int k n)=>some (.int k n) | _=>none
 | .andNot=>match wM .andNot k a k' b with | some (.int k n)=>some (.int k n) | _=>none
 | .eql=>cond (decide (k=k')) (some (.ob (decide (a=b)))) none
 | .neq=>cond (decide (k=k')) (some (.ob (!(decide (a=b))))) none
 | .lss=>cond (decide (k=k')) (some (.ob (decide (a < b)))) none
 | .leq=>cond (decide (k=k')) (some (.ob (decide (a≤b)))) none
 | .gtr=>cond (decide (k=k')) (some (.ob (decide (b < a)))) none
 | .geq=>cond (decide (k=k')) (some (.ob (decide (b≤a)))) none
 | _=>none
def zAh:V→Nat
 | .int _ _=>1
 | .str _=>2
 | .nili=>3
 | .agg _=>4
 | .tup _=>5
 | .any=>5
 | .skip=>5
 | _=>0
def binV (tb:Tab) (op:BinOp) (t:TypeId) (x y:V):Option V :=
 match x,y with
 | .int k a,.int k' b=>intBin op k a k' b
 | .str a,.str b=>strBin op a b
 | x,y=>cond (Nat.beq (zAh x) 0 || (Nat.beq (zAh x) 4 && qZ tb 20 t)) (match op with
   | .eql=>(match eqV tb 20 t x y with | some b=>some (.ob b) | none=>none)
   | .neq=>(match eqV tb 20 t x y with | some b=>some (.ob (!b)) | none=>none)
   | _=>none) none
def Rel (F:Fz) (w:World) (ρ:Operand→Option V) (a:Act):Prop:=∀ x v,ρ x=some v→Is F w v (a.eval x)
def vop (tb:Tab) (ρ:Operand→Option V) (o:Oper):Option V :=
 match o.op with
 | .move x=>ρ x
 | .assign x=>ρ x
 | .pick c a b=>match ρ c with | some (.bool true)=>ρ a | some (.bool false)=>ρ b | _=>none
 | .build t parts=>match uw tb t,tb.under t,zCU ρ parts.toList with
   | some z,some (.struct fs),some ps=>cond z.solid (match fillV (fun i=>match fs[i]? with | some f=>(match tb.size f.type with | some n=>some (f.offset,n) | none=>none) | none=>none) z.cells ps with
     | some c=>some (.agg c)
     | none=>none) none
   | some z,some (.array _ e),some ps=>match tb.size e with
     | some n=>cond z.solid (match fillV (fun i=>some (i * n,n)) z.cells ps with
       | some c=>some (.agg c)
       | none=>none) none
     | none=>none
   | _,_,_=>none
 | .load t a=>match ρ a with
   | some (.pin cs off)=>xH tb t cs off
   | _=>none
 | .nilCheck x=>match ρ x with
   | some (.ptr b o)=>some (.ptr b o)
   | some (.pin cs o)=>some (.pin cs o)
   | some (.func f a c)=>some (.func f a c)
   | _=>none
 | .binOp op t x y _=>match ρ x,ρ y with
   | some u,some v=>binV tb op t u v
   | _,_=>none
 | .unOp op _ x=>match op,ρ x with
   | .not,some (.bool b)=>some (.bool (!b))
   | .not,some (.ob b)=>some (.ob (!b))
   | .neg,some (.int k n)=>some (.int k (k.wrap (0 - n)))
   | _,_=>none
 | .convert src dst x=>match tb.under src,tb.under dst,ρ x with
   | some (.int _),some (.int k),some (.int _ n)=>some (.int k (k.wrap n))
   | some .string,some .string,some (.str s)=>some (.str s)
   | _,_,_=>none
 | .makeInterface t x=>match tb.under t,ρ x with
   | some (.interface _),_=>none
   | some _,some v=>some (.iface t v)
   | _,_=>none
 | .makeFunc (.func g) first captured=>match valsV ρ first.toList,valsV ρ captured.toList with
   | some a,some c=>some (.func g a c)
   | _,_=>none
 | .fieldAddr s x f=>match tb.under s,ρ x with
   | some (.struct fs),some (.ptr b off)=>match fs[f]? with
     | some fd=>match tb.size fd.type with
       | some (_+1)=>some (.ptr b (off+fd.offset))
       | _=>none
     | none=>none
   | some (.struct fs),some (.pin cs off)=>match fs[f]? with
     | some fd=>match tb.size fd.type with
       | some (_+1)=>some (.pin cs (off+fd.offset))
       | _=>none
     | none=>none
   | _,_=>none
 | .field t x f=>match tb.under t,ρ x with
   | some (.struct fs),some (.agg cs)=>match fs[f]? with
     | some fd=>xH tb fd.type cs fd.offset
     | none=>none
   | _,_=>none
 | .extract t ix=>match ρ t with
   | some (.tup vs)=>vs[ix]?
   | _=>none
 | _=>none
section
variable {F:Fz} {w:World} {tb:Tab} {P:Program} {ρ:Operand→Option V} {a:Act}
omit [Drw] in
theorem ve (h:Rel F w ρ a):∀ {xs:List Operand} {vs:List V},valsV ρ xs=some vs→Iss F w vs (xs.map a.eval)
 | [],_,e=>by cases e; exact .nil
 | x::xs,vs,e=>by
   unfold valsV at e
   split at e
   ·next v us h1 h2=>cases e; exact .cons (h _ _ h1) (ve h h2)
   ·cases e
omit [Drw] in
theorem wp (h:Rel F w ρ a):∀ {xs:List (Nat×Operand)} {vs:List (Nat×V)},zCU ρ xs=some vs→All2 (fun (p:Nat×V) (q:Nat×Value)=>q.1=p.1∧Is F w p.2 q.2) vs (xs.map fun p=>(p.1,a.eval p.2))
 | [],_,e=>by cases e; exact .nil
 | (i,x)::xs,vs,e=>by
   unfold zCU at e
   split at e
   ·next v us h1 h2=>cases e; exact .cons ⟨rfl,h _ _ h1⟩ (wp h h2)
   ·cases e
omit [Drw] in
theorem vf {place place':Nat→Option (Nat×Nat)} (hp:∀ i x,place i=some x→place' i=some x):∀ (parts:List (Nat×V)) (parts':List (Nat×Value)) (cells:List V) (cells':Array Value) (c:List V),
  Iss F w cells cells'.toList→All2 (fun (p:Nat×V) (q:Nat×Value)=>q.1=p.1∧Is F w p.2 q.2) parts parts'→fillV place cells parts=some c→∃ c',Instr.fill place' cells' parts'=some c'∧Iss F w c c'.toList
 | [],_,cells,cells',c,hc,.nil,e=>by
   cases e
   exact ⟨cells',rfl,hc⟩
 | (i,v)::parts,(i',v')::parts',cells,cells',c,hc,.cons ⟨h1,h2⟩ hr,e=>by
   simp only at h1
   subst h1
   unfold fillV at e
   cases hpl:place i' with
   | none=>rw [hpl] at e; cases e
   | some x =>
     obtain ⟨off,size⟩:=x
     rw [hpl] at e
     simp only at e
     cases hb:(Nat.beq v.cells.length size && v.solid && Nat.blt 0 size)
     ·rw [hb] at e; cases e
     ·rw [hb] at e
      simp only [cond_true] at e
      simp only [Bool.and_eq_true] at hb
      obtain ⟨⟨hb1,hb2⟩,hb3⟩:=hb
      have hsz:v.cells.length=size:=Nat.eq_of_beq_eq_true hb1
      have hpos:0 < size:=by rw [Nat.blt_eq] at hb3; exact hb3
      cases hl:wI off v.cells cells with
      | none=>rw [hl] at e; cases e
      | some c1 =>
        rw [hl] at e
        have hvc:=h2.cells_of hb2
        have hvl:v'.cells.size=size:=by rw [← hsz,hvc.length]; simp
        have hlen:=(kU _ _ _ _ hl).2.1 (by intro h0; rw [h0] at hsz; simp at hsz; omega)
        have hcl:cells.length=cells'.size:=by simpa using hc.length
        obtain ⟨c',e1,e2⟩:=vf hp parts parts' c1 (wN off v'.cells.toList cells') c (zEU hl hvc hc) hr e
        refine ⟨c',?_,e2⟩
        simp only [Instr.fill,hp _ _ hpl]
        rw [if_neg (by simp [hvl]; omega)]
        rw [← e1]
        congr 1
        rw [← Array.foldl_toList,Array.toList_zipIdx]
        have:=zCO off v'.cells.toList 0 cells'
        rw [Nat.add_zero] at this
        exact this
omit [Drw] in
theorem qN (hT:TabOk tb P) {t:TypeId} {v:V} (h:uw tb t=some v) (w:World) (F:Fz) (w':World):∃ z,(zeroValue t).run P w = .ok z w∧Is F w' v z:=by
 unfold uw at h
 cases hi:tb.info t with
 | none=>rw [hi] at h; cases h
 | some i =>
   rw [hi] at h
   simp only at h
   cases hz:i.zero with
   | none=>rw [hz] at h; cases h
   | some z =>
     rw [hz] at h; cases h
     refine ⟨z,?_,.const F w' z⟩
     simp only [zeroValue,Sem.run_bind,Am.run_typeInfo hT hi,Result.andThen]
     rw [hz]
     rfl
def Gives (P:Program) (o:Oper) (a:Act) (F:Fz) (w:World) (v:V):Prop:=∃ u,(execOp a.eval o).run P w = .ok (.value u) w∧Is F w v u
omit [Drw] in
theorem ob_inv {b:Bool} {u:Value} (h:Is F w (.ob b) u):u = .bool b:=by cases h; rfl
omit [Drw] in
theorem bool_inv {b:Bool} {u:Value} (h:Is F w (.bool b) u):u = .bool b:=by cases h; rfl
omit [Drw] in
theorem int_inv {k:IntKind} {n:Int} {u:Value} (h:Is F w (.int k n) u):u = .int k n:=by cases h; rfl
omit [Drw] in
theorem zAN {s:ByteArray} {u:Value} (h:Is F w (.str s) u):u = .string s:=by cases h; rfl
omit [Drw] in
theorem ptr_inv {b o:Nat} {u:Value} (h:Is F w (.ptr b o) u):u = .pointer (some ⟨b,o,none⟩):=by cases h; rfl
omit [Drw] in
theorem intBin_sound {op:BinOp} {t:TypeId} {k k':IntKind} {x y:Int} {v:V} (h:intBin op k x k' y=some v) (w':World):∃ u,(Go.binOp op t (.int k x) (.int k' y)).run P w' = .ok u w'∧Is F w v u:=by
 have key:∀ {u:Value},wM op k x k' y=some u→(Go.binOp op t (.int k x) (.int k' y)).run P w' = .ok u w':=fun {u} hu=>vp (tb:=⟨fun _=>none,fun _=>none,fun _=>0,fun _=>false,fun _=>false,fun _ _ _=>none⟩) (cst:=false) hu w'
 unfold intBin at h
 split at h
 case h_1 =>
  split at h
  ·next n hk=>cases h; exact ⟨_,key hk,.int _ _⟩
  ·cases h
 case h_2 =>
  split at h
  ·next n hk=>cases h; exact ⟨_,key hk,.int _ _⟩
  ·cases h
 case h_3 =>
  split at h
  ·next n hk=>cases h; exact ⟨_,key hk,.int _ _⟩
  ·cases h
 case h_4 =>
  split at h
  ·next n hk=>cases h; exact ⟨_,key hk,.int _ _⟩
  ·cases h
 case h_11=>cases h
 all_goals
  cases hk:decide (k=k')
  ·rw [hk] at h; cases h
  ·rw [hk] at h; cases h
   have hk':=of_decide_eq_true hk
   subst hk'
   refine ⟨_,key (u:=.bool _) ?_,.ob _⟩
   simp only [wM,decide_true,cond_true,uq]
   try rfl
omit [Drw] in
theorem strBin_sound {op:BinOp} {t:TypeId} {x y:ByteArray} {v:V} (h:strBin op x y=some v) (w':World):∃ u,(Go.binOp op t (.string x) (.string y)).run P w' = .ok u w'∧Is F w v u:=by
 have key:∀ {u:Value},strOp op x y=some u→(Go.binOp op t (.string x) (.string y)).run P w' = .ok u w':=fun {u} hu=>(uV (tb:=⟨fun _=>none,fun _=>none,fun _=>0,fun _=>false,fun _=>false,fun _ _ _=>none⟩) (cst:=false) hu w').1
 have he:eqB (Am.bytes x) (Am.bytes y)=decide (x=y):=by rw [uM,zBk]
 unfold strBin at h
 split at h <;> first | (cases h; done) | skip
 ·cases h; exact ⟨_,key (u:=.bool (eqB (Am.bytes x) (Am.bytes y))) rfl,by rw [he]; exact .ob _⟩
 ·cases h; exact ⟨_,key (u:=.bool (!(eqB (Am.bytes x) (Am.bytes y)))) rfl,by rw [he]; exact .ob _⟩
 all_goals (cases h; exact ⟨_,key (u:=.bool _) rfl,.ob _⟩)
end
end Go.Vw
namespace Go.Vw
open Go.RowKit Go.Am
variable [Drw]
section
variable {F:Fz} {w:World} {tb:Tab} {P:Program} {ρ:Operand→Option V} {a:Act} {o:Oper} {v:V}
omit [Drw] in
theorem Gives.of {u:Value} (e:(execOp a.eval o).run P w = .ok (.value u) w) (h:Is F w v u):Gives P o a F w v:=⟨u,e,h⟩
omit [Drw] in
theorem headV_same {u:Value} (h:Is F w v u) (hv:zAh v≠5):yS u=zAh v:=by
 cases h <;> first | rfl | (simp [zAh] at hv)
omit [Drw] in
theorem binV_sound (hT:TabOk tb P) (hf:Rel F w ρ a) {op:BinOp} {t z:TypeId} {x y:Operand} {p q:V} (ho:o.op = .binOp op t x y z) (hx:ρ x=some p) (hy:ρ y=some q) (e:binV tb op t p q=some v):Gives P o a F w v:=by
 have hp:=hf _ _ hx
 have hq:=hf _ _ hy
 unfold binV at e
 split at e
 ·next k m k' n =>
  obtain ⟨u,r,hu⟩:=intBin_sound (P:=P) (F:=F) (w:=w) (t:=t) e w
  refine Gives.of ?_ hu
  simp only [execOp,ho,int_inv hp,int_inv hq,Sem.run_bind,wP (a:=.int _ _) rfl,Result.andThen,r,Sem.run_pure]
 ·next m n =>
  obtain ⟨u,r,hu⟩:=strBin_sound (P:=P) (F:=F) (w:=w) (t:=t) e w
  refine Gives.of ?_ hu
  simp only [execOp,ho,zAN hp,zAN hq,Sem.run_bind,wP (a:=.string _) rfl,Result.andThen,r,Sem.run_pure]
 ·next h1 h2 =>
  cases hc:(Nat.beq (zAh p) 0 || (Nat.beq (zAh p) 4 && qZ tb 20 t))
  ·rw [hc] at e; cases e
  rw [hc] at e
  have hcase:zAh p=0∨(zAh p=4∧qZ tb 20 t=true):=by
   rcases Bool.or_eq_true_iff.1 hc with h | h
   ·exact .inl (Nat.eq_of_beq_eq_true h)
   ·rw [Bool.and_eq_true] at h
    exact .inr ⟨Nat.eq_of_beq_eq_true h.1,h.2⟩
  have hk:yS (a.eval x)=zAh p:=headV_same hp (by omega)
  have g:(eqGuard op t x y (a.eval x) (a.eval y)).run P w = .ok () w:=by
   rcases hcase with h | ⟨h,hpl⟩
   ·rw [qf (fun hu=>by rw [hu] at hk; simp [yS] at hk; omega) (fun c d hu=>by rw [hu] at hk; simp [yS] at hk; omega)]
    rfl
   ·obtain ⟨c,hc1⟩:=head4 (hk.trans h)
    by_cases hy4:∃ d,a.eval y = .agg d
    ·obtain ⟨d,hd⟩:=hy4
     rw [hc1,hd]
     exact run_eqGuard_agg w op t x y _ _ (v8 hT 20 t hpl _ (by unfold Program.depth Made.depth; omega))
    ·rw [qf (fun hu=>by rw [hu] at hc1; cases hc1) (fun c d _ hd=>hy4 ⟨d,hd⟩)]
     rfl
  have g5:yS (a.eval x)≠5:=by omega
  have g1:¬ (yS (a.eval x)=1∧yS (a.eval y)=1):=by omega
  have g2:¬ (yS (a.eval x)=2∧yS (a.eval y)=2):=by omega
  simp only [cond_true] at e
  split at e
  ·split at e
   ·next b hb =>
    cases e
    have r:=(qB (P:=P) t g1 g2 g5 w (qL (P:=P) hT 20 t p q b hb _ _ hp hq 10000 (by omega))).1
    refine Gives.of ?_ (.ob b)
    simp only [execOp,ho,Sem.run_bind,g,Result.andThen,r,Sem.run_pure]
   ·cases e
  ·split at e
   ·next b hb =>
    cases e
    have r:=(qB (P:=P) t g1 g2 g5 w (qL (P:=P) hT 20 t p q b hb _ _ hp hq 10000 (by omega))).2
    refine Gives.of ?_ (.ob (!b))
    simp only [execOp,ho,Sem.run_bind,g,Result.andThen,r,Sem.run_pure]
   ·cases e
  ·cases e
omit [Drw] in
theorem vop_sound (hT:TabOk tb P) (hf:Rel F w ρ a) (e:vop tb ρ o=some v):Gives P o a F w v:=by
 unfold vop at e
 split at e
 case h_1 x ho=>exact Gives.of (by simp only [execOp,ho,Sem.run_pure]) (hf _ _ e)
 case h_2 x ho=>exact Gives.of (by simp only [execOp,ho,Sem.run_pure]) (hf _ _ e)
 case h_3 c x y ho =>
  split at e
  ·next hc =>
   refine Gives.of ?_ (hf _ _ e)
   simp only [execOp,ho,bool_inv (hf _ _ hc),asBool,Sem.run_bind,Sem.run_pure,Result.andThen,if_true]
  ·next hc =>
   refine Gives.of ?_ (hf _ _ e)
   simp only [execOp,ho,bool_inv (hf _ _ hc),asBool,Sem.run_bind,Sem.run_pure,Result.andThen,Bool.false_eq_true,if_false]
  ·cases e
 case h_4 t parts ho =>
  have zero:∀ z,uw tb t=some z→z.solid=true→∃ it z',P.info? t=some it∧it.zero=some z'∧Iss F w z.cells z'.cells.toList:=fun z hz hs=>by
   unfold uw at hz
   cases hi:tb.info t with
   | none=>rw [hi] at hz; cases hz
   | some it =>
     rw [hi] at hz
     simp only at hz
     cases hz0:it.zero with
     | none=>rw [hz0] at hz; cases hz
     | some z0 =>
       rw [hz0] at hz
       cases hz
       exact ⟨it,z0,hT.info t it hi,hz0,(Is.const F w z0).cells_of hs⟩
  have size:∀ u n,tb.size u=some n→∃ i,P.info? u=some i∧i.size=n:=fun u n hn=>by
   unfold Tab.size at hn
   cases hi:tb.info u with
   | none=>rw [hi] at hn; cases hn
   | some i=>rw [hi] at hn; cases hn; exact ⟨i,hT.info u i hi,rfl⟩
  have hparts:(parts.map fun p=>(p.1,a.eval p.2)).toList=parts.toList.map fun p=>(p.1,a.eval p.2):=Array.toList_map
  split at e
  ·next z fs ps hz hu hps =>
   cases hs:z.solid
   ·rw [hs] at e; cases e
   ·rw [hs] at e
    simp only [cond_true] at e
    split at e
    ·next c hc =>
     cases e
     obtain ⟨it,z',i1,i2,i3⟩:=zero z hz hs
     have hall:fs.toList.mapM (fun f=>(P.info? f.type).map fun i=>(f.offset,i.size))=some (fs.toList.map fun f=>(f.offset,(tb.size f.type).getD 0)):=mapM_all _ fun f hfm=>by
      obtain ⟨n,hn⟩:=hT.flds t fs hu f hfm
      obtain ⟨i,j1,j2⟩:=size _ _ hn
      simp [hn,j1,j2]
     obtain ⟨c',f1,f2⟩:=vf (F:=F) (w:=w) (place':=fun i=>(fs.toList.map fun f=>(f.offset,(tb.size f.type).getD 0)).toArray[i]?) (fun i x hx=>by
      split at hx
      ·next f hfi =>
       split at hx
       ·next n hn =>
        cases hx
        simp [hfi,hn]
       ·cases hx
      ·cases hx) ps _ z.cells z'.cells c i3 (wp hf hps) hc
     refine Gives.of (u:=.agg c') ?_ (Is.agg_of f2)
     have hb:=run_build (P:=P) w t (parts.map fun p=>(p.1,a.eval p.2)) c' (by
      unfold Program.built
      rw [i1,Am.run_underlying hT hu]
      simp only [i2,hall,hparts]
      exact f1)
     simp only [execOp,ho,Sem.run_bind,hb,Result.andThen,Sem.run_pure]
    ·cases e
  ·next z n el ps hz hu hps =>
   split at e
   ·next n hn =>
    cases hs:z.solid
    ·rw [hs] at e; cases e
    ·rw [hs] at e
     simp only [cond_true] at e
     split at e
     ·next c hc =>
      cases e
      obtain ⟨it,z',i1,i2,i3⟩:=zero z hz hs
      obtain ⟨ie,j1,j2⟩:=size _ _ hn
      obtain ⟨c',f1,f2⟩:=vf (F:=F) (w:=w) (place':=fun i=>some (i * n,n)) (fun i x hx=>hx) ps _ z.cells z'.cells c i3 (wp hf hps) hc
      refine Gives.of (u:=.agg c') ?_ (Is.agg_of f2)
      have hb:=run_build (P:=P) w t (parts.map fun p=>(p.1,a.eval p.2)) c' (by
       unfold Program.built
       rw [i1,Am.run_underlying hT hu]
       simp only [i2,j1,j2,hparts]
       exact f1)
      simp only [execOp,ho,Sem.run_bind,hb,Result.andThen,Sem.run_pure]
     ·cases e
   ·cases e
  ·cases e
 case h_5 t x ho =>
  split at e
  ·next cs off hx =>
   have hp:=hf _ _ hx
   obtain ⟨b,k,hb,hc⟩:=pin_get hp
   obtain ⟨u,r,hu⟩:=uv (P:=P) (F:=F) hT hc e
   refine Gives.of ?_ hu
   simp only [execOp,ho,hb,Instr.loadAt,Instr.sureAddr,Sem.run_bind,Sem.run_pure,Result.andThen,r]
  ·cases e
 case h_6 x ho =>
  split at e
  ·next b k hx =>
   cases e
   have hp:=hf _ _ hx
   have h2:=ptr_inv hp
   refine Gives.of (u:=a.eval x) ?_ hp
   rw [h2]; simp only [execOp,ho,h2,Sem.run_pure]
  ·next cs k hx =>
   cases e
   have hp:=hf _ _ hx
   obtain ⟨b,k,hb,hc⟩:=pin_get hp
   refine Gives.of (u:=a.eval x) ?_ hp
   rw [hb]; simp only [execOp,ho,hb,Sem.run_pure]
  ·next f g c hx =>
   cases e
   have hp:=hf _ _ hx
   refine Gives.of (u:=a.eval x) ?_ hp
   generalize hb:a.eval x=u at hp ⊢
   cases hp; simp only [execOp,ho,hb,Sem.run_pure]
  ·cases e
 case h_7 op t x y z ho =>
  split at e
  ·next p q hx hy=>exact binV_sound hT hf ho hx hy e
  ·cases e
 case h_8 op t x ho =>
  split at e
  ·next b hx =>
   cases e
   refine Gives.of ?_ (.bool _)
   simp only [execOp,ho,bool_inv (hf _ _ hx),Op.unary,Sem.run_bind,Sem.run_pure,Result.andThen]
  ·next b hx =>
   cases e
   refine Gives.of ?_ (.ob _)
   simp only [execOp,ho,ob_inv (hf _ _ hx),Op.unary,Sem.run_bind,Sem.run_pure,Result.andThen]
  ·next k n hx =>
   cases e
   refine Gives.of ?_ (.int _ _)
   simp only [execOp,ho,int_inv (hf _ _ hx),Op.unary,Sem.run_bind]
   rfl
  ·cases e
 case h_9 s d x ho =>
  split at e
  ·next k k' k2 n hs hd hx =>
   cases e
   refine Gives.of ?_ (.int _ _)
   simp only [execOp,ho,int_inv (hf _ _ hx),Go.convert,Sem.run_bind,zF hT hs,zF hT hd,Result.andThen,Conv.intToInt,Sem.run_pure]
  ·next q hs hd hx =>
   cases e
   refine Gives.of ?_ (.str _)
   simp only [execOp,ho,zAN (hf _ _ hx),Go.convert,Sem.run_bind,zF hT hs,zF hT hd,Result.andThen,Sem.run_pure]
  ·cases e
 case h_10 t x ho =>
  split at e
  ·cases e
  ·next d u hne hu hx =>
   cases e
   refine Gives.of ?_ (.iface t (hf _ _ hx))
   simp only [execOp,ho,Instr.makeInterface,Sem.run_bind,zF hT hu,Result.andThen]
   cases d <;> first | rfl | exact absurd rfl (hne _)
  ·cases e
 case h_11 g x y ho =>
  split at e
  ·next p q hx hy =>
   cases e
   have hp:=ve hf hx
   have hq:=ve hf hy
   rw [← Array.toList_map] at hp hq
   refine Gives.of ?_ (.func hp.array.1 hp.array.2 hq.array.1 hq.array.2)
   simp only [execOp,ho,Instr.makeFunc,Sem.run_bind,Sem.run_pure,Result.andThen]
  ·cases e
 case h_12 s x f ho =>
  split at e
  ·next fs b k hu hx =>
   split at e
   ·next fd hfd =>
    split at e
    ·next n hsz =>
     cases e
     refine Gives.of ?_ (.ptr _ _)
     simp only [execOp,ho,ptr_inv (hf _ _ hx),Instr.fieldAt,Instr.sureAddr,fieldPlace,Sem.run_bind,Sem.run_pure,Result.andThen,zF hT hu,hfd,Am.run_size hT hsz]
     rw [if_neg (by simp),Am.Addr.add_eq]
     rfl
    ·cases e
   ·cases e
  ·next fs cs k hu hx =>
   split at e
   ·next fd hfd =>
    split at e
    ·next n hsz =>
     cases e
     have hp:=hf _ _ hx
     generalize hb:a.eval x=u at hp
     cases hp with
     | pin g hc hv =>
       next b q =>
       refine Gives.of (u:=.pointer (some ⟨b,q+(k+fd.offset),none⟩)) ?_ (.pin g hc hv)
       simp only [execOp,ho,hb,Instr.fieldAt,Instr.sureAddr,fieldPlace,Sem.run_bind,Sem.run_pure,Result.andThen,zF hT hu,hfd,Am.run_size hT hsz]
       rw [if_neg (by simp),Am.Addr.add_eq,Nat.add_assoc]
       rfl
    ·cases e
   ·cases e
  ·cases e
 case h_13 t x f ho =>
  split at e
  ·next fs cs hu hx =>
   split at e
   ·next fd hfd =>
    have hp:=hf _ _ hx
    generalize hb:a.eval x=u at hp
    cases hp with
    | agg ha hk =>
      next cs' =>
      obtain ⟨u',r,hr⟩:=x7 (P:=P) (w:=w) hT (Iss.of_array ha hk) e
      refine Gives.of ?_ hr
      simp only [execOp,ho,hb,Instr.field,Sem.run_bind,zF hT hu,Result.andThen,hfd,asAgg,Sem.run_pure,r]
   ·cases e
  ·cases e
 case h_14 x k ho =>
  split at e
  ·next vs hx =>
   have hp:=hf _ _ hx
   generalize hb:a.eval x=u at hp
   cases hp with
   | tup ha hk =>
     next us =>
     obtain ⟨hlt,rfl⟩:=List.getElem?_eq_some_iff.1 e
     have hlt':k < us.size:=by omega
     refine Gives.of (u:=us[k]) ?_ (hk k hlt hlt')
     simp only [execOp,ho,Instr.extract,hb,Sem.run_bind]
     rw [Array.getElem?_eq_getElem hlt']
     rfl
  ·cases e
 case h_15=>cases e
end
end Go.Vw
namespace Go.Vw
open Go.RowKit Go.Am
variable [Drw]
def dstB (n:Nat):Option Tmp→Bool
 | none=>true
 | some d=>Nat.blt d n
def yx (ops:Array Oper) (fr:Fr) (o:Oper):Option Bool :=
 match o.guard with
 | none=>some true
 | some (j,want)=>match ops[j]? with
   | some g=>match g.dst with
     | some d=>match fr.get d with
       | some (.bool true)=>some want
       | some (.bool false)=>some (!want)
       | some .skip=>some false
       | _=>none
     | none=>none
   | none=>none
inductive RunR where
 | fin (fr:Fr) | stop (o:Oper) (l:List Oper) (fr:Fr)
def putK {β:Type} (d:Option Tmp) (v:V) (fr:Fr) (k:Fr→β):β:=match d with
 | some d=>k ((d,v)::fr)
 | none=>k fr
omit [Drw] in
theorem putK_eq {β:Type} (d:Option Tmp) (v:V) (fr:Fr) (k:Fr→β):putK d v fr k=k (fr.put d v):=by cases d <;> rfl
def hdK {β:Type} (fr:Fr) (k:Fr→β):β:=match fr with
 | []=>k []
 | x::r=>k (x::r)
omit [Drw] in
theorem hdK_eq {β:Type} (fr:Fr) (k:Fr→β):hdK fr k=k fr:=by cases fr <;> rfl
def vrun (tb:Tab) (n:Nat) (ops:Array Oper):List Oper→Fr→RunR
 | [],fr=>.fin fr
 | o::l,fr=>match yx ops fr o with
   | some true=>match vop tb fr.val o with
     | some v=>cond (dstB n o.dst) (putK o.dst v fr fun fr=>vrun tb n ops l fr) (.stop o l fr)
     | none=>.stop o l fr
   | some false=>cond (dstB n o.dst) (putK o.dst .skip fr fun fr=>vrun tb n ops l fr) (.stop o l fr)
   | none=>.stop o l fr
inductive Task where
 | run (c:Code) (K:List Kt) (fr:Fr)
 | next (K:List Kt) (fr:Fr)
 | ops (ops:Array Oper) (l:List Oper) (K:List Kt) (fr:Fr)
inductive Stop where
 | op (ops:Array Oper) (o:Oper) (l:List Oper) (K:List Kt) (fr:Fr)
 | cond (b:Bool) (c:Operand) (x y:Code) (K:List Kt) (fr:Fr)
 | loop (c:Code) (K:List Kt) (fr:Fr)
 | draw (ops:Array Oper) (K:List Kt) (fr:Fr)
 | range (f:Operand) (ps:Array Tmp) (asg body:Code) (K:List Kt) (fr:Fr)
 | head (I:Fr→Hp→Prop) (K:List Kt) (fr:Fr)
 | ret (fr:Fr) | fin (fr:Fr) | bad
def wq (tb:Tab) (n:Nat):Nat→Task→Stop
 | 0,_=>.bad
 | k+1,.run c K fr=>match c with
   | .skip=>wq tb n k (.next K fr)
   | .label _=>wq tb n k (.next K fr)
   | .seq x y=>wq tb n k (.run x (.code y::K) fr)
   | .block id c=>wq tb n k (.run c (.block id::K) fr)
   | .exit id=>match popTo id K with
     | some K'=>wq tb n k (.next K' fr)
     | none=>.bad
   | .ret=>.ret fr
   | .region _ ops draw=>cond draw (.draw ops K fr) (wq tb n k (.ops ops ops.toList K fr))
   | .cond c x y=>match fr.val c with
     | some (.bool true)=>wq tb n k (.run x K fr)
     | some (.bool false)=>wq tb n k (.run y K fr)
     | some (.ob b)=>.cond b c x y K fr
     | _=>.bad
   | .loop c=>.loop c K fr
   | .rangeFunc f ps asg body=>.range f ps asg body K fr
   | _=>.bad
 | k+1,.next K fr=>match K with
   | []=>.fin fr
   | .code y::K=>wq tb n k (.run y K fr)
   | .block _::K=>wq tb n k (.next K fr)
   | .loop I::K=>.head I K fr
 | k+1,.ops ops l K fr=>match vrun tb n ops l fr with
   | .fin fr'=>wq tb n k (.next K fr')
   | .stop o l' fr'=>.op ops o l' K fr'
section
variable (P:Program) (σ:Sg)
def VT (t:Task) (S:Hp) (Q:Exit→Fr→Hp→Prop):Prop :=
 match t with
 | .run c K fr=>zv P σ c K fr S Q
 | .next K fr=>zq P σ K fr S Q
 | .ops ops l K fr=>yE P σ ops l K fr S Q
def VS (s:Stop) (S:Hp) (Q:Exit→Fr→Hp→Prop):Prop :=
 match s with
 | .op ops o l K fr=>yE P σ ops (o::l) K fr S Q
 | .cond _ c x y K fr=>zv P σ (.cond c x y) K fr S Q
 | .loop c K fr=>zv P σ (.loop c) K fr S Q
 | .draw ops K fr=>∀ id,zv P σ (.region id ops true) K fr S Q
 | .range f ps asg body K fr=>zv P σ (.rangeFunc f ps asg body) K fr S Q
 | .head I _ fr=>I fr S
 | .ret fr=>Q .ret fr S
 | .fin fr=>Q .normal fr S
 | .bad=>False
end
section
variable {P:Program} {σ:Sg} {K:List Kt} {fr:Fr} {S:Hp} {Q:Exit→Fr→Hp→Prop} {tb:Tab} {ops:Array Oper} {o:Oper} {l:List Oper}
def zA4:Op→Bool
 | .defer _=>true
 | _=>false
def OpD (P:Program) (o:Oper) (a:Act) (F:Fz) (w:World) (S:Hp) (k:V→Hp→Prop):Prop :=
 (∃ v S' u w' F',((execOp a.eval o).run P w = .ok (.value u) w'∨((execOp a.eval o).run P w = .ok .skip w'∧u=undef))∧Is F' w' v u∧Sat F' w' S'∧Keep F w S F' w' S'∧k v S') ∨
 (∃ f us,(execOp a.eval o).run P w = .ok (.enter f us) w∧Calls P f us w fun e w'=>∃ v u F' S',e = .returned u∧Is F' w' v u∧Sat F' w' S'∧Keep F w S F' w' S'∧k v S') ∨
 (∃ l us f tm asg body,(execOp a.eval o).run P w=(Instr.yield l us).run P w∧(Instr.yield l us).run P w = .ok (.round l f tm asg body) w∧∀ n,RoundIn Fence.wide n P l f tm asg body w fun e w'=>∃ v u F' S',e = .returned u∧Is F' w' v u∧Sat F' w' S'∧Keep F w S F' w' S'∧k v S')
def OpS (P:Program) (o:Oper) (ρ:Operand→Option V) (S:Hp) (k:V→Hp→Prop):Prop:=zA4 o.op=false∧∀ F w a,Sat F w S→Rel F w ρ a→OpD P o a F w S k
theorem OpD.val {a:Act} {F F':Fz} {w w':World} {S':Hp} {v:V} {u:Value} {k:V→Hp→Prop} (e:(execOp a.eval o).run P w = .ok (.value u) w') (r:Is F' w' v u) (s:Sat F' w' S') (kp:Keep F w S F' w' S') (h:k v S'):OpD P o a F w S k:=.inl ⟨v,S',u,w',F',.inl e,r,s,kp,h⟩
theorem OpD.skip {a:Act} {F F':Fz} {w w':World} {S':Hp} {k:V→Hp→Prop} (e:(execOp a.eval o).run P w = .ok .skip w') (s:Sat F' w' S') (kp:Keep F w S F' w' S') (h:k .skip S'):OpD P o a F w S k:=.inl ⟨.skip,S',undef,w',F',.inr ⟨e,rfl⟩,.skip,s,kp,h⟩
theorem OpD.map {a:Act} {F:Fz} {w:World} {k k':V→Hp→Prop} (h:OpD P o a F w S k) (hk:∀ v S1,k v S1→∃ v' S2,v.Le v'∧Sub S1 S2∧k' v' S2):OpD P o a F w S k':=by
 have end_:∀ {e w'},(∃ v u F' S',e=Ending.returned u∧Is F' w' v u∧Sat F' w' S'∧Keep F w S F' w' S'∧k v S')→∃ v u F' S',e=Ending.returned u∧Is F' w' v u∧Sat F' w' S'∧Keep F w S F' w' S'∧k' v S':=by
  rintro e w' ⟨v,u,F',S',e1,hu,s',kp,hv⟩
  obtain ⟨v',S2,l,b,q⟩:=hk v S' hv
  exact ⟨v',u,F',S2,e1,l _ _ _ hu,b.sat s',b.keep' kp,q⟩
 rcases h with ⟨v,S',u,w',F',e,hu,s',kp,hv⟩ | ⟨f,us,e,hc⟩ | ⟨l,us,f,tm,asg,body,e0,e,hc⟩
 ·obtain ⟨v',S2,l,b,q⟩:=hk v S' hv
  exact .inl ⟨v',S2,u,w',F',e,l _ _ _ hu,b.sat s',b.keep' kp,q⟩
 ·exact .inr (.inl ⟨f,us,e,hc.mono fun _ _=>end_⟩)
 ·exact .inr (.inr ⟨l,us,f,tm,asg,body,e0,e,fun n=>(hc n).mono fun _ _=>end_⟩)
omit [Drw] in
theorem FrIs.rel {F:Fz} {w:World} {a:Act} (h:FrIs F w fr a.tmps):Rel F w fr.val a:=fun _ _ e=>h.val e
omit [Drw] in
theorem zBo {F:Fz} {w:World} {a:Act} (hf:FrIs F w fr a.tmps) {x:Bool} (e:yx ops fr o=some x):Region.wanted o (yielded ops a.tmps)=x:=by
 unfold yx at e
 unfold Region.wanted
 split at e
 ·next hg=>cases e; rw [hg]
 ·next j y hg =>
  rw [hg]
  simp only
  split at e
  ·next g hj =>
   split at e
   ·next d hd =>
    split at e
    ·next hv =>
     cases e
     obtain ⟨u,e1,r⟩:=hf _ _ hv
     rw [bool_inv r] at e1
     have:yielded ops a.tmps j=some true:=by simp [yielded,hj,hd,e1]
     rw [this]
     cases x <;> rfl
    ·next hv =>
     cases e
     obtain ⟨u,e1,r⟩:=hf _ _ hv
     rw [bool_inv r] at e1
     have:yielded ops a.tmps j=some false:=by simp [yielded,hj,hd,e1]
     rw [this]
     cases y <;> rfl
    ·next hv =>
     cases e
     obtain ⟨u,e1,r⟩:=hf _ _ hv
     have:u=undef:=by cases r; rfl
     subst this
     have:yielded ops a.tmps j=none:=by simp [yielded,hj,hd,e1,undef]
     rw [this]
     rfl
    ·cases e
   ·cases e
  ·cases e
omit [Drw] in
theorem dstB_spec {n:Nat} {d:Option Tmp} (h:dstB n d=true):∀ x,d=some x→x < n:=fun x hx=>by
 subst hx
 simpa [dstB,Nat.blt_eq] using h
omit [Drw] in
theorem St.put {n:Nat} {ds:List Deferred} {F:Fz} {w:World} {a:Act} (s:St n ds F w fr S a) {F':Fz} {w':World} {S':Hp} (g:Grow F w F' w') (s':Sat F' w' S') {d:Option Tmp} {v:V} {u:Value} (hd:dstB n d=true) (hv:Is F' w' v u):St n ds F' w' (fr.put d v) S' (a.put d u) :=
 ⟨s',(s.fr.mono g).put d hv fun x hx=>by rw [s.size]; exact dstB_spec hd x hx,by cases d <;> simp [Act.put,s.size],by cases d <;> exact s.defers⟩
theorem op_in {F:Fz} {w:World} {a:Act} {kc:V→Hp→Prop} (hdf:zA4 o.op=false) (h:OpD P o a F w S kc) {R:Exit→Act→World→Prop} {G:Act→World→Prop}
  (hG:∀ v S' u F' w',Is F' w' v u→Sat F' w' S'→Keep F w S F' w' S'→kc v S'→G (a.put o.dst u) w'):Oper.wpIn (FF σ.r) σ.m P o a w G R:=by
 have hsem:o.semAt (FF σ.r).round a.eval=execOp a.eval o:=by
  cases σ.r with
  | none=>rfl
  | some l=>exact Oper.semAt_eq _ _ _ fun c ho=>by rw [ho] at hdf; cases hdf
 refine ⟨fun f _=>FF_fn σ.r f,?_⟩
 rw [hsem]
 rcases h with ⟨v,S',u,w',F',e,r,s',k',hk⟩ | ⟨f,us,e,hc⟩ | ⟨l,us,f,tm,asg,body,e0,e,hc⟩
 ·have fin:G (a.put o.dst u) w':=hG v S' u F' w' r s' k' hk
  rcases e with e | ⟨e,rfl⟩
  ·rw [e]; exact fin
  ·rw [e]; exact fin
 ·rw [e]
  refine ⟨(fun hd=>by cases hd),?_⟩
  have hcs:CallsIn (FF σ.r) (σ.m - 1) P f us w _:=(callsIn_wide (n:=σ.m - 1)).2 hc
  refine hcs.mono ?_
  rintro en w' ⟨v,u,F',S',rfl,r,s',k',hk⟩
  exact hG v S' u F' w' r s' k' hk
 ·rw [e0,e]
  refine ⟨(fun hd=>by cases hd),?_⟩
  have hcs:RoundIn (FF σ.r) (σ.m - 1) P l f tm asg body w _:=hc (σ.m - 1)
  refine hcs.mono ?_
  rintro en w' ⟨v,u,F',S',rfl,r,s',k',hk⟩
  exact hG v S' u F' w' r s' k' hk
theorem ops_cons (hgo:∀ F w a,St σ.n σ.ds F w fr S a→Keep σ.F σ.w σ.S F w S→∀ (G:Act→World→Prop) R,(∀ fr' S',yE P σ ops l K fr' S' Q→VAt σ G fr' S')→if Region.wanted o (yielded ops a.tmps)=true then Oper.wpIn (FF σ.r) σ.m P o a w G R else (∀ f,o.about P w a.eval=some f→(FF σ.r).fn f)∧G (a.put o.dst undef) w):yE P σ ops (o::l) K fr S Q:=fun i hi F w a s k=>by
 have ho:ops[i]?=some o:=by
  have:=congrArg List.head? hi
  simpa using this
 have hd':ops.toList.drop (i+1)=l:=by
  have:=congrArg List.tail hi
  simpa using this
 rw [List.length_cons,List.range'_succ]
 simp only [wpOpsIn,ho]
 exact hgo F w a s k _ _ fun fr' S' h=>h (i+1) hd'
theorem ops_do (hd:dstB σ.n o.dst=true) (hg:yx ops fr o=some true) (h:OpS P o fr.val S fun v S'=>yE P σ ops l K (fr.put o.dst v) S' Q):yE P σ ops (o::l) K fr S Q :=
 ops_cons fun F w a s k G R hG=>by
  rw [if_pos (zBo s.fr hg)]
  exact op_in h.1 (h.2 F w a s.sat s.fr.rel) fun v S' u F' w' r s' k' hn=>hG _ _ hn F' w' _ (s.put k'.toGrow s' hd r) (k.trans k')
theorem ops_skip (hd:dstB σ.n o.dst=true) (hg:yx ops fr o=some false) (h:yE P σ ops l K (fr.put o.dst .skip) S Q):yE P σ ops (o::l) K fr S Q :=
 ops_cons fun F w a s k G R hG=>by
  rw [if_neg (by rw [zBo s.fr hg]; decide)]
  exact ⟨fun f _=>FF_fn σ.r f,hG _ _ h F w _ (s.put (.refl _ _) s.sat hd .skip) k⟩
omit [Drw] in
theorem zAi {ρ:Operand→Option V} {v:V} (e:vop tb ρ o=some v):zA4 o.op=false:=by
 unfold vop at e
 unfold zA4
 split at e <;> first | (cases e; done) | (simp only [*])
theorem s_vop (hT:TabOk tb P) {ρ:Operand→Option V} {v:V} {k:V→Hp→Prop} (e:vop tb ρ o=some v) (h:k v S):OpS P o ρ S k :=
 ⟨zAi e,fun F w a s hf=>by
  obtain ⟨u,r,hu⟩:=vop_sound (P:=P) hT hf e
  exact .val r hu s (.refl _ _ _) h⟩
def RH (P:Program) (σ:Sg) (ops:Array Oper) (K:List Kt) (S:Hp) (Q:Exit→Fr→Hp→Prop):RunR→Prop
 | .fin fr'=>zq P σ K fr' S Q
 | .stop o l' fr'=>yE P σ ops (o::l') K fr' S Q
theorem zA5 (hT:TabOk tb P):∀ (l:List Oper) (fr:Fr),RH P σ ops K S Q (vrun tb σ.n ops l fr)→yE P σ ops l K fr S Q
 | [],fr,h=>ops_nil h
 | o::l,fr,h=>by
   unfold vrun at h
   cases hg:yx ops fr o with
   | none=>rw [hg] at h; exact h
   | some b =>
     rw [hg] at h
     cases b
     ·cases hd:dstB σ.n o.dst
      ·rw [hd] at h; exact h
      ·rw [hd] at h
       simp only [cond_true,putK_eq] at h
       exact ops_skip hd hg (zA5 hT l _ h)
     ·cases hv:vop tb fr.val o with
      | none=>rw [hv] at h; exact h
      | some v =>
        rw [hv] at h
        cases hd:dstB σ.n o.dst
        ·rw [hd] at h; exact h
        ·rw [hd] at h
         simp only [cond_true,putK_eq] at h
         exact ops_do hd hg (s_vop hT hv (zA5 hT l _ h))
theorem yb (hT:TabOk tb P):∀ (k:Nat) (t:Task),VS P σ (wq tb σ.n k t) S Q→VT P σ t S Q
 | 0,_,h=>h.elim
 | k+1,.run c K fr,h=>by
   unfold wq at h
   show zv P σ c K fr S Q
   split at h
   ·exact run_skip (yb hT k _ h)
   ·exact run_label (yb hT k _ h)
   ·exact run_seq (yb hT k _ h)
   ·exact run_block (yb hT k _ h)
   ·split at h
    ·next e=>exact run_exit e (yb hT k _ h)
    ·exact h.elim
   ·exact run_ret h
   ·next draw =>
    cases draw
    ·exact run_region rfl (yb hT k _ h)
    ·exact h _
   ·split at h
    ·next e=>exact run_cond_t e (yb hT k _ h)
    ·next e=>exact run_cond_f e (yb hT k _ h)
    ·exact h
    ·exact h.elim
   ·exact h
   ·exact h
   ·exact h.elim
 | k+1,.next K fr,h=>by
   unfold wq at h
   show zq P σ K fr S Q
   split at h
   ·exact next_nil h
   ·exact zAM (yb hT k _ h)
   ·exact next_block (yb hT k _ h)
   ·exact next_loop h
 | k+1,.ops ops l K fr,h=>by
   unfold wq at h
   show yE P σ ops l K fr S Q
   refine zA5 hT l fr ?_
   cases e:vrun tb σ.n ops l fr with
   | fin fr'=>rw [e] at h; exact yb hT k (.next K _) h
   | stop o l' fr'=>rw [e] at h; exact h
def vexec1 (tb:Tab) (n k:Nat):Task→Stop
 | .run c K fr=>hdK fr fun fr=>wq tb n k (.run c K fr)
 | .next K fr=>hdK fr fun fr=>wq tb n k (.next K fr)
 | .ops ops l K fr=>hdK fr fun fr=>wq tb n k (.ops ops l K fr)
omit [Drw] in
theorem vexec1_eq (tb:Tab) (n k:Nat) (t:Task):vexec1 tb n k t=wq tb n k t:=by cases t <;> simp only [vexec1,hdK_eq]
theorem go (hT:TabOk tb P) {t:Task} {s:Stop} (k:Nat) (e:vexec1 tb σ.n k t=s) (h:VS P σ s S Q):VT P σ t S Q:=yb hT k t (by rw [← vexec1_eq,e]; exact h)
theorem gz (hT:TabOk tb P) {t:Task} {s:Stop} (e:vexec1 tb σ.n 10000 t=s) (h:VS P σ s S Q):VT P σ t S Q:=go hT 10000 e h
end
end Go.Vw
namespace Go.Vw
open Go.RowKit Go.Am
variable [Drw]
section
variable {P:Program} {σ:Sg} {ρ:Operand→Option V} {k:V→Hp→Prop} {K:List Kt} {fr:Fr} {S:Hp} {Q:Exit→Fr→Hp→Prop} {tb:Tab} {ops:Array Oper} {o:Oper} {l:List Oper}
def okB (n:Nat) (ops:Array Oper) (fr:Fr) (o:Oper):Bool:=match yx ops fr o with | some true=>dstB n o.dst | _=>false
omit [Drw] in
theorem okB_spec {n:Nat} (h:okB n ops fr o=true):dstB n o.dst=true∧yx ops fr o=some true:=by
 unfold okB at h
 split at h
 ·next hg=>exact ⟨h,hg⟩
 ·cases h
theorem zA (hk:okB σ.n ops fr o=true) (h:OpS P o fr.val S fun v S'=>VT P σ (.ops ops l K (fr.put o.dst v)) S' Q):yE P σ ops (o::l) K fr S Q:=ops_do (okB_spec hk).1 (okB_spec hk).2 h
theorem zG {j d:Nat} {want b:Bool} {g:Oper} (_hg:o.guard=some (j,want)) (_hj:ops[j]?=some g) (_hgd:g.dst=some d) (hb:fr.get d=some (.ob b))
  (h1:b=true→VT P σ (.ops ops (o::l) K ((d,.bool true)::fr)) S Q) (h2:b=false→VT P σ (.ops ops (o::l) K ((d,.bool false)::fr)) S Q):yE P σ ops (o::l) K fr S Q:=by
 have push:∀ c,b=c→yE P σ ops (o::l) K ((d,.bool c)::fr) S Q→yE P σ ops (o::l) K fr S Q:=fun c hc h i hi F w a s k=>by
  refine h i hi F w a ⟨s.sat,fun t v e=>?_,s.size,s.defers⟩ k
  rw [x6] at e
  split at e
  ·next ht =>
   subst ht; cases e; subst hc
   obtain ⟨u,e1,r⟩:=s.fr _ _ hb
   exact ⟨u,e1,by rw [ob_inv r]; exact .bool _⟩
  ·exact s.fr _ _ e
 cases b
 ·exact push false rfl (h2 rfl)
 ·exact push true rfl (h1 rfl)
theorem zC {t:Tmp} {x y:Code} {b:Bool} (hb:fr.get t=some (.ob b)) (h1:b=true→VT P σ (.run x K ((t,.bool true)::fr)) S Q) (h2:b=false→VT P σ (.run y K ((t,.bool false)::fr)) S Q):zv P σ (.cond (.tmp t) x y) K fr S Q:=by
 have push:∀ (c:Bool) (z:Code),b=c→zv P σ z K ((t,.bool c)::fr) S Q→zv P σ z K fr S Q:=fun c z hc h F w a s k=>by
  refine h F w a ⟨s.sat,fun t' v e=>?_,s.size,s.defers⟩ k
  rw [x6] at e
  split at e
  ·next ht =>
   subst ht; cases e; subst hc
   obtain ⟨u,e1,r⟩:=s.fr _ _ hb
   exact ⟨u,e1,by rw [ob_inv r]; exact .bool _⟩
  ·exact s.fr _ _ e
 exact run_cond (c:=.tmp t) hb (fun hc=>push true x hc (h1 hc)) (fun hc=>push false y hc (h2 hc))
theorem run_f {c:Operand} {x y:Code} {b:Bool} (hc:fr.val c=some (.ob b)) (hb:b=false) (h:VT P σ (.run y K fr) S Q):zv P σ (.cond c x y) K fr S Q:=run_cond_f' hc hb h
def QG (P:Program) (o:Oper) (ρ:Operand→Option V) (S:Hp) (v:V):Prop:=zA4 o.op=false∧∀ F w a,Sat F w S→Rel F w ρ a→Gives P o a F w v
omit [Drw] in
theorem QG.mk {v:V} (h1:zA4 o.op=false) (h2:∀ F w a,Sat F w S→Rel F w ρ a→Gives P o a F w v):QG P o ρ S v:=⟨h1,h2⟩
theorem s_g {v:V} (h:QG P o ρ S v) (hk:k v S):OpS P o ρ S k:=⟨h.1,fun F w a s r=>by
 obtain ⟨u,e,hu⟩:=h.2 F w a s r
 exact .val e hu s (.refl _ _ _) hk⟩
theorem zB {v:V} (hk:okB σ.n ops fr o=true) (h:QG P o fr.val S v) (hn:VT P σ (.ops ops l K (fr.put o.dst v)) S Q):yE P σ ops (o::l) K fr S Q:=zA hk (s_g h hn)
theorem OpS.mk (h1:zA4 o.op=false) (h2:∀ F w a,Sat F w S→Rel F w ρ a→OpD P o a F w S k):OpS P o ρ S k:=⟨h1,h2⟩
omit [Drw] in
theorem zT (hT:TabOk tb P) {t:TypeId} {x:Operand} {b off:Nat} {cs:List V} {e:TypeId} {f:HE→Hp} {v:V} (ho:o.op = .load t x) (hx:ρ x=some (.ptr b off)) (hat:At S (.cells b cs e) f) (hp:xH tb t cs off=some v):QG P o ρ S v :=
 QG.mk (by rw [ho]; rfl) fun F w a s hf=>by
  obtain ⟨u,r,hu⟩:=uv (P:=P) (F:=F) hT (b:=b) (o:=0) (hat.cells_get s) hp
  rw [Nat.zero_add] at r
  refine Gives.of ?_ hu
  simp only [execOp,ho,ptr_inv (hf _ _ hx),Instr.loadAt,Instr.sureAddr,Sem.run_bind,Sem.run_pure,Result.andThen,r]
def zz:List V→Bool
 | []=>true
 | v::r=>cond v.isCell (zz r) false
omit [Drw] in
theorem vg {F:Fz} {w:World}:∀ {vs:List V} {us:List Value},Iss F w vs us→zz vs=true→∀ u∈us,isCell u=true
 | _,_,.nil,_,_,hm=>by cases hm
 | _,_,.cons (a:=v) r rs,h,u,hm=>by
   unfold zz at h
   cases hv:v.isCell
   ·rw [hv] at h; cases h
   ·rw [hv] at h
    cases hm with
    | head=>exact r.cell_of hv
    | tail _ hm=>exact vg rs h u hm
omit [Drw] in
theorem uC {v:V} (h:zz v.cells=true):v.solid=true:=by
 cases v <;> first | rfl | (simp [V.cells,zz,V.isCell] at h)
def vG (tb:Tab) (t:TypeId) (u:V) (off:Nat) (cs:List V):Option (List V) :=
 match tb.size t with
 | some n=>cond (Nat.beq u.cells.length n && zz u.cells) (wI off u.cells cs) none
 | none=>none
theorem zI (hT:TabOk tb P) {t:TypeId} {x y:Operand} {b off:Nat} {cs cs':List V} {e:TypeId} {f:HE→Hp} {v:V} (ho:o.op = .store t x y) (hx:ρ x=some (.ptr b off)) (hy:ρ y=some v) (hat:At S (.cells b cs e) f) (hp:vG tb t v off cs=some cs')
  (h:k .skip (f (.cells b cs' e))):OpS P o ρ S k :=
 OpS.mk (by rw [ho]; rfl) fun F w a s hf=>by
  unfold vG at hp
  split at hp
  ·next n hs =>
   cases hc:(Nat.beq v.cells.length n && zz v.cells)
   ·rw [hc] at hp; cases hp
   ·rw [hc] at hp
    simp only [cond_true] at hp
    rw [Bool.and_eq_true] at hc
    have hn:=Nat.eq_of_beq_eq_true hc.1
    have hv:=hf _ _ hy
    have hcs:=hv.cells_of (uC hc.2)
    obtain ⟨c,e1,hsz,s',k'⟩:=s.store hat hp hcs
    refine .skip (w':=w.putObj b (.cells (wN off (a.eval y).cells.toList c) e (0,0))) ?_ s' k' h
    have hlen:(a.eval y).cells.size=n:=by rw [← hn,hcs.length]; simp
    by_cases h0:v.cells=[]
    ·have hu0:(a.eval y).cells.toList=[]:=by
      have:=hcs.length
      rw [h0] at this
      exact List.length_eq_zero_iff.1 this.symm
     simp only [execOp,ho,ptr_inv (hf _ _ hx),Instr.storeAt,Instr.sureAddr,Sem.run_bind,Sem.run_pure,Result.andThen,Go.storeVar,Am.run_size hT hs]
     rw [if_neg (by simp [hlen]),hu0]
     simp only [storeCells,wN,kM e1,Sem.run_pure]
    ·have st:=xD (P:=P) (b:=b) (o:=off) (a.eval y).cells.toList 0 w c e1 (vg hcs hc.2) (by have:=hsz h0; simp at this ⊢; omega)
     rw [Nat.add_zero] at st
     simp only [execOp,ho,ptr_inv (hf _ _ hx),Instr.storeAt,Instr.sureAddr,Sem.run_bind,Sem.run_pure,Result.andThen,Go.storeVar,Am.run_size hT hs]
     rw [if_neg (by simp [hlen]),st]
  ·cases hp
theorem zX (hT:TabOk tb P) {t:TypeId} {z:V} (ho:o.op = .alloc t) (hz:uw tb t=some z) (hc:zz z.cells=true)
  (h:∀ b,k (.ptr b 0) (.cells b z.cells t::S)):OpS P o ρ S k :=
 OpS.mk (by rw [ho]; rfl) fun F w a s hf=>by
  obtain ⟨z',rz,hz'⟩:=qN (P:=P) hT hz w F w
  obtain ⟨s',k'⟩:=s.cells t (hz'.cells_of (uC hc))
  refine .val ?_ (.ptr _ _) s' k' (h _)
  simp only [execOp,ho,Instr.alloc,Sem.run_bind,rz,uU,Sem.run_pure,Result.andThen]
theorem s_box {t:TypeId} {x:Operand} {v:V} (ho:o.op = .box t x) (hx:ρ x=some v) (hc:zz v.cells=true)
  (h:∀ b,k (.ptr b 0) (.cells b v.cells t::S)):OpS P o ρ S k :=
 OpS.mk (by rw [ho]; rfl) fun F w a s hf=>by
  obtain ⟨s',k'⟩:=s.cells t ((hf _ _ hx).cells_of (uC hc))
  refine .val ?_ (.ptr _ _) s' k' (h _)
  simp only [execOp,ho,Instr.box,Sem.run_bind,uU,Sem.run_pure,Result.andThen]
theorem zAO {t:TypeId} (ho:o.op = .makeMap t none)
  (h:∀ b,k (.map b) (.map b []::S)):OpS P o ρ S k :=
 OpS.mk (by rw [ho]; rfl) fun F w a s hf=>by
  obtain ⟨s',k'⟩:=s.emptyMap
  refine .val ?_ (.map _) s' k' (h _)
  simp only [execOp,ho,Instr.makeMap,newObj,Option.map,Sem.run_bind,Sem.run]; rfl
omit [Drw] in
theorem zr (hT:TabOk tb P) {t el:TypeId} {x ix:Operand} {n:Nat} {tk:Tok} {rows:List (List V)} {r:List V} {κ:IntKind} {i:Int} (ho:o.op = .indexAddr t x ix) (ht:tb.under t=some (.slice el)) (hs:tb.size el=some n)
  (hx:ρ x=some (.slice tk rows)) (hi:ρ ix=some (.int κ i)) (h0:0≤i) (hr:rows[i.toNat]?=some r) (hn:r.length=n):QG P o ρ S (.pin r 0) :=
 QG.mk (by rw [ho]; rfl) fun F w a s hf=>by
  have hv:=hf _ _ hx
  have hiv:=int_inv (hf _ _ hi)
  obtain ⟨hlt,rfl⟩:=List.getElem?_eq_some_iff.1 hr
  generalize hb:a.eval x=u at hv
  have hnil:rows≠[]:=fun h=>by subst h; simp at hlt
  cases hv with
  | nilSlice=>exact absurd rfl hnil
  | slice g hl hc hv hle hxx htk =>
    next b off c q sz =>
    have hq:q=off:=by
     rcases hxx with h | h
     ·have:0 < rows.length:=by omega
      omega
     ·exact h
    subst hq
    have hsz:sz=n:=by rw [← hl _ hlt]; exact hn
    subst hsz
    refine Gives.of (u:=.pointer (some ⟨b,q+i.toNat * sz,none⟩)) ?_ (.pin (off:=0) (o:=q+i.toNat * sz) (fun k=>g i.toNat k) (fun k hk=>hc _ hlt k (by rw [hl _ hlt] at hk; exact hk)) (fun k hk=>hv _ hlt k hk))
    simp only [execOp,ho,hiv,hb,Instr.indexAt,asIntOf,Sem.run_bind,Sem.run_pure,Result.andThen,zF hT ht]
    rw [if_pos ⟨h0,by omega⟩]
    simp only [Sem.run_bind,Am.run_size hT hs,Result.andThen,Sem.run_pure,Am.Addr.add_eq]
omit [Drw] in
theorem g_indexN (hT:TabOk tb P) {t el:TypeId} {x ix:Operand} {n:Nat} {tk:Tok} {rows:List (List V)} {r:List V} {κ:IntKind} {i:Nat} (ho:o.op = .indexAddr t x ix) (ht:tb.under t=some (.slice el)) (hs:tb.size el=some n)
  (hx:ρ x=some (.slice tk rows)) (hi:ρ ix=some (.int κ (i:Int))) (hr:rows[i]?=some r) (hn:r.length=n):QG P o ρ S (.pin r 0) :=
 zr hT ho ht hs hx hi (Int.natCast_nonneg _) (by simpa using hr) hn
omit [Drw] in
theorem zJ (hT:TabOk tb P) {α:Type} {g:α→List V} {xs:List α} {t el:TypeId} {x ix:Operand} {n:Nat} {tk:Tok} {κ:IntKind} {i:Nat} (ho:o.op = .indexAddr t x ix) (ht:tb.under t=some (.slice el)) (hs:tb.size el=some n)
  (hx:ρ x=some (.slice tk (xs.map g))) (hi:ρ ix=some (.int κ (i:Int))) (hlt:i < xs.length) (hn:(g xs[i]).length=n):QG P o ρ S (.pin (g xs[i]) 0) :=
 g_indexN hT ho ht hs hx hi (by rw [List.getElem?_map,List.getElem?_eq_getElem hlt]; rfl) hn
omit [Drw] in
theorem za (hT:TabOk tb P) {t el:TypeId} {x ix:Operand} {b off len c n:Nat} {κ:IntKind} {i:Int} (ho:o.op = .indexAddr t x ix) (ht:tb.under t=some (.slice el)) (hs:tb.size el=some n)
  (hx:ρ x=some (.ref b off len c)) (hi:ρ ix=some (.int κ i)) (h0:0≤i) (hlt:i < len):QG P o ρ S (.ptr b (off+i.toNat * n)) :=
 QG.mk (by rw [ho]; rfl) fun F w a s hf=>by
  have hv:=hf _ _ hx
  have hiv:=int_inv (hf _ _ hi)
  generalize hb:a.eval x=u at hv
  cases hv
  refine Gives.of ?_ (.ptr b (off+i.toNat * n))
  simp only [execOp,ho,hiv,hb,Instr.indexAt,asIntOf,Sem.run_bind,Sem.run_pure,Result.andThen,zF hT ht]
  rw [if_pos ⟨h0,hlt⟩]
  simp only [Sem.run_bind,Am.run_size hT hs,Result.andThen,Sem.run_pure,Am.Addr.add_eq]
omit [Drw] in
theorem ql (hT:TabOk tb P) {t el:TypeId} {x ix:Operand} {b off len n:Nat} {κ:IntKind} {i:Int} (ho:o.op = .indexAddr t x ix) (ht:tb.under t=some (.array len el)) (hs:tb.size el=some n)
  (hx:ρ x=some (.ptr b off)) (hi:ρ ix=some (.int κ i)) (h0:0≤i) (hlt:i < len):QG P o ρ S (.ptr b (off+i.toNat * n)) :=
 QG.mk (by rw [ho]; rfl) fun F w a s hf=>by
  have hiv:=int_inv (hf _ _ hi)
  refine Gives.of ?_ (.ptr b (off+i.toNat * n))
  simp only [execOp,ho,hiv,ptr_inv (hf _ _ hx),Instr.indexAt,Instr.sureAddr,asIntOf,Sem.run_bind,Sem.run_pure,Result.andThen,zF hT ht]
  rw [if_pos ⟨h0,hlt⟩]
  simp only [Sem.run_bind,Am.run_size hT hs,Result.andThen,Sem.run_pure,Am.Addr.add_eq]
omit [Drw] in
theorem g_indexStr (hT:TabOk tb P) {t:TypeId} {x ix:Operand} {s:ByteArray} {κ:IntKind} {i:Nat} (ho:o.op = .index t x ix) (ht:tb.under t=some .string)
  (hx:ρ x=some (.str s)) (hi:ρ ix=some (.int κ (i:Int))) (hlt:i < s.size):QG P o ρ S (.int .u8 (s[i].toNat:Int)) :=
 QG.mk (by rw [ho]; rfl) fun F w a sa hf=>by
  have hiv:=int_inv (hf _ _ hi)
  have hsv:=zAN (hf _ _ hx)
  refine Gives.of ?_ (.int .u8 (s[i].toNat:Int))
  simp only [execOp,ho,hiv,hsv,Instr.index,asIntOf,Sem.run_bind,Sem.run_pure,Result.andThen,zF hT ht]
  have h1:s[((i:Nat):Int).toNat]?=some s[i]:=by
   rw [Int.toNat_natCast,ByteArray.getElem?_lt' s i hlt]
  rw [if_pos (Int.natCast_nonneg i),h1]
  rfl
omit [Drw] in
theorem x8 {a:Act} {w:World} {c:Call} {b:Builtin} {v:Value} {w':World} (ho:o.op = .call c) (hc:c.callee = .builtin b)
  (h:(builtin b c.argTypes o.type (c.args.map fun | .const _=>true | _=>false) (c.args.map a.eval)).run P w = .ok (.value v) w'):(execOp a.eval o).run P w = .ok (.value v) w':=by
 rw [← h]
 simp only [execOp,ho,resolve,hc,Sem.run_bind,Sem.run_pure,Result.andThen,invoke]
 rfl
omit [Drw] in
theorem zK (hT:TabOk tb P) {c:Call} {t el:TypeId} {x:Operand} {tk:Tok} {rows:List (List V)} {n:Nat} (ho:o.op = .call c) (hc:c.callee = .builtin .len) (hx':c.args=#[x]) (hat:c.argTypes=#[t]) (ht:tb.under t=some (.slice el))
  (hx:ρ x=some (.slice tk rows)) (hn:rows.length=n):QG P o ρ S (.int .i64 (n:Int)) :=
 QG.mk (by rw [ho]; rfl) fun F w a s hf=>by
  have hv:=hf _ _ hx
  refine Gives.of (u:=.int .i64 (n:Int)) (x8 ho hc ?_) (.int .i64 (n:Int))
  rw [hx',hat]
  subst hn
  generalize hb:a.eval x=u at hv
  cases hv <;> (simp [builtin,Builtin.len_,hb,zF hT ht,goInt])
omit [Drw] in
theorem zBp (hT:TabOk tb P) {c:Call} {t el:TypeId} {x:Operand} {b off n cp:Nat} (ho:o.op = .call c) (hc:c.callee = .builtin .len) (hx':c.args=#[x]) (hat:c.argTypes=#[t]) (ht:tb.under t=some (.slice el))
  (hx:ρ x=some (.ref b off n cp)):QG P o ρ S (.int .i64 (n:Int)) :=
 QG.mk (by rw [ho]; rfl) fun F w a s hf=>by
  have hv:=hf _ _ hx
  refine Gives.of (u:=.int .i64 (n:Int)) (x8 ho hc ?_) (.int .i64 (n:Int))
  rw [hx',hat]
  generalize hb:a.eval x=u at hv
  cases hv; simp [builtin,Builtin.len_,hb,zF hT ht,goInt]
omit [Drw] in
theorem g_lenStr (hT:TabOk tb P) {c:Call} {t:TypeId} {x:Operand} {s:ByteArray} (ho:o.op = .call c) (hc:c.callee = .builtin .len) (hx':c.args=#[x]) (hat:c.argTypes=#[t]) (ht:tb.under t=some .string)
  (hx:ρ x=some (.str s)):QG P o ρ S (.int .i64 (s.size:Int)) :=
 QG.mk (by rw [ho]; rfl) fun F w a sa hf=>by
  refine Gives.of (u:=.int .i64 (s.size:Int)) (x8 ho hc ?_) (.int .i64 (s.size:Int))
  rw [hx',hat]
  simp [builtin,Builtin.len_,zAN (hf _ _ hx),zF hT ht,goInt]
omit [Drw] in
theorem g_int {op:BinOp} {t z:TypeId} {x y:Operand} {κ κ':IntKind} {m n:Int} {u:Value} (ho:o.op = .binOp op t x y z) (hx:ρ x=some (.int κ m)) (hy:ρ y=some (.int κ' n)) (hu:wM op κ m κ' n=some u):QG P o ρ S (zCT u) :=
 QG.mk (by rw [ho]; rfl) fun F w a s hf=>by
  have r:=vp (P:=P) (t:=t) (tb:=⟨fun _=>none,fun _=>none,fun _=>0,fun _=>false,fun _=>false,fun _ _ _=>none⟩) (cst:=false) hu w
  refine Gives.of (u:=u) ?_ (.flat F w u)
  simp only [execOp,ho,int_inv (hf _ _ hx),int_inv (hf _ _ hy),Sem.run_bind,wP (a:=.int _ _) rfl,Result.andThen,r,Sem.run_pure]
omit [Drw] in
theorem wrap_id {z:Int} (h:-9223372036854775808≤z∧z < 9223372036854775808):IntKind.i64.wrap z=z:=by rw [IntKind.wrap_i64]; omega
omit [Drw] in
theorem zU {t z:TypeId} {x y:Operand} {m n:Int} (ho:o.op = .binOp .add t x y z) (hx:ρ x=some (.int .i64 m)) (hy:ρ y=some (.int .i64 n)) (hb:-9223372036854775808≤m+n∧m+n < 9223372036854775808):QG P o ρ S (.int .i64 (m+n)) :=
 g_int (u:=.int .i64 (m+n)) ho hx hy (by simp only [wM,decide_true,cond_true,uq,wrap_id hb])
omit [Drw] in
theorem g_sub {t z:TypeId} {x y:Operand} {m n:Int} (ho:o.op = .binOp .sub t x y z) (hx:ρ x=some (.int .i64 m)) (hy:ρ y=some (.int .i64 n)) (hb:-9223372036854775808≤m - n∧m - n < 9223372036854775808):QG P o ρ S (.int .i64 (m - n)) :=
 g_int (u:=.int .i64 (m - n)) ho hx hy (by simp only [wM,decide_true,cond_true,uq,wrap_id hb])
theorem yQ (hT:TabOk tb P) {c:Call} {x:Operand} {f:FuncId} {first cap args:List V} {fn:Func} {body:Code} (ho:o.op = .call c) (hc:c.callee = .value x) (hx:ρ x=some (.func f first cap)) (ha:valsV ρ c.args.toList=some args) (hf:tb.func f=some fn) (hb:fn.body=some body)
  (h:VC P f (first++args++cap) S k):OpS P o ρ S k :=
 OpS.mk (by rw [ho]; rfl) fun F w a s hr=>by
  have hv:=hr _ _ hx
  generalize hu:a.eval x=u at hv
  cases hv with
  | func h1 h2 h3 h4 =>
    next a' c' =>
    have hargs:Iss F w (first++args++cap) ((a'++c.args.map a.eval)++c').toList:=by
     simp only [Array.toList_append]
     refine All2.append (All2.append (Iss.of_array h1 h2) ?_) (Iss.of_array h3 h4)
     rw [Array.toList_map]
     exact ve hr ha
    have hrun:(execOp a.eval o).run P w = .ok (.enter f ((a'++c.args.map a.eval)++c')) w:=by
     rw [← xf hT hf hb ((a'++c.args.map a.eval)++c') w]
     simp only [execOp,ho,resolve,hc,hu,Deferred.ofValue,Sem.run_bind,Sem.run_pure,Result.andThen,invoke]
    exact .inr (.inl ⟨f,_,hrun,h F w _ s hargs⟩)
end
end Go.Vw
namespace Go.Vw
open Go.RowKit Go.Am
variable [Drw]
structure DW where
 wr:T Nat
 fr0:Fr
def lateB (ops:Array Oper) (j i:Nat):Bool:=match ops[j]? with
 | some o=>o.after.toList.any fun e=>Nat.beq e.on i && Region.binds .any e
 | none=>false
omit [Drw] in
theorem lateB_spec {ops:Array Oper} {j i:Nat} (h:lateB ops j i=true) {L:Array Bool} (hd:Down ops L) (hi:¬ Dn L i):¬ Dn L j:=fun hj=>by
 unfold lateB at h
 split at h
 ·next o ho =>
  obtain ⟨e,he,h2⟩:=List.any_eq_true.1 h
  rw [Bool.and_eq_true] at h2
  have:=hd j hj o ho e (by simpa using he) h2.2
  rw [Nat.eq_of_beq_eq_true h2.1] at this
  exact hi this
 ·cases h
def kV (ops:Array Oper) (wr:T Nat) (m i:Nat):List Operand→Bool
 | []=>true
 | .tmp t::r=>match wr.get t with
   | none=>kV ops wr m i r
   | some j=>cond (zy m j || lateB ops j i) (kV ops wr m i r) false
 | _::r=>kV ops wr m i r
omit [Drw] in
theorem wS {ops:Array Oper} {wr:T Nat} {m i:Nat}:∀ (xs:List Operand),kV ops wr m i xs=true→∀ t,.tmp t∈xs→∀ j,wr.get t=some j→zy m j=true∨lateB ops j i=true
 | [],_,t,h=>by cases h
 | x::xs,h,t,ht=>by
   cases x with
   | tmp u =>
     unfold kV at h
     intro j hj
     cases hu:wr.get u with
     | none =>
       rw [hu] at h
       rcases List.mem_cons.1 ht with e | ht
       ·cases e; rw [hu] at hj; cases hj
       ·exact wS xs h t ht j hj
     | some k =>
       rw [hu] at h
       simp only at h
       cases hb:(zy m k || lateB ops k i)
       ·rw [hb] at h; cases h
       ·rw [hb] at h
        rcases List.mem_cons.1 ht with e | ht
        ·cases e; rw [hu] at hj; cases hj; simpa using hb
        ·exact wS xs h t ht j hj
   | const c=>rcases List.mem_cons.1 ht with e | ht; cases e; exact wS xs h t ht
   | global c=>rcases List.mem_cons.1 ht with e | ht; cases e; exact wS xs h t ht
   | func c=>rcases List.mem_cons.1 ht with e | ht; cases e; exact wS xs h t ht
structure DSt (n:Nat) (ops:Array Oper) (W:DW) (clo:T Nat) (ord:List Nat):Prop where
 small:n≤zY
 wr1:∀ i o d,ops[i]?=some o→o.dst=some d→W.wr.get d=some i∧d < n
 wr2:∀ d j,W.wr.get d=some j→∃ o,ops[j]?=some o∧o.dst=some d
 under:∀ i m,clo.get i=some m→kQ ops m i
 look:∀ i m o,clo.get i=some m→ops[i]?=some o→kV ops W.wr m i o.op.operands.toList=true∧yF m o=true
 inord:∀ i m,clo.get i=some m→i∈ord
 ordok:OrdOK ops ord
 ordlt:∀ i∈ord,i < ops.size
 here:∀ i m,clo.get i=some m→∃ o,ops[i]?=some o
omit [Drw] in
theorem DSt.add {n:Nat} {ops:Array Oper} {W:DW} {clo:T Nat} {ord:List Nat} (S:DSt n ops W clo ord) {i m:Nat} {o:Oper} (ho:ops[i]?=some o) (hb:i < zY) (hc:yM clo o.after.toList 0=some m) (hs:kV ops W.wr m i o.op.operands.toList=true) (hg:yF m o=true) :
  DSt n ops W (clo.set depth i m) (i::ord)∧kQ ops m i:=by
 have get:∀ j,(clo.set depth i m).get j=if j=i then some m else clo.get j:=fun j=>T.get_set' _ _ _ hb
 obtain ⟨c1,c2⟩:=vF _ _ _ hc
 have hu:kQ ops m i:=fun L hd hp j hj=>by
  rcases c2 j hj with h | ⟨e,he,hbn,h⟩
  ·rw [kP] at h; cases h
  ·have hl:Dn L e.on:=hp o ho e (by simpa using he) hbn
   rcases h with rfl | ⟨c,hc1,hc2⟩
   ·exact hl
   ·exact S.under e.on c hc1 L hd (hd _ hl) j hc2
 refine ⟨⟨S.small,S.wr1,S.wr2,fun j k hj=>?_,fun j k o' hj ho'=>?_,fun j k hj=>?_,⟨fun o' ho' e he hbn=>?_,S.ordok⟩,fun j hj=>?_,fun j k hj=>?_⟩,hu⟩
 ·rw [get] at hj
  split at hj
  ·next e=>subst e; cases hj; exact hu
  ·exact S.under j k hj
 ·rw [get] at hj
  split at hj
  ·next e=>subst e; cases hj; rw [ho] at ho'; cases ho'; exact ⟨hs,hg⟩
  ·exact S.look j k o' hj ho'
 ·rw [get] at hj
  split at hj
  ·next e=>subst e; simp
  ·simp [S.inord j k hj]
 ·rw [ho] at ho'; cases ho'
  obtain ⟨c,hc'⟩:=c1 e (by simpa using he) hbn
  exact S.inord _ _ hc'
 ·rcases List.mem_cons.1 hj with rfl | hj
  ·exact (Array.getElem?_eq_some_iff.1 ho).1
  ·exact S.ordlt j hj
 ·rw [get] at hj
  split at hj
  ·next e=>subst e; exact ⟨o,ho⟩
  ·exact S.here j k hj
def kG (o:Oper) (t:Nat):Bool:=o.op.operands.toList.any fun x=>match x with | .tmp u=>Nat.beq u t | _=>false
def tval (W:DW) (ops:Array Oper) (i:Nat) (fr:Fr) (t:Nat):Option V:=match W.wr.get t with
 | some j=>cond (lateB ops j i) (W.fr0.get t) (fr.get t)
 | none=>fr.get t
def kW (W:DW) (ops:Array Oper) (i:Nat) (fr:Fr) (o:Oper):Operand→Option V
 | .tmp t=>cond (kG o t) (tval W ops i fr t) none
 | x=>fr.val x
omit [Drw] in
theorem zEa {o:Oper} {t:Nat} (h:kG o t=true):.tmp t∈o.op.operands.toList:=by
 unfold kG at h
 obtain ⟨x,hx,h2⟩:=List.any_eq_true.1 h
 cases x with
 | tmp u=>rw [← Nat.eq_of_beq_eq_true h2]; exact hx
 | const c=>cases h2
 | global g=>cases h2
 | func f=>cases h2
def QS (P:Program) (o:Oper) (ρ:Operand→Option V) (S:Hp) (v:V):Prop:=OpS P o ρ S fun v' S'=>v'=v∧S'=S
theorem QG.qs {P:Program} {o:Oper} {ρ:Operand→Option V} {S:Hp} {v:V} (h:QG P o ρ S v):QS P o ρ S v:=s_g h ⟨rfl,rfl⟩
def QFok (P:Program) (W:DW) (ops:Array Oper) (fr:Fr) (U:List (Nat×(Hp→Prop))) (i:Nat):Prop:=∃ o,ops[i]?=some o ∧
 ((yx ops fr o=some true∧∃ v,(∀ d,o.dst=some d→fr.get d=some v)∧((∀ S',QS P o (kW W ops i fr o) S' v)∨∃ C,(i,C)∈U∧∀ S',C S'→QS P o (kW W ops i fr o) S' v)) ∨
   (yx ops fr o=some false∧∀ d,o.dst=some d→fr.get d=some .skip))
structure DV (P:Program) (σ:Sg) (ops:Array Oper) (W:DW) (clo:T Nat) (fr:Fr) (S:Hp) (U:List (Nat×(Hp→Prop))) (L:Array Bool) (a:Act) (w:World) (F:Fz):Prop where
 size:L.size=ops.size
 down:Down ops L
 sub:∀ i,Dn L i→∃ m,clo.get i=some m
 q:∀ i m,clo.get i=some m→¬ Dn L i→QFok P W ops fr U i
 cnd:∀ x∈U,x.2 S
 sat:Sat F w S
 keep:Keep σ.F σ.w σ.S F w S
 tsize:a.tmps.size=σ.n
 defers:a.defers=σ.ds
 tm:∀ t v,fr.get t=some v→(∀ j,W.wr.get t=some j→Dn L j)→∃ u,a.tmps[t]?=some u∧Is F w v u
 tm0:∀ t v,W.fr0.get t=some v→(∀ j,W.wr.get t=some j→¬ Dn L j)→∃ u,a.tmps[t]?=some u∧Is F w v u
def VD (P:Program) (σ:Sg) (ops:Array Oper) (W:DW) (clo:T Nat) (fr:Fr) (S:Hp) (U:List (Nat×(Hp→Prop))) (K:List Kt) (Q:Exit→Fr→Hp→Prop):Prop :=
 ∀ ord,DSt σ.n ops W clo ord→(∀ i∈ord,∃ m,clo.get i=some m)→∀ L a w F,DV P σ ops W clo fr S U L a w F→∀ fuel,L.toList.count false≤fuel→wpAnyIn (FF σ.r) σ.m P .any ops (y8 P σ K (Post σ Q)) fuel L a w
section
variable {P:Program} {σ:Sg} {K:List Kt} {fr:Fr} {S:Hp} {Q:Exit→Fr→Hp→Prop} {tb:Tab} {ops:Array Oper} {o:Oper} {W:DW} {clo:T Nat} {U:List (Nat×(Hp→Prop))}
omit [Drw] in
theorem put_fr {d:Option Tmp} {v:V} {t:Nat} (h:d≠some t):(fr.put d v).get t=fr.get t:=by
 cases d with
 | none=>rfl
 | some d =>
   show Fr.get ((d,v)::fr) t=_
   rw [x6,if_neg (fun e=>h (by rw [e]))]
omit [Drw] in
theorem put_same {d:Nat} {v:V}:(fr.put (some d) v).get d=some v:=by
 show Fr.get ((d,v)::fr) d=_
 rw [x6,if_pos rfl]
omit [Drw] in
theorem mval_put {ord:List Nat} (S:DSt σ.n ops W clo ord) {i j m:Nat} {oi oj:Oper} (_hoi:ops[i]?=some oi) (hoj:ops[j]?=some oj) (l1:kV ops W.wr m i oi.op.operands.toList=true) (l2:yF m oi=true) (hm:zy m j=false) (v:V) :
  kW W ops i (fr.put oj.dst v) oi=kW W ops i fr oi∧yx ops (fr.put oj.dst v) oi=yx ops fr oi:=by
 refine ⟨?_,?_⟩
 ·funext x
  cases x with
  | tmp t =>
    show cond (kG oi t) _ none=cond (kG oi t) _ none
    cases hu:kG oi t
    ·rfl
    ·simp only [cond_true]
     by_cases hd:oj.dst=some t
     ·have hw:=(S.wr1 j oj t hoj hd).1
      unfold tval
      rw [hw]
      rcases wS _ l1 t (zEa hu) j hw with h | h
      ·rw [hm] at h; cases h
      ·simp only [h,cond_true]
     ·unfold tval
      rw [put_fr hd]
  | _=>rfl
 ·unfold yx
  unfold yF at l2
  cases hg:oi.guard with
  | none=>rfl
  | some y =>
    obtain ⟨k,want⟩:=y
    rw [hg] at l2
    simp only at l2 ⊢
    cases hk:ops[k]? with
    | none=>rfl
    | some g =>
      simp only
      cases hd:g.dst with
      | none=>rfl
      | some d =>
        simp only
        rw [put_fr fun e=>by
         have h1:=(S.wr1 k g d hk hd).1
         have h2:=(S.wr1 j oj d hoj e).1
         rw [h1] at h2; cases h2
         rw [hm] at l2; cases l2]
omit [Drw] in
theorem dst_put {ord:List Nat} (S:DSt σ.n ops W clo ord) {i j m:Nat} {oi oj:Oper} (hoi:ops[i]?=some oi) (hoj:ops[j]?=some oj) (hj:clo.get j=none) (hi:clo.get i=some m) (v:V):∀ d,oi.dst=some d→(fr.put oj.dst v).get d=fr.get d:=fun d hd=>by
 refine put_fr fun e=>?_
 have p1:=(S.wr1 j oj d hoj e).1
 have p2:=(S.wr1 i oi d hoi hd).1
 rw [p1] at p2; cases p2
 rw [hj] at hi; cases hi
theorem QFok.put {ord:List Nat} (S:DSt σ.n ops W clo ord) {i j m:Nat} {oj:Oper} (hoj:ops[j]?=some oj) (hj:clo.get j=none) (hi:clo.get i=some m) (hm:zy m j=false) {v:V} {U':List (Nat×(Hp→Prop))} (hU:∀ C,(i,C)∈U→(i,C)∈U') (h:QFok P W ops fr U i):QFok P W ops (fr.put oj.dst v) U' i:=by
 obtain ⟨o,ho,h⟩:=h
 obtain ⟨l1,l2⟩:=S.look i m o hi ho
 obtain ⟨e1,e2⟩:=mval_put (fr:=fr) S ho hoj l1 l2 hm v
 have e3:=dst_put (fr:=fr) S ho hoj hj hi v
 refine ⟨o,ho,?_⟩
 rw [e1,e2]
 rcases h with ⟨g,u,hu,h⟩ | ⟨g,hu⟩
 ·refine .inl ⟨g,u,fun d hd=>(e3 d hd).trans (hu d hd),h.imp id ?_⟩
  rintro ⟨C,hC,h⟩
  exact ⟨C,hU C hC,h⟩
 ·exact .inr ⟨g,fun d hd=>(e3 d hd).trans (hu d hd)⟩
omit [Drw] in
theorem vh (ops:Array Oper):∀ r:List Nat,OrdOK ops r→∀ k∈r,∀ o,ops[k]?=some o→∀ e∈o.after,Region.binds .any e=true→e.on∈r
 | [],_,k,hk=>by cases hk
 | x::r,⟨h1,h2⟩,k,hk=>fun o ho e he hb=>by
   rcases List.mem_cons.1 hk with rfl | hk
   ·exact List.mem_cons_of_mem _ (h1 o ho e he hb)
   ·exact List.mem_cons_of_mem _ (vh ops r h2 k hk o ho e he hb)
omit [Drw] in
theorem notYet {ord:List Nat} (S:DSt σ.n ops W clo ord) (hord:∀ i∈ord,∃ m,clo.get i=some m) {i j m:Nat} (hi:clo.get i=some m) (hj:clo.get j=none):zy m j=false:=by
 cases h:zy m j
 ·rfl
 ·exfalso
  let M:Array Bool:=(Array.range ops.size).map fun k=>decide (k∈ord)
  have hM:∀ k,Dn M k↔k < ops.size∧k∈ord:=fun k=>by
   unfold Dn
   rw [Array.getD_eq_getD_getElem?]
   by_cases hk:k < ops.size
   ·simp [M,hk]
   ·simp [M,hk]
  have hpre:∀ k,k∈ord→uW ops M k:=fun k hk o ho e he hb=>(hM _).2 ⟨S.ordlt _ (vh ops ord S.ordok k hk o ho e he hb),vh ops ord S.ordok k hk o ho e he hb⟩
  have:=(hM j).1 (S.under i m hi M (fun k hk=>hpre k ((hM k).1 hk).2) (hpre i (S.inord i m hi)) j h)
  obtain ⟨x,hx⟩:=hord j this.2
  rw [hj] at hx; cases hx
omit [Drw] in
theorem zBq {i m:Nat} (hb:i < zY) (j:Nat):(clo.set depth i m).get j=if j=i then some m else clo.get j:=T.get_set' _ _ _ hb
omit [Drw] in
theorem hord_add {ord:List Nat} (hord:∀ i∈ord,∃ m,clo.get i=some m) {i m:Nat} (hb:i < zY):∀ j∈i::ord,∃ x,(clo.set depth i m).get j=some x:=fun j hj=>by
 rw [zBq hb]
 split
 ·exact ⟨m,rfl⟩
 ·next hne =>
  rcases List.mem_cons.1 hj with rfl | hj
  ·exact absurd rfl hne
  ·exact hord j hj
def turnB (ops:Array Oper) (W:DW) (o:Oper) (i m:Nat):Bool:=kV ops W.wr m i o.op.operands.toList && yF m o && Nat.blt i zY
omit [Drw] in
theorem zA6 {i m:Nat} (h:turnB ops W o i m=true):kV ops W.wr m i o.op.operands.toList=true∧yF m o=true∧i < zY:=by
 unfold turnB at h
 simp only [Bool.and_eq_true] at h
 exact ⟨h.1.1,h.1.2,by have:=h.2; rw [Nat.blt_eq] at this; exact this⟩
theorem vd_think {i m:Nat} {v:V} {U':List (Nat×(Hp→Prop))} (ho:ops[i]?=some o) (hn:clo.get i=none) (hc:yM clo o.after.toList 0=some m) (ht:turnB ops W o i m=true) (hU:∀ x∈U,x∈U') (hU':∀ x∈U',x.2 S)
  (hq:QFok P W ops (fr.put o.dst v) U' i) (h:VD P σ ops W (clo.set depth i m) (fr.put o.dst v) S U' K Q):VD P σ ops W clo fr S U K Q:=fun ord hS hord L a w F D fuel hf=>by
 obtain ⟨t1,t2,hb⟩:=zA6 ht
 have hlt:i < ops.size:=(Array.getElem?_eq_some_iff.1 ho).1
 have hnL:¬ Dn L i:=fun h=>by obtain ⟨x,hx⟩:=D.sub i h; rw [hn] at hx; cases hx
 refine h (i::ord) (hS.add ho hb hc t1 t2).1 (hord_add hord hb) L a w F ⟨D.size,D.down,fun j hj=>?_,fun j k hj hL=>?_,hU',D.sat,D.keep,D.tsize,D.defers,fun t u ht' hw=>?_,D.tm0⟩ fuel hf
 ·rw [zBq hb]
  split
  ·exact ⟨m,rfl⟩
  ·exact D.sub j hj
 ·rw [zBq hb] at hj
  split at hj
  ·next e=>subst e; exact hq
  ·exact (D.q j k hj hL).put hS ho hn hj (notYet hS hord hj hn) fun C hC=>hU _ hC
 ·by_cases htd:o.dst=some t
  ·exact absurd (hw i (hS.wr1 i o t ho htd).1) hnL
  ·rw [put_fr htd] at ht'
   exact D.tm t u ht' hw
theorem DV.rel {ord:List Nat} (_hS:DSt σ.n ops W clo ord) {L:Array Bool} {a:Act} {w:World} {F:Fz} (D:DV P σ ops W clo fr S U L a w F) {i m:Nat} (hnL:¬ Dn L i) (hu:kQ ops m i) (hs:kV ops W.wr m i o.op.operands.toList=true) (hp:uW ops L i):Rel F w (kW W ops i fr o) a:=fun x v e=>by
 cases x with
 | tmp t =>
   have e':cond (kG o t) (tval W ops i fr t) none=some v:=e
   cases hub:kG o t
   ·rw [hub] at e'; cases e'
   ·rw [hub] at e'
    simp only [cond_true] at e'
    have hsee:=wS _ hs t (zEa hub)
    have:∃ u,a.tmps[t]?=some u∧Is F w v u:=by
     unfold tval at e'
     cases hw:W.wr.get t with
     | none =>
       rw [hw] at e'
       exact D.tm t v e' fun j hj=>by rw [hw] at hj; cases hj
     | some k =>
       rw [hw] at e'
       simp only at e'
       cases hl:lateB ops k i
       ·rw [hl] at e'
        refine D.tm t v e' fun j hj=>?_
        rw [hw] at hj; cases hj
        rcases hsee k hw with h | h
        ·exact hu L D.down hp k h
        ·rw [hl] at h; cases h
       ·rw [hl] at e'
        refine D.tm0 t v e' fun j hj=>?_
        rw [hw] at hj; cases hj
        exact lateB_spec hl D.down hnL
    obtain ⟨u,e1,r⟩:=this
    show Is F w v (a.tmps.getD t undef)
    rw [Array.getD_eq_getD_getElem?,e1]; exact r
 | const c=>cases e; exact .const F w c
 | global g=>cases e; exact .ptr g 0
 | func f=>cases e; exact .func rfl (fun i x=>by simp at x) rfl (fun i x=>by simp at x)
theorem DV.wanted {ord:List Nat} (hS:DSt σ.n ops W clo ord) {L:Array Bool} {a:Act} {w:World} {F:Fz} (D:DV P σ ops W clo fr S U L a w F) {i m:Nat} (hu:kQ ops m i) (hg:yF m o=true) (hp:uW ops L i) {x:Bool} (e:yx ops fr o=some x):Region.wanted o (yielded ops a.tmps)=x:=by
 unfold yx at e
 unfold yF at hg
 unfold Region.wanted
 split at e
 ·next hgd=>cases e; rw [hgd]
 ·next j y hgd =>
  rw [hgd] at hg ⊢
  simp only at hg ⊢
  split at e
  ·next g hj =>
   split at e
   ·next d hd =>
    have hh:∀ v,fr.get d=some v→∃ u,a.tmps[d]?=some u∧Is F w v u:=fun v hv=>D.tm d v hv fun k hk=>by
     rw [(hS.wr1 j g d hj hd).1] at hk; cases hk
     exact hu L D.down hp j hg
    split at e
    ·next hv =>
     cases e
     obtain ⟨u,e1,r⟩:=hh _ hv
     rw [bool_inv r] at e1
     have:yielded ops a.tmps j=some true:=by simp [yielded,hj,hd,e1]
     rw [this]
     cases x <;> rfl
    ·next hv =>
     cases e
     obtain ⟨u,e1,r⟩:=hh _ hv
     rw [bool_inv r] at e1
     have:yielded ops a.tmps j=some false:=by simp [yielded,hj,hd,e1]
     rw [this]
     cases y <;> rfl
    ·next hv =>
     cases e
     obtain ⟨u,e1,r⟩:=hh _ hv
     have:u=undef:=by cases r; rfl
     subst this
     have:yielded ops a.tmps j=none:=by simp [yielded,hj,hd,e1,undef]
     rw [this]
     rfl
    ·cases e
   ·cases e
  ·cases e
def vH (clo:T Nat):List Oper→Nat→List (Nat×Oper×Nat)
 | [],_=>[]
 | o::rest,i=>match clo.get i with
   | some _=>vH clo rest (i+1)
   | none=>match yM clo o.after.toList 0 with
     | some m=>(i,o,m)::vH clo rest (i+1)
     | none=>vH clo rest (i+1)
omit [Drw] in
theorem readyV_cons {clo:T Nat} (x:Oper) (rest:List Oper) (i:Nat):vH clo (x::rest) i=(match clo.get i with
  | some _=>vH clo rest (i+1)
  | none=>match yM clo x.after.toList 0 with
    | some m=>(i,x,m)::vH clo rest (i+1)
    | none=>vH clo rest (i+1)):=rfl
omit [Drw] in
theorem qm {clo:T Nat}:∀ (rest:List Oper) (i:Nat) (j:Nat) (o:Oper) (m:Nat),(j,o,m)∈vH clo rest i↔∃ k,j=i+k∧rest[k]?=some o∧clo.get j=none∧yM clo o.after.toList 0=some m
 | [],i,j,o,m=>by simp [vH]
 | x::rest,i,j,o,m=>by
   have ih:=qm (clo:=clo) rest (i+1) j o m
   have shift:(∃ k,j=i+1+k∧rest[k]?=some o∧clo.get j=none∧yM clo o.after.toList 0=some m)↔∃ k,j=i+(k+1)∧(x::rest)[k+1]?=some o∧clo.get j=none∧yM clo o.after.toList 0=some m :=
    exists_congr fun k=>by rw [show i+1+k=i+(k+1) by omega]; simp
   have parts:(∃ k,j=i+k∧(x::rest)[k]?=some o∧clo.get j=none∧yM clo o.after.toList 0=some m)↔(j=i∧x=o∧clo.get j=none∧yM clo o.after.toList 0=some m)∨∃ k,j=i+(k+1)∧(x::rest)[k+1]?=some o∧clo.get j=none∧yM clo o.after.toList 0=some m:=by
    constructor
    ·rintro ⟨k,h⟩
     cases k with
     | zero=>exact .inl ⟨h.1,by simpa using h.2.1,h.2.2⟩
     | succ k=>exact .inr ⟨k,h⟩
    ·rintro (⟨h1,h2,h3⟩ | ⟨k,h⟩)
     ·exact ⟨0,h1,by simpa using h2,h3⟩
     ·exact ⟨k+1,h⟩
   rw [parts,← shift,← ih,readyV_cons]
   cases hg:clo.get i with
   | some y =>
     simp only
     constructor
     ·exact .inr
     ·rintro (⟨rfl,_,h,_⟩ | h)
      ·rw [hg] at h; cases h
      ·exact h
   | none =>
     simp only
     cases hc:yM clo x.after.toList 0 with
     | none =>
       simp only
       constructor
       ·exact .inr
       ·rintro (⟨_,rfl,_,h⟩ | h)
        ·rw [hc] at h; cases h
        ·exact h
     | some y =>
       simp only [List.mem_cons,Prod.mk.injEq]
       constructor
       ·rintro (⟨rfl,rfl,rfl⟩ | h)
        ·exact .inl ⟨rfl,rfl,hg,hc⟩
        ·exact .inr h
       ·rintro (⟨rfl,rfl,_,h⟩ | h)
        ·rw [hc] at h; cases h; exact .inl ⟨rfl,rfl,rfl⟩
        ·exact .inr h
def uy (m i:Nat):List (Nat×(Hp→Prop))→List (Nat×(Hp→Prop))
 | []=>[]
 | x::r=>cond (zy m x.1) (uy m i r) (x::uy m i r)
omit [Drw] in
theorem kX {m i:Nat}:∀ {U:List (Nat×(Hp→Prop))} {x:Nat×(Hp→Prop)},x∈U→zy m x.1=false→x∈uy m i U
 | y::U,x,h,hm=>by
   unfold uy
   rcases List.mem_cons.1 h with rfl | h
   ·rw [hm]; simp
   ·cases zy m y.1
    ·exact List.mem_cons_of_mem _ (kX h hm)
    ·exact kX h hm
def holdAll (S:Hp):List (Nat×(Hp→Prop))→Prop
 | []=>True
 | x::r=>x.2 S∧holdAll S r
omit [Drw] in
theorem zBs {S:Hp}:∀ {U:List (Nat×(Hp→Prop))},holdAll S U→∀ x∈U,x.2 S
 | [],_,x,h=>by cases h
 | y::U,⟨h1,h2⟩,x,h=>by
   rcases List.mem_cons.1 h with rfl | h
   ·exact h1
   ·exact zBs h2 x h
def EffOK (P:Program) (σ:Sg) (ops:Array Oper) (W:DW) (clo:T Nat) (fr:Fr) (S:Hp) (U:List (Nat×(Hp→Prop))) (K:List Kt) (Q:Exit→Fr→Hp→Prop) (i:Nat) (o:Oper) (m:Nat):Prop :=
 turnB ops W o i m=true∧yx ops fr o=some true∧OpS P o (kW W ops i fr o) S fun v S'=>holdAll S' (uy m i U)∧VD P σ ops W (clo.set depth i m) (fr.put o.dst v) S' (uy m i U) K Q
omit [Drw] in
theorem dn_put {L:Array Bool} {i:Nat} (hd:Down ops L) (hp:uW ops L i):Down ops (L.setIfInBounds i true):=fun j hj=>by
 by_cases hji:j=i
 ·subst hji; exact fun o' h1 e he hb=>(hp o' h1 e he hb).set
 ·exact fun o' h1 e he hb=>(hd j (hj.of_set hji) o' h1 e he hb).set
omit [Drw] in
theorem tm_put {ord:List Nat} (hS:DSt σ.n ops W clo ord) {L:Array Bool} {a:Act} {F F':Fz} {w w':World} {i:Nat} {v:V} {u:Value} {fr':Fr} (ho:ops[i]?=some o) (hlt:i < L.size) (hts:a.tmps.size=σ.n) (g:Grow F w F' w') (hv:Is F' w' v u) (hfr:∀ t x,fr'.get t=some x→(o.dst=some t∧x=v)∨(o.dst≠some t∧fr.get t=some x))
  (tm:∀ t v,fr.get t=some v→(∀ j,W.wr.get t=some j→Dn L j)→∃ u,a.tmps[t]?=some u∧Is F w v u):∀ t x,fr'.get t=some x→(∀ j,W.wr.get t=some j→Dn (L.setIfInBounds i true) j)→∃ y,(a.put o.dst u).tmps[t]?=some y∧Is F' w' x y:=fun t x ht hw=>by
 rcases hfr t x ht with ⟨hd,rfl⟩ | ⟨hd,hx⟩
 ·rw [hd]
  refine ⟨u,?_,hv⟩
  have:=(hS.wr1 i o t ho hd).2
  simp [Act.put,hts,this]
 ·obtain ⟨y,e1,r⟩:=tm t x hx fun j hj=>(hw j hj).of_set fun e=>by
   subst e
   obtain ⟨o',q1,q2⟩:=hS.wr2 t j hj
   rw [ho] at q1; cases q1
   exact hd q2
  refine ⟨y,?_,r.mono g⟩
  cases hdd:o.dst with
  | none=>simpa [Act.put] using e1
  | some d =>
    have:d≠t:=fun e=>hd (by rw [hdd,e])
    simp only [Act.put]
    rw [Array.getElem?_setIfInBounds_ne this]
    exact e1
omit [Drw] in
theorem tm0_put {ord:List Nat} (hS:DSt σ.n ops W clo ord) {L:Array Bool} {a:Act} {F F':Fz} {w w':World} {i:Nat} {u:Value} (ho:ops[i]?=some o) (hlt:i < L.size) (g:Grow F w F' w')
  (tm:∀ t v,W.fr0.get t=some v→(∀ j,W.wr.get t=some j→¬ Dn L j)→∃ u,a.tmps[t]?=some u∧Is F w v u):∀ t x,W.fr0.get t=some x→(∀ j,W.wr.get t=some j→¬ Dn (L.setIfInBounds i true) j)→∃ y,(a.put o.dst u).tmps[t]?=some y∧Is F' w' x y:=fun t x ht hw=>by
 obtain ⟨y,e1,r⟩:=tm t x ht fun j hj h=>hw j hj h.set
 refine ⟨y,?_,r.mono g⟩
 cases hdd:o.dst with
 | none=>simpa [Act.put] using e1
 | some d =>
   have:d≠t:=fun e=>by
    subst e
    exact hw i (hS.wr1 i o d ho hdd).1 (Dn.new hlt)
   simp only [Act.put]
   rw [Array.getElem?_setIfInBounds_ne this]
   exact e1
omit [Drw] in
theorem zCW {a:Act} {n:Nat} (d:Option Tmp) (u:Value) (h:a.tmps.size=n):(a.put d u).tmps.size=n:=by cases d <;> simp [Act.put,h]
omit [Drw] in
theorem put_dfr {a:Act} {ds:List Deferred} (d:Option Tmp) (u:Value) (h:a.defers=ds):(a.put d u).defers=ds:=by cases d <;> exact h
theorem vd_eff (hne:vH clo ops.toList 0≠[]) (h:∀ i o m,(i,o,m)∈vH clo ops.toList 0→EffOK P σ ops W clo fr S U K Q i o m):VD P σ ops W clo fr S U K Q:=fun ord hS hord L a w F D fuel hf=>by
 induction fuel generalizing L a w F with
 | zero =>
   obtain ⟨⟨j,o,m⟩,hmem⟩:=List.exists_mem_of_ne_nil _ hne
   obtain ⟨q,e1,e2,e3,e4⟩:=(qm ops.toList 0 j o m).1 hmem
   have hlt:j < L.size:=by
    rw [D.size]
    have:=(List.getElem?_eq_some_iff.1 e2).1
    simp at this; omega
   have:=zAx (by omega:L.toList.count false=0) j hlt
   obtain ⟨x,hx⟩:=D.sub j this
   rw [e3] at hx; cases hx
 | succ f ih =>
   refine ⟨fun hr0=>?_,fun i hi=>?_⟩
   ·exfalso
    have hordn:=ord_dn D.size hr0 ord hS.ordok hS.ordlt
    obtain ⟨⟨j,o,m⟩,hmem⟩:=List.exists_mem_of_ne_nil _ hne
    obtain ⟨q,e1,e2,e3,e4⟩:=(qm ops.toList 0 j o m).1 hmem
    have hoj:ops[j]?=some o:=by
     have:q=j:=by omega
     subst this
     simpa using e2
    have hlt:=(Array.getElem?_eq_some_iff.1 hoj).1
    have hnj:¬ Dn L j:=fun h=>by obtain ⟨x,hx⟩:=D.sub j h; rw [e3] at hx; cases hx
    have:j∈Region.ready .any ops L:=by
     rw [mem_ready]
     refine ⟨(qi (by rw [D.size]; exact hlt)).1 hnj,o,hoj,fun ed he hb=>?_⟩
     obtain ⟨c,hc⟩:=(vF _ _ _ e4).1 ed (by simpa using he) hb
     exact hordn _ (hS.inord _ _ hc)
    rw [hr0] at this
    cases this
   ·obtain ⟨h1,o,ho,hpre⟩:=mem_ready.1 hi
    have hlt:=(Array.getElem?_eq_some_iff.1 ho).1
    have hltL:i < L.size:=by rw [D.size]; exact hlt
    have hnL:¬ Dn L i:=(qi hltL).2 h1
    have hp:uW ops L i:=fun o' ho' e' he hb=>by rw [ho] at ho'; cases ho'; exact hpre e' he hb
    have hcnt:(L.setIfInBounds i true).toList.count false≤f:=by
     have:=zAI hnL hltL
     omega
    unfold wpOpIn
    rw [ho]
    simp only
    cases hci:clo.get i with
    | some m =>
      obtain ⟨o',ho',hq⟩:=D.q i m hci hnL
      rw [ho] at ho'; cases ho'
      obtain ⟨l1,l2⟩:=hS.look i m o hci ho
      have hu:=hS.under i m hci
      have next:∀ (v:V) (u:Value) (F':Fz) (w':World),(∀ d,o.dst=some d→fr.get d=some v)→Is F' w' v u→Sat F' w' S→Keep F w S F' w' S→wpAnyIn (FF σ.r) σ.m P .any ops (y8 P σ K (Post σ Q)) f (L.setIfInBounds i true) (a.put o.dst u) w':=fun v u F' w' hd hv s' k'=>by
       refine ih _ _ w' F' ⟨by simpa using D.size,dn_put D.down hp,fun j hj=>?_,fun j k hj hL=>D.q j k hj fun h=>hL h.set,D.cnd,s',D.keep.trans k',zCW _ _ D.tsize,put_dfr _ _ D.defers,tm_put hS ho hltL D.tsize k'.toGrow hv (fun t x hx=>?_) D.tm,tm0_put hS ho hltL k'.toGrow D.tm0⟩ hcnt
       ·by_cases hji:j=i
        ·subst hji; exact ⟨m,hci⟩
        ·exact D.sub j (hj.of_set hji)
       ·by_cases htd:o.dst=some t
        ·exact .inl ⟨htd,by have:=hd t htd; rw [hx] at this; exact Option.some.inj this⟩
        ·exact .inr ⟨htd,hx⟩
      rcases hq with ⟨g,v,hd,hq⟩ | ⟨g,hd⟩
      ·rw [if_pos (D.wanted hS hu l2 hp g)]
       have hqg:QS P o (kW W ops i fr o) S v:=by
        rcases hq with hq | ⟨C,hC,hq⟩
        ·exact hq S
        ·exact hq S (D.cnd _ hC)
       refine op_in hqg.1 (hqg.2 F w a D.sat (D.rel hS hnL hu l1 hp)) fun v' S' u F' w' hv s' k' hk=>?_
       obtain ⟨rfl,rfl⟩:=hk
       exact next _ u F' w' hd hv s' k'
      ·rw [if_neg (by rw [D.wanted hS hu l2 hp g]; decide)]
       exact ⟨fun f _=>FF_fn σ.r f,next .skip undef F w hd .skip D.sat (.refl _ _ _)⟩
    | none =>
      obtain ⟨m,hm⟩:=uX o.after.toList 0 fun e' he hb=>D.sub _ (hp o ho e' (by simpa using he) hb)
      obtain ⟨ht,hg,hop⟩:=h i o m ((qm ops.toList 0 i o m).2 ⟨i,by omega,by simpa using ho,hci,hm⟩)
      obtain ⟨t1,t2,hb⟩:=zA6 ht
      obtain ⟨hS',hu⟩:=hS.add ho hb hm t1 t2
      rw [if_pos (D.wanted hS hu t2 hp hg)]
      refine op_in hop.1 (hop.2 F w a D.sat (D.rel hS hnL hu t1 hp)) fun v S' u F' w' hv s' k' hk=>?_
      obtain ⟨hc,hvd⟩:=hk
      refine hvd (i::ord) hS' (hord_add hord hb) _ _ w' F' ⟨by simpa using D.size,dn_put D.down hp,fun j hj=>?_,fun j k hj hL=>?_,zBs hc,s',D.keep.trans k',zCW _ _ D.tsize,put_dfr _ _ D.defers,tm_put hS ho hltL D.tsize k'.toGrow hv (fun t x hx=>?_) D.tm,tm0_put hS ho hltL k'.toGrow D.tm0⟩ f hcnt
      ·rw [zBq hb]
       split
       ·exact ⟨m,rfl⟩
       ·next hne=>exact D.sub j (hj.of_set hne)
      ·rw [zBq hb] at hj
       split at hj
       ·next e=>subst e; exact absurd (Dn.new hltL) hL
       ·next hne =>
        have hnj:¬ Dn L j:=fun h=>hL h.set
        have hmj:zy m j=false:=by
         cases hx:zy m j
         ·rfl
         ·exact absurd (hu L D.down hp j hx) hnj
        exact (D.q j k hj hnj).put hS ho hci hj (notYet hS hord hj hci) fun C hC=>kX hC hmj
      ·by_cases htd:o.dst=some t
       ·refine .inl ⟨htd,?_⟩
        rw [htd,put_same] at hx
        exact (Option.some.inj hx).symm
       ·exact .inr ⟨htd,by rw [put_fr htd] at hx; exact hx⟩
theorem vd_done (hd:vS clo ops.toList 0=true) (h:zq P σ K fr S Q):VD P σ ops W clo fr S U K Q:=fun ord hS hord L a w F D fuel hf=>by
 have all:∀ i,i < ops.size→∃ m,clo.get i=some m:=fun i hi=>by
  obtain ⟨m,hm⟩:=uB ops.toList 0 hd i ops[i] (by simp [hi])
  rw [Nat.zero_add] at hm
  exact ⟨m,hm⟩
 have fin:∀ L a w F,DV P σ ops W clo fr S U L a w F→(∀ i,i < ops.size→Dn L i)→y8 P σ K (Post σ Q) .normal a w:=fun L a w F D hall =>
  h F w a ⟨D.sat,fun t v e=>D.tm t v e fun j hj=>by
   obtain ⟨o,q1,_⟩:=hS.wr2 t j hj
   exact hall j (Array.getElem?_eq_some_iff.1 q1).1,D.tsize,D.defers⟩ D.keep
 induction fuel generalizing L a w F with
 | zero =>
   have hall:∀ i,i < ops.size→Dn L i:=fun i hi=>zAx (by omega) i (by rw [D.size]; exact hi)
   refine ⟨?_,fin L a w F D hall⟩
   apply List.eq_nil_iff_forall_not_mem.2
   intro j hj
   obtain ⟨h1,o,h2,_⟩:=mem_ready.1 hj
   have hlt:=(Array.getElem?_eq_some_iff.1 h2).1
   exact (qi (by rw [D.size]; exact hlt)).2 h1 (hall j hlt)
 | succ f ih =>
   refine ⟨fun hr0=>?_,fun i hi=>?_⟩
   ·have hordn:=ord_dn D.size hr0 ord hS.ordok hS.ordlt
    refine fin L a w F D fun i hi=>?_
    obtain ⟨m,hm⟩:=all i hi
    exact hordn i (hS.inord i m hm)
   ·obtain ⟨h1,o,ho,hpre⟩:=mem_ready.1 hi
    have hlt:=(Array.getElem?_eq_some_iff.1 ho).1
    have hltL:i < L.size:=by rw [D.size]; exact hlt
    have hnL:¬ Dn L i:=(qi hltL).2 h1
    have hp:uW ops L i:=fun o' ho' e' he hb=>by rw [ho] at ho'; cases ho'; exact hpre e' he hb
    have hcnt:(L.setIfInBounds i true).toList.count false≤f:=by
     have:=zAI hnL hltL
     omega
    obtain ⟨m,hci⟩:=all i hlt
    unfold wpOpIn
    rw [ho]
    simp only
    obtain ⟨o',ho',hq⟩:=D.q i m hci hnL
    rw [ho] at ho'; cases ho'
    obtain ⟨l1,l2⟩:=hS.look i m o hci ho
    have hu:=hS.under i m hci
    have next:∀ (v:V) (u:Value) (F':Fz) (w':World),(∀ d,o.dst=some d→fr.get d=some v)→Is F' w' v u→Sat F' w' S→Keep F w S F' w' S→wpAnyIn (FF σ.r) σ.m P .any ops (y8 P σ K (Post σ Q)) f (L.setIfInBounds i true) (a.put o.dst u) w':=fun v u F' w' hd hv s' k'=>by
     refine ih _ _ w' F' ⟨by simpa using D.size,dn_put D.down hp,fun j hj=>?_,fun j k hj hL=>D.q j k hj fun h=>hL h.set,D.cnd,s',D.keep.trans k',zCW _ _ D.tsize,put_dfr _ _ D.defers,tm_put hS ho hltL D.tsize k'.toGrow hv (fun t x hx=>?_) D.tm,tm0_put hS ho hltL k'.toGrow D.tm0⟩ hcnt
     ·by_cases hji:j=i
      ·subst hji; exact ⟨m,hci⟩
      ·exact D.sub j (hj.of_set hji)
     ·by_cases htd:o.dst=some t
      ·exact .inl ⟨htd,by have:=hd t htd; rw [hx] at this; exact Option.some.inj this⟩
      ·exact .inr ⟨htd,hx⟩
    rcases hq with ⟨g,v,hd,hq⟩ | ⟨g,hd⟩
    ·rw [if_pos (D.wanted hS hu l2 hp g)]
     have hqg:QS P o (kW W ops i fr o) S v:=by
      rcases hq with hq | ⟨C,hC,hq⟩
      ·exact hq S
      ·exact hq S (D.cnd _ hC)
     refine op_in hqg.1 (hqg.2 F w a D.sat (D.rel hS hnL hu l1 hp)) fun v' S' u F' w' hv s' k' hk=>?_
     obtain ⟨rfl,rfl⟩:=hk
     exact next _ u F' w' hd hv s' k'
    ·rw [if_neg (by rw [D.wanted hS hu l2 hp g]; decide)]
     exact ⟨fun f _=>FF_fn σ.r f,next .skip undef F w hd .skip D.sat (.refl _ _ _)⟩
omit [Drw] in
theorem vI (F:Fz) (w:World):Grow F w F w.drew:=⟨fun _ _ h=>h,fun _ _ _=>rfl⟩
omit [Drw] in
theorem Sat.drew {F:Fz} {w:World} (h:Sat F w S):Sat F w.drew S:=⟨h.fz,h.nodup,fun x hx=>HOk.mono (vI F w) (h.ok x hx) fun _ _=>⟨rfl,fun _ h=>h⟩⟩
theorem Keep.drew (F:Fz) (w:World) (S:Hp):Keep F w S F w.drew S:=⟨⟨fun _ _ h=>h,fun _ _ _=>rfl⟩,rfl,rfl,rfl,Nat.le_refl _,fun _ _ _=>⟨rfl,fun _ h=>h⟩,fun _ h=>.inl h,fun _=>Nat.le_succ _⟩
theorem run_draw (hT:TabOk tb P) (hb:Nat.ble σ.n zY=true) {wr:T Nat} (hw:wV σ.n ops.toList 0 .nil=some wr) (h:VD P σ ops ⟨wr,fr⟩ .nil fr S [] K Q) (id:Nat):zv P σ (.region id ops true) K fr S Q:=fun F w a s k=>by
 have hnb:σ.n≤zY:=Nat.le_of_ble_eq_true hb
 obtain ⟨_,w2,w3⟩:=wo hnb ops.toList 0 .nil wr hw
 refine wpIn_region_any hT.mixed ?_
 have nodn:∀ i,¬ Dn (Array.replicate ops.size false) i:=fun i hi=>by
  unfold Dn at hi
  rw [Array.getD_eq_getD_getElem?,Array.getElem?_replicate] at hi
  split at hi <;> cases hi
 have getnil:∀ i,(T.nil:T Nat).get i=none:=fun i=>T.get_nil i
 refine h [] ⟨hnb,fun i o d h1 h2=>?_,fun d j hj=>?_,fun i m hi=>(by rw [getnil] at hi; cases hi),fun i m o hi=>(by rw [getnil] at hi; cases hi),fun i m hi=>(by rw [getnil] at hi; cases hi),trivial,fun i hi=>(by cases hi),fun i m hi=>(by rw [getnil] at hi; cases hi)⟩
  (fun i hi=>(by cases hi)) _ a w.drew F ⟨by simp,fun i hi=>absurd hi (nodn i),fun i hi=>absurd hi (nodn i),fun i m hi=>(by rw [getnil] at hi; cases hi),fun x hx=>(by cases hx),s.sat.drew,k.trans (Keep.drew F w S),s.size,s.defers,fun t v ht _=>?_,fun t v ht _=>?_⟩ _ (by simp)
 ·have:=w2 i o d (by simpa using h1) h2
  rw [Nat.zero_add] at this
  exact this
 ·rcases w3 d j hj with h4 | ⟨k,o,e1,e2,e3⟩
  ·rw [getnil] at h4; cases h4
  ·have:j=k:=by omega
   subst this
   exact ⟨o,by simpa using e2,e3⟩
 ·obtain ⟨u,e1,r⟩:=s.fr t v ht
  exact ⟨u,e1,r.mono (vI F w)⟩
 ·obtain ⟨u,e1,r⟩:=s.fr t v ht
  exact ⟨u,e1,r.mono (vI F w)⟩
end
end Go.Vw
namespace Go.Vw
open Go.RowKit Go.Am
variable [Drw]
def uD:V→Bool
 | .int _ _=>true
 | .str _=>true
 | _=>false
def zAP:List V→Bool
 | []=>true
 | v::r=>cond (uD v) (zAP r) false
def zCX (tb:Tab):Nat→TypeId→V→Bool
 | 0,_,_=>false
 | d+1,t,v=>match tb.under t,v with
   | some (.int _),.int _ _=>true
   | some .string,.str _=>true
   | some (.struct fs),.agg cs=>cond (tb.eqs t) (fs.toList.all fun f=>match xH tb f.type cs f.offset with | some x=>zCX tb d f.type x | none=>false) false
   | some (.array n e),.agg cs=>match tb.size e with
     | some sz=>(List.range n).all fun i=>match xH tb e cs (i * sz) with | some x=>zCX tb d e x | none=>false
     | none=>false
   | _,_=>false
def plainK:V→Bool
 | .agg cs=>zAP cs
 | v=>uD v
def zA7 (tb:Tab) (kt:TypeId) (k:V):Bool:=plainK k && zCX tb 20 kt k
def keyB (tb:Tab) (kt:TypeId) (k k':V):Option Bool :=
 match tb.under kt,k,k' with
 | some (.int _),.int a x,.int b y=>cond (decide (a=b)) (some (decide (x=y))) none
 | some .string,.str a,.str b=>some (decide (a=b))
 | some (.struct _),.agg a,.agg b=>eqV tb 20 kt (.agg a) (.agg b)
 | some (.array _ _),.agg a,.agg b=>eqV tb 20 kt (.agg a) (.agg b)
 | _,_,_=>none
inductive LookV (tb:Tab) (kt:TypeId) (k:V):List (V×V)→Option V→Prop
 | nil:LookV tb kt k [] none
 | hit {k' v:V} {es:List (V×V)} (h:keyB tb kt k k'=some true):LookV tb kt k ((k',v)::es) (some v)
 | miss {k' v:V} {es:List (V×V)} {r:Option V} (h:keyB tb kt k k'=some false) (l:LookV tb kt k es r):LookV tb kt k ((k',v)::es) r
inductive LookI (tb:Tab) (kt:TypeId) (k:V):List (V×V)→Option (Nat×V)→Prop
 | nil:LookI tb kt k [] none
 | hit {k' v:V} {es:List (V×V)} (h:keyB tb kt k k'=some true):LookI tb kt k ((k',v)::es) (some (0,v))
 | miss {k' v:V} {es:List (V×V)} {r:Option (Nat×V)} (h:keyB tb kt k k'=some false) (l:LookI tb kt k es r):LookI tb kt k ((k',v)::es) (r.map fun p=>(p.1+1,p.2))
omit [Drw] in
theorem LookV.at {tb:Tab} {kt:TypeId} {k:V} {es:List (V×V)} {r:Option V} (h:LookV tb kt k es r):∃ q,LookI tb kt k es q∧r=q.map (·.2):=by
 induction h with
 | nil=>exact ⟨none,.nil,rfl⟩
 | hit h=>exact ⟨_,.hit h,rfl⟩
 | miss h _ ih =>
   obtain ⟨q,l,e⟩:=ih
   exact ⟨_,.miss h l,by rw [e]; cases q <;> rfl⟩
inductive PutV (tb:Tab) (kt:TypeId) (k v:V):List (V×V)→List (V×V)→Prop
 | nil:PutV tb kt k v [] [(k,v)]
 | hit {v':V} {es:List (V×V)} (h:keyB tb kt k k=some true):PutV tb kt k v ((k,v')::es) ((k,v)::es)
 | miss {k' v':V} {es es2:List (V×V)} (h:keyB tb kt k k'=some false) (l:PutV tb kt k v es es2):PutV tb kt k v ((k',v')::es) ((k',v')::es2)
section
variable {F:Fz} {w:World} {tb:Tab} {P:Program} (hT:TabOk tb P)
omit [Drw] in
theorem plain1_val {v:V} {u:Value} (h:uD v=true) (r:Is F w v u):kI u=true:=by
 cases r <;> first | rfl | (simp [uD] at h)
omit [Drw] in
theorem zEc:∀ {vs:List V} {us:List Value},zAP vs=true→Iss F w vs us→xG us=true
 | _,_,_,.nil=>rfl
 | v::vs,_,h,.cons r rs=>by
   unfold zAP at h
   cases hv:uD v
   ·rw [hv] at h; cases h
   ·rw [hv] at h
    unfold xG
    rw [plain1_val hv r]
    exact zEc h rs
omit [Drw] in
theorem same1 {v:V} {u u':Value} (h:uD v=true) (r:Is F w v u) (r':Is F w v u'):u=u':=by
 cases v <;> first | (simp [uD] at h; done) | (cases r; cases r'; rfl)
omit [Drw] in
theorem sames:∀ {vs:List V} {us us':List Value},zAP vs=true→Iss F w vs us→Iss F w vs us'→us=us'
 | _,_,_,_,.nil,.nil=>rfl
 | v::vs,_,_,h,.cons r rs,.cons r' rs'=>by
   unfold zAP at h
   cases hv:uD v
   ·rw [hv] at h; cases h
   ·rw [hv] at h
    rw [same1 hv r r',sames h rs rs']
omit [Drw] in
theorem sameBits_key {k:V} {u u':Value} (h:plainK k=true) (r:Is F w k u) (r':Is F w k u'):Instr.sameBits 10000 u u'=true:=by
 cases k with
 | agg cs =>
   cases r with
   | agg ha hk =>
     cases r' with
     | agg hb hj =>
       have e:=sames h (Iss.of_array ha hk) (Iss.of_array hb hj)
       rw [Array.toList_inj.1 e]
       exact zBa (zEc h (Iss.of_array hb hj)) 9999
 | int a n=>rw [same1 rfl r r']; cases r'; simp [Instr.sameBits]
 | str s=>rw [same1 rfl r r']; cases r'; simp only [Instr.sameBits]; exact zCP _
 | _=>simp [plainK,uD] at h
omit [Drw] in
theorem keyB_now {kt:TypeId} {d:TypeDesc} {k k':V} {u u':Value} {b:Bool} (hd:tb.under kt=some d) (hn:∀ fs,d≠.struct fs) (hn':∀ n e,d≠.array n e) (h:keyB tb kt k k'=some b) (r:Is F w k u) (r':Is F w k' u'):Instr.sameNow d u u'=some b:=by
 unfold keyB at h
 rw [hd] at h
 split at h
 ·next e =>
  cases e
  cases r; cases r'
  next κt κ1 m κ2 n =>
  cases hac:decide (κ1=κ2)
  ·rw [hac] at h; cases h
  ·rw [hac] at h; cases h
   have:=of_decide_eq_true hac
   subst this
   simp only [Instr.sameNow,if_true]
   rfl
 ·next e =>
  cases e
  cases r; cases r'
  cases h
  simp only [Instr.sameNow]
  rw [zBk]
 ·next e=>cases e; exact absurd rfl (hn _)
 ·next e=>cases e; exact absurd rfl (hn' _ _)
 ·cases h
def Finds (F:Fz) (w:World) (es':List MapEntry) (r:Option (Nat×V)) (f:Option (Nat×Value)→Prop):Prop :=
 match r with
 | none=>f none
 | some (j,v)=>∃ m,es'[j]?=some m∧Is F w v m.val∧f (some (j,m.val))
omit [Drw] in
theorem look_now {kt:TypeId} {d:TypeDesc} {k:V} {u:Value} (hd:tb.under kt=some d) (hn:∀ fs,d≠.struct fs) (hn':∀ n e,d≠.array n e) (hk:Is F w k u) {es:List (V×V)} {r:Option (Nat×V)} (h:LookI tb kt k es r):∀ {es':List MapEntry} (i:Nat),All2 (MR F w) es es'→Finds F w es' r fun q=>Instr.findNow d u es' i=some (q.map fun p=>(i+p.1,p.2)):=by
 induction h with
 | nil=>intro es' i ha; cases ha; rfl
 | hit h =>
   intro es' i ha
   cases ha with
   | cons a b=>exact ⟨_,rfl,a.val,by simp only [Instr.findNow,keyB_now hd hn hn' h hk a.key]; rfl⟩
 | miss h l ih =>
   rename_i r
   intro es' i ha
   cases ha with
   | cons a b =>
     have ih':=ih (i+1) b
     cases r with
     | none=>simp only [Finds,Option.map,Instr.findNow,keyB_now hd hn hn' h hk a.key] at ih' ⊢; exact ih'
     | some p =>
       obtain ⟨j,v⟩:=p
       obtain ⟨m,e1,e2,e3⟩:=ih'
       refine ⟨m,by simpa using e1,e2,?_⟩
       simp only [Option.map,Instr.findNow,keyB_now hd hn hn' h hk a.key] at e3 ⊢
       rw [e3,show i+1+j=i+(j+1) by omega]
include hT
omit [Drw] in
theorem qn (em:Bool):∀ (d:Nat) (t:TypeId) (v:V) (v':Value),zCX tb d t v=true→Is F w v v'→∀ n,d≤n→(Instr.checkKey em n t v').run P w = .ok () w
 | 0,_,_,_,e,_,_,_=>by cases e
 | d+1,t,v,v',e,hv,n,hn=>by
   obtain ⟨m,rfl⟩:∃ m,n=m+1:=⟨n - 1,by omega⟩
   unfold zCX at e
   split at e
   ·next hu=>rw [int_inv hv]; simp only [Instr.checkKey,Sem.run_bind,zF hT hu,Result.andThen]; rfl
   ·next hu=>rw [zAN hv]; simp only [Instr.checkKey,Sem.run_bind,zF hT hu,Result.andThen]; rfl
   ·next fs cs hu =>
    cases hq:tb.eqs t
    ·rw [hq] at e; cases e
    ·rw [hq] at e
     simp only [cond_true] at e
     obtain ⟨_,q2⟩:=hT.eqs t hq
     have hu':=Am.run_underlying hT hu
     have hnm:=q2 fs hu'
     cases hv with
     | agg ha hk =>
       next cs' =>
       have hcs:=Iss.of_array ha hk
       rw [Instr.checkKey]
       simp only [Sem.run_bind,zF hT hu,Result.andThen]
       rw [← Array.forIn_toList]
       rw [List.all_eq_true] at e
       generalize fs.toList=L at e hnm
       induction L with
       | nil=>simp
       | cons f L ih =>
         have e1:=e f (by simp)
         have hn1:=hnm f (by simp)
         split at e1
         ·next x hx =>
          obtain ⟨x',r1,v1⟩:=x7 (P:=P) (w:=w) hT hcs hx
          have r2:=qn em d f.type x x' e1 v1 m (by omega)
          simp only [List.forIn_cons,Sem.run_bind,hn1,ne_eq,not_false_eq_true,if_true,Result.andThen_ok,r1,r2,Sem.run_pure]
          exact ih (fun y hy=>e y (by simp [hy])) (fun y hy=>hnm y (by simp [hy]))
         ·cases e1
   ·next len el cs hu =>
    split at e
    ·next sz hs =>
     cases hv with
     | agg ha hk =>
       next cs' =>
       have hcs:=Iss.of_array ha hk
       rw [Instr.checkKey]
       simp only [Sem.run_bind,zF hT hu,Result.andThen]
       rw [List.all_eq_true] at e
       rw [Std.Legacy.Range.forIn_eq_forIn_range']
       have hL:∀ i∈List.range' 0 len 1,i < len:=fun i hi=>by simp at hi; exact hi
       have hL':List.range' 0 (Std.Legacy.Range.size { stop:=len,step_pos:=Nat.one_pos }) 1=List.range' 0 len 1:=by simp [Std.Legacy.Range.size]
       simp only at hL' ⊢
       rw [hL']
       generalize List.range' 0 len 1=L at hL
       induction L with
       | nil=>simp
       | cons i L ih =>
         have e1:=e i (List.mem_range.2 (hL i (by simp)))
         split at e1
         ·next x hx =>
          obtain ⟨x',r1,v1⟩:=x7 (P:=P) (w:=w) hT hcs hx
          have r2:=qn em d el x x' e1 v1 m (by omega)
          simp only [List.forIn_cons,Sem.run_bind,Am.run_size hT hs,Result.andThen_ok,r1,r2,Sem.run_pure]
          exact ih fun j hj=>hL j (by simp [hj])
         ·cases e1
    ·cases e
   ·cases e
omit [Drw] in
theorem zEe {kt:TypeId} {k:V} {u:Value} (h:zA7 tb kt k=true) (r:Is F w k u) (b:Bool):(Instr.checkKey b 10000 kt u).run P w = .ok () w:=by
 unfold zA7 at h
 rw [Bool.and_eq_true] at h
 exact qn hT b 20 kt k u h.2 r 10000 (by omega)
omit [Drw] in
theorem kY {kt:TypeId} {d:TypeDesc} {k k':V} {u u':Value} {b:Bool} (hd:tb.under kt=some d) (hn:(∃ fs,d = .struct fs)∨∃ n e,d = .array n e) (h:keyB tb kt k k'=some b) (r:Is F w k u) (r':Is F w k' u'):(Op.equal kt u u').run P w = .ok b w∧Instr.sameNow d u u'=none:=by
 unfold keyB at h
 rw [hd] at h
 split at h
 ·next e=>cases e; rcases hn with ⟨_,h⟩ | ⟨_,_,h⟩ <;> cases h
 ·next e=>cases e; rcases hn with ⟨_,h⟩ | ⟨_,_,h⟩ <;> cases h
 ·next e=>cases e; exact ⟨qL hT 20 kt _ _ _ h _ _ r r' 10000 (by omega),rfl⟩
 ·next e=>cases e; exact ⟨qL hT 20 kt _ _ _ h _ _ r r' 10000 (by omega),rfl⟩
 ·cases h
omit [Drw] in
theorem look_ask {kt:TypeId} {d:TypeDesc} {k:V} {u:Value} (hd:tb.under kt=some d) (hn:(∃ fs,d = .struct fs)∨∃ n e,d = .array n e) (hk:Is F w k u) {es:List (V×V)} {r:Option (Nat×V)} (h:LookI tb kt k es r):∀ {es':List MapEntry} (i:Nat),All2 (MR F w) es es'→Finds F w es' r fun q=>(Instr.findAsking kt u es' i).run P w = .ok (q.map fun p=>(i+p.1,p.2)) w:=by
 induction h with
 | nil=>intro es' i ha; cases ha; rfl
 | hit h =>
   intro es' i ha
   cases ha with
   | cons a b=>exact ⟨_,rfl,a.val,by simp only [Instr.findAsking,Sem.run_bind,(kY hT hd hn h hk a.key).1,Result.andThen,if_true,Sem.run_pure]; rfl⟩
 | miss h l ih =>
   rename_i r
   intro es' i ha
   cases ha with
   | cons a b =>
     have ih':=ih (i+1) b
     cases r with
     | none=>simp only [Finds,Option.map,Instr.findAsking,Sem.run_bind,(kY hT hd hn h hk a.key).1,Result.andThen,Bool.false_eq_true,if_false] at ih' ⊢; exact ih'
     | some p =>
       obtain ⟨j,v⟩:=p
       obtain ⟨m,e1,e2,e3⟩:=ih'
       refine ⟨m,by simpa using e1,e2,?_⟩
       simp only [Option.map,Instr.findAsking,Sem.run_bind,(kY hT hd hn h hk a.key).1,Result.andThen,Bool.false_eq_true,if_false] at e3 ⊢
       rw [e3,show i+1+j=i+(j+1) by omega]
omit [Drw] in
theorem zA9 {kt:TypeId} {k:V} {u:Value} (hik:zA7 tb kt k=true) (hk:Is F w k u) {es:List (V×V)} {r:Option (Nat×V)} (h:LookI tb kt k es r) {es':List MapEntry} (ha:All2 (MR F w) es es'):Finds F w es' r fun q=>(Instr.findKey kt u es').run P w = .ok q w:=by
 have hd:∃ d,tb.under kt=some d:=by
  unfold zA7 at hik
  rw [Bool.and_eq_true] at hik
  have:=hik.2
  unfold zCX at this
  cases hu:tb.under kt with
  | none=>rw [hu] at this; cases this
  | some d=>exact ⟨d,rfl⟩
 obtain ⟨d,hd⟩:=hd
 have shift:∀ q:Option (Nat×Value),(q.map fun p=>(0+p.1,p.2))=q:=fun q=>by cases q <;> simp
 by_cases hs:(∃ fs,d = .struct fs)∨∃ n e,d = .array n e
 ·have key:=look_ask (P:=P) hT hd hs hk h 0 ha
  have conv:∀ q,(Instr.findAsking kt u es' 0).run P w = .ok q w→(Instr.findKey kt u es').run P w = .ok q w:=fun q hq=>by
   cases es' with
   | nil =>
     have:(Instr.findAsking kt u [] 0).run P w = .ok none w:=rfl
     rw [this] at hq; cases hq
     simp only [Instr.findKey,Sem.run_bind,zF hT hd,Result.andThen,Instr.findNow]
     rfl
   | cons x xs =>
     have:Instr.findNow d u (x::xs) 0=none:=by
      cases ha with
      | cons a b =>
        cases h with
        | hit h=>simp only [Instr.findNow,(kY (P:=P) hT hd hs h hk a.key).2]
        | miss h _=>simp only [Instr.findNow,(kY (P:=P) hT hd hs h hk a.key).2]
     simp only [Instr.findKey,Sem.run_bind,zF hT hd,Result.andThen,this]
     exact hq
  cases r with
  | none=>exact conv _ key
  | some p=>obtain ⟨m,e1,e2,e3⟩:=key; exact ⟨m,e1,e2,conv _ (by rw [shift] at e3; exact e3)⟩
 ·have key:=look_now hd (fun fs h=>hs (.inl ⟨fs,h⟩)) (fun n e h=>hs (.inr ⟨n,e,h⟩)) hk h 0 ha
  have conv:∀ q,Instr.findNow d u es' 0=some q→(Instr.findKey kt u es').run P w = .ok q w:=fun q hq=>by
   simp only [Instr.findKey,Sem.run_bind,zF hT hd,Result.andThen,hq]; rfl
  cases r with
  | none=>exact conv _ key
  | some p=>obtain ⟨m,e1,e2,e3⟩:=key; exact ⟨m,e1,e2,conv _ (by rw [shift] at e3; exact e3)⟩
end
section
variable {tb:Tab} {P:Program} {S:Hp} {o:Oper} {ρ:Operand→Option V} {k:V→Hp→Prop}
def lookRes (z:V) (ok:Bool) (r:Option V):V :=
 match r with
 | some v=>cond ok (.tup [v,.bool true]) v
 | none=>cond ok (.tup [z,.bool false]) z
omit [Drw] in
theorem yr (hT:TabOk tb P) {t kt e:TypeId} {x ix:Operand} {ok:Bool} {b:Nat} {es:List (V×V)} {f:HE→Hp} {key z:V} {r:Option V} (ho:o.op = .lookup t x ix ok) (ht:tb.under t=some (.map kt e)) (hx:ρ x=some (.map b)) (hi:ρ ix=some key) (hik:zA7 tb kt key=true) (hz:uw tb e=some z)
  (hat:At S (.map b es) f) (hl:LookV tb kt key es r):QG P o ρ S (lookRes z ok r) :=
 QG.mk (by rw [ho]; rfl) fun F w a s hf=>by
  obtain ⟨es',cl,e1,ha,_⟩:=s.ok _ hat.mem
  have hk:=hf _ _ hi
  have hv:=hf _ _ hx
  generalize hb:a.eval x=u at hv
  cases hv
  obtain ⟨z',rz,hz'⟩:=qN (P:=P) hT hz w F w
  have hck:=zEe (P:=P) hT hik hk es'.isEmpty
  obtain ⟨q,hl',rfl⟩:=hl.at
  have key:=zA9 (P:=P) hT hik hk hl' ha
  cases q with
  | none =>
    have key:(Instr.findKey kt (a.eval ix) es'.toList).run P w = .ok none w:=key
    cases ok
    ·refine Gives.of (u:=z') ?_ hz'
     simp only [execOp,ho,Instr.lookup,hb,Sem.run_bind,zF hT ht,Result.andThen,yh e1,hck,key,rz,Sem.run_pure,Bool.false_eq_true,if_false]
    ·refine Gives.of (u:=.tuple #[z',.bool false]) ?_ (Is.tup_of (.cons hz' (.cons (.bool _) .nil)))
     simp only [execOp,ho,Instr.lookup,hb,Sem.run_bind,zF hT ht,Result.andThen,yh e1,hck,key,rz,Sem.run_pure,if_true]
  | some p =>
    obtain ⟨j,v⟩:=p
    obtain ⟨m,_,hm,key⟩:=key
    cases ok
    ·refine Gives.of (u:=m.val) ?_ hm
     simp only [execOp,ho,Instr.lookup,hb,Sem.run_bind,zF hT ht,Result.andThen,yh e1,hck,key,Sem.run_pure,Bool.false_eq_true,if_false]
    ·refine Gives.of (u:=.tuple #[m.val,.bool true]) ?_ (Is.tup_of (.cons hm (.cons (.bool _) .nil)))
     simp only [execOp,ho,Instr.lookup,hb,Sem.run_bind,zF hT ht,Result.andThen,yh e1,hck,key,Sem.run_pure,if_true]
omit [Drw] in
theorem put_look {kt:TypeId} {key v:V} {es es2:List (V×V)} (h:PutV tb kt key v es es2):(LookI tb kt key es none∧es2=es++[(key,v)])∨∃ j v',LookI tb kt key es (some (j,v'))∧es[j]?=some (key,v')∧es2=es.set j (key,v):=by
 induction h with
 | nil=>exact .inl ⟨.nil,rfl⟩
 | hit h=>exact .inr ⟨0,_,.hit h,rfl,rfl⟩
 | miss h _ ih =>
   rcases ih with ⟨l,e⟩ | ⟨j,v',l,e1,e2⟩
   ·exact .inl ⟨.miss h l,by rw [e]; rfl⟩
   ·exact .inr ⟨j+1,v',.miss h l,by simpa using e1,by rw [e2]; rfl⟩
omit [Drw] in
theorem borns_push {es:Array MapEntry} {cl:Nat} (h:Borns es cl) (key val:Value):Borns (es.push { key:=key,val:=val,born:=cl }) (cl+1):=by
 obtain ⟨h1,h2⟩:=h
 refine ⟨?_,fun e he=>?_⟩
 ·rw [Array.toList_push,List.map_append,List.nodup_append]
  refine ⟨h1,by simp,fun a ha b hb e=>?_⟩
  obtain ⟨m,hm,rfl⟩:=List.mem_map.1 ha
  have:=h2 m hm
  simp only [List.map_cons,List.map_nil,List.mem_singleton] at hb
  omega
 ·rw [Array.toList_push] at he
  rcases List.mem_append.1 he with he | he
  ·exact Nat.lt_succ_of_lt (h2 e he)
  ·rw [List.mem_singleton.1 he]; exact Nat.lt_succ_self _
omit [Drw] in
theorem borns_modify {es:Array MapEntry} {cl:Nat} (h:Borns es cl) (j:Nat) (key val:Value):Borns (es.modify j fun e=>{ e with key:=key,val:=val }) cl:=by
 obtain ⟨h1,h2⟩:=h
 have hm:(es.modify j fun e=>{ e with key:=key,val:=val }).toList.map (·.born)=es.toList.map (·.born):=by
  rw [Array.toList_modify]
  apply List.ext_getElem?
  intro i
  rw [List.getElem?_map,List.getElem?_map,List.getElem?_modify]
  cases es.toList[i]? with
  | none=>rfl
  | some m=>by_cases hij:j=i <;> simp [hij]
 refine ⟨by rw [hm]; exact h1,fun e he=>?_⟩
 have:e.born∈(es.modify j fun e=>{ e with key:=key,val:=val }).toList.map (·.born):=List.mem_map.2 ⟨e,he,rfl⟩
 rw [hm] at this
 obtain ⟨m,q1,q2⟩:=List.mem_map.1 this
 rw [← q2]; exact h2 m q1
theorem wX (hT:TabOk tb P) {t kt e:TypeId} {x ix y:Operand} {b:Nat} {es es2:List (V×V)} {f:HE→Hp} {key v:V} (ho:o.op = .mapUpdate t x ix y∨o.op = .insert t x ix y) (ht:tb.under t=some (.map kt e)) (hx:ρ x=some (.map b)) (hi:ρ ix=some key) (hy:ρ y=some v) (hik:zA7 tb kt key=true)
  (hat:At S (.map b es) f) (hl:PutV tb kt key v es es2) (h:k .skip (f (.map b es2))):OpS P o ρ S k :=
 OpS.mk (by rcases ho with ho | ho <;> (rw [ho]; rfl)) fun F w a s hf=>by
  obtain ⟨es',cl,e1,ha,bn⟩:=s.ok _ hat.mem
  have hk:=hf _ _ hi
  have hw:=hf _ _ hy
  have hv:=hf _ _ hx
  generalize hb:a.eval x=u at hv
  cases hv
  have hbw:b < w.heap.size:=(Array.getElem?_eq_some_iff.1 e1).1
  have hck:=zEe (P:=P) hT hik hk false
  have hnf:∀ k,¬ F b k:=fun q hq=>by
   obtain ⟨v,e2⟩:=s.fz b q hq
   simp [World.cell?,e1] at e2
  have grow:∀ o',Grow F w F (w.putObj b o'):=fun o'=>⟨fun _ _ h=>h,fun b' q hq=>xX w o' fun e=>by subst e; exact hnf q hq⟩
  have pik:plainK key=true:=by unfold zA7 at hik; rw [Bool.and_eq_true] at hik; exact hik.1
  have fin:∀ es3:Array MapEntry,∀ cl',All2 (MR F w) es2 es3.toList→Borns es3 cl'→(Instr.mapUpdate t (.map (some b)) (a.eval ix) (a.eval y)).run P w = .ok () (w.putObj b (.map es3 cl'))→OpD P o a F w S k:=fun es3 cl' h3 bn3 hrun=>by
   obtain ⟨s',k'⟩:=s.put (F':=F) (o:=.map es3 cl') hat rfl (y:=.map b es2) rfl (fun _ _ h=>h) (fun _ _ _ h=>h) (fun q hq=>absurd hq (hnf q)) (fun q hq=>absurd hq (hnf q)) ⟨es3,cl',World.putObj_heap_same hbw,All2.mono (fun _ _=>MR.mono (grow _)) h3,bn3⟩
   refine .skip (w':=w.putObj b (.map es3 cl')) ?_ s' k' h
   rcases ho with ho | ho <;> (simp only [execOp,ho,hb,Sem.run_bind,hrun,Result.andThen,Sem.run_pure])
  rcases put_look hl with ⟨l,rfl⟩ | ⟨j,v',l,g1,rfl⟩
  ·have key':(Instr.findKey kt (a.eval ix) es'.toList).run P w = .ok none w:=zA9 (P:=P) hT hik hk l ha
   refine fin (es'.push { key:=a.eval ix,val:=a.eval y,born:=cl }) (cl+1) ?_ (borns_push bn _ _) ?_
   ·rw [Array.toList_push]
    exact All2.append ha (.cons ⟨hk,hw⟩ .nil)
   ·simp only [Instr.mapUpdate,Sem.run_bind,zF hT ht,Result.andThen,yh e1,hck,key',qg _ e1]
  ·obtain ⟨m,m1,m2,key'⟩:=zA9 (P:=P) hT hik hk l ha
   have m1':es'[j]?=some m:=by simpa using m1
   obtain ⟨m0,n1,n2⟩:=ha.get j _ g1
   rw [m1] at n1; cases n1
   refine fin (es'.modify j fun e=>{ e with key:=a.eval ix,val:=a.eval y }) cl ?_ (borns_modify bn _ _ _) ?_
   ·rw [Array.toList_modify]
    refine qK ?_ fun i p hi=>?_
    ·rw [List.length_set,List.length_modify]; exact ha.length
    ·rw [List.getElem?_set] at hi
     rw [List.getElem?_modify]
     by_cases hij:j=i
     ·subst hij
      rw [if_pos rfl] at hi
      split at hi
      ·cases hi
       exact ⟨{ m with key:=a.eval ix,val:=a.eval y },by rw [m1]; simp,⟨hk,hw⟩⟩
      ·cases hi
     ·rw [if_neg hij] at hi
      obtain ⟨q,hq,rq⟩:=ha.get i p hi
      exact ⟨q,by rw [hq]; simp [hij],rq⟩
   ·have hkeep:(Instr.keyThatStays m.key (a.eval ix)).run P w = .ok (a.eval ix) w:=by simp only [Instr.keyThatStays,sameBits_key pik n2.key hk,if_true]; rfl
    simp only [Instr.mapUpdate,Sem.run_bind,zF hT ht,Result.andThen,yh e1,hck,key',m1',Option.map_some,Option.getD_some,hkeep,qg _ e1]
end
end Go.Vw
namespace Go.Vw
open Go.RowKit Go.Am
variable [Drw]
omit [Drw] in
theorem yT {α:Type} {sz:Nat}:∀ (rows:List (List α)),(∀ r∈rows,r.length=sz)→rows.flatten.length=rows.length * sz∧∀ i k,(hi:i < rows.length)→(hk:k < sz)→rows.flatten[i * sz+k]?=rows[i][k]?
 | [],_=>⟨by simp,fun i k hi=>by simp at hi⟩
 | r::rows,h=>by
   obtain ⟨h1,h2⟩:=yT rows fun x hx=>h x (List.mem_cons_of_mem _ hx)
   have hr:=h r (List.mem_cons_self ..)
   refine ⟨by simp only [List.flatten_cons,List.length_append,h1,hr,List.length_cons,Nat.add_mul,Nat.one_mul]; omega,fun i k hi hk=>?_⟩
   rw [List.flatten_cons]
   cases i with
   | zero =>
     rw [Nat.zero_mul,Nat.zero_add,List.getElem?_append_left (by omega)]
     rfl
   | succ i =>
     have:(i+1) * sz+k=r.length+(i * sz+k):=by rw [Nat.add_mul,Nat.one_mul,hr]; omega
     rw [this,List.getElem?_append_right (by omega),Nat.add_sub_cancel_left]
     exact h2 i k (by simpa using hi) hk
section
variable {F:Fz} {w:World}
omit [Drw] in
theorem zEf {t:Tok} {rows:List (List V)} {b x c:Nat} {n sz:Nat} (h:Is F w (.slice t rows) (.slice (some ⟨b,x,none⟩) n c)) (hr:∀ r∈rows,r.length=sz) (h0:rows≠[]∨c≠0) :
  n=rows.length∧rows.length≤c∧(c=0∨rows=[]∨TokIs t b (x+rows.length * sz) c (x+c * sz) sz)∧∃ us,Iss F w rows.flatten us∧∀ j v,us[j]?=some v→F b (x+j)∧w.cell? ⟨b,x+j,none⟩=some v:=by
 cases h with
 | nilSlice=>exact absurd rfl (by rcases h0 with h | h; exact absurd rfl h; exact h)
 | slice g hl hc hv hn hx ht =>
   rename_i off sz'
   have hxo:x=off:=by
    rcases hx with hx | hx
    ·rcases h0 with h0 | h0
     ·have:=List.length_pos_iff.2 h0; omega
     ·exact absurd hx h0
    ·exact hx
   subst hxo
   obtain ⟨f1,f2⟩:=yT rows hr
   by_cases he:rows=[]
   ·subst he
    exact ⟨rfl,hn,.inr (.inl rfl),[],.nil,fun j v hj=>by simp at hj⟩
   have hpos:=List.length_pos_iff.2 he
   have hsz:sz'=sz:=by rw [← hl 0 hpos]; exact hr _ (List.getElem_mem _)
   subst hsz
   refine ⟨rfl,hn,.inr (.inr ht),(List.range (rows.length * sz')).map fun j=>g (j / sz') (j % sz'),qK (by simp [f1]) fun j a hj=>?_,fun j v hj=>?_⟩
   ·have hjl:j < rows.length * sz':=by rw [← f1]; exact (List.getElem?_eq_some_iff.1 hj).1
    have hs0:0 < sz':=Nat.pos_of_ne_zero fun h=>by subst h; simp at hjl
    have hi:j / sz' < rows.length:=(Nat.div_lt_iff_lt_mul hs0).2 hjl
    have hk:j % sz' < sz':=Nat.mod_lt _ hs0
    have e:=f2 _ _ hi hk
    rw [show j / sz' * sz'+j % sz'=j by rw [Nat.mul_comm]; exact Nat.div_add_mod j sz'] at e
    rw [hj,List.getElem?_eq_getElem (by rw [hl _ hi]; exact hk)] at e
    refine ⟨g (j / sz') (j % sz'),by simp [hjl],?_⟩
    have:=hv _ hi (j % sz') (by rw [hl _ hi]; exact hk)
    rw [Option.some.inj e]; exact this
   ·simp only [List.getElem?_map,Option.map_eq_some_iff] at hj
    obtain ⟨q,hq,rfl⟩:=hj
    have hjl:j < rows.length * sz'∧q=j:=by
     obtain ⟨hl,hh⟩:=List.getElem?_eq_some_iff.1 hq
     simp at hl hh
     exact ⟨hl,hh.symm⟩
    obtain ⟨hjl,rfl⟩:=hjl
    have hs0:0 < sz':=Nat.pos_of_ne_zero fun h=>by subst h; simp at hjl
    have hi:q / sz' < rows.length:=(Nat.div_lt_iff_lt_mul hs0).2 hjl
    have e:=hc _ hi _ (Nat.mod_lt q hs0)
    rw [show x+q / sz' * sz'+q % sz'=x+q by rw [Nat.add_assoc,Nat.mul_comm]; rw [Nat.div_add_mod]] at e
    exact e
omit [Drw] in
theorem vJ {t:Tok} {rows:List (List V)} {b x c sz:Nat} (hr:∀ r∈rows,r.length=sz) (hn:rows.length≤c) (ht:TokIs t b (x+rows.length * sz) c (x+c * sz) sz) {us:List Value} (hu:Iss F w rows.flatten us) (hc:∀ j v,us[j]?=some v→F b (x+j)∧w.cell? ⟨b,x+j,none⟩=some v) :
  Is F w (.slice t rows) (.slice (some ⟨b,x,none⟩) rows.length c):=by
 obtain ⟨f1,f2⟩:=yT rows hr
 have hul:us.length=rows.length * sz:=by rw [← hu.length,f1]
 have hlt:∀ i k,i < rows.length→k < sz→i * sz+k < rows.length * sz:=fun i k hi hk=>by
  have:(i+1) * sz≤rows.length * sz:=Nat.mul_le_mul_right _ hi
  rw [Nat.add_mul,Nat.one_mul] at this
  omega
 refine .slice (sz:=sz) (fun i k=>us.getD (i * sz+k) undef) (fun i hi=>hr _ (List.getElem_mem _)) (fun i hi k hk=>?_) (fun i hi k hk=>?_) hn (.inr rfl) ht
 ·have hj:=hlt i k hi hk
  have:=hc (i * sz+k) us[i * sz+k] (by simp [hul,hj])
  rw [← Nat.add_assoc] at this
  rw [List.getD_eq_getElem?_getD,List.getElem?_eq_getElem (by omega)]
  exact this
 ·have hk':k < sz:=by rw [hr _ (List.getElem_mem _)] at hk; exact hk
  have hj:=hlt i k hi hk'
  have e:=f2 i k hi hk'
  rw [List.getElem?_eq_getElem hk] at e
  obtain ⟨u,e2,r⟩:=hu.get _ _ e
  rw [List.getD_eq_getElem?_getD,e2]
  exact r
omit [Drw] in
theorem At.swap {S:Hp} {x y:HE} {f:HE→Hp} (hat:At S x f) (h:Sat F w (y::S)):Sat F w (f y):=by
 obtain ⟨l,r,rfl,e⟩:=hat.split
 rw [e]
 refine (h.perm (S':=l++y::x::r) List.perm_middle.symm).sub ?_
 exact (List.Sublist.refl l).append ((List.sublist_cons_self x r).cons_cons y)
theorem At.swapK {S S0:Hp} {x y:HE} {f:HE→Hp} (hat:At S x f) {F0 w0 F w} (h:Keep F0 w0 S0 F w (y::S)):Keep F0 w0 S0 F w (f y):=by
 obtain ⟨l,r,rfl,e⟩:=hat.split
 rw [e]
 refine (h.perm (S'':=l++y::x::r) List.perm_middle.symm).sub ?_
 exact (List.Sublist.refl l).append ((List.sublist_cons_self x r).cons_cons y)
omit [Drw] in
theorem At.self {S:Hp} {x:HE} {f:HE→Hp} (hat:At S x f):f x=S:=by
 obtain ⟨l,r,rfl,e⟩:=hat.split
 exact e x
theorem Sat.rowsP {S:Hp} (h:Sat F w S) (c:Array Value) (el:TypeId) (e z:Nat) (he:e≤c.size) :
  Sat (F.add w.heap.size 0 e) (w.alloc (.cells c el)) (.tl (.own w.heap.size e c.size z)::S)∧Keep F w S (F.add w.heap.size 0 e) (w.alloc (.cells c el)) (.tl (.own w.heap.size e c.size z)::S):=by
 have g:Grow F w (F.add w.heap.size 0 e) (w.alloc (.cells c el)):=⟨fun _ _ h=>.inl h,fun b k hb=>zA2 w _ (h.fz_lt hb)⟩
 have hd:Hp.dom (.tl (.own w.heap.size e c.size z)::S)=w.heap.size::S.dom:=by simp [Hp.dom,HE.blk]
 have old:∀ b,b < w.heap.size→∀ k,(F.add w.heap.size 0 e) b k→F b k:=fun b hb k hk=>by
  rcases hk with hk | ⟨rfl,_⟩
  ·exact hk
  ·omega
 refine ⟨⟨fun b k hb=>?_,?_,fun y hy=>?_⟩,⟨g,rfl,rfl,rfl,by simp,fun b hb _=>⟨Below.heap_alloc _ _ _ hb,old b hb⟩,fun b hb=>?_,fun _=>Nat.le_refl _⟩⟩
 ·rcases hb with hb | ⟨rfl,_,hk⟩
  ·obtain ⟨v,e1⟩:=h.fz b k hb
   exact ⟨v,(g.cell b k hb).trans e1⟩
  ·have hk':k < c.size:=by omega
   exact ⟨c[k],by unfold World.cell?; rw [World.alloc_heap_new]; simp [hk']⟩
 ·rw [hd,List.nodup_cons]
  exact ⟨fun hm=>Nat.lt_irrefl _ (h.lt hm),h.nodup⟩
 ·rcases List.mem_cons.1 hy with rfl | hy
  ·refine ⟨c,el,World.alloc_heap_new w _,rfl,fun k hk hf=>?_⟩
   rcases hf with hf | ⟨_,_,hf⟩
   ·exact Nat.lt_irrefl _ (h.fz_lt hf)
   ·omega
  ·exact (h.ok y hy).mono g fun b hb=>⟨Below.heap_alloc _ _ _ ((h.ok y hy).lt hb),old b ((h.ok y hy).lt hb)⟩
 ·rw [hd] at hb
  rcases List.mem_cons.1 hb with rfl | hb
  ·exact .inr (Nat.le_refl _)
  ·exact .inl hb
end
section
variable {P:Program} {S:Hp} {tb:Tab} {o:Oper} {ρ:Operand→Option V} {k:V→Hp→Prop}
def xg (sz:Nat):Tok→Bool
 | .no=>false
 | .zero=>true
 | .own _ _ _ z=>Nat.beq z sz
def elemB (tb:Tab) (el:TypeId) (sz:Nat):Bool:=match uw tb el with
 | some z=>z.solid && Nat.beq z.cells.length sz && Nat.blt 0 sz && yf tb el
 | none=>false
omit [Drw] in
theorem qD:∀ {rows:List (List V)},(∀ r∈rows,zz r=true)→zz rows.flatten=true
 | [],_=>rfl
 | r::rows,h=>by
   rw [List.flatten_cons]
   have h1:=h r (List.mem_cons_self ..)
   have h2:=qD fun x hx=>h x (List.mem_cons_of_mem _ hx)
   generalize rows.flatten=q at h2
   induction r with
   | nil=>exact h2
   | cons v r ih =>
     unfold zz at h1
     cases hv:v.isCell
     ·rw [hv] at h1; cases h1
     ·rw [hv] at h1
      show zz (v::(r++q))=true
      unfold zz
      rw [hv]
      exact ih (fun x hx=>by
       rcases List.mem_cons.1 hx with rfl | hx
       ·exact h1
       ·exact h x (List.mem_cons_of_mem _ hx)) h1
omit [Drw] in
theorem ws {w:World} {t u ty el:TypeId} {du:TypeDesc} {sz len n cap:Nat} {base:Option Addr} {x':Value} {old new:List Value} (hT:TabOk tb P) (hu:tb.under u=some du) (hdu:∀ k,du≠.int k) (ht:tb.under t=some (.slice el)) (hs:tb.size el=some sz)
  (hlx:Builtin.lenOf x'=pure n) (hfit:¬ len+n≤cap) (h26:len+n < 67108864) (hl:yf tb el=true) {z:Value} (hz:∀ w2:World,(zeroValue el).run P w2 = .ok z w2)
  (hold:(Builtin.firstCells sz len (.slice base len cap)).run P w.drew = .ok old.toArray w.drew) (hnew:(Builtin.firstCells sz n x').run P w.drew = .ok new.toArray w.drew) :
  ∃ newCap,len+n≤newCap∧(Builtin.append_ #[t,u] ty #[.slice base len cap,x']).run P w = .ok (.slice (some ⟨w.heap.size,0,none⟩) (len+n) newCap)
   (w.drew.alloc (.cells (old++new++(Builtin.zeroCells z.cells (newCap - (len+n))).toList).toArray el)):=by
 unfold yf at hl
 cases hi:tb.info el with
 | none=>rw [hi] at hl; cases hl
 | some info =>
   rw [hi] at hl
   have hby:info.bytes < 1048576:=by simp only [Nat.blt_eq] at hl; exact hl
   have h48:¬ (281474976710656 < Builtin.nextslicecap (len+n) cap * info.bytes):=by
    have h1:(len+n) * info.bytes≤67108864 * 1048576:=Nat.mul_le_mul (by omega) (by omega)
    have:=growslice_fits (need:=len+n) (old:=cap) (bytes:=info.bytes) (by omega) (by omega)
    omega
   have h63:¬ ((9223372036854775807:Int) < (len:Int)+(n:Int)):=by omega
   have hmark:∀ (k:Nat) (w2:World),(askRoom k).run P w2 = .ok () w2:=fun k w2=>by
    unfold askRoom; split <;> rfl
   refine ⟨grownCap w (len+n) cap el,grownCap_ge _ _ _ _,?_⟩
   have hti:∀ w2:World,(typeInfo el).run P w2 = .ok info w2:=fun w2=>Am.run_typeInfo hT hi w2
   have hz':(match du with | .int _=>true | _=>false)=false:=by
    cases du <;> first | rfl | exact absurd rfl (hdu _)
   simp [Builtin.append_,zF hT ht,zF hT hu,Am.run_size hT hs,hlx,hfit,h63,h48,hti,hmark,Question.forced,hold,hnew,hz,newRow,grownCap]
   congr 2
   apply Array.ext'
   simp
omit [Drw] in
theorem qO {F:Fz} {w:World} {t:Tok} {rows:List (List V)} {u:Value} {sz:Nat} (h:Is F w (.slice t rows) u) (hr:∀ r∈rows,r.length=sz) :
  ∃ us,Iss F w rows.flatten us∧Builtin.lenOf u=pure rows.length∧∀ w2:World,w2.heap=w.heap→(Builtin.firstCells sz rows.length u).run P w2 = .ok us.toArray w2:=by
 have hh:=h
 by_cases he:rows=[]
 ·subst he
  refine ⟨[],.nil,?_,fun w2 _=>?_⟩
  ·cases h <;> rfl
  ·cases h with
   | nilSlice _ x=>cases x <;> (simp only [Builtin.firstCells,List.length_nil,Nat.zero_mul]; rfl)
   | slice=>simp only [Builtin.firstCells,List.length_nil,Nat.zero_mul]; rfl
 ·cases h with
  | nilSlice=>exact absurd rfl he
  | slice g hl hc hv hn hx ht =>
    rename_i b off c x sz'
    obtain ⟨_,_,_,us,h1,h2⟩:=zEf hh hr (.inl he)
    refine ⟨us,h1,rfl,fun w2 hw=>?_⟩
    refine run_firstCells_some w2 sz rows.length _ rows.length c us (by rw [← h1.length]; exact (yT rows hr).1) fun j v hj=>?_
    rw [Am.Addr.add_eq]
    have hcw:∀ a:Addr,w2.cell? a=w.cell? a:=fun a=>World.cell?_of_block (by rw [hw])
    rw [hcw]
    exact (h2 j v hj).2
end
end Go.Vw
namespace Go.Vw
open Go.RowKit Go.Am
variable [Drw]
section
variable {P:Program} {S:Hp} {tb:Tab} {o:Oper} {ρ:Operand→Option V} {k:V→Hp→Prop}
theorem zx (hT:TabOk tb P) {c:Call} {t u el el2:TypeId} {x y:Operand} {tok tk2:Tok} {rows news:List (List V)} {f:HE→Hp} {sz:Nat} (ho:o.op = .call c) (hc:c.callee = .builtin .append) (hx':c.args=#[x,y]) (hat':c.argTypes=#[t,u])
  (ht:tb.under t=some (.slice el)) (hu:tb.under u=some (.slice el2)) (hs:tb.size el=some sz) (he:elemB tb el sz=true) (hx:ρ x=some (.slice tok rows)) (hy:ρ y=some (.slice tk2 news)) (htk:xg sz tok=true) (hat:At S (.tl tok) f)
  (hr:∀ r∈rows,r.length=sz) (hn:∀ r∈news,r.length=sz) (hcell:∀ r∈news,zz r=true) (hl:rows.length+news.length < 67108864)
  (h:∀ tok',xg sz tok'=true→k (.slice tok' (rows++news)) (f (.tl tok'))):OpS P o ρ S k :=
 OpS.mk (by rw [ho]; rfl) fun F w a s hf=>by
  have hvx:=hf _ _ hx
  have hvy:=hf _ _ hy
  obtain ⟨z',hz1,hz2,hspos,hlight⟩:∃ z',(∀ w2:World,(zeroValue el).run P w2 = .ok z' w2)∧z'.cells.size=sz∧0 < sz∧yf tb el=true:=by
   unfold elemB at he
   split at he
   ·next z hz =>
    simp only [Bool.and_eq_true] at he
    obtain ⟨⟨⟨k1,k2⟩,k3⟩,k4⟩:=he
    unfold uw at hz
    cases hi:tb.info el with
    | none=>rw [hi] at hz; cases hz
    | some i =>
      rw [hi] at hz
      simp only at hz
      cases hz0:i.zero with
      | none=>rw [hz0] at hz; cases hz
      | some z0 =>
        rw [hz0] at hz; cases hz
        refine ⟨z0,fun w2=>?_,?_,by rw [Nat.blt_eq] at k3; exact k3,k4⟩
        ·simp only [zeroValue,Sem.run_bind,Am.run_typeInfo hT hi,Result.andThen]
         rw [hz0]
         rfl
        ·have:=((Is.const F w z0).cells_of k1).length
         rw [Nat.eq_of_beq_eq_true k2] at this
         simpa using this.symm
   ·cases he
  obtain ⟨new',hnv,hlx,hfn⟩:=qO (P:=P) hvy hn
  have hnl:new'.length=news.length * sz:=by rw [← hnv.length]; exact (yT news hn).1
  have conv:∀ {v:Value} {w':World},(Builtin.append_ #[t,u] o.type #[a.eval x,a.eval y]).run P w = .ok v w'→(execOp a.eval o).run P w = .ok (.value v) w':=fun {v w'} e=>x8 ho hc (by
   have hm:(#[x,y]:Array Operand).map a.eval=#[a.eval x,a.eval y]:=by simp
   rw [hx',hat',hm]
   simp only [builtin,Sem.run_bind,e,Result.andThen,Sem.run_pure])
  have fresh:∀ (n cap:Nat) (base:Option Addr),a.eval x = .slice base n cap→n=rows.length→¬ n+news.length≤cap→OpD P o a F w S k:=fun n cap base eb en hfit=>by
   subst en
   obtain ⟨old',hov,_,hfo⟩:=qO (P:=P) hvx hr
   rw [eb] at hfo
   obtain ⟨newCap,c1,c2⟩:=ws (P:=P) (w:=w) (ty:=o.type) hT hu (fun k h=>by cases h) ht hs hlx hfit hl hlight hz1 (hfo w.drew rfl) (hfn w.drew rfl)
   generalize hC:(old'++new'++(Builtin.zeroCells z'.cells (newCap - (rows.length+news.length))).toList).toArray=C at c2
   have hol:old'.length=rows.length * sz:=by rw [← hov.length]; exact (yT rows hr).1
   have hsize:C.size=newCap * sz:=by
    rw [← hC]
    have q3:=size_zeroCells z'.cells (newCap - (rows.length+news.length))
    simp only [List.size_toArray,List.length_append,Array.length_toList,q3,hz2,hol,hnl]
    rw [← Nat.add_mul,← Nat.add_mul]
    congr 1
    omega
   have hle:(rows.length+news.length) * sz≤C.size:=by rw [hsize]; exact Nat.mul_le_mul_right _ c1
   obtain ⟨s',k'⟩:=s.drew.rowsP C el ((rows.length+news.length) * sz) sz hle
   have hall:Iss (F.add w.drew.heap.size 0 ((rows.length+news.length) * sz)) (w.drew.alloc (.cells C el)) (rows++news).flatten (old'++new'):=by
    rw [List.flatten_append]
    exact Iss.mono ((vI F w).trans k'.toGrow) (All2.append hov hnv)
   have hv:=vJ (t:=.own w.drew.heap.size ((rows.length+news.length) * sz) C.size sz) (b:=w.drew.heap.size) (x:=0) (c:=newCap) (sz:=sz) (rows:=rows++news) (fun r h=>by rcases List.mem_append.1 h with h | h; exact hr r h; exact hn r h) (by rw [List.length_append]; exact c1)
    (.inr ⟨rfl,by rw [List.length_append,Nat.zero_add],by rw [hsize,Nat.zero_add]; exact Nat.le_refl _,rfl⟩) hall (fun j v hj=>by
     have hjl:=(List.getElem?_eq_some_iff.1 hj).1
     rw [List.length_append,hol,hnl,← Nat.add_mul] at hjl
     rw [Nat.zero_add]
     refine ⟨.inr ⟨rfl,Nat.zero_le _,hjl⟩,?_⟩
     unfold World.cell?
     rw [World.alloc_heap_new]
     rw [← hC]
     simp only [Option.isSome_none,Bool.false_eq_true,if_false,List.getElem?_toArray]
     rw [List.getElem?_append_left (List.getElem?_eq_some_iff.1 hj).1]
     exact hj)
   rw [List.length_append] at hv
   refine .val (conv (by rw [eb]; exact c2)) hv (hat.swap s') ((Keep.drew F w S).trans (hat.swapK k')) (h _ (Nat.beq_refl _))
  generalize hb:a.eval x=ux at hvx
  have hvx0:=hvx
  cases hvx with
  | nilSlice _ ba =>
    by_cases h0:news.length=0
    ·have hn0:news=[]:=List.length_eq_zero_iff.1 h0
     subst hn0
     have hnew0:new'=[]:=by cases hnv; rfl
     subst hnew0
     have e:=xT (P:=P) (w:=w) (w':=w) (ty:=o.type) (len:=0) (n:=0) (cap:=0) (base:=ba) (new:=[]) hT hu (fun k h=>by cases h) ht hs hlx (Nat.le_refl _) (hfn w rfl) (by cases ba <;> rfl)
     refine .val (conv (by rw [hb]; exact e)) (v:=.slice tok ([]++[])) (.nilSlice _ _) (S':=f (.tl tok)) (by rw [hat.self]; exact s) (by rw [hat.self]; exact .refl _ _ _) (h _ htk)
    ·exact fresh 0 0 ba hb rfl (by omega)
  | slice g hl' hc' hv' hle' hxx htok =>
    rename_i b off cp q sz'
    by_cases hfit:rows.length+news.length≤cp
    ·by_cases h0:news=[]
     ·subst h0
      have hnew0:new'=[]:=by cases hnv; rfl
      subst hnew0
      have e:=xT (P:=P) (w:=w) (w':=w) (ty:=o.type) (len:=rows.length) (n:=0) (cap:=cp) (base:=some ⟨b,q,none⟩) (new:=[]) hT hu (fun k h=>by cases h) ht hs hlx hfit (hfn w rfl) rfl
      refine .val (conv (by rw [hb]; exact e)) (v:=.slice tok (rows++[])) (by rw [List.append_nil]; exact hvx0) (S':=f (.tl tok)) (by rw [hat.self]; exact s) (by rw [hat.self]; exact .refl _ _ _) (h _ htk)
     ·have hpos:=List.length_pos_iff.2 h0
      have hcp:cp≠0:=by omega
      obtain ⟨_,_,htk3,old',hov,hoc⟩:=zEf hvx0 hr (.inr hcp)
      have hqo:q=off:=by rcases hxx with h | h; exact absurd h hcp; exact h
      subst hqo
      have hsz':rows≠[]→sz'=sz:=fun hne=>by
       have hp:=List.length_pos_iff.2 hne
       rw [← hl' 0 hp]; exact hr _ (List.getElem_mem _)
      have hol:old'.length=rows.length * sz:=by rw [← hov.length]; exact (yT rows hr).1
      cases tok with
      | no=>cases htk
      | zero=>exact absurd htok hcp
      | own b1 n1 m1 z1 =>
        have hz1:z1=sz:=Nat.eq_of_beq_eq_true htk
        subst hz1
        have hT1:b1=b∧n1=q+rows.length * z1∧q+cp * z1≤m1:=by
         rcases htok with h | ⟨p1,p2,p3,p4⟩
         ·exact absurd h hcp
         ·subst p4; exact ⟨p1,p2,p3⟩
        obtain ⟨rfl,rfl,hm1⟩:=hT1
        obtain ⟨C,eC,e1,hCm,_⟩:=s.ok _ hat.mem
        have hmul:(rows.length+news.length) * z1≤cp * z1:=Nat.mul_le_mul_right _ hfit
        rw [Nat.add_mul] at hmul
        obtain ⟨s',k',hcells⟩:=s.growIn (us:=new') hat e1 (by rw [hnl,hCm]; omega)
        have hst:=xD (P:=P) (b:=b1) (o:=q+rows.length * z1) new' 0 w C e1 (vg hnv (qD hcell)) (by rw [hnl,hCm]; omega)
        rw [Nat.add_zero] at hst
        have e:=xT (P:=P) (w:=w) (w':=_) (ty:=o.type) (len:=rows.length) (n:=news.length) (cap:=cp) (base:=some ⟨b1,q,none⟩) (new:=new') hT hu (fun k h=>by cases h) ht hs hlx hfit (hfn w rfl) (by simp only [Am.Addr.add_eq]; exact hst)
        have hv:=vJ (t:=.own b1 (q+rows.length * z1+new'.length) m1 z1) (b:=b1) (x:=q) (c:=cp) (sz:=z1) (rows:=rows++news) (us:=old'++new') (fun r h=>by rcases List.mem_append.1 h with h | h; exact hr r h; exact hn r h) (by rw [List.length_append]; exact hfit)
         (.inr ⟨rfl,by rw [List.length_append,hnl,Nat.add_mul,Nat.add_assoc],hm1,rfl⟩) (by rw [List.flatten_append]; exact Iss.mono k'.toGrow (All2.append hov hnv)) (fun j v hj=>by
          by_cases hjo:j < old'.length
          ·rw [List.getElem?_append_left hjo] at hj
           obtain ⟨p1,p2⟩:=hoc j v hj
           exact ⟨.inl p1,(k'.cell _ _ p1).trans p2⟩
          ·rw [List.getElem?_append_right (by omega)] at hj
           have hjl:=(List.getElem?_eq_some_iff.1 hj).1
           have:=hcells _ _ hj
           rw [show q+rows.length * z1+(j - old'.length)=q+j by omega] at this
           exact ⟨.inr ⟨rfl,by omega,by omega⟩,this⟩)
        rw [List.length_append] at hv
        exact .val (conv (by rw [hb]; exact e)) hv s' k' (h _ (Nat.beq_refl _))
    ·exact fresh _ _ _ hb rfl hfit
end
end Go.Vw
namespace Go.Vw
open Go.RowKit Go.Am
variable [Drw]
def zCY (n:Nat):Nat→List V→Option (List (List V))
 | 0,[]=>some []
 | 0,_::_=>none
 | m+1,cs=>match kT n cs,zCY n m (cutV n cs) with
   | some r,some rows=>some (r::rows)
   | _,_=>none
omit [Drw] in
theorem cut_pick {α:Type}:∀ (n:Nat) (cs r:List α),kT n cs=some r→cs=r++cutV n cs
 | 0,cs,r,h=>by cases h; rfl
 | n+1,[],r,h=>by cases h
 | n+1,c::cs,r,h=>by
   simp only [kT] at h
   split at h
   ·next x e=>cases h; show c::cs=c::(x++cutV n cs); rw [← cut_pick n cs x e]
   ·cases h
omit [Drw] in
theorem kZ {n:Nat}:∀ (m:Nat) (cs:List V) (rows:List (List V)),zCY n m cs=some rows→rows.flatten=cs∧rows.length=m∧∀ r∈rows,r.length=n
 | 0,[],rows,h=>by cases h; exact ⟨rfl,rfl,fun r hr=>by cases hr⟩
 | 0,_::_,rows,h=>by cases h
 | m+1,cs,rows,h=>by
   unfold zCY at h
   split at h
   ·next r rs h1 h2 =>
    cases h
    obtain ⟨e1,e2,e3⟩:=kZ m _ _ h2
    refine ⟨by rw [List.flatten_cons,e1]; exact (cut_pick n cs r h1).symm,by simp [e2],fun x hx=>?_⟩
    rcases List.mem_cons.1 hx with rfl | hx
    ·exact (zAJ _ _ _ h1).1
    ·exact e3 x hx
   ·cases h
def uk {α:Type}:Nat→List α→List α
 | 0,_=>[]
 | n+1,z=>z++uk n z
omit [Drw] in
theorem qP {α:Type}:∀ (m:Nat) (z:List α),(uk m z).length=m * z.length∧∀ k a,(uk m z)[k]?=some a→z[k % z.length]?=some a
 | 0,z=>by simp [uk]
 | m+1,z=>by
   obtain ⟨h1,h2⟩:=qP m z
   refine ⟨by simp only [uk,List.length_append,h1]; rw [Nat.succ_mul,Nat.add_comm],fun k a hk=>?_⟩
   simp only [uk] at hk
   by_cases hlt:k < z.length
   ·rw [List.getElem?_append_left hlt] at hk
    rw [Nat.mod_eq_of_lt hlt]; exact hk
   ·rw [List.getElem?_append_right (by omega)] at hk
    rw [Nat.mod_eq_sub_mod (by omega)]
    exact h2 _ _ hk
omit [Drw] in
theorem zBt {α:Type} (z:α):∀ m,uk m [z]=List.replicate m z
 | 0=>rfl
 | m+1=>by show z::uk m [z]=_; rw [zBt z m]; rfl
omit [Drw] in
theorem zBA {F:Fz} {w:World} {z:List V} {z':Array Value} {m n:Nat} (hz:Iss F w z z'.toList) (hn:z.length=n):Iss F w (uk m z) ((Array.range (m * n)).map (fun k=>z'[k % z'.size]!)).toList:=by
 obtain ⟨h1,h2⟩:=qP m z
 have hs:z'.size=n:=by rw [← hn,hz.length]; simp
 refine qK (by simp [h1,hn]) fun k a hk=>?_
 have hkl:k < m * n:=by
  have:=(List.getElem?_eq_some_iff.1 hk).1
  rw [h1,hn] at this; exact this
 have h3:=h2 k a hk
 obtain ⟨b,e,r⟩:=hz.get _ _ h3
 refine ⟨b,?_,r⟩
 have e':z'[k % n]?=some b:=by rw [hn] at e; simpa using e
 obtain ⟨hlt,hb⟩:=Array.getElem?_eq_some_iff.1 e'
 simp only [Array.getElem?_toList,Array.getElem?_map,hs]
 rw [Array.getElem?_eq_getElem (by simpa using hkl)]
 simp only [Array.getElem_range,Option.map_some,Option.some.injEq]
 rw [getElem!_pos z' (k % n) hlt,hb]
section
variable {P:Program} {S:Hp} {tb:Tab} {o:Oper} {ρ:Operand→Option V} {k:V→Hp→Prop}
theorem yZ (hT:TabOk tb P) {t el:TypeId} {len n:Nat} {parts:Array (Nat×Operand)} {ps:List (Nat×V)} {z:V} {c:List V} {rows:List (List V)} (ho:o.op = .buildSlice t len parts) (ht:tb.under t=some (.slice el)) (hs:tb.size el=some n) (hz:uw tb el=some z) (hzs:(z.solid && Nat.beq z.cells.length n && Nat.blt (len * n) 16777216)=true)
  (hp:zCU ρ parts.toList=some ps) (hf:fillV (fun i=>some (i * n,n)) (uk len z.cells) ps=some c) (hc:zCY n len c=some rows) (h:∀ tok,xg n tok=true→k (.slice tok rows) (.tl tok::S)):OpS P o ρ S k :=
 OpS.mk (by rw [ho]; rfl) fun F w a s hr=>by
  simp only [Bool.and_eq_true] at hzs
  obtain ⟨⟨z1,z2⟩,z3⟩:=hzs
  have hzn:=Nat.eq_of_beq_eq_true z2
  have hlt:len * n < 16777216:=by rw [Nat.blt_eq] at z3; exact z3
  obtain ⟨z',rz,hz'⟩:=qN (P:=P) hT hz w F w
  obtain ⟨e1,e2,e3⟩:=kZ _ _ _ hc
  have hparts:(parts.map fun p=>(p.1,a.eval p.2)).toList=parts.toList.map fun p=>(p.1,a.eval p.2):=Array.toList_map
  have fin:∀ c':Array Value,Iss F w c c'.toList→(execOp a.eval o).run P w = .ok (.value (.slice (some ⟨w.heap.size,0,none⟩) len len)) (w.alloc (.cells c' el))→OpD P o a F w S k:=fun c' h1 h2=>by
   obtain ⟨s',k'⟩:=s.rowsP c' el c'.size n (Nat.le_refl _)
   have hsz:c'.size=rows.length * n:=by
    have:=h1.length
    rw [← e1,(yT rows e3).1] at this
    simpa using this.symm
   have hv:=vJ (F:=F.add w.heap.size 0 c'.size) (w:=w.alloc (.cells c' el)) (t:=.own w.heap.size c'.size c'.size n) (b:=w.heap.size) (x:=0) (c:=len) (sz:=n) (rows:=rows) e3 (by omega) (.inr ⟨rfl,by omega,by rw [hsz,e2]; omega,rfl⟩) (us:=c'.toList) (by rw [e1]; exact h1.mono k'.toGrow) (fun j v hj=>by
    have hjl:=(List.getElem?_eq_some_iff.1 hj).1
    simp at hjl
    rw [Nat.zero_add]
    refine ⟨.inr ⟨rfl,Nat.zero_le _,hjl⟩,?_⟩
    unfold World.cell?
    rw [World.alloc_heap_new]
    simpa using hj)
   rw [e2] at hv
   exact .val h2 hv s' k' (h _ (Nat.beq_refl _))
  by_cases h0:len * n=0
  ·obtain ⟨c',f1,f2⟩:=vf (F:=F) (w:=w) (place':=fun i=>some (i * n,n)) (fun i x h=>h) ps _ _ ((Array.range (len * n)).map (fun k=>(#[]:Array Value)[k % (#[]:Array Value).size]!)) c
    (by have:=(qP len z.cells).1; rw [hzn,h0] at this; rw [List.length_eq_zero_iff.1 this,h0,no_map]; exact .nil) (wp hr hp) hf
   refine fin c' f2 ?_
   simp only [execOp,ho,Instr.buildSlice,Sem.run_bind,zF hT ht,Am.run_size hT hs,Sem.run_pure,Result.andThen,if_pos h0]
   rw [if_neg (by omega)]
   simp only [Sem.run_bind,Sem.run_pure,Result.andThen,hparts,f1,xd]
  ·obtain ⟨c',f1,f2⟩:=vf (F:=F) (w:=w) (place':=fun i=>some (i * n,n)) (fun i x h=>h) ps _ _ _ c (zBA (m:=len) (hz'.cells_of z1) hzn) (wp hr hp) hf
   refine fin c' f2 ?_
   simp only [execOp,ho,Instr.buildSlice,Sem.run_bind,zF hT ht,Am.run_size hT hs,Sem.run_pure,Result.andThen,if_neg h0]
   rw [if_neg (by omega)]
   simp only [Sem.run_bind,Sem.run_pure,Result.andThen,rz,hparts,f1,xd]
theorem wY (hT:TabOk tb P) {t el:TypeId} {x y:Operand} {κ κ':IntKind} {m c n:Nat} {z:V} (ho:o.op = .makeSlice t x y) (ht:tb.under t=some (.slice el)) (hs:tb.size el=some n) (hz:uw tb el=some z) (hzs:(z.solid && Nat.beq z.cells.length n && yf tb el)=true)
  (hx:ρ x=some (.int κ (m:Int))) (hy:ρ y=some (.int κ' (c:Int))) (hmc:m≤c) (hc:c < 67108864) (h:∀ b,k (.ref b 0 m c) (.cells b (uk c z.cells) el::S)):OpS P o ρ S k :=
 OpS.mk (by rw [ho]; rfl) fun F w a s hr=>by
  simp only [Bool.and_eq_true] at hzs
  obtain ⟨⟨z1,z2⟩,z3⟩:=hzs
  have hzn:=Nat.eq_of_beq_eq_true z2
  unfold yf at z3
  cases hi:tb.info el with
  | none=>rw [hi] at z3; cases z3
  | some info =>
    rw [hi] at z3
    have hby:info.bytes < 1048576:=by simp only [Nat.blt_eq] at z3; exact z3
    obtain ⟨z',rz,hz'⟩:=qN (P:=P) hT hz w F w
    have hcz:=hz'.cells_of z1
    have wr:∀ m:Nat,m < 67108864→IntKind.i64.wrap (m:Int)=(m:Int):=fun m hm=>by
     rw [IntKind.wrap_i64]; omega
    have hmul:info.bytes * c≤281474976710656:=by
     have:info.bytes * c≤1048576 * 67108864:=Nat.mul_le_mul (by omega) (by omega)
     omega
    have htoo:¬ ((info.bytes:Int) * (c:Int) > 2 ^ 48):=by
     have h5:=Int.ofNat_le.2 hmul
     rw [Int.natCast_mul] at h5
     omega
    have hgo:(decide ((c:Int) < 0) || decide ((info.bytes:Int) * (c:Int) > 2 ^ 48) || decide ((m:Int) < 0) || decide ((m:Int) > (c:Int)))=false:=by
     rw [decide_eq_false (by omega:¬ ((c:Int) < 0)),decide_eq_false htoo,decide_eq_false (by omega:¬ ((m:Int) < 0)),decide_eq_false (by omega:¬ ((m:Int) > (c:Int)))]
     rfl
    have hmark:∀ (k:Nat),(askRoom k).run P w = .ok () w:=fun k=>by
     unfold askRoom; split <;> rfl
    have fin:∀ c':Array Value,Iss F w (uk c z.cells) c'.toList→(execOp a.eval o).run P w = .ok (.value (.slice (some ⟨w.heap.size,0,none⟩) m c)) (w.alloc (.cells c' el))→OpD P o a F w S k:=fun c' h1 h2=>by
     obtain ⟨s',k'⟩:=s.cells el h1
     exact .val h2 (.ref _ _ _ _) s' k' (h _)
    by_cases h0:c * n=0
    ·refine fin ((Array.range (c * n)).map (fun k=>(#[]:Array Value)[k % (#[]:Array Value).size]!)) ?_ ?_
     ·have:=(qP c z.cells).1; rw [hzn,h0] at this; rw [List.length_eq_zero_iff.1 this,h0,no_map]; exact .nil
     ·simp only [execOp,ho,Instr.makeSlice,asInt,asIntOf,int_inv (hr _ _ hx),int_inv (hr _ _ hy),Sem.run_bind,zF hT ht,Am.run_typeInfo hT hi,Sem.run_pure,Result.andThen,wr m (by omega),wr c hc]
      rw [if_neg (by rw [hgo]; decide)]
      simp only [Sem.run_bind,Int.toNat_natCast,hmark,Am.run_size hT hs,Sem.run_pure,Result.andThen,if_pos h0,xd]
    ·refine fin _ (zBA (m:=c) hcz hzn) ?_
     simp only [execOp,ho,Instr.makeSlice,asInt,asIntOf,int_inv (hr _ _ hx),int_inv (hr _ _ hy),Sem.run_bind,zF hT ht,Am.run_typeInfo hT hi,Sem.run_pure,Result.andThen,wr m (by omega),wr c hc]
     rw [if_neg (by rw [hgo]; decide)]
     simp only [Sem.run_bind,Int.toNat_natCast,hmark,Am.run_size hT hs,Sem.run_pure,Result.andThen,if_neg h0,rz,xd]
end
def zBB {α:Type} (m:Nat) (f:Nat→α):α:=Nat.rec (f 0) (fun n _=>f (n+1)) m
omit [Drw] in
theorem uO {α:Type} (m:Nat) (f:Nat→α):zBB m f=f m:=by cases m <;> rfl
inductive PR where
 | mk (clo:T Nat) (fr:Fr) | bad
def setK {β:Type}:Nat→T Nat→Nat→Nat→(T Nat→β)→β
 | 0,t,_,_,k=>k t
 | f+1,.nil,n,a,k=>cond (Nat.beq n 0) (k (.node (some a) .nil .nil)) (cond (Nat.beq (Nat.mod n 2) 1) (setK f .nil (Nat.div n 2) a fun x=>k (.node none x .nil)) (setK f .nil (Nat.pred (Nat.div n 2)) a fun x=>k (.node none .nil x)))
 | f+1,.node v l r,n,a,k=>cond (Nat.beq n 0) (k (.node (some a) l r)) (cond (Nat.beq (Nat.mod n 2) 1) (setK f l (Nat.div n 2) a fun x=>k (.node v x r)) (setK f r (Nat.pred (Nat.div n 2)) a fun x=>k (.node v l x)))
omit [Drw] in
theorem setK_eq {β:Type}:∀ (f:Nat) (t:T Nat) (n a:Nat) (k:T Nat→β),setK f t n a k=k (T.set f t n a)
 | 0,_,_,_,_=>rfl
 | f+1,.nil,n,a,k=>by
   simp only [setK,T.set,setK_eq f]
   cases Nat.beq n 0 <;> cases Nat.beq (Nat.mod n 2) 1 <;> rfl
 | f+1,.node v l r,n,a,k=>by
   simp only [setK,T.set,setK_eq f]
   cases Nat.beq n 0 <;> cases Nat.beq (Nat.mod n 2) 1 <;> rfl
def zCZ {β:Type}:T Nat→(T Nat→β)→β
 | .nil,k=>k .nil
 | .node v l r,k=>zCZ l fun l=>zCZ r fun r=>match v with
   | none=>k (.node none l r)
   | some n=>zBB n fun n=>k (.node (some n) l r)
omit [Drw] in
theorem zAQ {β:Type}:∀ (t:T Nat) (k:T Nat→β),zCZ t k=k t
 | .nil,_=>rfl
 | .node v l r,k=>by
   simp only [zCZ,zAQ l,zAQ r]
   cases v with
   | none=>rfl
   | some n=>exact uO n _
def forceW:Option (T Nat)→Option (T Nat)
 | some t=>zCZ t some
 | none=>none
omit [Drw] in
theorem forceW_eq (t:Option (T Nat)):forceW t=t:=by
 cases t with
 | none=>rfl
 | some t=>exact zAQ t some
def ka (tb:Tab) (ops:Array Oper) (W:DW):List Oper→Nat→T Nat→Fr→PR
 | [],_,clo,fr=>.mk clo fr
 | o::rest,i,clo,fr=>match clo.get i with
   | some _=>ka tb ops W rest (i+1) clo fr
   | none=>match yM clo o.after.toList 0 with
     | none=>ka tb ops W rest (i+1) clo fr
     | some m=>zBB m fun m=>cond (turnB ops W o i m) (match yx ops fr o with
       | some true=>(match vop tb (kW W ops i fr o) o with
         | some v=>putK o.dst v fr fun fr=>setK depth clo i m fun clo=>ka tb ops W rest (i+1) clo fr
         | none=>ka tb ops W rest (i+1) clo fr)
       | some false=>putK o.dst .skip fr fun fr=>setK depth clo i m fun clo=>ka tb ops W rest (i+1) clo fr
       | none=>ka tb ops W rest (i+1) clo fr) (ka tb ops W rest (i+1) clo fr)
def opLevel:Op→Nat
 | .box _ _=>1
 | .buildSlice _ _ _=>1
 | .call c=>match c.callee with
   | .value _=>2
   | .builtin .len=>0
   | .builtin .cap=>0
   | .builtin .max=>0
   | .builtin .min=>0
   | _=>4
 | .store _ _ _=>4
 | .mapUpdate _ _ _ _=>4
 | .insert _ _ _ _=>4
 | .defer _=>4
 | .alloc _=>3
 | .makeMap _ _=>3
 | .makeSlice _ _ _=>3
 | _=>0
def pickQ (lv:Nat) (clo:T Nat):List Oper→Nat→Option (Nat×Oper×Nat)
 | [],_=>none
 | o::rest,i=>match clo.get i with
   | some _=>pickQ lv clo rest (i+1)
   | none=>match Nat.ble (opLevel o.op) lv with
     | true=>match yM clo o.after.toList 0 with
       | some m=>zBB m fun m=>some (i,o,m)
       | none=>pickQ lv clo rest (i+1)
     | false=>pickQ lv clo rest (i+1)
omit [Drw] in
theorem zEg {lv:Nat} {clo:T Nat} {ops:Array Oper}:∀ (rest:List Oper) (i:Nat),ops.toList.drop i=rest→∀ {j o m},pickQ lv clo rest i=some (j,o,m)→ops[j]?=some o∧clo.get j=none∧yM clo o.after.toList 0=some m
 | [],_,_,_,_,_,h=>by cases h
 | x::rest,i,hd,j,o,m,h=>by
   have hx:ops[i]?=some x:=by
    have:=congrArg List.head? hd
    simpa using this
   have hd':ops.toList.drop (i+1)=rest:=by
    have:=congrArg List.tail hd
    simpa using this
   have next:pickQ lv clo rest (i+1)=some (j,o,m)→_:=zEg rest (i+1) hd'
   unfold pickQ at h
   cases hg:clo.get i with
   | some y=>rw [hg] at h; exact next h
   | none =>
     rw [hg] at h
     simp only at h
     split at h
     ·cases hc:yM clo x.after.toList 0 with
      | none=>rw [hc] at h; exact next h
      | some y =>
        rw [hc] at h
        simp only [uO,Option.some.injEq,Prod.mk.injEq] at h
        obtain ⟨rfl,rfl,rfl⟩:=h
        exact ⟨hx,hg,hc⟩
     ·exact next h
section
variable {P:Program} {σ:Sg} {K:List Kt} {fr fr':Fr} {S:Hp} {Q:Exit→Fr→Hp→Prop} {tb:Tab} {ops:Array Oper} {o:Oper} {W:DW} {clo clo':T Nat} {U:List (Nat×(Hp→Prop))}
def PH (P:Program) (σ:Sg) (ops:Array Oper) (W:DW) (S:Hp) (U:List (Nat×(Hp→Prop))) (K:List Kt) (Q:Exit→Fr→Hp→Prop):PR→Prop
 | .mk clo fr=>VD P σ ops W clo fr S U K Q
 | .bad=>False
theorem vd_all (h:(∀ x∈U,x.2 S)→VD P σ ops W clo fr S U K Q):VD P σ ops W clo fr S U K Q:=fun ord hS hord L a w F D fuel hf=>h D.cnd ord hS hord L a w F D fuel hf
omit [Drw] in
theorem notSelf {ord:List Nat} (S:DSt σ.n ops W clo ord) (hord:∀ i∈ord,∃ m,clo.get i=some m) {i m:Nat} (ho:ops[i]?=some o) (hn:clo.get i=none) (hc:yM clo o.after.toList 0=some m) (hu:kQ ops m i):zy m i=false:=by
 cases h:zy m i
 ·rfl
 ·exfalso
  let M:Array Bool:=(Array.range ops.size).map fun k=>decide (k∈ord)
  have hM:∀ k,Dn M k↔k < ops.size∧k∈ord:=fun k=>by
   unfold Dn
   rw [Array.getD_eq_getD_getElem?]
   by_cases hk:k < ops.size
   ·simp [M,hk]
   ·simp [M,hk]
  have hpre:∀ k,k∈ord→uW ops M k:=fun k hk o ho e he hb=>(hM _).2 ⟨S.ordlt _ (vh ops ord S.ordok k hk o ho e he hb),vh ops ord S.ordok k hk o ho e he hb⟩
  have hpi:uW ops M i:=fun o' ho' e he hb=>by
   rw [ho] at ho'; cases ho'
   obtain ⟨c,hcc⟩:=(vF _ _ _ hc).1 e (by simpa using he) hb
   have:=S.inord _ _ hcc
   exact (hM _).2 ⟨S.ordlt _ this,this⟩
  have:=(hM i).1 (hu M (fun k hk=>hpre k ((hM k).1 hk).2) hpi i h)
  obtain ⟨x,hx⟩:=hord i this.2
  rw [hn] at hx; cases hx
theorem zAR {i m:Nat} {v:V} {U':List (Nat×(Hp→Prop))} (ho:ops[i]?=some o) (hn:clo.get i=none) (hc:yM clo o.after.toList 0=some m) (ht:turnB ops W o i m=true) (hU:∀ x∈U,x∈U') (hU':∀ x∈U',x.2 S)
  (hq:(yx ops fr o=some true∧((∀ S',QS P o (kW W ops i fr o) S' v)∨∃ C,(i,C)∈U'∧∀ S',C S'→QS P o (kW W ops i fr o) S' v))∨(yx ops fr o=some false∧v = .skip))
  (h:VD P σ ops W (clo.set depth i m) (fr.put o.dst v) S U' K Q):VD P σ ops W clo fr S U K Q:=fun ord hS hord L a w F D fuel hf=>by
 obtain ⟨t1,t2,hb⟩:=zA6 ht
 have hu:=(hS.add ho hb hc t1 t2).2
 obtain ⟨e1,e2⟩:=mval_put (fr:=fr) hS ho ho t1 t2 (notSelf hS hord ho hn hc hu) v
 refine vd_think (v:=v) (U':=U') ho hn hc ht hU hU' ⟨o,ho,?_⟩ h ord hS hord L a w F D fuel hf
 rw [e1,e2]
 rcases hq with ⟨g,hq⟩ | ⟨g,rfl⟩
 ·exact .inl ⟨g,v,fun d hd=>by rw [hd,put_same],hq⟩
 ·exact .inr ⟨g,fun d hd=>by rw [hd,put_same]⟩
theorem vd_pass1 (hT:TabOk tb P):∀ (rest:List Oper) (i:Nat),ops.toList.drop i=rest→∀ (clo:T Nat) (fr:Fr),PH P σ ops W S U K Q (ka tb ops W rest i clo fr)→VD P σ ops W clo fr S U K Q
 | [],_,_,_,_,h=>h
 | o::rest,i,hd,clo,fr,h=>by
   have ho:ops[i]?=some o:=by
    have:=congrArg List.head? hd
    simpa using this
   have hd':ops.toList.drop (i+1)=rest:=by
    have:=congrArg List.tail hd
    simpa using this
   have next:=vd_pass1 hT rest (i+1) hd'
   unfold ka at h
   cases hg:clo.get i with
   | some y=>rw [hg] at h; exact next _ _ h
   | none =>
     rw [hg] at h
     simp only at h
     cases hc:yM clo o.after.toList 0 with
     | none=>rw [hc] at h; exact next _ _ h
     | some m =>
       rw [hc] at h
       simp only [uO] at h
       cases ht:turnB ops W o i m
       ·rw [ht] at h; exact next _ _ h
       ·rw [ht] at h
        simp only [cond_true,putK_eq,setK_eq] at h
        refine vd_all fun hU=>?_
        split at h
        ·next hgd =>
         split at h
         ·next v hv =>
          exact zAR (v:=v) (U':=U) ho hg hc ht (fun x hx=>hx) hU (.inl ⟨hgd,.inl fun _=>QG.qs ⟨zAi hv,fun F w a _ hf=>vop_sound hT hf hv⟩⟩) (next _ _ h)
         ·exact next _ _ h
        ·next hgd=>exact zAR (v:=.skip) (U':=U) ho hg hc ht (fun x hx=>hx) hU (.inr ⟨hgd,rfl⟩) (next _ _ h)
        ·exact next _ _ h
end
end Go.Vw
namespace Go.Vw
open Go.RowKit Go.Am
variable [Drw]
inductive DS where
 | op (i:Nat) (o:Oper) (m:Nat) (clo:T Nat) (fr:Fr) | none (clo:T Nat) (fr:Fr) | bad
def dstep (lv:Nat) (tb:Tab) (ops:Array Oper) (W:DW) (clo:T Nat) (fr:Fr):DS:=match zCZ clo fun clo=>hdK fr fun fr=>ka tb ops W ops.toList 0 clo fr with
 | .mk clo fr=>match pickQ lv clo ops.toList 0 with
   | some (i,o,m)=>.op i o m clo fr
   | none=>.none clo fr
 | .bad=>.bad
section
variable {P:Program} {σ:Sg} {K:List Kt} {fr fr':Fr} {S:Hp} {Q:Exit→Fr→Hp→Prop} {tb:Tab} {ops:Array Oper} {o:Oper} {W:DW} {clo clo':T Nat} {U:List (Nat×(Hp→Prop))}
def VDq (P:Program) (σ:Sg) (ops:Array Oper) (W:DW) (clo:T Nat) (fr:Fr) (S:Hp) (U:List (Nat×(Hp→Prop))) (K:List Kt) (Q:Exit→Fr→Hp→Prop) (i:Nat) (o:Oper) (m:Nat):Prop :=
 ops[i]?=some o→clo.get i=none→yM clo o.after.toList 0=some m→VD P σ ops W clo fr S U K Q
def VDn (P:Program) (σ:Sg) (ops:Array Oper) (W:DW) (clo:T Nat) (fr:Fr) (S:Hp) (U:List (Nat×(Hp→Prop))) (K:List Kt) (Q:Exit→Fr→Hp→Prop):Prop:=VD P σ ops W clo fr S U K Q
def DH (P:Program) (σ:Sg) (ops:Array Oper) (W:DW) (S:Hp) (U:List (Nat×(Hp→Prop))) (K:List Kt) (Q:Exit→Fr→Hp→Prop):DS→Prop
 | .op i o m clo fr=>VDq P σ ops W clo fr S U K Q i o m
 | .none clo fr=>VDn P σ ops W clo fr S U K Q
 | .bad=>False
theorem god (hT:TabOk tb P) (lv:Nat) {d:DS} (e:dstep lv tb ops W clo fr=d) (h:DH P σ ops W S U K Q d):VD P σ ops W clo fr S U K Q:=by
 subst e
 refine vd_pass1 hT ops.toList 0 rfl clo fr ?_
 unfold dstep at h
 rw [zAQ,hdK_eq] at h
 cases hp:ka tb ops W ops.toList 0 clo fr with
 | bad=>rw [hp] at h; exact h.elim
 | mk c f =>
   rw [hp] at h
   simp only at h
   cases hq:pickQ lv c ops.toList 0 with
   | none=>rw [hq] at h; exact h
   | some x =>
     obtain ⟨i,o,m⟩:=x
     rw [hq] at h
     obtain ⟨h1,h2,h3⟩:=zEg ops.toList 0 rfl hq
     exact h h1 h2 h3
def turnG (ops:Array Oper) (W:DW) (fr:Fr) (o:Oper) (i m:Nat):Bool:=turnB ops W o i m && (match yx ops fr o with | some true=>true | _=>false)
omit [Drw] in
theorem vK {i m:Nat} (h:turnG ops W fr o i m=true):turnB ops W o i m=true∧yx ops fr o=some true:=by
 unfold turnG at h
 rw [Bool.and_eq_true] at h
 refine ⟨h.1,?_⟩
 have:=h.2
 split at this
 ·next e=>exact e
 ·cases this
theorem q_g {i m:Nat} {v:V} (ht:turnG ops W fr o i m=true) (hq:∀ S',QS P o (kW W ops i fr o) S' v) (h:VD P σ ops W (clo.set depth i m) (fr.put o.dst v) S U K Q):VDq P σ ops W clo fr S U K Q i o m:=fun h1 h2 h3 =>
 vd_all fun hU=>zAR (U':=U) h1 h2 h3 (vK ht).1 (fun _x hx=>hx) hU (.inl ⟨(vK ht).2,.inl hq⟩) h
theorem q_c {i m:Nat} {v:V} (C:Hp→Prop) (ht:turnG ops W fr o i m=true) (hC:C S) (hq:∀ S',C S'→QS P o (kW W ops i fr o) S' v) (h:VD P σ ops W (clo.set depth i m) (fr.put o.dst v) S ((i,C)::U) K Q):VDq P σ ops W clo fr S U K Q i o m:=fun h1 h2 h3 =>
 vd_all fun hU=>zAR (U':=(i,C)::U) h1 h2 h3 (vK ht).1 (fun x hx=>List.mem_cons_of_mem _ hx) (fun x hx=>by
  rcases List.mem_cons.1 hx with rfl | hx
  ·exact hC
  ·exact hU x hx) (.inl ⟨(vK ht).2,.inr ⟨C,List.mem_cons_self ..,hq⟩⟩) h
theorem yD (hT:TabOk tb P) {i m:Nat} {t:TypeId} {x:Operand} {b off:Nat} {cs:List V} {e:TypeId} {f:HE→Hp} {v:V} (ho:o.op = .load t x) (ht:turnG ops W fr o i m=true) (hx:kW W ops i fr o x=some (.ptr b off)) (hat:At S (.cells b cs e) f) (hp:xH tb t cs off=some v)
  (h:VD P σ ops W (clo.set depth i m) (fr.put o.dst v) S ((i,fun S'=>∃ cs' e' f',At S' (.cells b cs' e') f'∧xH tb t cs' off=some v)::U) K Q):VDq P σ ops W clo fr S U K Q i o m :=
 q_c _ ht ⟨cs,e,f,hat,hp⟩ (fun _S' ⟨_,_,_,hat,hp⟩=>(zT hT ho hx hat hp).qs) h
theorem QS.le {ρ:Operand→Option V} {v v':V} (h:QS P o ρ S v) (l:v.Le v'):QS P o ρ S v':=⟨h.1,fun F w a s r=>(h.2 F w a s r).map fun _ S1 e=>⟨v',S1,e.1 ▸ l,.refl _,rfl,e.2⟩⟩
theorem QS.rel {ρ ρ':Operand→Option V} {v:V} (h:QS P o ρ S v) (l:∀ F w a,Rel F w ρ' a→Rel F w ρ a):QS P o ρ' S v:=⟨h.1,fun F w a s r=>h.2 F w a s (l F w a r)⟩
omit [Drw] in
theorem zBC {F:Fz} {w:World} {b:Bool} {u:Value} (h:Is F w (.ob b) u):Is F w (.bool b) u:=by cases h; exact .bool b
omit [Drw] in
theorem ob_of_bool {F:Fz} {w:World} {b:Bool} {u:Value} (h:Is F w (.bool b) u):Is F w (.ob b) u:=by cases h; exact .ob b
theorem vd_ob {d:Nat} {b:Bool} (hb:fr.get d=some (.ob b)) (h:VD P σ ops W clo ((d,.bool b)::fr) S U K Q):VD P σ ops W clo fr S U K Q:=fun ord hS hord L a w F D fuel hfu=>by
 have get1:∀ t,Fr.get ((d,V.bool b)::fr) t=if d=t then some (.bool b) else fr.get t:=fun t=>by rw [x6]
 refine h ord hS hord L a w F ⟨D.size,D.down,D.sub,fun i m hi hn=>?_,D.cnd,D.sat,D.keep,D.tsize,D.defers,fun t v ht hw=>?_,D.tm0⟩ fuel hfu
 ·obtain ⟨o,ho,hq⟩:=D.q i m hi hn
  have hr:∀ F w a,Rel F w (kW W ops i ((d,.bool b)::fr) o) a→Rel F w (kW W ops i fr o) a:=fun F w a hr x v e=>by
   cases x with
   | tmp t =>
     have e':cond (kG o t) (tval W ops i fr t) none=some v:=e
     cases hu:kG o t
     ·rw [hu] at e'; cases e'
     ·rw [hu] at e'
      have e2:tval W ops i fr t=some v:=e'
      have same:tval W ops i ((d,.bool b)::fr) t=tval W ops i fr t∨(d=t∧tval W ops i fr t=fr.get t∧tval W ops i ((d,.bool b)::fr) t=Fr.get ((d,.bool b)::fr) t):=by
       by_cases htd:d=t
       ·unfold tval
        cases W.wr.get t with
        | none=>exact .inr ⟨htd,rfl,rfl⟩
        | some j =>
          simp only
          cases lateB ops j i
          ·exact .inr ⟨htd,rfl,rfl⟩
          ·exact .inl rfl
       ·refine .inl ?_
        unfold tval
        rw [get1,if_neg htd]
      rcases same with h1 | ⟨rfl,h1,h2⟩
      ·refine hr (.tmp t) v ?_
       show cond (kG o t) _ none=_
       rw [hu,h1]; exact e2
      ·rw [h1,hb] at e2; cases e2
       refine ob_of_bool (hr (.tmp d) (.bool b) ?_)
       show cond (kG o d) _ none=_
       rw [hu,h2,get1,if_pos rfl]; rfl
   | const c=>exact hr _ v e
   | global g=>exact hr _ v e
   | func f=>exact hr _ v e
  have hg:∀ x,yx ops fr o=some x→yx ops ((d,.bool b)::fr) o=some x:=fun x hx=>by
   unfold yx at hx ⊢
   cases hgo:o.guard with
   | none=>rw [hgo] at hx; exact hx
   | some y =>
     obtain ⟨j,want⟩:=y
     rw [hgo] at hx
     simp only at hx ⊢
     cases hj:ops[j]? with
     | none=>rw [hj] at hx; cases hx
     | some g =>
       rw [hj] at hx
       simp only at hx ⊢
       cases hgd:g.dst with
       | none=>rw [hgd] at hx; cases hx
       | some t =>
         rw [hgd] at hx
         simp only at hx ⊢
         rw [get1]
         by_cases htd:d=t
         ·subst htd; rw [hb] at hx; cases hx
         ·rw [if_neg htd]; exact hx
  refine ⟨o,ho,?_⟩
  rcases hq with ⟨g,v,h1,h2⟩ | ⟨g,h1⟩
  ·refine .inl ⟨hg _ g,?_⟩
   by_cases hod:o.dst=some d
   ·have hv:v = .ob b:=by have:=h1 d hod; rw [hb] at this; exact (Option.some.inj this).symm
    subst hv
    refine ⟨.bool b,fun x hx=>?_,?_⟩
    ·rw [hod] at hx; cases hx; rw [get1,if_pos rfl]
    ·rcases h2 with h2 | ⟨C,hC,h2⟩
     ·exact .inl fun S'=>((h2 S').rel hr).le fun _ _ _=>zBC
     ·exact .inr ⟨C,hC,fun S' hc=>((h2 S' hc).rel hr).le fun _ _ _=>zBC⟩
   ·refine ⟨v,fun x hx=>?_,?_⟩
    ·rw [get1,if_neg (fun e=>hod (by rw [hx,e]))]; exact h1 x hx
    ·rcases h2 with h2 | ⟨C,hC,h2⟩
     ·exact .inl fun S'=>(h2 S').rel hr
     ·exact .inr ⟨C,hC,fun S' hc=>(h2 S' hc).rel hr⟩
  ·refine .inr ⟨hg _ g,fun x hx=>?_⟩
   rw [get1,if_neg (fun e=>?_)]
   ·exact h1 x hx
   ·subst e; have:=h1 d hx; rw [hb] at this; cases this
 ·rw [get1] at ht
  by_cases htd:d=t
  ·subst htd
   rw [if_pos rfl] at ht; cases ht
   obtain ⟨u,e1,r⟩:=D.tm d _ hb hw
   exact ⟨u,e1,zBC r⟩
  ·rw [if_neg htd] at ht
   exact D.tm t v ht hw
theorem zk {i m j d:Nat} {want b:Bool} {g:Oper} (_hg:o.guard=some (j,want)) (_hj:ops[j]?=some g) (_hgd:g.dst=some d) (hb:fr.get d=some (.ob b))
  (h1:b=true→VD P σ ops W clo ((d,.bool true)::fr) S U K Q) (h2:b=false→VD P σ ops W clo ((d,.bool false)::fr) S U K Q):VDq P σ ops W clo fr S U K Q i o m:=fun _ _ _=>by
 cases b
 ·exact vd_ob hb (h2 rfl)
 ·exact vd_ob hb (h1 rfl)
def forceR:List (Nat×Oper×Nat)→List (Nat×Oper×Nat)
 | []=>[]
 | (i,o,m)::r=>zBB i fun i=>zBB m fun m=>(i,o,m)::forceR r
omit [Drw] in
theorem zCa:∀ l,forceR l=l
 | []=>rfl
 | (i,o,m)::r=>by unfold forceR; rw [uO,uO,zCa r]
theorem zS {i m:Nat} (hr':forceR (vH clo ops.toList 0)=[(i,o,m)]) (h:EffOK P σ ops W clo fr S U K Q i o m):VDn P σ ops W clo fr S U K Q :=
 have hr:=(zCa _).symm.trans hr'
 vd_eff (by rw [hr]; exact fun h=>by cases h) fun i' o' m' hm=>by
  rw [hr] at hm
  rcases List.mem_cons.1 hm with e | hm
  ·cases e; exact h
  ·cases hm
theorem vd_eff2 {i m i2 m2:Nat} {o2:Oper} (hr':forceR (vH clo ops.toList 0)=[(i,o,m),(i2,o2,m2)]) (h:EffOK P σ ops W clo fr S U K Q i o m) (h2:EffOK P σ ops W clo fr S U K Q i2 o2 m2):VDn P σ ops W clo fr S U K Q :=
 have hr:=(zCa _).symm.trans hr'
 vd_eff (by rw [hr]; exact fun h=>by cases h) fun i' o' m' hm=>by
  rw [hr] at hm
  rcases List.mem_cons.1 hm with e | hm
  ·cases e; exact h
  ·rcases List.mem_cons.1 hm with e | hm
   ·cases e; exact h2
   ·cases hm
def zBu {β:Type} (m:Nat):List (Nat×(Hp→Prop))→(List (Nat×(Hp→Prop))→β)→β
 | [],k=>k []
 | x::r,k=>zBu m r fun r'=>zBB x.1 fun i=>cond (zy m i) (k r') (k (x::r'))
omit [Drw] in
theorem zDJ {β:Type} (m i:Nat):∀ (U:List (Nat×(Hp→Prop))) (k:List (Nat×(Hp→Prop))→β),zBu m U k=k (uy m i U)
 | [],k=>rfl
 | x::r,k=>by
   simp only [zBu,uy,zDJ m i r,uO]
   cases zy m x.1 <;> rfl
theorem eff {i m:Nat} {U2:List (Nat×(Hp→Prop))} (ht:turnG ops W fr o i m=true) (hU:zBu m U some=some U2) (h:OpS P o (kW W ops i fr o) S fun v S'=>holdAll S' U2∧VD P σ ops W (clo.set depth i m) (fr.put o.dst v) S' U2 K Q):EffOK P σ ops W clo fr S U K Q i o m:=by
 rw [zDJ m i] at hU
 cases hU
 exact ⟨(vK ht).1,(vK ht).2,h⟩
theorem zV (hd:vS clo ops.toList 0=true) (h:VT P σ (.next K fr) S Q):VDn P σ ops W clo fr S U K Q:=vd_done hd h
theorem zd (hT:TabOk tb P) (hb:Nat.ble σ.n zY=true) {wr:T Nat} (hw:forceW (wV σ.n ops.toList 0 .nil)=some wr) (h:VD P σ ops ⟨wr,fr⟩ .nil fr S [] K Q):∀ id,zv P σ (.region id ops true) K fr S Q:=fun id=>run_draw hT hb (by rw [← forceW_eq (wV _ _ _ _)]; exact hw) h id
end
theorem zW {P:Program} {σ:Sg} {K:List Kt} {fr:Fr} {S:Hp} {Q:Exit→Fr→Hp→Prop} {α:Type} {c:Code} (I:α→Fr×Hp) (J:α→Prop) (μ:α→Nat) (x0:α) (j0:J x0) (h0:Wk fr S (I x0).1 (I x0).2)
  (step:∀ x,J x→VT P σ (.run c (.loop (fun fr' S'=>∃ y,J y∧μ y < μ x∧Wk fr' S' (I y).1 (I y).2)::K) (I x).1) (I x).2 Q):zv P σ (.loop c) K fr S Q:=fun F w a s k=>by
 refine wpIn_loopG (fun x a w=>J x∧∃ F,St σ.n σ.ds F w (I x).1 (I x).2 a∧Keep σ.F σ.w σ.S F w (I x).2) μ x0 ⟨j0,F,⟨h0.st.sat s.sat,h0.fr.sound s.fr,s.size,s.defers⟩,h0.st.keep' k⟩ ?_
 rintro x a w ⟨hj,F,s,k⟩
 refine wpIn_mono (step x hj F w a s k) fun e a' w' h=>?_
 cases e with
 | normal =>
   obtain ⟨F',fr',S',s',k',y,hy,hm,l⟩:=h
   exact ⟨y,⟨hy,F',⟨l.st.sat s'.sat,l.fr.sound s'.fr,s'.size,s'.defers⟩,l.st.keep' k'⟩,hm⟩
 | _=>exact h
def boolV:V→Option Bool
 | .bool b=>some b
 | .ob b=>some b
 | _=>none
omit [Drw] in
theorem wZ {v:V} {b:Bool} (h:boolV v=some b):v.Le (.ob b):=fun F w u k=>by
 cases k <;> first | (cases h; exact .ob _) | cases h
omit [Drw] in
theorem zP {tb:Tab} {fn:Func} {Q:V→Hp→Prop} {fr:Fr} {S:Hp} {t:Nat} {v:V} {b:Bool} {e:Exit} (hr:fn.results.toList=[.tmp t]) (h:fr.get t=some v) (hb:boolV v=some b) (k:Q (.ob b) S) (he:e = .ret∨e = .normal:=by first | exact .inl rfl | exact .inr rfl):Ret tb fn Q e fr S:=⟨he,[.ob b],by rw [hr]; exact .tmpL h (wZ hb) .nil,k⟩
omit [Drw] in
theorem zQ {tb:Tab} {fn:Func} {Q:V→Hp→Prop} {fr:Fr} {S:Hp} {vs:List V} {e:Exit} (h:Res tb fr S fn.results.toList vs) (k:Q (oneV vs) S) (he:e = .ret∨e = .normal:=by first | exact .inl rfl | exact .inr rfl):Ret tb fn Q e fr S:=⟨he,vs,h,k⟩
theorem VC.code {P:Program} {tb:Tab} (hT:TabOk tb P) {f:FuncId} {fn:Func} {c:Code} {args:List V} {S:Hp} {Q:V→Hp→Prop} (nt:Nat) (hf:tb.func f=some fn) (hb:fn.body=some c) (hnt:fn.ntmps=nt) (hn:Nat.ble args.length nt=true)
  (h:∀ F w S0,VT P ⟨none,0,nt,F,w,S0,[]⟩ (.run c [] (argFr 0 args)) S (Ret tb fn Q)):VC P f args S Q :=
 VC.of hT (hT.func _ _ hf) hb (by rw [hnt]; exact Nat.le_of_ble_eq_true hn) fun F w S0=>by subst hnt; exact h F w S0
end Go.Vw
namespace Go.Vw
open Go.RowKit Go.Am
variable [Drw]
theorem Sat.freeze {F:Fz} {w:World} {S:Hp} {b:Nat} {cs:List V} {e:TypeId} {f:HE→Hp} (s:Sat F w S) (hat:At S (.cells b cs e) f) :
  ∃ F',Sat F' w (f (.tl .no))∧Keep F w S F' w (f (.tl .no))∧(∀ k,k < cs.length→F' b k)∧∃ c,w.heap[b]?=some (.cells c e (0,0))∧Iss F' w cs c.toList:=by
 obtain ⟨l,r,rfl,hf⟩:=hat.split
 rw [hf]
 obtain ⟨⟨c,e1,hv⟩,hF⟩:=s.ok _ hat.mem
 have hb:b < w.heap.size:=(Array.getElem?_eq_some_iff.1 e1).1
 have g:Grow F w (F.add b 0 cs.length) w:=⟨fun _ _ h=>.inl h,fun _ _ _=>rfl⟩
 have hcl:=hv.length
 have hnd:=s.nodup
 have hsub:List.Sublist (Hp.dom (l++.tl .no::r)) (Hp.dom (l++.cells b cs e::r)):=by
  simp only [xz,xk,HE.blk]
  exact (List.Sublist.refl _).append (List.sublist_cons_self _ _)
 have hother:∀ x∈l++r,∀ b',x.blk=some b'→b'≠b:=fun x hx b' hb' e'=>by
  subst e'
  simp only [xz,xk,HE.blk] at hnd
  rw [List.nodup_append] at hnd
  obtain ⟨_,h2,h3⟩:=hnd
  rw [List.nodup_cons] at h2
  rcases List.mem_append.1 hx with hx | hx
  ·exact h3 b' (List.mem_filterMap.2 ⟨x,hx,hb'⟩) b' (by simp) rfl
  ·exact h2.1 (List.mem_filterMap.2 ⟨x,hx,hb'⟩)
 refine ⟨F.add b 0 cs.length,⟨fun b' k hk=>?_,hnd.sublist hsub,fun x hx=>?_⟩,⟨g,rfl,rfl,rfl,Nat.le_refl _,fun b' _ hn=>⟨rfl,fun k hk=>?_⟩,fun b' hb'=>.inl (hsub.subset hb'),fun _=>Nat.le_refl _⟩,fun k hk=>.inr ⟨rfl,Nat.zero_le _,hk⟩,c,e1,hv.mono g⟩
 ·rcases hk with hk | ⟨rfl,_,hk⟩
  ·exact s.fz b' k hk
  ·have:k < c.size:=by simp at hcl; omega
   exact ⟨c[k],by unfold World.cell?; rw [e1]; simp [this]⟩
 ·have:x = .tl .no∨x∈l++r:=by
   rcases List.mem_append.1 hx with hx | hx
   ·exact .inr (List.mem_append_left _ hx)
   ·rcases List.mem_cons.1 hx with hx | hx
    ·exact .inl hx
    ·exact .inr (List.mem_append_right _ hx)
  rcases this with rfl | hx'
  ·trivial
  ·refine (s.ok x ?_).mono g fun b' hb'=>⟨rfl,fun k hk=>?_⟩
   ·rcases List.mem_append.1 hx' with h | h
    ·exact List.mem_append_left _ h
    ·exact List.mem_append_right _ (List.mem_cons_of_mem _ h)
   ·rcases hk with hk | ⟨rfl,_⟩
    ·exact hk
    ·exact absurd rfl (hother x hx' _ hb')
 ·rcases hk with hk | ⟨rfl,_⟩
  ·exact hk
  ·exact absurd (List.mem_filterMap.2 ⟨.cells b' cs e,hat.mem,rfl⟩:b'∈Hp.dom (l++HE.cells b' cs e::r)) hn
omit [Drw] in
theorem pin_of {F:Fz} {w:World} {b:Nat} {cs:List V} {e:TypeId} {c:Array Value} (hF:∀ k,k < cs.length→F b k) (e1:w.heap[b]?=some (.cells c e (0,0))) (hv:Iss F w cs c.toList) (off:Nat):Is F w (.pin cs off) (.pointer (some ⟨b,off,none⟩)):=by
 have hcl:cs.length=c.size:=by simpa using hv.length
 have:=Is.pin (F:=F) (w:=w) (cs:=cs) (off:=off) (b:=b) (o:=0) (fun k=>c.getD k undef) (fun k hk=>⟨by rw [Nat.zero_add]; exact hF k hk,by
  rw [Nat.zero_add]
  unfold World.cell?
  rw [e1]
  have:k < c.size:=by omega
  simp [Array.getD_eq_getD_getElem?,this]⟩) (fun k hk=>by
  obtain ⟨u,e2,r⟩:=hv.get k cs[k] (by simp [hk])
  have:c.getD k undef=u:=by
   rw [Array.getD_eq_getD_getElem?]
   simp at e2
   rw [e2]; rfl
  rw [this]; exact r)
 rw [Nat.zero_add] at this
 exact this
omit [Drw] in
theorem slice_of {F:Fz} {w:World} {b n c' sz:Nat} {cs:List V} {rows:List (List V)} {e:TypeId} {c:Array Value} (hF:∀ k,k < cs.length→F b k) (e1:w.heap[b]?=some (.cells c e (0,0))) (hv:Iss F w cs c.toList) (hfl:rows.flatten=cs) (hr:∀ r∈rows,r.length=sz) (hn:rows.length=n) (hc:n≤c'):Is F w (.slice .no rows) (.slice (some ⟨b,0,none⟩) n c'):=by
 subst hn
 subst hfl
 refine vJ (t:=.no) (sz:=sz) hr hc trivial hv fun j v hj=>?_
 have hjl:=(List.getElem?_eq_some_iff.1 hj).1
 rw [Nat.zero_add]
 refine ⟨hF j (by rw [hv.length]; exact hjl),?_⟩
 unfold World.cell?
 rw [e1]
 simpa using hj
section
variable {P:Program} {σ:Sg} {K:List Kt} {fr:Fr} {S:Hp} {Q:Exit→Fr→Hp→Prop} {tb:Tab} {ops:Array Oper} {o:Oper} {l:List Oper} {ρ:Operand→Option V} {k:V→Hp→Prop}
theorem VAt.freeze {G:Act→World→Prop} {t b off:Nat} {cs:List V} {e:TypeId} {f:HE→Hp} (ht:fr.get t=some (.ptr b off)) (hat:At S (.cells b cs e) f) (h:VAt σ G ((t,.pin cs off)::fr) (f (.tl .no))):VAt σ G fr S:=fun F w a s kp=>by
 obtain ⟨F',s',k',hF,c,e1,hv⟩:=s.sat.freeze hat
 refine h F' w a ⟨s',fun t' v e=>?_,s.size,s.defers⟩ (kp.trans k')
 rw [x6] at e
 split at e
 ·next htt =>
  subst htt; cases e
  obtain ⟨u,e2,r⟩:=s.fr _ _ ht
  rw [ptr_inv r] at e2
  exact ⟨_,e2,pin_of hF e1 hv off⟩
 ·obtain ⟨u,e2,r⟩:=s.fr _ _ e
  exact ⟨u,e2,r.mono k'.toGrow⟩
theorem VAt.freezeS {G:Act→World→Prop} {t b n c sz:Nat} {cs:List V} {rows:List (List V)} {e:TypeId} {f:HE→Hp} (ht:fr.get t=some (.ref b 0 n c)) (hat:At S (.cells b cs e) f) (hfl:rows.flatten=cs) (hr:∀ r∈rows,r.length=sz) (hn:rows.length=n) (hc:n≤c) (h:VAt σ G ((t,.slice .no rows)::fr) (f (.tl .no))):VAt σ G fr S:=fun F w a s kp=>by
 obtain ⟨F',s',k',hF,c,e1,hv⟩:=s.sat.freeze hat
 refine h F' w a ⟨s',fun t' v e=>?_,s.size,s.defers⟩ (kp.trans k')
 rw [x6] at e
 split at e
 ·next htt =>
  subst htt; cases e
  obtain ⟨u,e2,r⟩:=s.fr _ _ ht
  cases r
  exact ⟨_,e2,slice_of hF e1 hv hfl hr hn hc⟩
 ·obtain ⟨u,e2,r⟩:=s.fr _ _ e
  exact ⟨u,e2,r.mono k'.toGrow⟩
theorem zBD {c:Code} {t b off:Nat} {cs:List V} {e:TypeId} {f:HE→Hp} (ht:fr.get t=some (.ptr b off)) (hat:At S (.cells b cs e) f) (h:VT P σ (.run c K ((t,.pin cs off)::fr)) (f (.tl .no)) Q):zv P σ c K fr S Q:=VAt.freeze ht hat h
theorem kb {t b off:Nat} {cs:List V} {e:TypeId} {f:HE→Hp} (ht:fr.get t=some (.ptr b off)) (hat:At S (.cells b cs e) f) (h:VT P σ (.next K ((t,.pin cs off)::fr)) (f (.tl .no)) Q):zq P σ K fr S Q:=VAt.freeze ht hat h
theorem zBE {t b off:Nat} {cs:List V} {e:TypeId} {f:HE→Hp} (ht:fr.get t=some (.ptr b off)) (hat:At S (.cells b cs e) f) (h:VT P σ (.ops ops l K ((t,.pin cs off)::fr)) (f (.tl .no)) Q):yE P σ ops l K fr S Q:=fun i hi=>VAt.freeze ht hat (h i hi)
theorem ke {code:Code} {t b n c sz:Nat} {cs:List V} {rows:List (List V)} {e:TypeId} {f:HE→Hp} (ht:fr.get t=some (.ref b 0 n c)) (hat:At S (.cells b cs e) f) (hfl:rows.flatten=cs) (hr:∀ r∈rows,r.length=sz) (hn:rows.length=n) (hc:n≤c) (h:VT P σ (.run code K ((t,.slice .no rows)::fr)) (f (.tl .no)) Q):zv P σ code K fr S Q:=VAt.freezeS ht hat hfl hr hn hc h
theorem VAt.sub {G:Act→World→Prop} {S':Hp} (l:Sub S S') (h:VAt σ G fr S'):VAt σ G fr S:=fun F w a s k=>h F w a ⟨l.sat s.sat,s.fr,s.size,s.defers⟩ (l.keep' k)
theorem VAt.drop {G:Act→World→Prop} {x:HE} (h:VAt σ G fr S):VAt σ G fr (x::S):=VAt.sub (.drop (.refl _)) h
theorem next_sub {S':Hp} (l:Sub S S') (h:VT P σ (.next K fr) S' Q):zq P σ K fr S Q:=VAt.sub l h
theorem wJ {c:Code} {S':Hp} (l:Sub S S') (h:VT P σ (.run c K fr) S' Q):zv P σ c K fr S Q:=VAt.sub l h
theorem yC {S':Hp} (x:Sub S S') (h:VT P σ (.ops ops l K fr) S' Q):yE P σ ops l K fr S Q:=fun i hi=>VAt.sub x (h i hi)
theorem run_cut {α:Type} {c:Code} (I:α→Fr×Hp) (J:α→Prop) (h1:VT P σ (.run c (.loop (fun fr' S'=>∃ y,J y∧Wk fr' S' (I y).1 (I y).2)::K) fr) S Q) (h2:∀ y,J y→VT P σ (.next K (I y).1) (I y).2 Q):zv P σ c K fr S Q:=fun F w a s k =>
 wpIn_mono (h1 F w a s k) fun e a' w' h=>by
  cases e with
  | normal =>
    obtain ⟨F',fr',S',s',k',y,hj,l⟩:=h
    exact h2 y hj F' w' a' ⟨l.st.sat s'.sat,l.fr.sound s'.fr,s'.size,s'.defers⟩ (l.st.keep' k')
  | _=>exact h
theorem qo {R1 R2:Exit→Act→World→Prop}:∀ (K1:List Kt) {KA KB:List Kt},(∀ e a w,y8 P σ KA R1 e a w→y8 P σ KB R2 e a w)→∀ e a w,y8 P σ (K1++KA) R1 e a w→y8 P σ (K1++KB) R2 e a w
 | [],_,_,h=>h
 | .code y::K1,_,_,h=>fun e a w hp=>by
   have ih:=qo K1 h
   cases e with
   | normal=>exact wpIn_mono (hp:y.wpIn _ _ _ _ a w) ih
   | _=>exact ih _ a w hp
 | .block id::K1,_,_,h=>fun e a w hp=>by
   have ih:=qo K1 h
   show Exit.inBlock id _ e a w
   have hp:Exit.inBlock id (y8 P σ (K1++_) R1) e a w:=hp
   cases e with
   | exit j =>
     simp only [Exit.inBlock] at hp ⊢
     split at hp
     ·next hj=>rw [if_pos hj]; exact ih _ a w hp
     ·next hj=>rw [if_neg hj]; exact ih _ a w hp
   | _=>exact ih _ a w hp
 | .loop I::K1,_,_,h=>fun e a w hp=>by
   have ih:=qo K1 h
   cases e with
   | normal=>exact hp
   | _=>exact ih _ a w hp
theorem kf {α:Type} {c:Code} (n:Nat) (I:α→Fr×Hp) (J:α→Prop) (h1:VT P σ (.run c (K.take n++.loop (fun fr' S'=>∃ y,J y∧Wk fr' S' (I y).1 (I y).2)::K.drop n) fr) S Q) (h2:∀ y,J y→VT P σ (.next (K.drop n) (I y).1) (I y).2 Q):zv P σ c K fr S Q:=fun F w a s k=>by
 have:=qo (R1:=Post σ Q) (R2:=Post σ Q) (P:=P) (σ:=σ) (K.take n) (KA:=.loop (fun fr' S'=>∃ y,J y∧Wk fr' S' (I y).1 (I y).2)::K.drop n) (KB:=K.drop n) fun e a' w' h=>by
  cases e with
  | normal =>
    obtain ⟨F',fr',S',s',k',y,hj,l⟩:=h
    exact h2 y hj F' w' a' ⟨l.st.sat s'.sat,l.fr.sound s'.fr,s'.size,s'.defers⟩ (l.st.keep' k')
  | _=>exact h
 rw [List.take_append_drop] at this
 exact wpIn_mono (h1 F w a s k) this
theorem run_wkT {c:Code} {fr':Fr} {S':Hp} (l:Wk fr S fr' S') (h:VT P σ (.run c K fr') S' Q):zv P σ c K fr S Q:=run_wk l h
theorem next_wkT {fr':Fr} {S':Hp} (l:Wk fr S fr' S') (h:VT P σ (.next K fr') S' Q):zq P σ K fr S Q:=next_wk l h
theorem OpS.less {k':V→Hp→Prop} (h:OpS P o ρ S k) (hk:∀ v S1,k v S1→∃ v' S2,v.Le v'∧Sub S1 S2∧k' v' S2):OpS P o ρ S k':=⟨h.1,fun F w a s r=>(h.2 F w a s r).map hk⟩
theorem VC.less {f:FuncId} {args:List V} {Q Q':V→Hp→Prop} (h:VC P f args S Q) (hk:∀ v S1,Q v S1→∃ v' S2,v.Le v'∧Sub S1 S2∧Q' v' S2):VC P f args S Q':=fun F w us s a=>by
 refine (h F w us s a).mono ?_
 rintro e w' ⟨v,u,F',S',e1,e2,e3,e4,e5⟩
 obtain ⟨v',S2,l,b,q⟩:=hk v S' e5
 exact ⟨v',u,F',S2,e1,l _ _ _ e2,b.sat e3,b.keep' e4,q⟩
theorem VC.frameL {f:FuncId} {args:List V} {Q:V→Hp→Prop} (h:VC P f args S Q) (R:Hp):VC P f args (R++S) fun v S'=>∃ S1,S'=R++S1∧Q v S1:=fun F w us s a=>by
 refine ((VC.frame h R) F w us (s.perm List.perm_append_comm) a).mono ?_
 rintro e w' ⟨v,u,F',S',e1,e2,e3,e4,S1,rfl,hq⟩
 refine ⟨v,u,F',R++S1,e1,e2,e3.perm List.perm_append_comm,(e4.perm List.perm_append_comm).more fun b hb=>?_,S1,rfl,hq⟩
 rw [xz] at hb ⊢
 rcases List.mem_append.1 hb with x | x
 ·exact List.mem_append_right _ x
 ·exact List.mem_append_left _ x
theorem VC.frame1 {f:FuncId} {args:List V} {Q Q':V→Hp→Prop} (h:VC P f args S Q) (x:HE) (k:∀ v S1,Q v S1→Q' v (x::S1)):VC P f args (x::S) Q':=(h.frameL [x]).mono fun v _S' ⟨S1,e,q⟩=>e ▸ k v S1 q
theorem zBv {t b off:Nat} {cs:List V} {e:TypeId} (ht:fr.get t=some (.ptr b off)) (h:VT P σ (.next K ((t,.pin cs off)::fr)) S Q):zq P σ K fr (.cells b cs e::S) Q:=VAt.freeze ht .here (VAt.drop h)
theorem zo {t b off:Nat} {cs:List V} {e:TypeId} (ht:fr.get t=some (.ptr b off)) (h:VT P σ (.ops ops l K ((t,.pin cs off)::fr)) S Q):yE P σ ops l K fr (.cells b cs e::S) Q:=fun i hi=>VAt.freeze ht .here (VAt.drop (h i hi))
theorem zN {t:TypeId} {x:Operand} {v:V} (ho:o.op = .box t x) (hx:ρ x=some v) (hc:zz v.cells=true) (h:k (.pin v.cells 0) S):OpS P o ρ S k :=
 OpS.mk (by rw [ho]; rfl) fun F w a s hf=>by
  obtain ⟨s',k'⟩:=s.cells t ((hf _ _ hx).cells_of (uC hc))
  obtain ⟨F'',s'',k'',hF,c,e1,hv⟩:=s'.freeze .here
  refine .val (F':=F'') ?_ (pin_of hF e1 hv 0) (Sat.sub s'' (List.sublist_cons_self ..)) ((k'.trans k'').sub (List.sublist_cons_self ..)) h
  simp only [execOp,ho,Instr.box,Sem.run_bind,uU,Sem.run_pure,Result.andThen]
theorem zH (hT:TabOk tb P) {t el:TypeId} {len n:Nat} {parts:Array (Nat×Operand)} {ps:List (Nat×V)} {z:V} {c:List V} {rows:List (List V)} (ho:o.op = .buildSlice t len parts) (ht:tb.under t=some (.slice el)) (hs:tb.size el=some n) (hz:uw tb el=some z) (hzs:(z.solid && Nat.beq z.cells.length n && Nat.blt (len * n) 16777216)=true)
  (hp:zCU ρ parts.toList=some ps) (hf:fillV (fun i=>some (i * n,n)) (uk len z.cells) ps=some c) (hc:zCY n len c=some rows) (h:k (.slice .no rows) S):OpS P o ρ S k :=
 (yZ (k:=fun v S'=>∃ tok,v = .slice tok rows∧S' = .tl tok::S) hT ho ht hs hz hzs hp hf hc fun tok _=>⟨tok,rfl,rfl⟩).less fun v S1 ⟨tok,e1,e2⟩=>⟨_,S,by rw [e1]; exact V.Le.slice tok rows,by rw [e2]; exact .drop (.refl S),h⟩
theorem zR (hT:TabOk tb P) {c:Call} {x:Operand} {f:FuncId} {first cap args:List V} {fn:Func} {body:Code} {v:V} (ho:o.op = .call c) (hc:c.callee = .value x) (hx:ρ x=some (.func f first cap)) (ha:valsV ρ c.args.toList=some args) (hf:tb.func f=some fn) (hb:fn.body=some body)
  (h:Pure P f (first++args++cap) v) (hk:k v S):OpS P o ρ S k:=yQ hT ho hc hx ha hf hb (h.call hk)
omit [Drw] in
theorem g_sliceFrom (hT:TabOk tb P) {t el:TypeId} {x lo:Operand} {tok:Tok} {rows:List (List V)} {κ:IntKind} {i n:Nat} (ho:o.op = .slice t x (some lo) none none) (ht:tb.under t=some (.slice el)) (hs:tb.size el=some n) (hn:∀ r∈rows,r.length=n)
  (hx:ρ x=some (.slice tok rows)) (hl:ρ lo=some (.int κ (i:Int))) (hi:i≤rows.length):QG P o ρ S (.slice tok (rows.drop i)) :=
 QG.mk (by rw [ho]; rfl) fun F w a s hf=>by
  have hvx:=hf _ _ hx
  have hlv:=int_inv (hf _ _ hl)
  have lowb:∀ y:Nat,i≤y→(Instr.sliceBound (.int κ (i:Int)) y .sliceB).run P w = .ok i w:=fun y hy=>by
   simp only [Instr.sliceBound,asIntOf,Sem.run_bind,Sem.run_pure,Result.andThen]
   rw [if_pos ⟨Int.natCast_nonneg _,Int.ofNat_le.2 hy⟩]
   simp only [Int.toNat_natCast,Sem.run_pure]
  generalize hb:a.eval x=u at hvx
  have key:∀ (base:Option Addr) (len cap:Nat),u = .slice base len cap→i≤len→(execOp a.eval o).run P w = .ok (.value (.slice (if cap=i then base else base.map (·.add (i * n))) (len - i) (cap - i))) w:=fun base len cap e hle=>by
   subst e
   have sb:(Instr.sliceBounds true len cap (some (.int κ (i:Int))) none none).run P w = .ok (i,len,cap) w:=by
    simp only [Instr.sliceBounds,Option.isSome,Sem.run_bind,Sem.run_pure,Result.andThen,Bool.false_eq_true,if_false,lowb len hle]
   simp only [execOp,ho,hb,Instr.sliceAt,Option.map,hlv,Sem.run_bind,zF hT ht,Result.andThen,Instr.slice,sb,Am.run_size hT hs,Sem.run_pure]
  cases hvx with
  | nilSlice _ ba =>
    have hi0:i=0:=by simpa using hi
    subst hi0
    exact Gives.of (key ba 0 0 rfl (Nat.le_refl _)) (by simpa using Is.nilSlice _ ba)
  | slice g hl' hc' hv' hle' hxx htk =>
    rename_i b off cp q sz
    by_cases h0:cp=0
    ·have hr0:rows=[]:=List.length_eq_zero_iff.1 (by omega)
     subst hr0
     have hi0:i=0:=by simpa using hi
     subst hi0
     subst h0
     refine Gives.of (key _ _ _ rfl (Nat.zero_le _)) ?_
     simp only [List.drop_nil]
     exact .slice (off:=off) (sz:=sz) g (fun i h=>by simp at h) (fun i h=>by simp at h) (fun i h=>by simp at h) (Nat.le_refl _) (.inl rfl) htk
    ·have hqo:q=off:=by rcases hxx with h | h; exact absurd h h0; exact h
     subst hqo
     by_cases hr0:rows=[]
     ·subst hr0
      have hi0:i=0:=by simpa using hi
      subst hi0
      refine Gives.of (key _ _ _ rfl (Nat.zero_le _)) ?_
      rw [if_neg h0]
      simp only [List.drop_nil,Option.map_some,Nat.zero_mul,Nat.sub_zero,Am.Addr.add_eq,Nat.add_zero]
      exact .slice (off:=q) (sz:=sz) g (fun i h=>by simp at h) (fun i h=>by simp at h) (fun i h=>by simp at h) (Nat.zero_le _) (.inr rfl) htk
     ·have hpos:=List.length_pos_iff.2 hr0
      have hsz:sz=n:=by rw [← hl' 0 hpos]; exact hn _ (List.getElem_mem _)
      subst hsz
      refine Gives.of (key _ _ _ rfl hi) ?_
      have hl2:(rows.drop i).length=rows.length - i:=List.length_drop
      rw [← hl2]
      have tk:TokIs tok b (q+i * sz+(rows.drop i).length * sz) (cp - i) (q+i * sz+(cp - i) * sz) sz:=by
       have e1:q+i * sz+(rows.drop i).length * sz=q+rows.length * sz:=by
        rw [hl2,Nat.add_assoc,← Nat.add_mul]; congr 2; omega
       have e2:q+i * sz+(cp - i) * sz=q+cp * sz:=by
        rw [Nat.add_assoc,← Nat.add_mul]; congr 2; omega
       rw [e1,e2]
       cases tok with
       | no=>trivial
       | zero=>exact absurd htk h0
       | own b' n' m' s' =>
         rcases htk with h | h
         ·exact absurd h h0
         ·exact .inr h
      by_cases hci:cp=i
      ·rw [if_pos hci]
       have hd:rows.drop i=[]:=List.drop_eq_nil_of_le (by omega)
       rw [hd] at tk ⊢
       subst hci
       rw [Nat.sub_self] at tk ⊢
       exact .slice (off:=q+cp * sz) (sz:=sz) g (fun i h=>by simp at h) (fun i h=>by simp at h) (fun i h=>by simp at h) (Nat.le_refl _) (.inl rfl) tk
      ·rw [if_neg hci]
       simp only [Option.map_some,Am.Addr.add_eq]
       refine .slice (off:=q+i * sz) (sz:=sz) (fun j k=>g (i+j) k) (fun j hj=>?_) (fun j hj k hk=>?_) (fun j hj k hk=>?_) (by omega) (.inr rfl) tk
       ·rw [List.getElem_drop]; exact hl' _ (by rw [hl2] at hj; omega)
       ·have:=hc' (i+j) (by rw [hl2] at hj; omega) k hk
        rw [Nat.add_mul,← Nat.add_assoc] at this
        exact this
       ·have:=hv' (i+j) (by rw [hl2] at hj; omega) k (by rw [List.getElem_drop] at hk; exact hk)
        simp only [List.getElem_drop]
        exact this
end
end Go.Vw
namespace Go.Vw
open Go.RowKit Go.Am
variable [Drw]
def allF (w:World):Fz:=fun b k=>∃ v,w.cell? ⟨b,k,none⟩=some v
structure Bulk {H:Type} (K:DataW H→Nat):Prop where
 str:∀ b:List UInt8,b.length≤K (.lit (.string b))
 part:∀ (l:List (DataW H)) d,d∈l→K d≤K (.agg l)
 elem:∀ (l r:List (DataW H)) d,d∈l→K d≤K (.slice l r)
 len:∀ l r:List (DataW H),l.length≤K (.slice l r)
def Reads {H:Type} (enc:TypeId×Value→H) (P:Program) (w:World) (K:DataW H→Nat) (B:Nat) (t:TypeId) {α:Type} (g:α→List V) (ok:α→Prop):Prop :=
 ∀ (fuel:Nat) (cs:List Value) (x:DataW H×List MemPlace),DataW.trod enc P w 0 (fun _=>true) true fuel t cs=some x→K x.1≤B→∃ a,ok a∧Iss (allF w) w (g a) cs
section
variable {H:Type} {enc:TypeId×Value→H} {P:Program} {w:World} {K:DataW H→Nat} {B:Nat} {t:TypeId}
omit [Drw] in
theorem Reads.int {k:IntKind} (ht:P.underlying t=some (.int k)):Reads enc P w K B t (fun n=>[.int k n]) (fun _=>True):=fun fuel cs x h _=>by
 obtain ⟨n,rfl,_⟩:=DataW.trod_int ht h
 exact ⟨n,trivial,.cons (.int _ _) .nil⟩
omit [Drw] in
theorem Reads.str (hK:Bulk K) (ht:P.underlying t=some .string):Reads enc P w K B t (fun s=>[.str s]) (fun s=>s.size≤B):=fun fuel cs x h hw=>by
 obtain ⟨s,rfl,rfl,_⟩:=DataW.trod_string ht h
 refine ⟨s,?_,.cons (.str _) .nil⟩
 have:=hK.str s.data.toList
 have e:s.data.toList.length=s.size:=Array.length_toList
 dsimp only at hw
 omega
omit [Drw] in
theorem Reads.map {α β:Type} {g:α→List V} {ok:α→Prop} {g':β→List V} {ok':β→Prop} (h:Reads enc P w K B t g ok) (f:α→β) (hg:∀ a,g' (f a)=g a) (hok:∀ a,ok a→ok' (f a)):Reads enc P w K B t g' ok':=fun fuel cs x k hw=>by
 obtain ⟨a,h1,h2⟩:=h fuel cs x k hw
 exact ⟨f a,hok a h1,by rw [hg]; exact h2⟩
omit [Drw] in
theorem pick {α:Type} {Q:Nat→α→Prop}:∀ n:Nat,(∀ i,i < n→∃ a,Q i a)→∃ xs:List α,xs.length=n∧∀ i (h:i < xs.length),Q i xs[i]
 | 0,_=>⟨[],rfl,fun i h=>by simp at h⟩
 | n+1,h=>by
   obtain ⟨xs,hl,hx⟩:=pick n fun i hi=>h i (by omega)
   obtain ⟨a,ha⟩:=h n (by omega)
   refine ⟨xs++[a],by simp [hl],fun i hi=>?_⟩
   by_cases he:i < xs.length
   ·rw [List.getElem_append_left he]; exact hx i he
   ·have:i=n:=by simp at hi; omega
    subst this
    rw [List.getElem_append_right (by omega)]
    simpa using ha
omit [Drw] in
theorem spot_none {w:World} {a:Addr} {v:Value} (h:w.cell? a=some v):a=⟨a.block,a.off,none⟩:=by
 unfold World.cell? at h
 obtain ⟨b,o,s⟩:=a
 cases s with
 | none=>rfl
 | some s =>
   dsimp only at h
   split at h
   ·simp at h
   ·cases h
omit [Drw] in
theorem Reads.slice (hK:Bulk K) {e:TypeId} {α:Type} {g:α→List V} {ok:α→Prop} (ht:P.underlying t=some (.slice e)) (he:Reads enc P w K B e g ok) (hlen:∀ a,(g a).length=P.cellsOf e) (hpos:0 < P.cellsOf e) :
  Reads enc P w K B t (fun xs:List α=>[.slice .no (xs.map g)]) (fun xs=>xs.length≤B∧∀ a∈xs,ok a):=fun fuel cs x h hw=>by
 rcases DataW.trod_slice ht h with ⟨rfl,rfl⟩ | ⟨a,len,cap,elems,rest,n,rfl,rfl,rfl,_,hlc,_,hel,hcell,hspare,_⟩
 ·exact ⟨[],⟨Nat.zero_le _,fun a ha=>by cases ha⟩,.cons (.nilSlice _ _) .nil⟩
 obtain ⟨hr,hrest⟩:=hspare rfl
 dsimp only at hw
 have hlB:len≤B:=by
  have:=hK.len (elems.map (·.1)) (rest.map (·.1))
  rw [List.length_map] at this
  omega
 have key:∀ i,i < len→∃ y,ok y∧∃ cs',w.cells? 0 (a.add (i * P.cellsOf e)) (P.cellsOf e)=some cs'∧Iss (allF w) w (g y) cs':=fun i hi=>by
  have h1:=hcell i hi
  rw [List.getElem?_eq_getElem (by omega)] at h1
  obtain ⟨cs',h2,h3⟩:=Option.bind_eq_some_iff.1 h1
  obtain ⟨y,h4,h5⟩:=he _ _ _ h3 (Nat.le_trans (hK.elem _ _ _ (List.mem_map.2 ⟨_,List.getElem_mem _,rfl⟩)) hw)
  exact ⟨y,h4,cs',h2,h5⟩
 obtain ⟨xs,hxl,hx⟩:=pick len key
 subst hxl
 refine ⟨xs,⟨hlB,fun y hy=>?_⟩,.cons ?_ .nil⟩
 ·obtain ⟨i,hi,rfl⟩:=List.mem_iff_getElem.1 hy
  exact (hx i hi).1
 by_cases hc0:cap=0
 ·subst hc0
  have:xs=[]:=List.length_eq_zero_iff.1 (by omega)
  subst this
  exact .nilSlice _ _
 have hsp:a=⟨a.block,a.off,none⟩:=by
  have h0:∃ cs',w.cells? 0 (a.add 0) (P.cellsOf e)=some cs':=by
   by_cases hl0:xs.length=0
   ·have h1:=hrest 0 (by omega)
    rw [List.getElem?_eq_getElem (by omega)] at h1
    obtain ⟨cs',h2,_⟩:=Option.bind_eq_some_iff.1 h1
    rw [hl0,Nat.zero_add,Nat.zero_mul] at h2
    exact ⟨_,h2⟩
   ·obtain ⟨_,cs',h2,_⟩:=hx 0 (by omega)
    rw [Nat.zero_mul] at h2
    exact ⟨_,h2⟩
  obtain ⟨cs',h1⟩:=h0
  obtain ⟨_,h2,h3⟩:=World.cells?_some h1
  have h4:=h3 0 hpos
  rw [List.getElem?_eq_getElem (by omega)] at h4
  have e0:∀ a:Addr,a.add 0=a:=fun a=>by simp [Addr.add]
  rw [e0,e0] at h4
  exact spot_none h4
 generalize a.block=b at hsp
 generalize a.off=off at hsp
 subst hsp
 have hl2:(xs.map g).length=xs.length:=List.length_map _
 rw [← hl2]
 have hcell2:∀ i (h:i < xs.length) k,k < P.cellsOf e→∃ u,w.cell? ⟨b,off+i * P.cellsOf e+k,none⟩=some u∧∃ (h':k < (g xs[i]).length),Is (allF w) w (g xs[i])[k] u:=fun i h k hk=>by
  obtain ⟨_,cs',h1,h2⟩:=hx i h
  obtain ⟨_,h3,h4⟩:=World.cells?_some h1
  have h5:=h4 k hk
  simp only [Am.Addr.add_eq] at h5
  rw [h5]
  have hk':k < cs'.length:=by omega
  have hk2:k < (g xs[i]).length:=by rw [hlen]; exact hk
  refine ⟨cs'[k],List.getElem?_eq_getElem hk',hk2,?_⟩
  obtain ⟨u,e1,r⟩:=h2.get k (g xs[i])[k] (by simp [hk2])
  have:cs'[k]=u:=by rw [List.getElem?_eq_getElem hk'] at e1; exact Option.some.inj e1
  rw [this]; exact r
 refine Is.slice (off:=off) (sz:=P.cellsOf e) (fun i k=>(w.cell? ⟨b,off+i * P.cellsOf e+k,none⟩).getD undef) (fun i hi=>by simp [hlen]) (fun i hi k hk=>?_) (fun i hi k hk=>?_) (by rw [hl2]; exact hlc) (.inr rfl) trivial
 ·obtain ⟨u,e1,_⟩:=hcell2 i (by rw [← hl2]; exact hi) k hk
  exact ⟨⟨u,e1⟩,by rw [e1]; rfl⟩
 ·have hi':i < xs.length:=by rw [← hl2]; exact hi
  have hk2:k < P.cellsOf e:=by simpa [hlen] using hk
  obtain ⟨u,e1,hk',r⟩:=hcell2 i hi' k hk2
  have e2:((xs.map g)[i])[k]=(g xs[i])[k]:=by simp
  rw [e1,e2]; exact r
def RF {H:Type} (enc:TypeId×Value→H) (P:Program) (w:World) (K:DataW H→Nat) (B:Nat) (ts:List TypeId) {α:Type} (g:α→List V) (ok:α→Prop):Prop :=
 ∀ (n:Nat) (css:List (List Value)) (xs:List (DataW H×List MemPlace)),css.length=ts.length→xs.length=ts.length→(∀ i (h1:i < ts.length) (h2:i < css.length) (h3:i < xs.length),DataW.trod enc P w 0 (fun _=>true) true n ts[i] css[i]=some xs[i]) →
  (∀ x∈xs,K x.1≤B)→∃ a,ok a∧Iss (allF w) w (g a) css.flatten
omit [Drw] in
theorem RF.nil:RF enc P w K B [] (fun _:Unit=>[]) (fun _=>True):=fun n css xs h1 _ _ _=>by
 have:css=[]:=List.length_eq_zero_iff.1 h1
 subst this
 exact ⟨(),trivial,.nil⟩
omit [Drw] in
theorem RF.cons {ts:List TypeId} {α β:Type} {g:α→List V} {ok:α→Prop} {g':β→List V} {ok':β→Prop} (h:Reads enc P w K B t g ok) (k:RF enc P w K B ts g' ok'):RF enc P w K B (t::ts) (fun p:α×β=>g p.1++g' p.2) (fun p=>ok p.1∧ok' p.2):=fun n css xs h1 h2 h3 hw=>by
 cases css with
 | nil=>simp at h1
 | cons c css =>
   cases xs with
   | nil=>simp at h2
   | cons x xs =>
     obtain ⟨a,a1,a2⟩:=h n c x (h3 0 (by simp) (by simp) (by simp)) (hw x (List.mem_cons_self ..))
     obtain ⟨b,b1,b2⟩:=k n css xs (by simpa using h1) (by simpa using h2) (fun i k1 k2 k3=>h3 (i+1) (by simpa using k1) (by simpa using k2) (by simpa using k3)) (fun y hy=>hw y (List.mem_cons_of_mem _ hy))
     exact ⟨(a,b),⟨a1,b1⟩,by rw [List.flatten_cons]; exact All2.append a2 b2⟩
def contigB (P:Program):Nat→List Field→Nat→Bool
 | o,[],tot=>Nat.beq o tot
 | o,f::r,tot=>Nat.beq f.offset o && contigB P (o+P.cellsOf f.type) r tot
omit [Drw] in
theorem zDK {tot:Nat} {cs:List Value} (hc:cs.length=tot):∀ (fs:List Field) (o:Nat),contigB P o fs tot=true→o≤tot∧(fs.map fun f=>(cs.drop f.offset).take (P.cellsOf f.type)).flatten=cs.drop o
 | [],o,h=>by
   have:o=tot:=Nat.eq_of_beq_eq_true h
   subst this
   exact ⟨Nat.le_refl _,by rw [List.drop_eq_nil_of_le (by omega)]; rfl⟩
 | f::r,o,h=>by
   simp only [contigB,Bool.and_eq_true] at h
   obtain ⟨h1,h2⟩:=h
   have e1:f.offset=o:=Nat.eq_of_beq_eq_true h1
   obtain ⟨h3,h4⟩:=zDK hc r _ h2
   refine ⟨by omega,?_⟩
   rw [List.map_cons,List.flatten_cons,h4,e1]
   have:=List.take_append_drop (P.cellsOf f.type) (cs.drop o)
   rw [List.drop_drop] at this
   exact this
omit [Drw] in
theorem Reads.struct (hK:Bulk K) {fs:Array Field} {ts:List TypeId} {α:Type} {g:α→List V} {ok:α→Prop} (ht:P.underlying t=some (.struct fs)) (hts:fs.toList.map (·.type)=ts) (hc:contigB P 0 fs.toList (P.cellsOf t)=true) (h:RF enc P w K B ts g ok):Reads enc P w K B t g ok:=fun fuel cs x hx hw=>by
 obtain ⟨xs,n,rfl,rfl,hl,hxl,hf⟩:=DataW.trod_struct ht hx
 have hfl:=(zDK (P:=P) (cs:=cs) hl fs.toList 0 hc).2
 rw [List.drop_zero] at hfl
 subst hts
 dsimp only at hw
 obtain ⟨a,h1,h2⟩:=h n (fs.toList.map fun f=>(cs.drop f.offset).take (P.cellsOf f.type)) xs (by simp) (by simpa using hxl) (fun i k1 k2 k3=>by
  have hi:i < fs.size:=by simpa using k1
  have:=hf i fs[i] (by simp [hi])
  rw [List.getElem?_eq_getElem k3] at this
  simpa using this) fun y hy=>Nat.le_trans (hK.part _ _ (List.mem_map.2 ⟨y,hy,rfl⟩)) hw
 exact ⟨a,h1,by rw [hfl] at h2; exact h2⟩
end
end Go.Vw
