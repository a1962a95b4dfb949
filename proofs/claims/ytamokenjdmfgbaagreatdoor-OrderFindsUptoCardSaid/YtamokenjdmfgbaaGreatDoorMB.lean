/- An abstract machine over a clean heap, proved sound against the model, second half; no condition. -/
import Derived.Test.YtamokenjdmfgbaaGreatDoorMA
import Derived.Laws.Tables
import Derived.Laws.BitsLemmas
import Derived.Laws.StructEq
import Derived.ChangeKeysEq
import Derived.Laws.AppendOwn
import Derived.OrdersIn
import Derived.RangeFuncLeaves
import Derived.RecoverIn
import Derived.LoopNIn
import Derived.Shelf.Strings.SlTrimAscii
import Derived.Shelf.Strings.Search3
namespace Go.Am
open Go.RowKit
theorem All2.of_get? {α β:Type} {R:α→β→Prop} {l:List α} {m:List β} (hl:l.length=m.length) (h:∀ (k:Nat) a,l[k]?=some a→∃ b,m[k]?=some b∧R a b):All2 R l m :=
 All2.of_get hl fun i hi hj=>by
  obtain ⟨b,e,r⟩:=h i l[i] (by simp)
  have:b=m[i]:=by rw [List.getElem?_eq_getElem hj] at e; exact (Option.some.inj e).symm
  exact this ▸ r
theorem zCO (off:Nat):∀ (vs:List Value) (k:Nat) (c:Array Value),(vs.zipIdx k).foldl (fun cs (p:Value×Nat)=>cs.setIfInBounds (off+p.2) p.1) c=wN (off+k) vs c
 | [],_,_=>rfl
 | v::vs,k,c=>by
   simp only [List.zipIdx_cons,List.foldl_cons,wN]
   rw [zCO off vs (k+1)]
   rfl
section
variable {ρ:Ren}
theorem lay_sound {off:Nat} {vs vs' c cl:List Value} {c':Array Value} (h:lay off vs c=some cl) (hv:VRs ρ vs vs') (hc:VRs ρ c c'.toList):VRs ρ cl (wN off vs' c').toList:=by
 obtain ⟨h1,h2,h3⟩:=zAF off vs c cl h
 have hl:=hv.length
 have hcl:=hc.length
 have hcs:c.length=c'.size:=by simpa using hcl
 refine All2.of_get? (by simp [wW,h1,hcs]) fun k a hk=>?_
 rw [h3 k] at hk
 have hkc:k < c.length:=by
  by_cases hin:off≤k∧k < off+vs.length
  ·have hne:vs≠[]:=by intro h0; subst h0; simp at hin; omega
   have:=h2 hne
   omega
  ·rw [if_neg hin] at hk
   exact (List.getElem?_eq_some_iff.1 hk).1
 rw [Array.getElem?_toList,wm]
 by_cases hin:off≤k∧k < off+vs.length
 ·rw [if_pos hin] at hk
  rw [if_pos ⟨hin.1,by omega,by omega⟩]
  exact hv.get _ _ hk
 ·rw [if_neg hin] at hk
  rw [if_neg (by omega)]
  obtain ⟨b,e,r⟩:=hc.get _ _ hk
  exact ⟨b,by simpa using e,r⟩
theorem vc {place place':Nat→Option (Nat×Nat)} (hp:∀ i x,place i=some x→place' i=some x):∀ (parts parts':List (Nat×Value)) (cells:List Value) (cells':Array Value) (c:List Value),
  VRs ρ cells cells'.toList→All2 (fun a b=>b.1=a.1∧VR ρ a.2 b.2) parts parts'→fillP place cells parts=some c→∃ c',Instr.fill place' cells' parts'=some c'∧VRs ρ c c'.toList
 | [],_,cells,cells',c,hc,.nil,e=>by
   cases e
   exact ⟨cells',rfl,hc⟩
 | (i,v)::parts,(i',v')::parts',cells,cells',c,hc,.cons ⟨h1,h2⟩ hr,e=>by
   simp only at h1
   subst h1
   unfold fillP at e
   cases hpl:place i' with
   | none=>rw [hpl] at e; cases e
   | some x =>
     obtain ⟨off,size⟩:=x
     rw [hpl] at e
     simp only at e
     cases hb:(Nat.beq (cellsOf v).length size && solid v && Nat.blt 0 size)
     ·rw [hb] at e; cases e
     ·rw [hb] at e
      simp only [cond_true] at e
      simp only [Bool.and_eq_true] at hb
      obtain ⟨⟨hb1,hb2⟩,hb3⟩:=hb
      have hsz:(cellsOf v).length=size:=Nat.eq_of_beq_eq_true hb1
      have hpos:0 < size:=by rw [Nat.blt_eq] at hb3; exact hb3
      cases hl:lay off (cellsOf v) cells with
      | none=>rw [hl] at e; cases e
      | some c1 =>
        rw [hl] at e
        have hvc:=vZ h2 hb2
        have hvl:v'.cells.size=size:=by rw [← hsz,hvc.length]; simp
        have hlen:=(zAF _ _ _ _ hl).2.1 (by intro h0; rw [h0] at hsz; simp at hsz; omega)
        have hcl:cells.length=cells'.size:=by simpa using hc.length
        obtain ⟨c',e1,e2⟩:=vc hp parts parts' c1 (wN off v'.cells.toList cells') c (lay_sound hl hvc hc) hr e
        refine ⟨c',?_,e2⟩
        simp only [Instr.fill,hp _ _ hpl]
        rw [if_neg (by simp [hvl]; omega)]
        rw [← e1]
        congr 1
        rw [← Array.foldl_toList,Array.toList_zipIdx]
        have:=zCO off v'.cells.toList 0 cells'
        rw [Nat.add_zero] at this
        exact this
theorem no_map {α:Type} (f:Nat→α):((Array.range 0).map f).toList=[]:=by simp
theorem rep_get:∀ (m:Nat) (z:List Value),(rep m z).length=m * z.length∧∀ k a,(rep m z)[k]?=some a→z[k % z.length]?=some a
 | 0,z=>by simp [rep]
 | m+1,z=>by
   obtain ⟨h1,h2⟩:=rep_get m z
   refine ⟨by simp only [rep,List.length_append,h1]; rw [Nat.succ_mul,Nat.add_comm],fun k a hk=>?_⟩
   simp only [rep] at hk
   by_cases hlt:k < z.length
   ·rw [List.getElem?_append_left hlt] at hk
    rw [Nat.mod_eq_of_lt hlt]; exact hk
   ·rw [List.getElem?_append_right (by omega)] at hk
    rw [Nat.mod_eq_sub_mod (by omega)]
    exact h2 _ _ hk
theorem rep_sound {z:List Value} {z':Array Value} {m n:Nat} (hz:VRs ρ z z'.toList) (hn:z.length=n):VRs ρ (rep m z) ((Array.range (m * n)).map (fun k=>z'[k % z'.size]!)).toList:=by
 obtain ⟨h1,h2⟩:=rep_get m z
 have hs:z'.size=n:=by rw [← hn,hz.length]; simp
 refine All2.of_get? (by simp [h1,hn]) fun k a hk=>?_
 have hkl:k < m * n:=by
  have:=(List.getElem?_eq_some_iff.1 hk).1
  rw [h1,hn] at this; exact this
 have h3:=h2 k a hk
 obtain ⟨b,e,r⟩:=hz.get _ _ h3
 refine ⟨b,?_,r⟩
 have e':z'[k % n]?=some b:=by rw [hn] at e; simpa using e
 obtain ⟨hlt,hb⟩:=Array.getElem?_eq_some_iff.1 e'
 simp only [Array.getElem?_toList,Array.getElem?_map,hs]
 rw [Array.getElem?_eq_getElem (by simpa using hkl)]
 simp only [Array.getElem_range,Option.map_some,Option.some.injEq]
 rw [getElem!_pos z' (k % n) hlt,hb]
theorem ur {va vb:Operand→Value} (hv:∀ x,VR ρ (va x) (vb x)) (parts:Array (Nat×Operand)) :
  All2 (fun (a b:Nat×Value)=>b.1=a.1∧VR ρ a.2 b.2) (parts.toList.map fun (i,x)=>(i,va x)) (parts.map fun (i,x)=>(i,vb x)).toList:=by
 rw [Array.toList_map]
 exact All2.same (fun a=>⟨rfl,hv a.2⟩) parts.toList
end
section
variable {tb:Tab} {P:Program} {B:Nat} {w₀:World} {ρ:Ren} {H:AH} {w:World} {va vb:Operand→Value} {o:Oper} {nx:ANext} {H':AH}
def Makes (tb:Tab) (P:Program) (ρ:Ren) (w:World) (r:Sem Next) (obj:AObj) (mk:Nat→Value):Prop :=
 ∃ (o':Obj) (mk':Nat→Value) (x:Nat×Nat),r.run P w = .ok (.value (mk' w.heap.size)) (w.alloc o')∧OR ρ obj 0 o'∧(∀ c e fr,o' = .cells c e fr→c.size=x.1) ∧
  (∀ c e ro,obj = .cells c e ro→tb.size e=some x.2)∧∀ (σ:Ren) i,σ i=some (w.heap.size,0)→VR σ (mk i) (mk' w.heap.size)
theorem Makes.cells {r:Sem Next} {c:List Value} {c':Array Value} {e:TypeId} {n:Nat} {mk:Nat→Value} {mk':Nat→Value} (hr:r.run P w = .ok (.value (mk' w.heap.size)) (w.alloc (.cells c' e))) (hc:VRs ρ c c'.toList) (hs:tb.size e=some n)
  (hm:∀ (σ:Ren) i,σ i=some (w.heap.size,0)→VR σ (mk i) (mk' w.heap.size)):Makes tb P ρ w r (.cells c e false) mk :=
 ⟨_,mk',(c'.size,n),hr,OR.row hc e e,fun c e fr hx=>by cases hx; rfl,fun c e ro hx=>by cases hx; exact hs,hm⟩
theorem zCy (σ:Ren) (b i:Nat) (h:σ i=some (b,0)):VR σ (ptrTo i) (ptrTo b):=.ptr (s:=0) (off:=0) h
theorem vV (l c:Nat) (σ:Ren) (b i:Nat) (h:σ i=some (b,0)):VR σ (vy l c i) (vy l c b):=.slice (s:=0) (off:=0) h (Nat.le_refl _) (.inr rfl) (.inl rfl)
theorem zCz (hT:TabOk tb P) (hv:∀ x,VR ρ (va x) (vb x)) {obj:AObj} {mk:Nat→Value} (e:wj tb va o=some (obj,mk)):Makes tb P ρ w (execOp vb o) obj mk:=by
 unfold wj at e
 split at e
 ·next t ho =>
  split at e
  ·next c hc =>
   cases e
   obtain ⟨n,hn⟩:=size_of_cells hc
   obtain ⟨z,hz,hcz,_⟩:=zDd (P:=P) hT hc w ρ
   refine Makes.cells (mk':=ptrTo) ?_ hcz hn (fun σ i hi=>zCy σ _ i hi)
   simp only [execOp,ho,Instr.alloc,Sem.run_bind,hz,uU,Sem.run_pure,Result.andThen]
   rfl
  ·cases e
 ·next t x ho =>
  split at e
  ·next n hn =>
   cases ha:yo (cellsOf (va x))
   ·rw [ha] at e; cases e
   ·rw [ha] at e
    cases e
    refine Makes.cells (mk':=ptrTo) ?_ (cells_of (hv x) ha) hn (fun σ i hi=>zCy σ _ i hi)
    simp only [execOp,ho,Instr.box,Sem.run_bind,uU,Sem.run_pure,Result.andThen]
    rfl
  ·cases e
 ·next t l parts ho =>
  split at e
  ·next el hu =>
   split at e
   ·next n z hn hz =>
    cases hb:(Nat.beq (cellsOf z).length n && solid z && Nat.blt (l * n) 16777216)
    ·rw [hb] at e; cases e
    ·rw [hb] at e
     simp only [cond_true] at e
     simp only [Bool.and_eq_true] at hb
     obtain ⟨⟨hb1,hb2⟩,hb3⟩:=hb
     have hzn:(cellsOf z).length=n:=Nat.eq_of_beq_eq_true hb1
     have hlt:l * n < 16777216:=by rw [Nat.blt_eq] at hb3; exact hb3
     split at e
     ·next c hf =>
      cases e
      obtain ⟨z',rz,hvz⟩:=zBX (P:=P) hT hz w ρ
      have hcz:=vZ hvz hb2
      by_cases h0:l * n=0
      ·obtain ⟨c',f1,f2⟩:=vc (ρ:=ρ) (place':=fun i=>some (i * n,n)) (fun i x h=>h) _ _ _ ((Array.range (l * n)).map (fun k=>(#[]:Array Value)[k % (#[]:Array Value).size]!)) _
        (by have:=(rep_get l (cellsOf z)).1; rw [hzn,h0] at this; rw [List.length_eq_zero_iff.1 this,h0,no_map]; exact .nil) (ur hv parts) hf
       refine Makes.cells (mk':=vy l l) ?_ f2 hn (fun σ i hi=>vV l l σ _ i hi)
       simp only [execOp,ho,Instr.buildSlice,Sem.run_bind,zF hT hu,run_size hT hn,Sem.run_pure,Result.andThen,if_pos h0]
       rw [if_neg (by omega)]
       simp only [Sem.run_bind,Sem.run_pure,Result.andThen,f1,xd]
       rfl
      ·obtain ⟨c',f1,f2⟩:=vc (ρ:=ρ) (place':=fun i=>some (i * n,n)) (fun i x h=>h) _ _ _ _ _ (rep_sound (m:=l) hcz hzn) (ur hv parts) hf
       refine Makes.cells (mk':=vy l l) ?_ f2 hn (fun σ i hi=>vV l l σ _ i hi)
       simp only [execOp,ho,Instr.buildSlice,Sem.run_bind,zF hT hu,run_size hT hn,Sem.run_pure,Result.andThen,if_neg h0]
       rw [if_neg (by omega)]
       simp only [Sem.run_bind,Sem.run_pure,Result.andThen,rz,f1,xd]
       rfl
     ·cases e
   ·cases e
  ·cases e
 ·next t r ho =>
  split at e
  ·cases e
   exact ⟨.map #[] 0,mapTo,(0,0),by simp only [execOp,ho,Instr.makeMap,newObj,Option.map,Sem.run_bind,Sem.run]; rfl,⟨rfl,rfl,.nil⟩,fun c e fr hx=>(by cases hx),fun c e ro hx=>(by cases hx),fun σ i hi=>.map hi⟩
  ·cases e
 ·next t lo co ho =>
  split at e
  ·next el l c hu hl hc =>
   split at e
   ·next z n hz hn =>
    cases hb:(Nat.ble l c && Nat.blt c 65536 && yf tb el && Nat.beq (cellsOf z).length n && solid z)
    ·rw [hb] at e; cases e
    ·rw [hb] at e
     cases e
     simp only [Bool.and_eq_true] at hb
     obtain ⟨⟨⟨⟨hb1,hb2⟩,hb3⟩,hb4⟩,hb5⟩:=hb
     have hlc:l≤c:=Nat.le_of_ble_eq_true hb1
     have hc6:c < 65536:=by rw [Nat.blt_eq] at hb2; exact hb2
     have hzn:(cellsOf z).length=n:=Nat.eq_of_beq_eq_true hb4
     obtain ⟨kl,_,el'⟩:=vD (hv lo) hl
     obtain ⟨kc,_,ec'⟩:=vD (hv co) hc
     unfold yf at hb3
     cases hi:tb.info el with
     | none=>rw [hi] at hb3; cases hb3
     | some info =>
       rw [hi] at hb3
       have hby:info.bytes < 1048576:=by simp only [Nat.blt_eq] at hb3; exact hb3
       obtain ⟨z',rz,hvz⟩:=zBX (P:=P) hT hz w ρ
       have hcz:=vZ hvz hb5
       have wr:∀ m:Nat,m < 65536→IntKind.i64.wrap (Int.ofNat m)=(m:Int):=fun m hm=>by
        rw [IntKind.wrap_i64]; simp only [Int.ofNat_eq_natCast]; omega
       have hmul:info.bytes * c≤281474976710656:=by
        have:info.bytes * c≤1048576 * 65536:=Nat.mul_le_mul (by omega) (by omega)
        omega
       have hneg:¬ ((c:Int) < 0):=by omega
       have htoo:¬ ((info.bytes:Int) * (c:Int) > 2 ^ 48):=by
        have h5:=Int.ofNat_le.2 hmul
        rw [Int.natCast_mul] at h5
        omega
       have hgo:(decide ((c:Int) < 0) || decide ((info.bytes:Int) * (c:Int) > 2 ^ 48) || decide ((l:Int) < 0) || decide ((l:Int) > (c:Int)))=false:=by
        rw [decide_eq_false hneg,decide_eq_false htoo,decide_eq_false (by omega:¬ ((l:Int) < 0)),decide_eq_false (by omega:¬ ((l:Int) > (c:Int)))]
        rfl
       have hmark:∀ (k:Nat),(askRoom k).run P w = .ok () w:=fun k=>by
        unfold askRoom; split <;> rfl
       by_cases h0:c * n=0
       ·refine Makes.cells (mk':=vy l c) (c':=(Array.range (c * n)).map (fun k=>(#[]:Array Value)[k % (#[]:Array Value).size]!)) ?_ ?_ hn (fun σ i hi=>vV l c σ _ i hi)
        ·simp only [execOp,ho,Instr.makeSlice,asInt,asIntOf,el',ec',Sem.run_bind,zF hT hu,run_typeInfo hT hi,Sem.run_pure,Result.andThen,wr l (by omega),wr c hc6]
         rw [if_neg (by rw [hgo]; decide)]
         simp only [Sem.run_bind,Int.toNat_natCast,hmark,run_size hT hn,Sem.run_pure,Result.andThen,if_pos h0,xd]
         rfl
        ·have:=(rep_get c (cellsOf z)).1; rw [hzn,h0] at this; rw [List.length_eq_zero_iff.1 this,h0,no_map]; exact .nil
       ·refine Makes.cells (mk':=vy l c) ?_ (rep_sound (m:=c) hcz hzn) hn (fun σ i hi=>vV l c σ _ i hi)
        simp only [execOp,ho,Instr.makeSlice,asInt,asIntOf,el',ec',Sem.run_bind,zF hT hu,run_typeInfo hT hi,Sem.run_pure,Result.andThen,wr l (by omega),wr c hc6]
        rw [if_neg (by rw [hgo]; decide)]
        simp only [Sem.run_bind,Int.toNat_natCast,hmark,run_size hT hn,Sem.run_pure,Result.andThen,if_neg h0,rz,xd]
        rfl
   ·cases e
  ·cases e
 ·cases e
theorem vd (hT:TabOk tb P) (h:SR tb B w₀ ρ H w) (hv:∀ x,VR ρ (va x) (vb x)) (e:zAd tb va o H=some (nx,H')):OpOK tb P B w₀ ρ H w (execOp vb o) nx H':=by
 unfold zAd at e
 split at e
 ·next obj mk ha =>
  split at e
  ·next i H2 hal =>
   simp only [Option.some.injEq,Prod.mk.injEq] at e
   obtain ⟨rfl,rfl⟩:=e
   obtain ⟨o',mk',x,hr,ho,h1,h2,hm⟩:=zCz (w:=w) hT hv ha
   obtain ⟨h3,k3⟩:=h.alloc hal ho h1 h2
   exact ⟨_,_,k3,h3,_,hr,hm _ _ (Ren.put_same _ _ _ _)⟩
  ·cases e
 ·cases e
theorem claim_sound (hT:TabOk tb P) (h:SR tb B w₀ ρ H w) (hv:∀ x,VR ρ (va x) (vb x)) {obj:AObj} {mk:Nat→Value} (e:wj tb va o=some (obj,mk)) {i:Nat} (hn:ρ i=none) (hi:i < H.next) (hg:H.get i=some obj) :
  ∃ r u w',SR tb B w₀ (ρ.put i (w.heap.size,0) r) H w'∧ρ.le (ρ.put i (w.heap.size,0) r)∧(execOp vb o).run P w = .ok (.value u) w'∧VR (ρ.put i (w.heap.size,0) r) (mk i) u:=by
 obtain ⟨o',mk',x,hr,ho,h1,h2,hm⟩:=zCz (w:=w) hT hv e
 obtain ⟨h3,k3⟩:=h.claim hn hi hg ho h1 h2
 exact ⟨x,_,_,h3,k3,hr,hm _ _ (Ren.put_same _ _ _ _)⟩
end
end Go.Am
namespace Go.Am
open Go.RowKit
section
variable {tb:Tab} {P:Program} {B:Nat} {w₀:World} {ρ:Ren} {H:AH} {w:World} {va vb:Operand→Value} {o:Oper} {nx:ANext} {H':AH}
theorem zC0 (hT:TabOk tb P) {eq:TypeId→Value→Value→Option Bool} {m:Nat} (ih:∀ t x y b,eq t x y=some b→∀ x' y',VR ρ x x'→VR ρ y y'→(Op.equalIn m t x' y').run P w = .ok b w)
  {xs ys : List Value} {xs' ys' : Array Value} (hx : VRs ρ xs xs'.toList) (hy : VRs ρ ys ys'.toList) : ∀ (fs : List Field) (b : Bool), (∀ f ∈ fs, f.name ≠ "_") → eqAll tb eq fs xs ys = some b → (Op.eqFields m xs' ys' fs).run P w = .ok b w
 | [],b,_,e=>by cases e; rfl
 | f::fs,b,hn,e=>by
   unfold eqAll at e
   split at e
   ·next x y h1 h2 =>
    obtain ⟨x',r1,v1⟩:=xN (P:=P) (w:=w) hT hx h1
    obtain ⟨y',r2,v2⟩:=xN (P:=P) (w:=w) hT hy h2
    unfold Op.eqFields
    rw [if_pos (hn f (by simp))]
    split at e
    ·next h3 =>
     simp only [Sem.run_bind,r1,r2,ih _ _ _ _ h3 _ _ v1 v2,Result.andThen]
     exact zC0 hT ih hx hy fs b (fun g hg=>hn g (by simp [hg])) e
    ·next h3 =>
     cases e
     simp only [Sem.run_bind,r1,r2,ih _ _ _ _ h3 _ _ v1 v2,Result.andThen]
     rfl
    ·cases e
   ·cases e
theorem zC1 (hT:TabOk tb P) {eq:Value→Value→Option Bool} {m:Nat} {t:TypeId} {n:Nat} (ih:∀ x y b,eq x y=some b→∀ x' y',VR ρ x x'→VR ρ y y'→(Op.equalIn m t x' y').run P w = .ok b w)
  {xs ys:List Value} {xs' ys':Array Value} (hx:VRs ρ xs xs'.toList) (hy:VRs ρ ys ys'.toList):∀ (c i:Nat) (b:Bool),eqRow tb eq t n c i xs ys=some b→(Op.eqItems m t n xs' ys' (List.range' i c)).run P w = .ok b w
 | 0,i,b,e=>by cases e; rfl
 | c+1,i,b,e=>by
   unfold eqRow at e
   split at e
   ·next x y h1 h2 =>
    obtain ⟨x',r1,v1⟩:=xN (P:=P) (w:=w) hT hx h1
    obtain ⟨y',r2,v2⟩:=xN (P:=P) (w:=w) hT hy h2
    rw [List.range'_succ]
    unfold Op.eqItems
    split at e
    ·next h3 =>
     simp only [Sem.run_bind,r1,r2,ih _ _ _ h3 _ _ v1 v2,Result.andThen]
     exact zC1 hT ih hx hy c (i+1) b e
    ·next h3 =>
     cases e
     simp only [Sem.run_bind,r1,r2,ih _ _ _ h3 _ _ v1 v2,Result.andThen]
     rfl
    ·cases e
   ·cases e
theorem uM (a b:ByteArray):eqB (bytes a) (bytes b)=(a == b):=by
 rw [eqB_eq,beq_toListBytes,ByteArray.toList_eq,ByteArray.toList_eq]; rfl
theorem v7 (hT:TabOk tb P):∀ (d:Nat) (t:TypeId) (x y:Value) (b:Bool),wi tb d t x y=some b→∀ x' y',VR ρ x x'→VR ρ y y'→∀ n,d≤n→(Op.equalIn n t x' y').run P w = .ok b w
 | 0,_,_,_,_,e,_,_,_,_,_,_=>by cases e
 | d+1,t,x,y,b,e,x',y',hx,hy,n,hn=>by
   obtain ⟨m,rfl⟩:∃ m,n=m+1:=⟨n - 1,by omega⟩
   have ih:=fun t x y b e x' y' hx hy=>v7 hT d t x y b e x' y' hx hy m (by omega)
   unfold wi at e
   split at e
   case h_1 a c hu=>cases e; cases hx; cases hy; simp only [Op.equalIn,Sem.run_bind,zF hT hu,Result.andThen]; rfl
   case h_2 k k' a k2 c hu =>
    cases hx; cases hy
    cases hk:decide (k'=k2)
    ·rw [hk] at e; cases e
    ·rw [hk] at e; cases e
     simp only [Op.equalIn,Sem.run_bind,zF hT hu,Result.andThen,if_pos (of_decide_eq_true hk)]; rfl
   case h_3 a c hu=>cases e; cases hx; cases hy; rw [uM]; simp only [Op.equalIn,Sem.run_bind,zF hT hu,Result.andThen]; rfl
   case h_4=>cases e; cases hx; rename_i hu; cases hy <;> (simp only [Op.equalIn,Sem.run_bind,zF hT hu,Result.andThen]; rfl)
   case h_5=>cases e; rename_i hu; cases hx; cases hy; simp only [Op.equalIn,Sem.run_bind,zF hT hu,Result.andThen]; rfl
   case h_6=>cases e; rename_i hu; cases hx; cases hy; simp only [Op.equalIn,Sem.run_bind,zF hT hu,Result.andThen]; rfl
   case h_7=>cases e; rename_i hu; cases hx; cases hy; simp only [Op.equalIn,Sem.run_bind,zF hT hu,Result.andThen]; rfl
   case h_8=>cases e; rename_i hu; cases hx; cases hy; simp only [Op.equalIn,Sem.run_bind,zF hT hu,Result.andThen]; rfl
   case h_9 ms a v c u hu =>
    cases hx with
    | iface _ hv =>
      cases hy with
      | iface _ hw =>
        cases hk:Nat.beq a c
        ·rw [hk] at e; cases e
         have hne:a≠c:=fun h=>by subst h; rw [Nat.beq_refl] at hk; cases hk
         simp only [Op.equalIn,Sem.run_bind,zF hT hu,Result.andThen,if_pos hne]; rfl
        ·rw [hk] at e
         have he:a=c:=Nat.eq_of_beq_eq_true hk
         subst he
         simp only [cond_true] at e
         split at e
         ·next i hi =>
          cases hc:i.comparable
          ·rw [hc] at e; cases e
          ·rw [hc] at e
           have h3:=ih _ _ _ _ e _ _ hv hw
           simp only [Op.equalIn,Sem.run_bind,zF hT hu,Result.andThen,ne_eq,not_true_eq_false,if_false,run_typeInfo hT hi,hc,Bool.not_true,Bool.false_eq_true,h3]
         ·cases e
   case h_10=>cases e; rename_i hu; cases hx; cases hy <;> (simp only [Op.equalIn,Sem.run_bind,zF hT hu,Result.andThen]; rfl)
   case h_11=>cases e; rename_i hu; cases hx; cases hy; simp only [Op.equalIn,Sem.run_bind,zF hT hu,Result.andThen]; rfl
   case h_12=>cases e; rename_i hu; cases hx; cases hy <;> (simp only [Op.equalIn,Sem.run_bind,zF hT hu,Result.andThen]; rfl)
   case h_13=>cases e; rename_i hu; cases hx; cases hy; simp only [Op.equalIn,Sem.run_bind,zF hT hu,Result.andThen]; rfl
   case h_14=>cases e; rename_i hu; cases hx; cases hy; simp only [Op.equalIn,Sem.run_bind,zF hT hu,Result.andThen]; rfl
   case h_15=>cases e; rename_i hu; cases hx; cases hy <;> (simp only [Op.equalIn,Sem.run_bind,zF hT hu,Result.andThen]; rfl)
   case h_16=>cases e; rename_i hu; cases hy; cases hx <;> (simp only [Op.equalIn,Sem.run_bind,zF hT hu,Result.andThen]; rfl)
   case h_17 fs a c hu =>
    cases hq:tb.eqs t
    ·rw [hq] at e; cases e
    ·rw [hq] at e
     simp only [cond_true] at e
     obtain ⟨q1,q2⟩:=hT.eqs t hq
     have hu':=run_underlying hT hu
     have hf:P.fieldsOf t=fs:=by simp [Program.fieldsOf,hu']
     cases hx with
     | agg ha hk =>
       cases hy with
       | agg hb hj =>
         rw [run_equalIn_struct w m t _ _ (by rw [hf]; exact hu') q1,hf]
         exact zC0 hT ih (VRs.of_array ha hk) (VRs.of_array hb hj) _ _ (q2 fs hu') e
   case h_18 l el a c hu =>
    split at e
    ·next sz hs =>
     have hu':=run_underlying hT hu
     cases hi:tb.info el with
     | none=>unfold Tab.size at hs; rw [hi] at hs; cases hs
     | some i =>
       have hi':=hT.info el i hi
       have hsz:P.cellsOf el=sz:=by
        unfold Tab.size at hs; rw [hi] at hs
        simp only [Option.map_some,Option.some.injEq] at hs
        simp [Program.cellsOf,hi',hs]
       cases hx with
       | agg ha hk =>
         cases hy with
         | agg hb hj =>
           rw [run_equalIn_array w m _ _ hu' hi',hsz,List.range_eq_range']
           exact zC1 hT (fun x y b=>ih el x y b) (VRs.of_array ha hk) (VRs.of_array hb hj) _ _ _ e
    ·cases e
   case h_19=>cases e
theorem v8 (hT:TabOk tb P):∀ (d:Nat) (t:TypeId),qZ tb d t=true→∀ n,d≤n→P.eqGuardType n t=false
 | 0,_,e,_,_=>by cases e
 | d+1,t,e,n,hn=>by
   obtain ⟨m,rfl⟩:∃ m,n=m+1:=⟨n - 1,by omega⟩
   unfold qZ at e
   unfold Program.eqGuardType
   cases hu:tb.under t with
   | none=>rw [hu] at e; cases e
   | some u =>
     rw [hu] at e
     rw [run_underlying hT hu]
     cases u with
     | interface ms=>cases e
     | struct fs =>
       simp only [] at e ⊢
       rw [List.all_eq_true] at e
       rw [Bool.eq_false_iff]
       intro h
       rw [Array.any_eq_true] at h
       obtain ⟨i,hi,h⟩:=h
       have h2:=v8 hT d _ (e fs[i] (by simp)) m (by omega)
       rw [h2,Bool.and_false] at h
       cases h
     | array l el=>exact v8 hT d _ e m (by omega)
     | _=>rfl
end
end Go.Am
namespace Go.Am
open Go.RowKit
section
variable {tb:Tab} {P:Program} {B:Nat} {w₀:World} {ρ:Ren} {H:AH} {w:World} {va vb:Operand→Value} {o:Oper} {nx:ANext} {H':AH}
def yS:Value→Nat
 | .int _ _=>1
 | .string _=>2
 | .nilIface=>3
 | .agg _=>4
 | .float _ _=>5
 | .complex _ _ _=>5
 | .tuple _=>5
 | .chan _=>5
 | _=>0
theorem zC2 {d:Nat} {t:TypeId} {x y:Value} {b:Bool} (e:wi tb d t x y=some b):yS x≠5∧yS y≠5∧(yS x=1→yS y=1)∧(yS x=2→yS y=2):=by
 cases d with
 | zero=>cases e
 | succ d =>
   unfold wi at e
   split at e <;> first | (cases e; done) | (simp [yS]; done) | skip
   all_goals (first | (rename_i b _; cases b <;> simp [yS]; done) | skip)
theorem qe {x x':Value} (h:VR ρ x x') (hx:yS x≠5):yS x'=yS x:=by
 cases h <;> first | rfl | (simp [yS] at hx)
theorem binop_else {cst:Bool} {op:BinOp} {t:TypeId} {x y v:Value} (e:wU tb cst op t x y=some v) :
  (∃ k k' a b,x = .int k a∧y = .int k' b)∨(∃ a b,x = .string a∧y = .string b) ∨
   ∃ r,eqTop tb cst t x y=some r∧(∀ k a k' b,x = .int k a→y≠.int k' b)∧(∀ a b,x = .string a→y≠.string b)∧((op = .eql∧v = .bool r)∨(op = .neq∧v = .bool (!r))):=by
 unfold wU at e
 split at e
 ·exact .inl ⟨_,_,_,_,rfl,rfl⟩
 ·exact .inr (.inl ⟨_,_,rfl,rfl⟩)
 ·next h1 h2 =>
  refine .inr (.inr ?_)
  split at e
  ·split at e
   ·next r hr=>cases e; exact ⟨r,hr,fun k a k' b p q=>h1 k a k' b p q,fun a b p q=>h2 a b p q,.inl ⟨rfl,rfl⟩⟩
   ·cases e
  ·split at e
   ·next r hr=>cases e; exact ⟨r,hr,fun k a k' b p q=>h1 k a k' b p q,fun a b p q=>h2 a b p q,.inr ⟨rfl,rfl⟩⟩
   ·cases e
  ·cases e
theorem binOp_eql (t:TypeId):∀ {x' y':Value},¬ (yS x'=1∧yS y'=1)→¬ (yS x'=2∧yS y'=2)→yS x'≠5 →
  Go.binOp .eql t x' y'=(do pure (.bool (← Op.equal t x' y')))∧Go.binOp .neq t x' y'=(do pure (.bool (!(← Op.equal t x' y')))):=by
 intro x' y' h1 h2 h5
 cases x' with
 | int k a=>cases y' <;> first | exact ⟨rfl,rfl⟩ | exact absurd ⟨rfl,rfl⟩ h1
 | string a=>cases y' <;> first | exact ⟨rfl,rfl⟩ | exact absurd ⟨rfl,rfl⟩ h2
 | float k a=>exact absurd rfl h5
 | complex k a b=>exact absurd rfl h5
 | tuple a=>exact absurd rfl h5
 | chan a=>exact absurd rfl h5
 | _=>exact ⟨rfl,rfl⟩
theorem qB (t:TypeId) {x' y':Value} (h1:¬ (yS x'=1∧yS y'=1)) (h2:¬ (yS x'=2∧yS y'=2)) (h5:yS x'≠5) (w:World) {b:Bool} (e:(Op.equal t x' y').run P w = .ok b w) :
  (Go.binOp .eql t x' y').run P w = .ok (.bool b) w∧(Go.binOp .neq t x' y').run P w = .ok (.bool (!b)) w:=by
 obtain ⟨hh1,hh2⟩:=binOp_eql t h1 h2 h5
 rw [hh1,hh2]
 simp only [Sem.run_bind,e,Result.andThen,Sem.run_pure,and_self]
theorem qf {op:BinOp} {t:TypeId} {x y:Operand} {u v:Value} (h1:u = .nilIface→v≠.nilIface) (h2:∀ a b,u = .agg a→v≠.agg b):eqGuard op t x y u v=pure ():=by
 unfold eqGuard
 cases op <;> first | rfl | (rw [if_neg (by decide)]; split <;> first | exact absurd rfl (h1 rfl) | exact absurd rfl (h2 _ _ rfl) | rfl)
theorem eqGuard_lit {op:BinOp} {t:TypeId} {x y:Operand} (hc:(wE x || wE y)=true):eqGuard op t x y .nilIface .nilIface=pure ():=by
 cases x with
 | const c=>cases op <;> rfl
 | _ =>
   cases y with
   | const c=>cases op <;> rfl
   | _=>simp [wE] at hc
theorem head1 {x:Value} (h:yS x=1):∃ k a,x = .int k a:=by cases x <;> first | exact ⟨_,_,rfl⟩ | (simp [yS] at h)
theorem head2 {x:Value} (h:yS x=2):∃ a,x = .string a:=by cases x <;> first | exact ⟨_,rfl⟩ | (simp [yS] at h)
theorem head3 {x:Value} (h:yS x=3):x = .nilIface:=by cases x <;> first | rfl | (simp [yS] at h)
theorem head4 {x:Value} (h:yS x=4):∃ a,x = .agg a:=by cases x <;> first | exact ⟨_,rfl⟩ | (simp [yS] at h)
theorem eqTop_sound (hT:TabOk tb P) {x y:Operand} {t:TypeId} {r:Bool} (hx:VR ρ (va x) (vb x)) (hy:VR ρ (va y) (vb y)) (e:eqTop tb (wE x || wE y) t (va x) (va y)=some r) (op:BinOp) :
  (eqGuard op t x y (vb x) (vb y)).run P w = .ok () w∧(Op.equal t (vb x) (vb y)).run P w = .ok r w∧yS (va x)≠5∧yS (va y)≠5:=by
 have fin:wi tb 20 t (va x) (va y)=some r→(Op.equal t (vb x) (vb y)).run P w = .ok r w∧yS (va x)≠5∧yS (va y)≠5:=fun h =>
  ⟨v7 hT 20 t _ _ _ h _ _ hx hy 10000 (by omega),(zC2 h).1,(zC2 h).2.1⟩
 unfold eqTop at e
 split at e
 ·next h1 h2 =>
  cases hc:(wE x || wE y)
  ·rw [hc] at e; cases e
  ·rw [hc] at e
   have f:=fin (by rw [h1,h2]; exact e)
   rw [h1] at hx
   rw [h2] at hy
   have e1:vb x = .nilIface:=by revert hx; generalize vb x=u; intro hx; cases hx; rfl
   have e2:vb y = .nilIface:=by revert hy; generalize vb y=u; intro hy; cases hy; rfl
   refine ⟨?_,f⟩
   rw [e1,e2,eqGuard_lit hc]
   rfl
 ·next a b h1 h2 =>
  cases hc:qZ tb 20 t
  ·rw [hc] at e; cases e
  ·rw [hc] at e
   have f:=fin (by rw [h1,h2]; exact e)
   rw [h1] at hx
   rw [h2] at hy
   refine ⟨?_,f⟩
   generalize vb x=u at hx
   generalize vb y=v at hy
   cases hx with
   | agg ha hk =>
     cases hy with
     | agg hb hj=>exact run_eqGuard_agg w op t x y _ _ (v8 hT 20 t hc _ (by unfold Program.depth Made.depth; omega))
 ·next h1 h2 =>
  have f:=fin e
  refine ⟨?_,f⟩
  have g1:=qe hx f.2.1
  have g2:=qe hy f.2.2
  rw [qf (fun p q=>?_) (fun a b p q=>?_)]
  ·rfl
  ·rw [p] at g1
   rw [q] at g2
   exact h1 (head3 g1.symm) (head3 g2.symm)
  ·rw [p] at g1
   rw [q] at g2
   obtain ⟨a',k1⟩:=head4 g1.symm
   obtain ⟨b',k2⟩:=head4 g2.symm
   exact h2 a' b' k1 k2
theorem op_binOp (hT:TabOk tb P) (h:SR tb B w₀ ρ H w) (hv:∀ x,VR ρ (va x) (vb x)) {op:BinOp} {t:TypeId} {x y:Operand} {z:TypeId} (ho:o.op = .binOp op t x y z) (e:yH tb va o H=some (nx,H')) :
  OpOK tb P B w₀ ρ H w (execOp vb o) nx H':=by
 have e0:=e
 simp only [yH,ho] at e
 cases hb:wU tb (wE x || wE y) op t (va x) (va y) with
 | none=>rw [hb] at e; cases e
 | some v =>
   rw [hb] at e
   simp only [one,Option.some.injEq,Prod.mk.injEq] at e
   obtain ⟨rfl,rfl⟩:=e
   rcases binop_else hb with ⟨k,k',a,b,hx,hy⟩ | ⟨a,b,hx,hy⟩ | ⟨r,hr,n1,n2,hv'⟩
   ·exact op_binInt h hv ho hx hy e0
   ·have h1:=hv x
    have h2:=hv y
    rw [hx] at h1 hb
    rw [hy] at h2 hb
    obtain ⟨r,hf⟩:=uV (P:=P) hb w
    refine OpOK.pure h (v':=v) ?_ (.flat hf)
    simp only [execOp,ho,h1.string_inv,h2.string_inv,Sem.run_bind,wP (a:=.string a) rfl,Result.andThen,r,Sem.run_pure]
   ·obtain ⟨g1,g2,g3,g4⟩:=eqTop_sound (P:=P) (w:=w) hT (hv x) (hv y) hr op
    have k1:=qe (hv x) g3
    have k2:=qe (hv y) g4
    have rr:=qB (P:=P) t (by rw [k1,k2]; rintro ⟨p,q⟩; obtain ⟨_,_,p⟩:=head1 p; obtain ⟨_,_,q⟩:=head1 q; exact n1 _ _ _ _ p q) (by rw [k1,k2]; rintro ⟨p,q⟩; obtain ⟨_,p⟩:=head2 p; obtain ⟨_,q⟩:=head2 q; exact n2 _ _ p q) (by rw [k1]; exact g3) w g2
    rcases hv' with ⟨rfl,rfl⟩ | ⟨rfl,rfl⟩
    ·refine OpOK.pure h ?_ (.bool r)
     simp only [execOp,ho,Sem.run_bind,g1,Result.andThen,rr.1,Sem.run_pure]
    ·refine OpOK.pure h ?_ (.bool (!r))
     simp only [execOp,ho,Sem.run_bind,g1,Result.andThen,rr.2,Sem.run_pure]
theorem op_unOp (h:SR tb B w₀ ρ H w) (hv:∀ x,VR ρ (va x) (vb x)) {u:UnOp} {t:TypeId} {x:Operand} (ho:o.op = .unOp u t x) (e:yH tb va o H=some (nx,H')) :
  OpOK tb P B w₀ ρ H w (execOp vb o) nx H':=by
 have hx:=hv x
 have e0:=e
 simp only [yH,ho] at e
 split at e
 ·exact op_not h hv rfl ho e0
 ·next k n ha =>
  rw [ha] at hx
  simp only [Option.some.injEq,Prod.mk.injEq] at e
  obtain ⟨rfl,rfl⟩:=e
  refine OpOK.pure h ?_ (.int _ _)
  simp only [execOp,ho,hx.int_inv,Op.unary,Sem.run_bind]
  rfl
 ·cases e
theorem op_convert (hT:TabOk tb P) (h:SR tb B w₀ ρ H w) (hv:∀ x,VR ρ (va x) (vb x)) {s d:TypeId} {x:Operand} (ho:o.op = .convert s d x) (e:yH tb va o H=some (nx,H')) :
  OpOK tb P B w₀ ρ H w (execOp vb o) nx H':=by
 have hx:=hv x
 simp only [yH,ho] at e
 cases hq:zCJ tb s d (va x) with
 | none=>rw [hq] at e; cases e
 | some u =>
   rw [hq] at e
   simp only [one,Option.some.injEq,Prod.mk.injEq] at e
   obtain ⟨rfl,rfl⟩:=e
   unfold zCJ at hq
   split at hq
   ·next k k' k2 n hs hd ha =>
    cases hq
    rw [ha] at hx
    refine OpOK.pure h ?_ (.int _ _)
    simp only [execOp,ho,hx.int_inv,Go.convert,Sem.run_bind,zF hT hs,zF hT hd,Result.andThen,Conv.intToInt,Sem.run_pure]
   ·next q hs hd ha =>
    cases hq
    rw [ha] at hx
    refine OpOK.pure h ?_ (.string _)
    simp only [execOp,ho,hx.string_inv,Go.convert,Sem.run_bind,zF hT hs,zF hT hd,Result.andThen,Sem.run_pure]
   ·cases hq
theorem xy {d top n:Nat} (e:wF none d top=some n):n=d:=by cases e; rfl
theorem xe {v v':Value} {d top n:Nat} (hv:VR ρ v v') (e:wF (some v) d top=some n) (top':Nat) (ht:top≤top') (c:BoundsCode) :
  n≤top∧(Instr.sliceBound v' top' c).run P w = .ok n w:=by
 simp only [wF] at e
 split at e
 ·next m hm =>
  cases hb:Nat.ble m top
  ·rw [hb] at e; cases e
  ·rw [hb] at e; cases e
   have hle:n≤top:=Nat.le_of_ble_eq_true hb
   obtain ⟨k,_,e2⟩:=vD hv hm
   refine ⟨hle,?_⟩
   simp only [Instr.sliceBound,e2,asIntOf,Sem.run_bind,Sem.run_pure,Result.andThen]
   rw [if_pos ⟨Int.natCast_nonneg _,by simp; omega⟩]
   rfl
 ·cases e
theorem uA (hv:∀ x,VR ρ (va x) (vb x)) {lo hi mx:Option Operand} {len cap cap' m h l:Nat} (isS:Bool) (hm:wF (mx.map va) cap cap=some m) (hcap:cap≤cap')
  (hh:wF (hi.map va) len m=some h) (hl:wF (lo.map va) 0 h=some l) (hb:((mx.map va).isSome && (hi.map va).isNone)=false) (hlen:h≤m) :
  ∃ m',(Instr.sliceBounds isS len cap' (lo.map vb) (hi.map vb) (mx.map vb)).run P w = .ok (l,h,m') w∧m≤m'∧m'≤cap'∧l≤h∧h≤m'∧(m'=m∨(m=cap∧m'=cap')):=by
 have hml:l≤h:=by
  cases lo with
  | none=>simp only [Option.map] at hl; rw [xy hl]; omega
  | some x=>exact (xe (P:=P) (w:=w) (hv x) hl h (Nat.le_refl _) .sliceB).1
 cases mx with
 | none =>
   simp only [Option.map] at hm
   have hm':=xy hm
   subst hm'
   cases hi with
   | none =>
     simp only [Option.map] at hh
     have hh':=xy hh
     subst hh'
     refine ⟨cap',?_,hcap,Nat.le_refl _,hml,by omega,.inr ⟨rfl,rfl⟩⟩
     cases lo with
     | none =>
       simp only [Option.map] at hl
       have hl':=xy hl
       subst hl'
       simp only [Instr.sliceBounds,Option.map,Sem.run_bind,Sem.run_pure,Result.andThen]
     | some x =>
       have r:=(xe (P:=P) (w:=w) (hv x) hl h (Nat.le_refl _) .sliceB).2
       simp only [Instr.sliceBounds,Option.map,Sem.run_bind,Sem.run_pure,Result.andThen,Option.isSome,Bool.false_eq_true,if_false,r]
   | some y =>
     have hle:=(xe (P:=P) (w:=w) (hv y) hh cap' hcap (if isS then .sliceAcap else .sliceAlen))
     refine ⟨cap',?_,hcap,Nat.le_refl _,hml,by omega,.inr ⟨rfl,rfl⟩⟩
     have r2:=hle.2
     cases lo with
     | none =>
       simp only [Option.map] at hl
       have hl':=xy hl
       subst hl'
       simp only [Instr.sliceBounds,Option.map,Sem.run_bind,Sem.run_pure,Result.andThen,r2]
     | some x =>
       have r:=(xe (P:=P) (w:=w) (hv x) hl h (Nat.le_refl _) .sliceB).2
       simp only [Instr.sliceBounds,Option.map,Sem.run_bind,Sem.run_pure,Result.andThen,Option.isSome,Bool.false_eq_true,if_false,r,r2]
 | some z =>
   have hz:=(xe (P:=P) (w:=w) (hv z) hm cap' hcap (if isS then .slice3Acap else .slice3Alen))
   have rz:=hz.2
   cases hi with
   | none=>simp at hb
   | some y =>
     have hle:=(xe (P:=P) (w:=w) (hv y) hh m (Nat.le_refl _) .slice3B)
     have r2:=hle.2
     refine ⟨m,?_,Nat.le_refl _,by omega,hml,hle.1,.inl rfl⟩
     cases lo with
     | none =>
       simp only [Option.map] at hl
       have hl':=xy hl
       subst hl'
       simp only [Instr.sliceBounds,Option.map,Sem.run_bind,Sem.run_pure,Result.andThen,rz,r2]
     | some x =>
       have r:=(xe (P:=P) (w:=w) (hv x) hl h (Nat.le_refl _) .slice3C).2
       simp only [Instr.sliceBounds,Option.map,Sem.run_bind,Sem.run_pure,Result.andThen,Option.isSome,if_true,rz,r,r2]
theorem zBY (s:ByteArray) (l h:Nat):zw (take (h - l) (dropN l (bytes s)))=s.extract l h:=by
 apply ByteArray.ext
 apply Array.toList_inj.1
 rw [take_eq,zCN]
 simp [zw,bytes,ByteArray.data_extract]
theorem op_slice (hT:TabOk tb P) (h:SR tb B w₀ ρ H w) (hv:∀ x,VR ρ (va x) (vb x)) {t:TypeId} {x:Operand} {lo hi mx:Option Operand} (ho:o.op = .slice t x lo hi mx) (e:yH tb va o H=some (nx,H')) :
  OpOK tb P B w₀ ρ H w (execOp vb o) nx H':=by
 have hx:=hv x
 simp only [yH,ho] at e
 cases hs:sliceOp tb H t (va x) (lo.map va) (hi.map va) (mx.map va) with
 | none=>rw [hs] at e; cases e
 | some v =>
 rw [hs] at e
 simp only [one,Option.some.injEq,Prod.mk.injEq] at e
 obtain ⟨rfl,rfl⟩:=e
 unfold sliceOp at hs
 split at hs
 ·next s hu ha =>
  rw [ha] at hx
  split at hs
  ·next hm hh e1 e2 =>
   split at hs
   ·next l hl =>
    cases hs
    have hmx:mx=none:=by cases mx <;> simp at e1 ⊢
    subst hmx
    have hlen:len s=s.size:=Array.length_toList
    rw [hlen] at e2
    have hle:hh≤s.size:=by
     cases hi with
     | none=>simp only [Option.map] at e2; rw [xy e2]; omega
     | some y=>exact (xe (P:=P) (w:=w) (hv y) e2 s.size (Nat.le_refl _) .sliceAlen).1
    obtain ⟨m',r,_⟩:=uA (P:=P) (w:=w) hv (mx:=none) (cap:=s.size) (cap':=s.size) false rfl (Nat.le_refl _) e2 hl (by simp) hle
    refine OpOK.pure h (v':=.string (s.extract l hh)) ?_ (by rw [zBY]; exact .string _)
    simp only [execOp,ho,Instr.sliceAt,Instr.slice,hx.string_inv,Sem.run_bind,zF hT hu,Result.andThen,Option.map,Option.isSome,Bool.false_eq_true,if_false,Sem.run_pure]
    simp only [Option.map] at r
    rw [r]
   ·cases hs
  ·cases hs
 ·next el a n cap hu ha =>
  rw [ha] at hx
  split at hs
  ·next sz m e1 e2 e3 =>
   split at hs
   ·next hh e4 =>
    split at hs
    ·next l e5 =>
     cases hcm:Nat.ble hh m
     ·rw [hcm] at hs; cases hs
     rw [hcm] at hs
     cases hs
     have hhm:hh≤m:=Nat.le_of_ble_eq_true hcm
     have hbb:((mx.map va).isSome && (hi.map va).isNone)=false:=by
      cases hq:((mx.map va).isSome && (hi.map va).isNone)
      ·rfl
      ·rw [hq] at e3; cases e3
     rw [hbb] at e3
     simp only [cond_false] at e3
     generalize hb:vb x=u at hx
     cases hx with
     | nilSlice =>
       obtain ⟨m',r,q1,q2,q3,q4,q5⟩:=uA (P:=P) (w:=w) hv true e2 (Nat.le_refl _) e4 e5 hbb hhm
       have hmm:m'=m:=by rcases q5 with q | ⟨q,q'⟩ <;> omega
       subst hmm
       refine OpOK.pure h (v':=.slice none (hh - l) (m' - l)) ?_ (.nilSlice _ _)
       simp only [execOp,ho,Instr.sliceAt,Instr.slice,hb,Sem.run_bind,zF hT hu,Result.andThen,r,run_size hT e1,Sem.run_pure,Option.map_none,ite_self]
     | slice hr hc hxx hrr =>
       next i off b s c' x' =>
       obtain ⟨m',r,q1,q2,q3,q4,q5⟩:=uA (P:=P) (w:=w) hv true e2 hc e4 e5 hbb hhm
       have hfit:sz≤(ρ.row b).2:=by
        simp only [e1] at e3
        cases hf:rowFits tb H ⟨i,off,none⟩ sz
        ·rw [hf] at e3; cases e3
        ·unfold rowFits at hf
         simp only at hf
         split at hf
         ·next c el ro hg =>
          have h5:=h.elem i b s hr c el ro hg
          rw [h5] at hf
          exact Nat.le_of_ble_eq_true hf
         ·cases hf
       have hmul:l * sz≤l * (ρ.row b).2:=Nat.mul_le_mul_left _ hfit
       refine OpOK.pure h (v':=.slice (if m'=l then some ⟨b,x',none⟩ else (some (⟨b,x',none⟩:Addr)).map (·.add (l * sz))) (hh - l) (m' - l)) ?_ ?_
       ·simp only [execOp,ho,Instr.sliceAt,Instr.slice,hb,Sem.run_bind,zF hT hu,Result.andThen,r,run_size hT e1,Sem.run_pure]
       ·simp only [Option.map,qd,Addr.add_eq]
        by_cases hml:m'=l
        ·rw [if_pos hml]
         refine .slice hr (by omega) (.inl ⟨by omega,by omega⟩) ?_
         rcases q5 with q | ⟨q,q'⟩
         ·exact .inl (by omega)
         ·rcases hrr with hrr | hrr
          ·exact .inl (by omega)
          ·right
           have:m' - l=0:=by omega
           rw [this,Nat.zero_mul]
           omega
        ·rw [if_neg hml]
         refine .slice hr (by omega) ?_ ?_
         ·rcases hxx with ⟨z1,_⟩ | hxx
          ·omega
          ·right; omega
         ·rcases q5 with q | ⟨q,q'⟩
          ·exact .inl (by omega)
          ·rcases hrr with hrr | hrr
           ·exact .inl (by omega)
           ·right
            rw [Nat.sub_mul]
            have:l * (ρ.row b).2≤m' * (ρ.row b).2:=Nat.mul_le_mul_right _ (by omega)
            rw [q'] at this ⊢
            omega
    ·cases hs
   ·cases hs
  ·cases hs
 ·next n el a hu ha =>
  rw [ha] at hx
  obtain ⟨i,off,b,s,rfl,hi',hb⟩:=hx.ptr_inv
  split at hs
  ·next sz e1 e2 =>
   split at hs
   ·next hh e4 =>
    split at hs
    ·next l e5 =>
     cases hs
     have hmx:mx=none:=by cases mx <;> simp at e2 ⊢
     subst hmx
     have hle:hh≤n:=by
      cases hi with
      | none=>simp only [Option.map] at e4; rw [xy e4]; omega
      | some y=>exact (xe (P:=P) (w:=w) (hv y) e4 n (Nat.le_refl _) .sliceAlen).1
     obtain ⟨m',r,q1,q2,q3,q4,q5⟩:=uA (P:=P) (w:=w) hv (mx:=none) (cap:=n) (cap':=n) false rfl (Nat.le_refl _) e4 e5 (by simp) hle
     have hmm:m'=n:=by rcases q5 with q | ⟨q,q'⟩ <;> omega
     subst hmm
     refine OpOK.pure h (v':=.slice (some (if m'=l then (⟨b,s+off,none⟩:Addr) else Addr.add ⟨b,s+off,none⟩ (l * sz))) (hh - l) (m' - l)) ?_ ?_
     ·simp only [execOp,ho,Instr.sliceAt,Instr.sureAddr,hb,Sem.run_bind,zF hT hu,Result.andThen,r,run_size hT e1,Sem.run_pure]
     ·simp only [qd,Addr.add_eq]
      by_cases hml:m'=l
      ·rw [if_pos hml]
       exact .slice hi' (Nat.le_refl _) (.inl ⟨by omega,by omega⟩) (.inl rfl)
      ·rw [if_neg hml]
       exact .slice hi' (Nat.le_refl _) (.inr (by omega)) (.inl rfl)
    ·cases hs
   ·cases hs
  ·cases hs
 ·cases hs
end
end Go.Am
namespace Go.Am
open Go.RowKit
section
variable {kt:TypeId} {d:TypeDesc} {k:Value}
variable {tb:Tab} {P:Program} {B:Nat} {w₀:World} {ρ:Ren} {H:AH} {w:World} {va vb:Operand→Value} {o:Oper} {nx:ANext} {H':AH}
theorem zEB {a c:ByteArray} (h:(a == c)=true):a=c:=by
 rw [beq_toListBytes,ByteArray.toList_eq,ByteArray.toList_eq] at h
 exact ByteArray.ext (Array.toList_inj.1 (eq_of_beq h))
theorem zCP (a:ByteArray):(a == a)=true:=by rw [beq_toListBytes]; simp
theorem sameA_eq {a b:Option Addr} (h:sameA a b=true):a=b:=by
 unfold sameA at h
 split at h
 ·rfl
 ·next i o j p =>
  cases h1:Nat.beq i j
  ·rw [h1] at h; cases h
  ·rw [h1] at h
   have e1:=Nat.eq_of_beq_eq_true h1
   have e2:=Nat.eq_of_beq_eq_true h
   rw [e1,e2]
 ·cases h
theorem vE {f:Value→Value→Bool} (hf:∀ x y,f x y=true→x=y):∀ (a b:List Value),w9 f a b=true→a=b
 | [],[],_=>rfl
 | [],_::_,h=>by cases h
 | _::_,[],h=>by cases h
 | x::a,y::b,h=>by
   unfold w9 at h
   cases h1:f x y
   ·rw [h1] at h; cases h
   ·rw [h1] at h
    rw [hf x y h1,vE hf a b h]
theorem sameFn_eq {f g:Fn} (h:sameFn f g=true):f=g:=by
 unfold sameFn at h
 split at h
 ·rw [Nat.eq_of_beq_eq_true h]
 ·rw [Nat.eq_of_beq_eq_true h]
 ·cases h
theorem kN:∀ (d:Nat) (x y:Value),uT d x y=true→x=y
 | 0,_,_,h=>by cases h
 | d+1,x,y,h=>by
   have ih:=kN d
   unfold uT at h
   split at h
   ·rw [eq_of_beq h]
   ·next k a j b =>
    cases h1:decide (k=j)
    ·rw [h1] at h; cases h
    ·rw [h1] at h
     rw [of_decide_eq_true h1,eq_of_beq h]
   ·rw [uM] at h; rw [zEB h]
   ·rw [sameA_eq h]
   ·next a n c b m e =>
    cases h1:sameA a b
    ·rw [h1] at h; cases h
    ·rw [h1] at h
     cases h2:Nat.beq n m
     ·rw [h2] at h; cases h
     ·rw [h2] at h
      rw [sameA_eq h1,Nat.eq_of_beq_eq_true h2,Nat.eq_of_beq_eq_true h]
   ·rfl
   ·rw [Nat.eq_of_beq_eq_true h]
   ·rfl
   ·rfl
   ·next t a u b =>
    cases h1:Nat.beq t u
    ·rw [h1] at h; cases h
    ·rw [h1] at h
     rw [Nat.eq_of_beq_eq_true h1,ih _ _ h]
   ·next f a c g b e =>
    cases h1:sameFn f g
    ·rw [h1] at h; cases h
    ·rw [h1] at h
     cases h2:w9 (uT d) a.toList b.toList
     ·rw [h2] at h; cases h
     ·rw [h2] at h
      rw [sameFn_eq h1,Array.toList_inj.1 (vE ih _ _ h2),Array.toList_inj.1 (vE ih _ _ h)]
   ·rw [Array.toList_inj.1 (vE ih _ _ h)]
   ·rw [Array.toList_inj.1 (vE ih _ _ h)]
   ·cases h
theorem plainC_same {v v':Value} (h:kI v=true) (hv:VR ρ v v'):v'=v:=by
 unfold kI at h
 split at h
 ·exact hv.int_inv
 ·exact hv.string_inv
 ·cases h
theorem zBZ:∀ {l l':List Value},xG l=true→VRs ρ l l'→l'=l
 | [],_,_,.nil=>rfl
 | v::l,v'::l',h,.cons h1 h2=>by
   unfold xG at h
   cases hc:kI v
   ·rw [hc] at h; cases h
   ·rw [hc] at h
    rw [plainC_same hc h1,zBZ h h2]
theorem plain_agg {cs:Array Value} {v':Value} (h:xG cs.toList=true) (hv:VR ρ (.agg cs) v'):v' = .agg cs:=by
 cases hv with
 | agg ha hk=>rw [Array.toList_inj.1 (zBZ h (VRs.of_array ha hk))]
theorem zDe {v:Value} (h:kI v=true) (n:Nat):Instr.sameBits n v v=true:=by
 unfold kI at h
 split at h
 ·simp [Instr.sameBits]
 ·simp only [Instr.sameBits]; exact zCP _
 ·cases h
theorem zBa {cs:Array Value} (h:xG cs.toList=true) (n:Nat):Instr.sameBits (n+1) (.agg cs) (.agg cs)=true:=by
 have:∀ l:List Value,xG l=true→(l.zip l).all (fun (x,y)=>Instr.sameBits n x y)=true:=fun l=>by
  induction l with
  | nil=>intro _; rfl
  | cons v l ih =>
    intro h
    unfold xG at h
    cases hc:kI v
    ·rw [hc] at h; cases h
    ·rw [hc] at h
     simp only [List.zip_cons_cons,List.all_cons,zDe hc n,ih h,Bool.and_self]
 simp only [Instr.sameBits,beq_self_eq_true,Bool.true_and]
 exact this _ h
theorem zC3 (hk:up tb kt d k=true) (hd:(∀ fs,d≠.struct fs)∧∀ n e,d≠.array n e) {k' e e':Value} {b:Bool} (hkv:VR ρ k k') (he:VR ρ e e') (h:zBT tb kt d k e=some b):Instr.sameNow d k' e'=some b∧(b=true→Instr.sameBits 10000 e' k'=true):=by
 unfold zBT at h
 split at h
 ·next j a x c y =>
  obtain rfl:=hkv.int_inv
  obtain rfl:=he.int_inv
  cases hd:decide (a=c)
  ·rw [hd] at h; cases h
  ·rw [hd] at h
   have hac:=of_decide_eq_true hd
   subst hac
   cases h
   refine ⟨by simp only [Instr.sameNow,if_true],fun hb=>?_⟩
   have:x=y:=by simpa using hb
   subst this
   simp [Instr.sameBits]
 ·next a c =>
  obtain rfl:=hkv.string_inv
  obtain rfl:=he.string_inv
  cases h
  rw [uM]
  refine ⟨rfl,fun hb=>?_⟩
  have:a=c:=zEB hb
  subst this
  simp only [Instr.sameBits]
  exact zCP a
 ·exact absurd rfl (hd.1 _)
 ·exact absurd rfl (hd.2 _ _)
 ·cases h
theorem zC4 (hik:up tb kt d k=true) (hd:(∀ fs,d≠.struct fs)∧∀ n e,d≠.array n e) {k':Value} (hk:VR ρ k k'):∀ (es es':List MapEntry) (i:Nat) (r:Option (Nat×MapEntry)),All2 (ER ρ) es es'→findKey tb kt d k es i=some r →
  match r with
  | none=>Instr.findNow d k' es' i=some none
  | some (j,en)=>∃ en',es'[j - i]?=some en'∧i≤j∧ER ρ en en'∧Instr.findNow d k' es' i=some (some (j,en'.val))∧Instr.sameBits 10000 en'.key k'=true
 | [],_,i,r,.nil,e=>by cases e; rfl
 | en::es,en'::es',i,r,.cons h1 hr,e=>by
   unfold findKey at e
   split at e
   ·next hs =>
    cases e
    obtain ⟨s1,s2⟩:=zC3 hik hd hk h1.key hs
    exact ⟨en',by simp,Nat.le_refl _,h1,by simp only [Instr.findNow,s1],s2 rfl⟩
   ·next hs =>
    obtain ⟨s1,_⟩:=zC3 hik hd hk h1.key hs
    have ih:=zC4 hik hd hk es es' (i+1) r hr e
    cases r with
    | none=>simp only [Instr.findNow,s1]; exact ih
    | some x =>
      obtain ⟨j,en2⟩:=x
      obtain ⟨en2',g1,g2,g3,g4,g5⟩:=ih
      refine ⟨en2',?_,by omega,g3,by simp only [Instr.findNow,s1]; exact g4,g5⟩
      rw [show j - i=(j - (i+1))+1 by omega,List.getElem?_cons_succ]
      exact g1
   ·cases e
def Asks (d:TypeDesc):Prop:=(∃ fs,d = .struct fs)∨∃ n e,d = .array n e
theorem zC5 (hT:TabOk tb P) {a c:Array Value} (hpl:xG a.toList=true) {k' e':Value} {b:Bool} (hkv:VR ρ (.agg a) k') (he:VR ρ (.agg c) e')
  (h:(match wi tb 20 kt (.agg a) (.agg c) with
  | some true=>cond (w9 (uT 2) a.toList c.toList) (some true) none
  | some false=>some false
  | none=>none)=some b):(Op.equal kt k' e').run P w = .ok b w∧(b=true→Instr.sameBits 10000 e' k'=true):=by
 split at h
 ·next heq =>
  cases hs:w9 (uT 2) a.toList c.toList
  ·rw [hs] at h; cases h
  ·rw [hs] at h; cases h
   have hac:a=c:=Array.toList_inj.1 (vE (kN 2) _ _ hs)
   subst hac
   have e1:=plain_agg hpl hkv
   have e2:=plain_agg hpl he
   refine ⟨v7 hT 20 kt _ _ _ heq _ _ hkv he 10000 (by omega),fun _=>?_⟩
   rw [e1,e2]
   exact zBa hpl 9999
 ·next heq =>
  cases h
  exact ⟨v7 hT 20 kt _ _ _ heq _ _ hkv he 10000 (by omega),fun hb=>by cases hb⟩
 ·cases h
theorem zC6 (hT:TabOk tb P) (hd:Asks d) (hk:up tb kt d k=true) {k' e e':Value} {b:Bool} (hkv:VR ρ k k') (he:VR ρ e e') (h:zBT tb kt d k e=some b) :
  (Op.equal kt k' e').run P w = .ok b w∧(b=true→Instr.sameBits 10000 e' k'=true):=by
 unfold zBT at h
 split at h
 ·rcases hd with ⟨fs,hd⟩ | ⟨n,e,hd⟩ <;> cases hd
 ·rcases hd with ⟨fs,hd⟩ | ⟨n,e,hd⟩ <;> cases hd
 ·next a c =>
  have hpl:xG a.toList=true:=by
   unfold up at hk
   simp only at hk
   cases hp:xG a.toList
   ·rw [hp] at hk; cases hk
   ·rfl
  exact zC5 hT hpl hkv he h
 ·next a c =>
  have hpl:xG a.toList=true:=by
   unfold up at hk
   simp only at hk
   cases hp:xG a.toList
   ·rw [hp] at hk; cases hk
   ·rfl
  exact zC5 hT hpl hkv he h
 ·cases h
theorem zC7 (hT:TabOk tb P) (hd:Asks d) (hik:up tb kt d k=true) {k':Value} (hk:VR ρ k k'):∀ (es es':List MapEntry) (i:Nat) (r:Option (Nat×MapEntry)),All2 (ER ρ) es es'→findKey tb kt d k es i=some r →
  match r with
  | none=>(Instr.findAsking kt k' es' i).run P w = .ok none w
  | some (j,en)=>∃ en',es'[j - i]?=some en'∧i≤j∧ER ρ en en'∧(Instr.findAsking kt k' es' i).run P w = .ok (some (j,en'.val)) w∧Instr.sameBits 10000 en'.key k'=true
 | [],_,i,r,.nil,e=>by cases e; rfl
 | en::es,en'::es',i,r,.cons h1 hr,e=>by
   unfold findKey at e
   split at e
   ·next hs =>
    cases e
    obtain ⟨s1,s2⟩:=zC6 (w:=w) hT hd hik hk h1.key hs
    exact ⟨en',by simp,Nat.le_refl _,h1,by simp only [Instr.findAsking,Sem.run_bind,s1,Result.andThen,if_true,Sem.run_pure],s2 rfl⟩
   ·next hs =>
    obtain ⟨s1,_⟩:=zC6 (w:=w) hT hd hik hk h1.key hs
    have ih:=zC7 hT hd hik hk es es' (i+1) r hr e
    cases r with
    | none=>simp only [Instr.findAsking,Sem.run_bind,s1,Result.andThen,Bool.false_eq_true,if_false]; exact ih
    | some x =>
      obtain ⟨j,en2⟩:=x
      obtain ⟨en2',g1,g2,g3,g4,g5⟩:=ih
      refine ⟨en2',?_,by omega,g3,by simp only [Instr.findAsking,Sem.run_bind,s1,Result.andThen,Bool.false_eq_true,if_false]; exact g4,g5⟩
      rw [show j - i=(j - (i+1))+1 by omega,List.getElem?_cons_succ]
      exact g1
   ·cases e
theorem vW (hT:TabOk tb P) (hu:tb.under kt=some d) (hik:up tb kt d k=true) {k':Value} (hk:VR ρ k k') {es es':List MapEntry} {r:Option (Nat×MapEntry)} (ha:All2 (ER ρ) es es') (e:findKey tb kt d k es 0=some r) :
  match r with
  | none=>(Instr.findKey kt k' es').run P w = .ok none w
  | some (j,en)=>∃ en',es'[j]?=some en'∧ER ρ en en'∧(Instr.findKey kt k' es').run P w = .ok (some (j,en'.val)) w∧Instr.sameBits 10000 en'.key k'=true:=by
 have now:∀ q,Instr.findNow d k' es' 0=some q→(Instr.findKey kt k' es').run P w = .ok q w:=fun q hq=>by
  simp only [Instr.findKey,Sem.run_bind,zF hT hu,Result.andThen,hq]; rfl
 by_cases hs:Asks d
 ·have ask:∀ q,(Instr.findAsking kt k' es' 0).run P w = .ok q w→(Instr.findKey kt k' es').run P w = .ok q w:=fun q hq=>by
   cases es' with
   | nil =>
     have h1:q=none:=by
      have:(Instr.findAsking kt k' [] 0).run P w = .ok none w:=rfl
      rw [this] at hq; cases hq; rfl
     subst h1
     exact now none rfl
   | cons x xs =>
     have:Instr.findNow d k' (x::xs) 0=none:=by
      simp only [Instr.findNow]
      have:Instr.sameNow d k' x.key=none:=by rcases hs with ⟨fs,rfl⟩ | ⟨n,e,rfl⟩ <;> (unfold Instr.sameNow; rfl)
      rw [this]
     simp only [Instr.findKey,Sem.run_bind,zF hT hu,Result.andThen,this]
     exact hq
  have fk:=zC7 (w:=w) hT hs hik hk es es' 0 r ha e
  cases r with
  | none=>exact ask _ fk
  | some x =>
    obtain ⟨j,en⟩:=x
    obtain ⟨en',g1,_,g3,g4,g5⟩:=fk
    exact ⟨en',by simpa using g1,g3,ask _ g4,g5⟩
 ·have hd:(∀ fs,d≠.struct fs)∧∀ n e,d≠.array n e:=⟨fun fs h=>hs (.inl ⟨fs,h⟩),fun n e h=>hs (.inr ⟨n,e,h⟩)⟩
  have fk:=zC4 hik hd hk es es' 0 r ha e
  cases r with
  | none=>exact now _ fk
  | some x =>
    obtain ⟨j,en⟩:=x
    obtain ⟨en',g1,_,g3,g4,g5⟩:=fk
    exact ⟨en',by simpa using g1,g3,now _ g4,g5⟩
theorem kO (hT:TabOk tb P) (em:Bool):∀ (d:Nat) (t:TypeId) (v v':Value),keyOk tb d t v=true→VR ρ v v'→∀ n,d≤n→(Instr.checkKey em n t v').run P w = .ok () w
 | 0,_,_,_,e,_,_,_=>by cases e
 | d+1,t,v,v',e,hv,n,hn=>by
   obtain ⟨m,rfl⟩:∃ m,n=m+1:=⟨n - 1,by omega⟩
   unfold keyOk at e
   split at e
   ·next hu=>rw [hv.int_inv]; simp only [Instr.checkKey,Sem.run_bind,zF hT hu,Result.andThen]; rfl
   ·next hu=>rw [hv.string_inv]; simp only [Instr.checkKey,Sem.run_bind,zF hT hu,Result.andThen]; rfl
   ·next fs cs hu =>
    cases hq:tb.eqs t
    ·rw [hq] at e; cases e
    ·rw [hq] at e
     simp only [cond_true] at e
     obtain ⟨_,q2⟩:=hT.eqs t hq
     have hu':=run_underlying hT hu
     have hnm:=q2 fs hu'
     cases hv with
     | agg ha hk =>
       next cs' =>
       have hcs:=VRs.of_array ha hk
       rw [Instr.checkKey]
       simp only [Sem.run_bind,zF hT hu,Result.andThen]
       rw [← Array.forIn_toList]
       rw [List.all_eq_true] at e
       generalize fs.toList=L at e hnm
       induction L with
       | nil=>simp
       | cons f L ih =>
         have e1:=e f (by simp)
         have hn1:=hnm f (by simp)
         split at e1
         ·next x hx =>
          obtain ⟨x',r1,v1⟩:=xN (P:=P) (w:=w) hT hcs hx
          have r2:=kO hT em d f.type x x' e1 v1 m (by omega)
          simp only [List.forIn_cons,Sem.run_bind,hn1,ne_eq,not_false_eq_true,if_true,Result.andThen_ok,r1,r2,Sem.run_pure]
          exact ih (fun y hy=>e y (by simp [hy])) (fun y hy=>hnm y (by simp [hy]))
         ·cases e1
   ·next len el cs hu =>
    split at e
    ·next sz hs =>
     cases hv with
     | agg ha hk =>
       next cs' =>
       have hcs:=VRs.of_array ha hk
       rw [Instr.checkKey]
       simp only [Sem.run_bind,zF hT hu,Result.andThen]
       rw [List.all_eq_true] at e
       rw [Std.Legacy.Range.forIn_eq_forIn_range']
       have hL:∀ i∈List.range' 0 len 1,i < len:=fun i hi=>by simp at hi; exact hi
       have hL':List.range' 0 (Std.Legacy.Range.size { stop:=len,step_pos:=Nat.one_pos }) 1=List.range' 0 len 1:=by simp [Std.Legacy.Range.size]
       simp only at hL' ⊢
       rw [hL']
       generalize List.range' 0 len 1=L at hL
       induction L with
       | nil=>simp
       | cons i L ih =>
         have e1:=e i (List.mem_range.2 (hL i (by simp)))
         split at e1
         ·next x hx =>
          obtain ⟨x',r1,v1⟩:=xN (P:=P) (w:=w) hT hcs hx
          have r2:=kO hT em d el x x' e1 v1 m (by omega)
          simp only [List.forIn_cons,Sem.run_bind,run_size hT hs,Result.andThen_ok,r1,r2,Sem.run_pure]
          exact ih fun j hj=>hL j (by simp [hj])
         ·cases e1
    ·cases e
   ·cases e
theorem zBb (hT:TabOk tb P) (hu:tb.under kt=some d) (hk:up tb kt d k=true) {k':Value} (hv:VR ρ k k') (b:Bool):(Instr.checkKey b 10000 kt k').run P w = .ok () w:=by
 have hok:keyOk tb 20 kt k=true:=by
  unfold up at hk
  split at hk
  ·unfold keyOk; rw [hu]
  ·unfold keyOk; rw [hu]
  ·next fs cs =>
   cases hp:xG cs.toList
   ·rw [hp] at hk; cases hk
   ·rw [hp] at hk; exact hk
  ·next cs =>
   cases hp:xG cs.toList
   ·rw [hp] at hk; cases hk
   ·rw [hp] at hk; exact hk
  ·cases hk
 exact kO hT b 20 kt k k' hok hv 10000 (by omega)
theorem yh {r:Nat} {es:Array MapEntry} {c:Nat} (h:w.heap[r]?=some (.map es c)):(getObj r).run P w = .ok (.map es c) w:=by simp [getObj,Sem.run,h]
theorem qg {r:Nat} {es:Array MapEntry} {c:Nat} (o':Obj) (h:w.heap[r]?=some (.map es c)):(setObj r o').run P w = .ok () (w.putObj r o'):=by simp [setObj,Sem.run,h,World.putObj]
theorem map_obj (h:SR tb B w₀ ρ H w) {r b:Nat} (hr:ρ r=some (b,0)) {es:List MapEntry} {c:Nat} (hg:H.get r=some (.map es c)):∃ es',w.heap[b]?=some (.map es' c)∧All2 (ER ρ) es es'.toList:=by
 obtain ⟨o,o',e1,e2,e3⟩:=h.obj _ _ _ hr
 rw [hg] at e1; cases e1
 cases o' with
 | map es' c' =>
   obtain ⟨_,h2,h3⟩:=e3
   subst h2
   exact ⟨es',e2,h3⟩
 | _=>exact e3.elim
theorem op_lookup (hT:TabOk tb P) (h:SR tb B w₀ ρ H w) (hv:∀ x,VR ρ (va x) (vb x)) {t:TypeId} {x ix:Operand} {ok:Bool} (ho:o.op = .lookup t x ix ok) (e:yH tb va o H=some (nx,H')) :
  OpOK tb P B w₀ ρ H w (execOp vb o) nx H':=by
 have hx:=hv x
 simp only [yH,ho] at e
 split at e
 ·next kt el hu =>
  split at e
  ·next es z hes hz =>
   split at e
   ·next d hd =>
    cases hik:up tb kt d (va ix)
    ·rw [hik] at e; cases e
    ·rw [hik] at e
     simp only [cond_true] at e
     have hm:∃ es':Array MapEntry,((vb x = .map none∧es'=#[])∨∃ q c,vb x = .map (some q)∧w.heap[q]?=some (.map es' c))∧All2 (ER ρ) es es'.toList:=by
      split at hes
      ·next ha =>
       cases hes
       rw [ha] at hx
       generalize vb x=u at hx ⊢
       cases hx
       exact ⟨#[],.inl ⟨rfl,rfl⟩,.nil⟩
      ·next r ha =>
       rw [ha] at hx
       split at hes
       ·next es1 c hg =>
        cases hes
        generalize vb x=u at hx ⊢
        cases hx with
        | map hr =>
          obtain ⟨es',g1,g2⟩:=map_obj h hr hg
          exact ⟨es',.inr ⟨_,_,rfl,g1⟩,g2⟩
       ·cases hes
      ·cases hes
     obtain ⟨es',r1,r2⟩:=hm
     obtain ⟨z',rz,hvz⟩:=zBX (P:=P) hT hz w ρ
     have hck:=zBb (P:=P) (w:=w) hT hd hik (hv ix) es'.isEmpty
     split at e
     ·next j en hf =>
      obtain ⟨en',_,g3,rf,_⟩:=vW (w:=w) hT hd hik (hv ix) r2 hf
      simp only [Option.some.injEq,Prod.mk.injEq] at e
      obtain ⟨rfl,rfl⟩:=e
      cases ok
      ·refine OpOK.pure h (v':=en'.val) ?_ g3.val
       rcases r1 with ⟨u1,rfl⟩ | ⟨q,c,u1,g1⟩
       ·simp only [execOp,ho,Instr.lookup,u1,Sem.run_bind,zF hT hu,Result.andThen,hck,rf,Sem.run_pure,Bool.false_eq_true,if_false]
       ·simp only [execOp,ho,Instr.lookup,u1,Sem.run_bind,zF hT hu,Result.andThen,yh g1,hck,rf,Sem.run_pure,Bool.false_eq_true,if_false]
      ·refine OpOK.pure h (v':=.tuple #[en'.val,.bool true]) ?_ (VR.tuple_of (.cons g3.val (.cons (.bool _) .nil)))
       rcases r1 with ⟨u1,rfl⟩ | ⟨q,c,u1,g1⟩
       ·simp only [execOp,ho,Instr.lookup,u1,Sem.run_bind,zF hT hu,Result.andThen,hck,rf,Sem.run_pure,if_true]
       ·simp only [execOp,ho,Instr.lookup,u1,Sem.run_bind,zF hT hu,Result.andThen,yh g1,hck,rf,Sem.run_pure,if_true]
     ·next hf =>
      have rf:=vW (w:=w) hT hd hik (hv ix) r2 hf
      simp only [Option.some.injEq,Prod.mk.injEq] at e
      obtain ⟨rfl,rfl⟩:=e
      cases ok
      ·refine OpOK.pure h (v':=z') ?_ hvz
       rcases r1 with ⟨u1,rfl⟩ | ⟨q,c,u1,g1⟩
       ·simp only [execOp,ho,Instr.lookup,u1,Sem.run_bind,zF hT hu,Result.andThen,hck,rf,rz,Sem.run_pure,Bool.false_eq_true,if_false]
       ·simp only [execOp,ho,Instr.lookup,u1,Sem.run_bind,zF hT hu,Result.andThen,yh g1,hck,rf,rz,Sem.run_pure,Bool.false_eq_true,if_false]
      ·refine OpOK.pure h (v':=.tuple #[z',.bool false]) ?_ (VR.tuple_of (.cons hvz (.cons (.bool _) .nil)))
       rcases r1 with ⟨u1,rfl⟩ | ⟨q,c,u1,g1⟩
       ·simp only [execOp,ho,Instr.lookup,u1,Sem.run_bind,zF hT hu,Result.andThen,hck,rf,rz,Sem.run_pure,if_true]
       ·simp only [execOp,ho,Instr.lookup,u1,Sem.run_bind,zF hT hu,Result.andThen,yh g1,hck,rf,rz,Sem.run_pure,if_true]
     ·cases e
   ·cases e
  ·cases e
 ·cases e
theorem zCQ (f:MapEntry→MapEntry):∀ (es:List MapEntry) (i:Nat),(kJ es i f).length=es.length∧∀ j:Nat,(kJ es i f)[j]?=if j=i then (es[j]?).map f else es[j]?
 | [],i=>by simp [kJ]
 | e::es,0=>by
   refine ⟨by simp [kJ],fun j=>?_⟩
   cases j <;> simp [kJ]
 | e::es,i+1=>by
   obtain ⟨h1,h2⟩:=zCQ f es i
   refine ⟨by simp [kJ,h1],fun j=>?_⟩
   cases j with
   | zero=>simp [kJ]
   | succ j=>simp [kJ,h2 j]
theorem op_mapPut (hT:TabOk tb P) (h:SR tb B w₀ ρ H w) {m k v m' k' v':Value} {t:TypeId} (hm:VR ρ m m') (hk:VR ρ k k') (hv:VR ρ v v') (e:mapPut tb H t m k v=some H') :
  ∃ w',(Instr.mapUpdate t m' k' v').run P w = .ok () w'∧SR tb B w₀ ρ H' w'∧Kept ρ H ρ H':=by
 unfold mapPut at e
 split at e
 ·next kt el r hu =>
  split at e
  ·next es c hg =>
   split at e
   ·next d hd =>
    cases hik:up tb kt d k
    ·rw [hik] at e; cases e
    ·rw [hik] at e
     simp only [cond_true] at e
     cases hm with
     | map hr =>
       next b =>
       obtain ⟨es',g1,g2⟩:=map_obj h hr hg
       have hck:=zBb (P:=P) (w:=w) hT hd hik hk false
       split at e
       ·next j en hf =>
        cases e
        obtain ⟨en',q1,q3,rf,q5⟩:=vW (w:=w) hT hd hik hk g2 hf
        have q1':es'[j]?=some en':=by simpa using q1
        obtain ⟨s1,k1⟩:=h.turn (o1:=.map (kJ es j fun e=>{ e with key:=k,val:=v }) c) (o1':=.map (es'.modify j fun e=>{ e with key:=k',val:=v' }) c) hr hg (by simp) (by simp) (by simp) ⟨rfl,rfl,by
         rw [Array.toList_modify]
         refine All2.of_get? ?_ fun i a hi=>?_
         ·rw [(zCQ _ es j).1,List.length_modify]; exact g2.length
         ·rw [(zCQ _ es j).2] at hi
          rw [List.getElem?_modify]
          by_cases hij:i=j
          ·subst hij
           rw [if_pos rfl] at hi
           cases he:es[i]? with
           | none=>rw [he] at hi; cases hi
           | some x =>
             rw [he] at hi
             simp only [Option.map_some,Option.some.injEq] at hi
             subst hi
             obtain ⟨y,hy,ry⟩:=g2.get i x he
             exact ⟨{ y with key:=k',val:=v' },by rw [hy]; simp,⟨hk,hv,ry.born⟩⟩
          ·rw [if_neg hij] at hi
           obtain ⟨y,hy,ry⟩:=g2.get i a hi
           exact ⟨y,by rw [hy]; simp [Ne.symm hij],ry⟩⟩
        refine ⟨_,?_,s1,k1⟩
        have hkeep:(Instr.keyThatStays en'.key k').run P w = .ok k' w:=by simp only [Instr.keyThatStays,q5,if_true]; rfl
        simp only [Instr.mapUpdate,Sem.run_bind,zF hT hu,Result.andThen,yh g1,hck,rf,q1',Option.map_some,Option.getD_some,hkeep,qg _ g1]
       ·next hf =>
        cases e
        have rf:=vW (w:=w) hT hd hik hk g2 hf
        obtain ⟨s1,k1⟩:=h.turn (o1:=.map (es++[{ key:=k,val:=v,born:=c }]) (c+1)) (o1':=.map (es'.push { key:=k',val:=v',born:=c }) (c+1)) hr hg (by simp) (by simp) (by simp) ⟨rfl,rfl,by
         rw [Array.toList_push]
         exact All2.append g2 (.cons ⟨hk,hv,rfl⟩ .nil)⟩
        refine ⟨_,?_,s1,k1⟩
        simp only [Instr.mapUpdate,Sem.run_bind,zF hT hu,Result.andThen,yh g1,hck,rf,qg _ g1]
       ·cases e
   ·cases e
  ·cases e
 ·cases e
theorem zBc (hT:TabOk tb P) (h:SR tb B w₀ ρ H w) (hv:∀ x,VR ρ (va x) (vb x)) {t:TypeId} {m k x:Operand} (ho:o.op = .mapUpdate t m k x∨o.op = .insert t m k x) (e:yH tb va o H=some (nx,H')) :
  OpOK tb P B w₀ ρ H w (execOp vb o) nx H':=by
 rcases ho with ho | ho <;>
 ·simp only [yH,ho] at e
  cases hp:mapPut tb H t (va m) (va k) (va x) with
  | none=>rw [hp] at e; cases e
  | some H2 =>
    rw [hp] at e
    simp only [Option.some.injEq,Prod.mk.injEq] at e
    obtain ⟨rfl,rfl⟩:=e
    obtain ⟨w',r,s1,k1⟩:=op_mapPut (P:=P) hT h (hv m) (hv k) (hv x) hp
    refine ⟨ρ,w',k1,s1,?_⟩
    simp only [NR,execOp,ho,Sem.run_bind,r,Result.andThen,Sem.run_pure]
theorem mapM_all {α β:Type} {f:α→Option β} {g:α→β}:∀ (l:List α),(∀ x∈l,f x=some (g x))→l.mapM f=some (l.map g)
 | [],_=>rfl
 | a::l,h=>by
   rw [List.mapM_cons,h a (by simp),mapM_all l fun x hx=>h x (by simp [hx])]
   rfl
theorem op_build (hT:TabOk tb P) (h:SR tb B w₀ ρ H w) (hv:∀ x,VR ρ (va x) (vb x)) {t:TypeId} {parts:Array (Nat×Operand)} (ho:o.op = .build t parts) (e:yH tb va o H=some (nx,H')) :
  OpOK tb P B w₀ ρ H w (execOp vb o) nx H':=by
 simp only [yH,ho] at e
 have zero:∀ z,(match xx tb t with | some z=>cond (solid z) (some z) none | none=>none)=some z→∃ it z',P.info? t=some it∧it.zero=some z'∧VRs ρ (cellsOf z) z'.cells.toList:=fun z hz=>by
  cases hzo:xx tb t with
  | none=>rw [hzo] at hz; cases hz
  | some z1 =>
    rw [hzo] at hz
    simp only at hz
    cases hs:solid z1
    ·rw [hs] at hz; cases hz
    ·rw [hs] at hz
     cases hz
     unfold xx at hzo
     cases hi:tb.info t with
     | none=>rw [hi] at hzo; cases hzo
     | some it =>
       rw [hi] at hzo
       simp only at hzo
       cases hz0:it.zero with
       | none=>rw [hz0] at hzo; cases hzo
       | some z0 =>
         rw [hz0] at hzo
         cases hzo
         exact ⟨it,z0,hT.info t it hi,hz0,vZ (VR.const ρ z0) hs⟩
 have size:∀ u n,tb.size u=some n→∃ i,P.info? u=some i∧i.size=n:=fun u n hn=>by
  unfold Tab.size at hn
  cases hi:tb.info u with
  | none=>rw [hi] at hn; cases hn
  | some i=>rw [hi] at hn; cases hn; exact ⟨i,hT.info u i hi,rfl⟩
 split at e
 ·next z fs hz hu =>
  obtain ⟨it,z',i1,i2,i3⟩:=zero z hz
  split at e
  ·next c hf =>
   simp only [Option.some.injEq,Prod.mk.injEq] at e
   obtain ⟨rfl,rfl⟩:=e
   have hall:fs.toList.mapM (fun f=>(P.info? f.type).map fun i=>(f.offset,i.size))=some (fs.toList.map fun f=>(f.offset,(tb.size f.type).getD 0)):=mapM_all _ fun f hfm=>by
    obtain ⟨n,hn⟩:=hT.flds t fs hu f hfm
    obtain ⟨i,j1,j2⟩:=size _ _ hn
    simp [hn,j1,j2]
   obtain ⟨c',f1,f2⟩:=vc (ρ:=ρ) (place':=fun i=>(fs.toList.map fun f=>(f.offset,(tb.size f.type).getD 0)).toArray[i]?) (fun i x hx=>by
    split at hx
    ·next f hfi =>
     split at hx
     ·next n hn =>
      cases hx
      simp [hfi,hn]
     ·cases hx
    ·cases hx) _ _ _ _ _ i3 (ur hv parts) hf
   refine OpOK.pure h (v':=.agg c') ?_ (VR.agg_of (by simpa using f2))
   have hb:=run_build (P:=P) w t (parts.map fun (i,x)=>(i,vb x)) c' (by
    unfold Program.built
    rw [i1,run_underlying hT hu]
    simp only [i2,hall]
    exact f1)
   simp only [execOp,ho,Sem.run_bind,hb,Result.andThen,Sem.run_pure]
  ·cases e
 ·next z l el hz hu =>
  obtain ⟨it,z',i1,i2,i3⟩:=zero z hz
  split at e
  ·next n hn =>
   split at e
   ·next c hf =>
    simp only [Option.some.injEq,Prod.mk.injEq] at e
    obtain ⟨rfl,rfl⟩:=e
    obtain ⟨ie,j1,j2⟩:=size _ _ hn
    obtain ⟨c',f1,f2⟩:=vc (ρ:=ρ) (place':=fun i=>some (i * n,n)) (fun i x hx=>hx) _ _ _ _ _ i3 (ur hv parts) hf
    refine OpOK.pure h (v':=.agg c') ?_ (VR.agg_of (by simpa using f2))
    have hb:=run_build (P:=P) w t (parts.map fun (i,x)=>(i,vb x)) c' (by
     unfold Program.built
     rw [i1,run_underlying hT hu]
     simp only [i2,j1,j2]
     exact f1)
    simp only [execOp,ho,Sem.run_bind,hb,Result.andThen,Sem.run_pure]
   ·cases e
  ·cases e
 ·cases e
end
end Go.Am
namespace Go.Am
open Go.RowKit
section
variable {tb:Tab} {P:Program} {B:Nat} {w₀:World} {ρ:Ren} {H:AH} {w:World} {va vb:Operand→Value} {o:Oper} {nx:ANext} {H':AH}
theorem zC8 (h:SR tb B w₀ ρ H w) {sz n:Nat} {x x':Value} {new:List Value} (hn:lengthOf x=some n) (hx:VR ρ x x') (e:rowOf H sz n x=some new) :
  ∃ new',VRs ρ new new'∧new.length=n * sz∧Builtin.lenOf x'=pure n∧∀ w2:World,w2.heap=w.heap→(Builtin.firstCells sz n x').run P w2 = .ok new'.toArray w2:=by
 unfold rowOf at e
 split at e
 ·next a m c =>
  cases hn
  cases hx with
  | slice hr hc hxx hrr =>
    next i off b s c' q =>
    by_cases h0:n * sz=0
    ·have:new=[]:=by
      unfold AH.load at e
      rw [h0] at e
      simp only at e
      split at e
      ·simp only [wh,Option.some.injEq] at e; exact e.symm
      ·cases e
     subst this
     refine ⟨[],.nil,by simp [h0],rfl,fun w2 _=>?_⟩
     simp only [Builtin.firstCells,h0]
     rfl
    ·rcases hxx with ⟨_,z⟩ | rfl
     ·exact absurd (by rw [z,Nat.zero_mul]) h0
     ·obtain ⟨cs',e1,e2,e3⟩:=zAs h hr e
      refine ⟨cs',e1,e2,rfl,fun w2 hw=>?_⟩
      refine run_firstCells_some w2 sz n _ n c' cs' (by rw [← e1.length]; exact e2) fun j v hj=>?_
      have:=e3 j v hj
      rw [Addr.add_eq]
      have hc:∀ a:Addr,w2.cell? a=w.cell? a:=fun a=>World.cell?_of_block (by rw [hw])
      rw [hc]
      exact this
 ·next m c =>
  cases hn
  cases hb:Nat.beq n 0
  ·rw [hb] at e; cases e
  ·rw [hb] at e; cases e
   have h0:n=0:=Nat.eq_of_beq_eq_true hb
   subst h0
   cases hx
   exact ⟨[],.nil,by simp,rfl,fun w2 _=>rfl⟩
 ·cases e
theorem xT {t u ty el:TypeId} {du:TypeDesc} {sz len n cap:Nat} {base:Option Addr} {x':Value} {new:List Value} {w':World} (hT:TabOk tb P) (hu:tb.under u=some du) (hdu:∀ k,du≠.int k) (ht:tb.under t=some (.slice el)) (hs:tb.size el=some sz)
  (hlx:Builtin.lenOf x'=pure n) (hfit:len+n≤cap) (hnew:(Builtin.firstCells sz n x').run P w = .ok new.toArray w)
  (hst:match base with | some a=>(storeCells (a.add (len * sz)) new).run P w = .ok () w' | none=>w'=w) :
  (Builtin.append_ #[t,u] ty #[.slice base len cap,x']).run P w = .ok (.slice base (len+n) cap) w':=by
 cases base with
 | none =>
   subst hst
   simp [Builtin.append_,zF hT ht,zF hT hu,run_size hT hs,hlx,hfit,hnew]
 | some a =>
   simp only at hst
   simp [Builtin.append_,zF hT ht,zF hT hu,run_size hT hs,hlx,hfit,hnew,hst]
theorem zED {t u ty el:TypeId} {du:TypeDesc} {sz len n cap:Nat} {base:Option Addr} {x':Value} {old new:List Value} (hT:TabOk tb P) (hu:tb.under u=some du) (hdu:∀ k,du≠.int k) (ht:tb.under t=some (.slice el)) (hs:tb.size el=some sz)
  (hlx:Builtin.lenOf x'=pure n) (hfit:¬ len+n≤cap) (h65:len+n < 65536) (hl:yf tb el=true) {z:Value} (hz:∀ w2:World,(zeroValue el).run P w2 = .ok z w2)
  (hold:(Builtin.firstCells sz len (.slice base len cap)).run P w.drew = .ok old.toArray w.drew) (hnew:(Builtin.firstCells sz n x').run P w.drew = .ok new.toArray w.drew) :
  ∃ newCap,len+n≤newCap∧(Builtin.append_ #[t,u] ty #[.slice base len cap,x']).run P w = .ok (.slice (some ⟨w.heap.size,0,none⟩) (len+n) newCap)
   (w.drew.alloc (.cells (old++new++(Builtin.zeroCells z.cells (newCap - (len+n))).toList).toArray el)):=by
 have hz':(match du with | .int _=>true | _=>false)=false:=by
  cases du <;> first | rfl | exact absurd rfl (hdu _)
 unfold yf at hl
 cases hi:tb.info el with
 | none=>rw [hi] at hl; cases hl
 | some info =>
   rw [hi] at hl
   have hby:info.bytes < 1048576:=by simp only [Nat.blt_eq] at hl; exact hl
   have h48:¬ (281474976710656 < Builtin.nextslicecap (len+n) cap * info.bytes):=by
    have h1:(len+n) * info.bytes≤65536 * 1048576:=Nat.mul_le_mul (by omega) (by omega)
    have:=growslice_fits (need:=len+n) (old:=cap) (bytes:=info.bytes) (by omega) (by omega)
    omega
   have h63:¬ ((9223372036854775807:Int) < (len:Int)+(n:Int)):=by omega
   have hmark:∀ (k:Nat) (w2:World),(askRoom k).run P w2 = .ok () w2:=fun k w2=>by
    unfold askRoom; split <;> rfl
   refine ⟨grownCap w (len+n) cap el,grownCap_ge _ _ _ _,?_⟩
   have hti:∀ w2:World,(typeInfo el).run P w2 = .ok info w2:=fun w2=>run_typeInfo hT hi w2
   simp [Builtin.append_,zF hT ht,zF hT hu,run_size hT hs,hlx,hfit,h63,h48,hti,hmark,Question.forced,hold,hnew,hz,newRow,grownCap]
   congr 2
   apply Array.ext'
   simp
theorem zero_all (hT:TabOk tb P) {t:TypeId} {z:Value} (h:xx tb t=some z):∃ z',(∀ w2:World,(zeroValue t).run P w2 = .ok z' w2)∧∀ ρ:Ren,VR ρ z z':=by
 unfold xx at h
 cases hi:tb.info t with
 | none=>rw [hi] at h; cases h
 | some i =>
   rw [hi] at h
   simp only at h
   cases hz:i.zero with
   | none=>rw [hz] at h; cases h
   | some z =>
     rw [hz] at h; cases h
     refine ⟨z,fun w2=>?_,fun ρ=>VR.const ρ z⟩
     simp only [zeroValue,Sem.run_bind,run_typeInfo hT hi,Result.andThen]
     rw [hz]
     rfl
theorem append_sound (hT:TabOk tb P) (h:SR tb B w₀ ρ H w) {t u ty:TypeId} {du:TypeDesc} {s s' x x' v:Value} (hu:tb.under u=some du) (hdu:∀ k,du≠.int k) (hs:VR ρ s s') (hx:VR ρ x x') (e:zBU tb H t s x=some (v,H')) :
  ∃ ρ' w' v',(Builtin.append_ #[t,u] ty #[s',x']).run P w = .ok v' w'∧Kept ρ H ρ' H'∧SR tb B w₀ ρ' H' w'∧VR ρ' v v':=by
 unfold zBU at e
 split at e
 ·next el base len cap n ht hln =>
  split at e
  ·next sz hsz =>
   split at e
   ·next new hrow =>
    obtain ⟨new',hnv,hnl,hlx,hfc⟩:=zC8 (P:=P) h hln hx hrow
    cases hc:Nat.ble (len+n) cap
    ·rw [hc] at e
     simp only [cond_false] at e
     have hncap:¬ len+n≤cap:=fun hle=>by rw [Nat.ble_eq_true_of_le hle] at hc; cases hc
     split at e
     ·next old hold =>
      cases hb:(Nat.blt (len+n) 65536 && yo new && yf tb el && zeroFits tb el sz)
      ·rw [hb] at e; cases e
      ·rw [hb] at e
       simp only [cond_true] at e
       simp only [Bool.and_eq_true] at hb
       obtain ⟨⟨⟨hb1,hb2⟩,hb3⟩,hb4⟩:=hb
       have h65:len+n < 65536:=by rw [Nat.blt_eq] at hb1; exact hb1
       obtain ⟨z',hz1,hz2,hspos⟩:∃ z',(∀ w2:World,(zeroValue el).run P w2 = .ok z' w2)∧z'.cells.size=sz∧0 < sz:=by
        unfold zeroFits at hb4
        split at hb4
        ·next z hz =>
         simp only [Bool.and_eq_true] at hb4
         obtain ⟨⟨k1,k2⟩,k3⟩:=hb4
         obtain ⟨z',r1,r2⟩:=zero_all (P:=P) hT hz
         refine ⟨z',r1,?_,by rw [Nat.blt_eq] at k3; exact k3⟩
         have:=(vZ (r2 ρ) k2).length
         rw [Nat.eq_of_beq_eq_true k1] at this
         simpa using this.symm
        ·cases hb4
       split at e
       ·next i H2 hg =>
        simp only [Option.some.injEq,Prod.mk.injEq] at e
        obtain ⟨rfl,rfl⟩:=e
        have fresh:∀ (c':Nat) (base':Option Addr),s' = .slice base' len c'→¬ len+n≤c'→rowOf H sz len (.slice base len cap)=some old→(∀ a,base=some a→∃ x,ρ a.block=some x) →
          ∃ ρ' w' v',(Builtin.append_ #[t,u] ty #[s',x']).run P w = .ok v' w'∧Kept ρ H ρ' H2∧SR tb B w₀ ρ' H2 w'∧VR ρ' (.slice (some ⟨i,0,none⟩) (len+n) (len+n)) v':=fun c' base' es hnc hro hcl=>by
         obtain ⟨old',hov,hol,_,hfo⟩:=zC8 (P:=P) h (x:=.slice base len cap) rfl hs hro
         rw [es] at hfo
         have hfo':(Builtin.firstCells sz len (.slice base' len c')).run P w.drew = .ok old'.toArray w.drew:=hfo w.drew rfl
         obtain ⟨newCap,c1,c2⟩:=zED (P:=P) (w:=w) (ty:=ty) hT hu hdu ht hsz hlx hnc h65 hb3 hz1 hfo' (hfc w.drew rfl)
         have hsize:(old'++new'++(Builtin.zeroCells z'.cells (newCap - (len+n))).toList).toArray.size=newCap * sz:=by
          have q1:=hov.length
          have q2:=hnv.length
          have q3:=size_zeroCells z'.cells (newCap - (len+n))
          simp only [List.size_toArray,List.length_append,Array.length_toList,q3,hz2,← q1,← q2,hol,hnl]
          rw [← Nat.add_mul,← Nat.add_mul]
          congr 1
          omega
         obtain ⟨s1,k1⟩:=h.drew.grow_new hg hcl (o':=.cells (old'++new'++(Builtin.zeroCells z'.cells (newCap - (len+n))).toList).toArray el) ⟨fun k v hk=>by
          obtain ⟨v',e1,r1⟩:=(All2.append hov hnv).get k v hk
          refine ⟨v',?_,r1⟩
          rw [Nat.zero_add]
          simp only [List.getElem?_toArray]
          rw [List.getElem?_append_left (List.getElem?_eq_some_iff.1 e1).1]
          exact e1,fun _=>rfl⟩ (r:=(newCap * sz,sz)) (fun c e fr hx=>by cases hx; exact hsize) hsz
         refine ⟨_,_,_,by rw [es]; exact c2,k1,s1,?_⟩
         have hrw:(ρ.put i (w.drew.heap.size,0) (newCap * sz,sz)).row w.heap.size=(newCap * sz,sz):=by rw [Ren.put_row]; exact if_pos rfl
         exact .slice (s:=0) (off:=0) (Ren.put_same _ _ _ _) c1 (.inr rfl) (.inr (by rw [hrw]; simp))
        cases base with
        | none =>
          have h0:len=0:=by
           simp only [oldRow] at hold
           cases hq:Nat.beq (len * sz) 0
           ·rw [hq] at hold; cases hold
           ·have:=Nat.eq_of_beq_eq_true hq
            rcases Nat.mul_eq_zero.1 this with q | q
            ·exact q
            ·omega
          subst h0
          have hold':old=[]:=by simp [oldRow] at hold; exact hold
          subst hold'
          have es:s' = .slice none 0 cap:=by cases hs; rfl
          exact fresh cap none es hncap rfl (fun a ha=>by cases ha)
        | some a =>
          have hs0:=hs
          cases hs with
          | slice hr hcc hxx hrr =>
            next j off b s c' q =>
            have hro:rowOf H sz len (.slice (some ⟨j,off,none⟩) len cap)=some old:=by
             simp only [oldRow] at hold
             split at hold
             ·next c el' hgj _ =>
              cases hq:Nat.beq el' el
              ·rw [hq] at hold; cases hold
              ·rw [hq] at hold
               simp only [rowOf,AH.load,hgj]
               exact hold
             ·cases hold
            by_cases hroom:len+n≤c'
            ·simp only [oldRow] at hold
             split at hold
             ·next c el' hgj _ =>
              cases hq:Nat.beq el' el
              ·rw [hq] at hold; cases hold
              ·rw [hq] at hold
               simp only [cond_true] at hold
               have hel:el'=el:=Nat.eq_of_beq_eq_true hq
               subst hel
               have hq':q=s+off:=by
                rcases hxx with ⟨z0,z1⟩ | hxx
                ·omega
                ·exact hxx
               subst hq'
               have hrow2:(ρ.row b).2=sz:=by
                have:=h.elem j b s hr _ _ _ hgj
                rw [hsz] at this
                exact (Option.some.inj this).symm
               obtain ⟨o1,o',q1,q2,q3⟩:=h.obj j b s hr
               rw [hgj] at q1; cases q1
               cases o' with
               | cells cc ee fr =>
                 have hfr:fr=(0,0):=q3.2 rfl
                 subst hfr
                 have hcs:=h.rows j b s hr _ _ _ q2
                 have hright:s+off+c' * sz≤cc.size:=by
                  rcases hrr with z0 | z0
                  ·omega
                  ·rw [hrow2,← hcs] at z0; exact z0
                 have hmul:(len+n) * sz≤c' * sz:=Nat.mul_le_mul_right _ hroom
                 rw [Nat.add_mul] at hmul
                 rw [← hnl] at hg
                 obtain ⟨s1,k1,_⟩:=h.grow_in hg hr hgj hold q2 hnv (by rw [hnl]; omega) rfl
                 have hst:=xD (P:=P) (b:=b) (o:=s+off+len * sz) new' 0 w cc q2 (zAt hnv hb2) (by rw [← hnv.length,hnl]; omega)
                 rw [Nat.add_zero] at hst
                 refine ⟨_,_,_,xT (P:=P) (w':=w.putObj b (.cells (wN (s+off+len * sz) new' cc) ee (0,0))) hT hu hdu ht hsz hlx hroom (hfc w rfl) ?_,k1,s1,?_⟩
                 ·simp only [Addr.add_eq]
                  exact hst
                 ·refine .slice (s:=s+off) (off:=0) (Ren.put_same _ _ _ _) hroom (.inr rfl) (.inr ?_)
                  rw [Ren.put_row,if_pos rfl,hrow2,← hcs]
                  exact hright
               | _=>exact q3.elim
             ·cases hold
            ·exact fresh c' _ rfl hroom hro (fun a ha=>by cases ha; exact ⟨_,hr⟩)
       ·cases e
     ·cases e
    ·rw [hc] at e
     simp only [cond_true] at e
     have hle:len+n≤cap:=Nat.le_of_ble_eq_true hc
     split at e
     ·next a =>
      split at e
      ·next H2 hst =>
       simp only [Option.some.injEq,Prod.mk.injEq] at e
       obtain ⟨rfl,rfl⟩:=e
       have hs0:=hs
       cases hs with
       | slice hr hcc hxx hrr =>
         next j off b s c' q =>
         rw [qd] at hst
         obtain ⟨w',r1,s1,k1⟩:=zCx (P:=P) h hr hst hnv
         refine ⟨ρ,w',_,xT (P:=P) (w':=w') hT hu hdu ht hsz hlx (Nat.le_trans hle hcc) (hfc w rfl) ?_,k1,s1,.slice hr hcc ?_ hrr⟩
         ·simp only [Addr.add_eq]
          rcases hxx with ⟨z0,z1⟩ | rfl
          ·have hn0:n=0:=by omega
           subst hn0
           have:new'=[]:=by
            have h1:=hnv.length
            rw [hnl,Nat.zero_mul] at h1
            exact List.length_eq_zero_iff.1 h1.symm
           subst this
           exact r1
          ·rw [Nat.add_assoc s off]
           exact r1
         ·rcases hxx with ⟨z0,z1⟩ | hxx
          ·exact .inl ⟨z0,by omega⟩
          ·exact .inr hxx
      ·cases e
     ·simp only [Option.some.injEq,Prod.mk.injEq] at e
      obtain ⟨rfl,rfl⟩:=e
      cases hs with
      | nilSlice =>
        exact ⟨ρ,w,_,xT (P:=P) (w':=w) hT hu hdu ht hsz hlx hle (hfc w rfl) rfl,.refl _ _,h,.nilSlice _ _⟩
   ·cases e
  ·cases e
 ·cases e
theorem op_builtin (hT:TabOk tb P) (h:SR tb B w₀ ρ H w) (hv:∀ x,VR ρ (va x) (vb x)) {c:Call} {bi:Builtin} (ho:o.op = .call c) (hf:c.callee = .builtin bi) (e:yH tb va o H=some (nx,H')) :
  OpOK tb P B w₀ ρ H w (execOp vb o) nx H':=by
 have hargs:=VRs.operands hv c.args
 have hargs':VRs ρ (c.args.toList.map va) (c.args.map vb).toList:=by simpa using hargs
 simp only [yH,ho,hf] at e
 have run:(execOp vb o).run P w=(builtin bi c.argTypes o.type (c.args.map fun | .const _=>true | _=>false) (c.args.map vb)).run P w:=by
  simp only [execOp,ho,resolve,hf,Sem.run_bind,Sem.run_pure,Result.andThen,invoke]
  rfl
 unfold OpOK
 rw [run]
 generalize c.args.map vb=args' at hargs' ⊢
 generalize c.args.toList.map va=args at hargs' e
 generalize (c.args.map fun | .const _=>true | _=>false)=cs
 obtain ⟨la⟩:=args'
 generalize c.argTypes=ats at e ⊢
 obtain ⟨lt⟩:=ats
 simp only at hargs' e
 have pure':∀ (s:Sem Value) (v v':Value),s.run P w = .ok v' w→VR ρ v v'→∀ nx,nx = .value v→∃ ρ' w',Kept ρ H ρ' H∧SR tb B w₀ ρ' H w'∧NR P ρ' nx ((do pure (Next.value (← s)):Sem Next).run P w) w':=fun s v v' hr hv nx hn=>by
  subst hn
  exact ⟨ρ,w,.refl _ _,h,v',by simp only [Sem.run_bind,hr,Result.andThen,Sem.run_pure],hv⟩
 unfold zCK at e
 split at e
 ·next t ts x =>
  split at e
  ·next n hn =>
   simp only [Option.some.injEq,Prod.mk.injEq] at e
   obtain ⟨rfl,rfl⟩:=e
   cases hargs' with
   | cons hx hr =>
     cases hr
     exact pure' _ _ _ (lenOf_sound (P:=P) hT h (ats:=⟨t::ts⟩) (args:=⟨[_]⟩) rfl rfl hx hn) (.int _ _) _ rfl
  ·cases e
 ·next t ts a n =>
  split at e
  ·next el hu =>
   simp only [Option.some.injEq,Prod.mk.injEq] at e
   obtain ⟨rfl,rfl⟩:=e
   cases hargs' with
   | cons hx hr =>
     cases hr
     cases hx
     refine pure' _ (zAq n) (zAq n) ?_ (.int _ _) _ rfl
     have:(Builtin.cap_ ⟨t::ts⟩ o.type ⟨[.slice none a n]⟩).run P w = .ok (zAq n) w:=by
      unfold Builtin.cap_
      simp only [List.getElem?_toArray,List.getElem?_cons_zero,Sem.run_bind,zF hT hu,Result.andThen]
      rfl
     exact this
  ·cases e
 ·next t u s x =>
  split at e
  ·cases e
  ·next du hu hne =>
   cases ha:zBU tb H t s x with
   | none=>rw [ha] at e; cases e
   | some r =>
     obtain ⟨v,H2⟩:=r
     rw [ha] at e
     simp only [two,Option.some.injEq,Prod.mk.injEq] at e
     obtain ⟨rfl,rfl⟩:=e
     cases hargs' with
     | cons hs hr =>
       cases hr with
       | cons hx hr2 =>
         cases hr2
         obtain ⟨ρ',w',v',r1,k1,s1,v1⟩:=append_sound (P:=P) (ty:=o.type) hT h hne (fun k hk=>by subst hk; exact absurd rfl (hu k)) hs hx ha
         refine ⟨ρ',w',k1,s1,v',?_,v1⟩
         have r1':(Builtin.append_ ⟨[t,u]⟩ o.type ⟨[_,_]⟩).run P w = .ok v' w':=r1
         simp only [builtin,Sem.run_bind,r1',Result.andThen,Sem.run_pure]
  ·cases e
 ·next ts k x k2 y =>
  simp only [Option.some.injEq,Prod.mk.injEq] at e
  obtain ⟨rfl,rfl⟩:=e
  cases hargs' with
  | cons hs hr =>
    cases hr with
    | cons hx hr2 =>
      cases hr2
      cases hs
      cases hx
      exact pure' _ _ _ rfl (.int _ _) _ rfl
 ·next ts k x k2 y =>
  simp only [Option.some.injEq,Prod.mk.injEq] at e
  obtain ⟨rfl,rfl⟩:=e
  cases hargs' with
  | cons hs hr =>
    cases hr with
    | cons hx hr2 =>
      cases hr2
      cases hs
      cases hx
      exact pure' _ _ _ rfl (.int _ _) _ rfl
 ·simp only [Option.some.injEq,Prod.mk.injEq] at e
  obtain ⟨rfl,rfl⟩:=e
  exact ⟨ρ,w,.refl _ _,h,rfl⟩
 ·cases e
theorem zAu (hT:TabOk tb P) (h:SR tb B w₀ ρ H w) (hv:∀ x,VR ρ (va x) (vb x)) (e:yH tb va o H=some (nx,H')):OpOK tb P B w₀ ρ H w (execOp vb o) nx H':=by
 cases ho:o.op with
 | move x=>exact op_move h hv (.inl ho) e
 | assign x=>exact op_move h hv (.inr ho) e
 | pick c a b=>exact op_pick h hv ho e
 | alloc t=>simp only [yH,ho] at e; exact vd hT h hv e
 | box t x=>simp only [yH,ho] at e; exact vd hT h hv e
 | build t ps=>exact op_build hT h hv ho e
 | buildSlice t l ps=>simp only [yH,ho] at e; exact vd hT h hv e
 | load t a=>exact op_load hT h hv ho e
 | store t a x=>exact op_store hT h hv ho e
 | nilCheck x=>exact op_nilCheck h hv ho e
 | binOp op t x y z=>exact op_binOp hT h hv ho e
 | unOp op t x=>exact op_unOp h hv ho e
 | convert s d x=>exact op_convert hT h hv ho e
 | makeInterface t x=>exact zCM hT h hv ho e
 | makeFunc f a c=>exact op_makeFunc h hv ho e
 | makeMap t r=>simp only [yH,ho] at e; exact vd hT h hv e
 | makeSlice t l c=>simp only [yH,ho] at e; exact vd hT h hv e
 | slice t x lo hi mx=>exact op_slice hT h hv ho e
 | fieldAddr s x f=>exact op_fieldAddr hT h hv ho e
 | field t x f=>exact op_field hT h hv ho e
 | indexAddr t x ix=>exact op_indexAddr hT h hv ho e
 | index t x ix=>exact op_index hT h hv ho e
 | lookup t x ix ok=>exact op_lookup hT h hv ho e
 | mapUpdate t m k x=>exact zBc hT h hv (.inl ho) e
 | insert t m k x=>exact zBc hT h hv (.inr ho) e
 | extract t k=>exact op_extract h hv ho e
 | call c =>
   cases hc:c.callee with
   | value f=>exact op_call h hv ho hc e
   | builtin b=>exact op_builtin hT h hv ho hc e
   | invoke r n=>simp only [yH,ho,hc] at e; cases e
 | defer c =>
   cases hc:c.callee with
   | value f=>exact op_defer h hv ho hc e
   | builtin b=>simp only [yH,ho,hc] at e; cases e
   | invoke r n=>simp only [yH,ho,hc] at e; cases e
 | _=>simp only [yH,ho] at e; cases e
end
end Go.Am
namespace Go.Am
open Go.RowKit
section
variable {tb:Tab} {va vb:Operand→Value} {o:Oper} {H:AH}
theorem zC9 {ps:Array (Nat×Operand)} (h:∀ x∈(ps.toList.map (·.2)).toArray,va x=vb x):(ps.toList.map fun p=>(p.1,va p.2))=(ps.toList.map fun p=>(p.1,vb p.2)):=by
 refine List.map_congr_left fun p hp=>?_
 obtain ⟨i,x⟩:=p
 rw [h x (by simp; exact ⟨i,by simpa using hp⟩)]
theorem zCR {x:Option Operand} (h:∀ y∈x.toArray,va y=vb y):x.map va=x.map vb:=by
 cases x with
 | none=>rfl
 | some y=>simp [h y (by simp)]
theorem args_congr {xs:Array Operand} (h:∀ y∈xs,va y=vb y):xs.toList.map va=xs.toList.map vb:=List.map_congr_left fun y hy=>h y (by simpa using hy)
theorem zCS {xs:Array Operand} (h:∀ y∈xs,va y=vb y):xs.map va=xs.map vb:=Array.map_congr_left h
theorem zAg (h:∀ x∈o.op.operands,va x=vb x):wj tb va o=wj tb vb o:=by
 unfold wj
 cases ho:o.op <;> try rfl
 all_goals (rw [ho] at h; simp only [Op.operands] at h; dsimp only)
 case box t x=>rw [h x (by simp)]
 case buildSlice t l ps=>rw [zC9 h]
 case makeSlice t l c=>rw [h l (by simp),h c (by simp)]
theorem zEE (h:∀ x∈o.op.operands,va x=vb x):yH tb va o H=yH tb vb o H:=by
 have hal:zAd tb va o H=zAd tb vb o H:=by unfold zAd; rw [zAg h]
 unfold yH
 cases ho:o.op
 all_goals dsimp only
 all_goals (first | exact hal | (rw [ho] at h; simp only [Op.operands] at h))
 case move x=>rw [h x (by simp)]
 case assign x=>rw [h x (by simp)]
 case pick c a b=>rw [h c (by simp),h a (by simp),h b (by simp)]
 case build t ps=>rw [zC9 h]
 case load t a=>rw [h a (by simp)]
 case store t a x=>rw [h a (by simp),h x (by simp)]
 case nilCheck x=>rw [h x (by simp)]
 case binOp op t x y z=>rw [h x (by simp),h y (by simp)]
 case unOp op t x=>rw [h x (by simp)]
 case convert s d x=>rw [h x (by simp)]
 case makeInterface t x=>rw [h x (by simp)]
 case makeFunc f a c =>
  cases f <;> try rfl
  simp only [zCS (va:=va) (vb:=vb) (xs:=a) (fun y hy=>h y (by simp [hy])),zCS (va:=va) (vb:=vb) (xs:=c) (fun y hy=>h y (by simp [hy]))]
 case slice t x lo hi mx =>
  simp only [zCR (va:=va) (vb:=vb) (x:=lo) (fun y hy=>h y (by simp [hy])),zCR (va:=va) (vb:=vb) (x:=hi) (fun y hy=>h y (by simp [hy])),zCR (va:=va) (vb:=vb) (x:=mx) (fun y hy=>h y (by simp [hy])),h x (by simp)]
 case fieldAddr s x f=>rw [h x (by simp)]
 case field s x f=>rw [h x (by simp)]
 case indexAddr t x ix=>rw [h x (by simp),h ix (by simp)]
 case index t x ix=>rw [h x (by simp),h ix (by simp)]
 case lookup t x ix ok=>rw [h x (by simp),h ix (by simp)]
 case mapUpdate t m k x=>rw [h m (by simp),h k (by simp),h x (by simp)]
 case insert t m k x=>rw [h m (by simp),h k (by simp),h x (by simp)]
 case extract t k=>rw [h t (by simp)]
 case call c =>
  have hargs:=args_congr (va:=va) (vb:=vb) (xs:=c.args) fun y hy=>h y (by unfold Call.operands; simp [hy])
  cases hc:c.callee with
  | value f=>simp only [hargs,h f (by unfold Call.operands; simp [hc])]
  | builtin b=>simp only [hargs]
  | invoke r n=>rfl
 case defer c =>
  have hargs:=zCS (va:=va) (vb:=vb) (xs:=c.args) fun y hy=>h y (by unfold Call.operands; simp [hy])
  cases hc:c.callee with
  | value f=>simp only [hargs,h f (by unfold Call.operands; simp [hc])]
  | builtin b=>rfl
  | invoke r n=>rfl
end
noncomputable def mask (xs:Array Operand) (f:Operand→Value):Operand→Value:=fun x=>@ite _ (x∈xs) (Classical.propDecidable _) (f x) undef
theorem mask_mem {xs:Array Operand} {f:Operand→Value} {x:Operand} (h:x∈xs):f x=mask xs f x:=by unfold mask; rw [if_pos h]
theorem zEF {ρ:Ren} {xs:Array Operand} {f g:Operand→Value} (h:∀ x∈xs,VR ρ (f x) (g x)) (x:Operand):VR ρ (mask xs f x) (g x):=by
 unfold mask
 by_cases hx:x∈xs
 ·rw [if_pos hx]; exact h x hx
 ·rw [if_neg hx]; exact .dead _
def FF (r:Option Nat):Fence:={ Fence.wide with round:=r }
theorem FF_fn (r:Option Nat) (f:FuncId):(FF r).fn f:=trivial
section
variable {tb:Tab} {P:Program} {B:Nat} {w₀:World}
def Fin (tb:Tab) (B:Nat) (w₀:World) (ρ:Ren) (H:AH) (v:Value) (H':AH):Ending→World→Prop
 | .returned v',w'=>∃ ρ',Kept ρ H ρ' H'∧SR tb B w₀ ρ' H' w'∧VR ρ' v v'
 | _,_=>False
structure CallerOK (tb:Tab) (P:Program) (B:Nat) (w₀:World) (call:yp):Prop where
 fn:∀ f args H v H',call (.fn f) args H=some (v,H')→tb.ext f=0→∀ ρ w (args':Array Value),SR tb B w₀ ρ H w→Glob tb ρ→VRs ρ args args'.toList →
  (callFunc f args').run P w = .ok (.enter f args') w∧∀ n,CallsIn Fence.wide n P f args' w (Fin tb B w₀ ρ H v H')
 ext:∀ f args H v H',call (.fn f) args H=some (v,H')→tb.ext f≠0→∀ ρ w (args':Array Value),SR tb B w₀ ρ H w→Glob tb ρ→VRs ρ args args'.toList →
  (∃ w' v',(callFunc f args').run P w = .ok (.value v') w'∧Fin tb B w₀ ρ H v H' (.returned v') w') ∨
   ((callFunc f args').run P w = .ok (.enter f args') w∧∀ n,CallsIn Fence.wide n P f args' w (Fin tb B w₀ ρ H v H'))
 round:∀ l args H v H',call (.round l) args H=some (v,H')→∀ ρ w l' (args':Array Value),SR tb B w₀ ρ H w→Glob tb ρ→ρ l=some (l',0)→VRs ρ args args'.toList →
  ∃ f tmps assign body,(Instr.yield l' args').run P w = .ok (.round l' f tmps assign body) w∧∀ n,RoundIn Fence.wide n P l' f tmps assign body w (Fin tb B w₀ ρ H v H')
theorem qh {ρ:Ren} {ops:Array Oper} {o:Oper} {a:AAct} {b:Act} {x:Bool} (e:vR ops o a=some x)
  (h:∀ j y g d v,o.guard=some (j,y)→ops[j]?=some g→g.dst=some d→a.tmps.get d=some v→∃ v',b.tmps[d]?=some v'∧VR ρ v v'):Region.wanted o (yielded ops b.tmps)=x:=by
 unfold vR at e
 unfold Region.wanted
 split at e
 ·next hg=>cases e; rw [hg]
 ·next j y hg =>
  rw [hg]
  simp only
  split at e
  ·next g hj =>
   split at e
   ·next d hd =>
    split at e
    ·next c hv =>
     cases e
     obtain ⟨v',e1,r⟩:=h j y g d _ hg hj hd hv
     rw [r.bool_inv] at e1
     have:yielded ops b.tmps j=some c:=by simp [yielded,hj,hd,e1]
     rw [this]
     cases c <;> cases y <;> rfl
    ·next hv =>
     cases e
     obtain ⟨v',e1,r⟩:=h j y g d _ hg hj hd hv
     have:v'=undef:=by cases r; rfl
     subst this
     have:yielded ops b.tmps j=none:=by simp [yielded,hj,hd,e1,undef]
     rw [this]
     rfl
    ·cases e
   ·cases e
  ·cases e
def Pushed (ρ:Ren) (ds:List Deferred) (ds':List Deferred) (es es':List Deferred):Prop :=
 (es=ds∧es'=ds')∨∃ d d',DR ρ d d'∧es=d::ds∧es'=d'::ds'
theorem do_sound (hT:TabOk tb P) {call:yp} (hc:CallerOK tb P B w₀ call) {en:AEnv} {r:Option Nat} (hr:en.inRound=r.isSome) {ops:Array Oper} {o:Oper} {ρ:Ren} {H:AH} {w:World} {a a':AAct} {b:Act} {H':AH}
  (h:SR tb B w₀ ρ H w) (hg:Glob tb ρ) (hv:∀ x∈o.op.operands,VR ρ (a.val tb x) (b.eval x)) (hw:∀ x,vR ops o a=some x→Region.wanted o (yielded ops b.tmps)=x)
  (e:amDo tb call en ops o a H=some (a',H')) {n:Nat} {K:Act→World→Prop} {Q:Exit→Act→World→Prop}
  (hk:∀ ρ' w' v v' es es',Kept ρ H ρ' H'→SR tb B w₀ ρ' H' w'→VR ρ' v v'→Pushed ρ' a.defers b.defers es es'→a'=AAct.put ⟨a.tmps,es⟩ en.n o.dst v→K (Act.put { b with defers:=es' } o.dst v') w') :
  if Region.wanted o (yielded ops b.tmps)=true then Oper.wpIn (FF r) n P o b w K Q else (∀ f,o.about P w b.eval=some f→(FF r).fn f)∧K (b.put o.dst undef) w:=by
 unfold amDo at e
 split at e
 ·next hwt =>
  rw [if_pos (hw _ hwt)]
  have hva:=zEF hv
  have hcg:yH tb (a.val tb) o H=yH tb (mask o.op.operands (a.val tb)) o H:=zEE fun x hx=>mask_mem hx
  refine ⟨fun f _=>FF_fn r f,?_⟩
  cases hop:yH tb (a.val tb) o H with
  | none=>rw [hop] at e; cases e
  | some y =>
    obtain ⟨nx,H1⟩:=y
    rw [hop] at e
    rw [hcg] at hop
    obtain ⟨ρ1,w1,k1,s1,hn⟩:=zAu (P:=P) hT h hva hop
    have hsem:o.semAt (FF r).round b.eval=execOp b.eval o:=by
     cases r with
     | none=>rfl
     | some l =>
       refine Oper.semAt_eq _ _ _ fun c ho=>?_
       simp only [yH,ho] at hop
       split at hop
       ·split at hop
        ·simp only [Option.some.injEq,Prod.mk.injEq] at hop
         obtain ⟨rfl,rfl⟩:=hop
         rw [hr] at e
         simp at e
        ·cases hop
       ·cases hop
    rw [hsem]
    cases nx with
    | value v =>
      obtain ⟨v',hrun,hvv⟩:=hn
      simp only [Option.some.injEq,Prod.mk.injEq] at e
      obtain ⟨rfl,rfl⟩:=e
      rw [hrun]
      exact hk ρ1 w1 v v' a.defers b.defers k1 s1 hvv (.inl ⟨rfl,rfl⟩) rfl
    | skip =>
      simp only [NR] at hn
      simp only [Option.some.injEq,Prod.mk.injEq] at e
      obtain ⟨rfl,rfl⟩:=e
      rw [hn]
      exact hk ρ1 w1 undef undef a.defers b.defers k1 s1 (.dead _) (.inl ⟨rfl,rfl⟩) rfl
    | enter f args =>
      obtain ⟨args',hargs,hrun⟩:=hn
      simp only at e
      cases hcl:call (.fn f) args H1 with
      | none=>rw [hcl] at e; cases e
      | some z =>
        obtain ⟨v,H2⟩:=z
        rw [hcl] at e
        simp only [Option.some.injEq,Prod.mk.injEq] at e
        obtain ⟨rfl,rfl⟩:=e
        have fin:∀ v' w2,Fin tb B w₀ ρ1 H1 v H2 (.returned v') w2→K (Act.put b o.dst v') w2:=fun v' w2 hf=>by
         obtain ⟨ρ2,k2,s2,v2⟩:=hf
         exact hk ρ2 w2 v v' a.defers b.defers (k1.trans k2) s2 v2 (.inl ⟨rfl,rfl⟩) rfl
        have enter:(callFunc f args').run P w1 = .ok (.enter f args') w1→(∀ n,CallsIn Fence.wide n P f args' w1 (Fin tb B w₀ ρ1 H1 v H2))→o.uponIn (FF r) n P b K Q ((execOp b.eval o).run P w):=fun he hcs=>by
         rw [hrun,he]
         refine ⟨(fun hd=>by cases hd),?_⟩
         have hcs':CallsIn (FF r) (n - 1) P f args' w1 (Fin tb B w₀ ρ1 H1 v H2):=hcs (n - 1)
         refine hcs'.mono fun en' w2 hf=>?_
         cases en' with
         | returned v'=>exact fin v' w2 hf
         | panicked c=>exact hf.elim
         | outgrown=>exact hf.elim
        by_cases hx:tb.ext f=0
        ·obtain ⟨he,hcs⟩:=hc.fn f args H1 v H2 hcl hx ρ1 w1 args' s1 (hg.mono k1.le) hargs
         exact enter he hcs
        ·rcases hc.ext f args H1 v H2 hcl hx ρ1 w1 args' s1 (hg.mono k1.le) hargs with ⟨w2,v',he,hf⟩ | ⟨he,hcs⟩
         ·rw [hrun,he]
          exact fin v' w2 hf
         ·exact enter he hcs
    | round l args =>
      obtain ⟨l',args',hl,hargs,hrun⟩:=hn
      simp only at e
      cases hcl:call (.round l) args H1 with
      | none=>rw [hcl] at e; cases e
      | some z =>
        obtain ⟨v,H2⟩:=z
        rw [hcl] at e
        simp only [Option.some.injEq,Prod.mk.injEq] at e
        obtain ⟨rfl,rfl⟩:=e
        obtain ⟨f,tmps,assign,body,he,hcs⟩:=hc.round l args H1 v H2 hcl ρ1 w1 l' args' s1 (hg.mono k1.le) hl hargs
        rw [hrun,he]
        refine ⟨(fun hd=>by cases hd),?_⟩
        have hcs':RoundIn (FF r) (n - 1) P l' f tmps assign body w1 (Fin tb B w₀ ρ1 H1 v H2):=hcs (n - 1)
        refine hcs'.mono fun en' w2 hf=>?_
        cases en' with
        | returned v' =>
          obtain ⟨ρ2,k2,s2,v2⟩:=hf
          exact hk ρ2 w2 v v' a.defers b.defers (k1.trans k2) s2 v2 (.inl ⟨rfl,rfl⟩) rfl
        | panicked c=>exact hf.elim
        | outgrown=>exact hf.elim
    | defer d =>
      obtain ⟨d',hrun,hd⟩:=hn
      simp only at e
      cases hin:en.inRound
      ·rw [hin] at e
       simp only [cond_false,Option.some.injEq,Prod.mk.injEq] at e
       obtain ⟨rfl,rfl⟩:=e
       rw [hrun]
       exact hk ρ1 w1 undef undef (d::a.defers) (d'::b.defers) k1 s1 (.dead _) (.inr ⟨d,d',hd,rfl,rfl⟩) rfl
      ·rw [hin] at e; cases e
    | recover=>cases e
 ·next hwt =>
  have h0:=hw _ hwt
  simp only [Option.some.injEq,Prod.mk.injEq] at e
  obtain ⟨rfl,rfl⟩:=e
  rw [if_neg (by rw [h0]; decide)]
  exact ⟨fun f _=>FF_fn r f,hk ρ w skipV undef a.defers b.defers (.refl _ _) h .skip (.inl ⟨rfl,rfl⟩) rfl⟩
 ·cases e
theorem AR.push {ρ σ:Ren} {n:Nat} {a:AAct} {b:Act} (h:AR ρ n a b) (l:ρ.le σ) {es es':List Deferred} (hp:Pushed σ a.defers b.defers es es'):AR σ n ⟨a.tmps,es⟩ { b with defers:=es' }:=by
 rcases hp with ⟨rfl,rfl⟩ | ⟨d,d',hd,rfl,rfl⟩
 ·exact h.mono l
 ·exact (h.mono l).defer hd
theorem ops_sound (hT:TabOk tb P) {call:yp} (hc:CallerOK tb P B w₀ call) {en:AEnv} {r:Option Nat} (hr:en.inRound=r.isSome) {ops:Array Oper} {n:Nat} {Q:Exit→Act→World→Prop}:∀ (rest:List Oper) (i:Nat) (ρ:Ren) (H:AH) (w:World) (a a':AAct) (b:Act) (H':AH),
  ops.toList.drop i=rest→SR tb B w₀ ρ H w→Glob tb ρ→AR ρ en.n a b→amOps tb call en ops rest a H=some (a',H') →
  (∀ ρ' b' w',Kept ρ H ρ' H'→SR tb B w₀ ρ' H' w'→AR ρ' en.n a' b'→Q .normal b' w')→wpOpsIn (FF r) n P ops Q (List.range' i rest.length) b w
 | [],i,ρ,H,w,a,a',b,H',_,h,_,ha,e,hq=>by
   cases e
   exact hq ρ b w (.refl _ _) h ha
 | o::rest,i,ρ,H,w,a,a',b,H',hd,h,hg,ha,e,hq=>by
   unfold amOps at e
   cases hdo:amDo tb call en ops o a H with
   | none=>rw [hdo] at e; cases e
   | some z =>
     obtain ⟨a1,H1⟩:=z
     rw [hdo] at e
     have ho:ops[i]?=some o:=by
      have:=congrArg List.head? hd
      simpa using this
     have hd':ops.toList.drop (i+1)=rest:=by
      have:=congrArg List.tail hd
      simpa using this
     have hds:=do_sound (n:=n) (Q:=Q) (K:=wpOpsIn (FF r) n P ops Q (List.range' (i+1) rest.length)) hT hc hr h hg (fun x _=>ha.val hg x) (fun x hx=>qh (ρ:=ρ) hx fun j y g d v _ _ _ hv=>ha.tmps.get d v hv) hdo
      (fun ρ1 w1 v v' es es' k1 s1 v1 p1 ea=>by
       have ha1:AR ρ1 en.n a1 (Act.put { b with defers:=es' } o.dst v'):=by rw [ea]; exact (ha.push k1.le p1).put o.dst v1
       exact ops_sound hT hc hr rest (i+1) ρ1 H1 w1 a1 a' _ H' hd' s1 (hg.mono k1.le) ha1 e fun ρ' b' w' k2 s2 a2=>hq ρ' b' w' (k1.trans k2) s2 a2)
     rw [List.length_cons,List.range'_succ]
     simp only [wpOpsIn,ho]
     exact hds
end
end Go.Am
namespace Go.Am
open Go.RowKit
theorem qI (m i:Nat):zy m i=m.testBit i:=by
 have h:Nat.land (Nat.shiftRight m i) 1=m / 2 ^ i % 2:=by
  show (m >>> i) &&& 1=_
  rw [Nat.and_one_is_mod,Nat.shiftRight_eq_div_pow]
 unfold zy
 rw [h,Nat.testBit_eq_decide_div_mod_eq]
 cases hb:Nat.beq (m / 2 ^ i % 2) 1
 ·have:¬ (m / 2 ^ i % 2=1):=fun e=>by rw [e] at hb; cases hb
  simp [this]
 ·have:=Nat.eq_of_beq_eq_true hb
  simp [this]
theorem zAv (a b i:Nat):zy (Nat.lor a b) i=(zy a i || zy b i):=by
 rw [qI,qI,qI]
 exact Nat.testBit_or a b i
theorem zEG {i j:Nat} (h:zy (bitOf i) j=true):j=i:=by
 rw [qI] at h
 have:bitOf i=2 ^ i:=by show 1 <<< i=2 ^ i; rw [Nat.one_shiftLeft]
 rw [this,Nat.testBit_two_pow] at h
 exact (of_decide_eq_true h).symm
theorem kP (i:Nat):zy 0 i=false:=by rw [qI]; simp
theorem sameO_eq {a b:AObj} (h:sameO a b=true):a=b:=by
 unfold sameO at h
 split at h
 ·next a e b f =>
  cases h1:Nat.beq e f
  ·rw [h1] at h; cases h
  ·rw [h1] at h
   rw [Nat.eq_of_beq_eq_true h1,vE (kN 8) _ _ h]
 ·rfl
 ·cases h
section
variable {tb:Tab} {va:Operand→Value} {o:Oper} {H:AH}
theorem qJ {v:Option Value} {nx:ANext} {H1:AH} (h:one v H=some (nx,H1)):H1=H:=by
 unfold one at h
 split at h <;> cases h
 rfl
theorem amOp_same {nx:ANext} {H1:AH} (hc:zj o.op=0) (e:yH tb va o H=some (nx,H1)):H1=H:=by
 unfold yH at e
 cases ho:o.op <;> rw [ho] at e hc <;> simp only [zj] at hc <;> simp only [] at e <;> try (cases hc; done)
 case move x=>cases e; rfl
 case assign x=>cases e; rfl
 case pick c a b=>split at e <;> cases e <;> rfl
 case build t ps=>(repeat' split at e) <;> cases e <;> rfl
 case load t a =>
  split at e
  ·exact qJ e
  ·cases e
 case nilCheck x=>split at e <;> cases e <;> rfl
 case binOp=>exact qJ e
 case unOp=>split at e <;> cases e <;> rfl
 case convert=>exact qJ e
 case makeInterface=>split at e <;> cases e <;> rfl
 case makeFunc f a c=>cases f <;> cases e <;> rfl
 case slice=>exact qJ e
 case fieldAddr=>(repeat' split at e) <;> cases e <;> rfl
 case field =>
  split at e
  ·split at e
   ·exact qJ e
   ·cases e
  ·cases e
 case indexAddr =>
  split at e
  ·split at e
   ·next n _ =>
    rename_i len _ i _ _ _ _ _
    revert e
    cases Nat.blt i len <;> intro e <;> cases e <;> rfl
   ·cases e
  ·split at e
   ·next n _ =>
    revert e
    cases Nat.blt _ _ <;> intro e <;> cases e <;> rfl
   ·cases e
  ·cases e
 case index =>
  split at e
  ·split at e <;> cases e <;> rfl
  ·split at e
   ·revert e
    cases Nat.blt _ _ <;> intro e
    ·cases e
    ·exact qJ e
   ·cases e
  ·cases e
 case lookup t x ix ok =>
  split at e
  ·split at e
   ·split at e
    ·revert e
     cases up _ _ _ _ <;> intro e
     ·cases e
     ·simp only [cond_true] at e
      split at e <;> cases e <;> rfl
    ·cases e
   ·cases e
  ·cases e
 case extract=>(repeat' split at e) <;> cases e <;> rfl
 case call c =>
  split at e
  ·next hcal=>rw [hcal] at hc; cases hc
  ·next b hcal =>
   rw [hcal] at hc
   unfold zCK at e
   split at e <;> (try dsimp only at hc) <;> try (cases hc; done)
   ·split at e <;> cases e <;> rfl
   ·split at e <;> cases e <;> rfl
   ·cases e; rfl
   ·cases e; rfl
   ·cases e
  ·cases e
 all_goals (cases e)
theorem allocOf_mk {obj:AObj} {mk:Nat→Value} (e:wj tb va o=some (obj,mk)) (i:Nat):idOf (mk i)=some i:=by
 have:mk=ptrTo∨mk=mapTo∨∃ l c,mk=vy l c:=by
  unfold wj at e
  cases ho:o.op <;> rw [ho] at e <;> (try dsimp only at e) <;> try (cases e; done)
  ·split at e <;> cases e; exact .inl rfl
  ·split at e
   ·revert e
    cases yo _ <;> intro e <;> cases e
    exact .inl rfl
   ·cases e
  ·split at e
   ·split at e
    ·revert e
     generalize (Nat.beq _ _ && solid _ && Nat.blt _ _)=q
     intro e
     cases q
     ·cases e
     ·simp only [cond_true] at e
      split at e <;> cases e
      exact .inr (.inr ⟨_,_,rfl⟩)
    ·cases e
   ·cases e
  ·split at e <;> cases e; exact .inr (.inl rfl)
  ·split at e
   ·split at e
    ·revert e
     generalize (Nat.ble _ _ && Nat.blt _ _ && yf _ _ && Nat.beq _ _ && solid _)=q
     intro e
     cases q <;> cases e
     exact .inr (.inr ⟨_,_,rfl⟩)
    ·cases e
   ·cases e
 rcases this with rfl | rfl | ⟨l,c,rfl⟩ <;> rfl
end
def Dn (L:Array Bool) (i:Nat):Prop:=L.getD i false=true
def uW (ops:Array Oper) (L:Array Bool) (i:Nat):Prop:=∀ o,ops[i]?=some o→∀ e∈o.after,Region.binds .any e=true→Dn L e.on
def Down (ops:Array Oper) (L:Array Bool):Prop:=∀ i,Dn L i→uW ops L i
def kQ (ops:Array Oper) (m i:Nat):Prop:=∀ L,Down ops L→uW ops L i→∀ j,zy m j=true→Dn L j
theorem Dn.set {L:Array Bool} {i j:Nat} (h:Dn L j):Dn (L.setIfInBounds i true) j:=by
 unfold Dn at *
 rw [Array.getD_eq_getD_getElem?] at *
 rw [Array.getElem?_setIfInBounds]
 split
 ·next hij =>
  subst hij
  split
  ·rfl
  ·next hn=>rw [Array.getElem?_eq_none (by omega)] at h; cases h
 ·exact h
theorem Dn.of_set {L:Array Bool} {i j:Nat} (h:Dn (L.setIfInBounds i true) j) (hij:j≠i):Dn L j:=by
 unfold Dn at *
 rw [Array.getD_eq_getD_getElem?] at *
 rw [Array.getElem?_setIfInBounds,if_neg (fun e=>hij e.symm)] at h
 exact h
theorem Dn.new {L:Array Bool} {i:Nat} (h:i < L.size):Dn (L.setIfInBounds i true) i:=by
 unfold Dn
 rw [Array.getD_eq_getD_getElem?,Array.getElem?_setIfInBounds,if_pos rfl,if_pos h]
 rfl
theorem qi {L:Array Bool} {i:Nat} (h:i < L.size):¬ Dn L i↔L.getD i true=false:=by
 unfold Dn
 rw [Array.getD_eq_getD_getElem?,Array.getD_eq_getD_getElem?,Array.getElem?_eq_getElem h]
 simp
theorem zAH {e:Edge}:Region.binds .any e=(match e.ground with | .textOnly _=>false | .gcOnly _=>false | _=>true):=by
 unfold Region.binds
 cases e.ground <;> rfl
theorem uX {clo:T Nat}:∀ (es:List Edge) (m0:Nat),(∀ e∈es,Region.binds .any e=true→∃ c,clo.get e.on=some c)→∃ m,yM clo es m0=some m
 | [],m0,_=>⟨m0,rfl⟩
 | e::es,m0,h=>by
   have hr:∀ f∈es,Region.binds .any f=true→∃ c,clo.get f.on=some c:=fun f hf=>h f (by simp [hf])
   have h1:=h e (by simp)
   rw [zAH] at h1
   unfold yM
   split
   ·exact uX es m0 hr
   ·exact uX es m0 hr
   ·next g1 g2 =>
    obtain ⟨c,hc⟩:=h1 (by
     split
     ·next x hx=>exact absurd hx (g1 x)
     ·next x hx=>exact absurd hx (g2 x)
     ·rfl)
    rw [hc]
    exact uX es _ hr
theorem vF {clo:T Nat}:∀ (es:List Edge) (m0 m:Nat),yM clo es m0=some m →
  (∀ e∈es,Region.binds .any e=true→∃ c,clo.get e.on=some c) ∧
  ∀ j,zy m j=true→zy m0 j=true∨∃ e∈es,Region.binds .any e=true∧(j=e.on∨∃ c,clo.get e.on=some c∧zy c j=true)
 | [],m0,m,h=>by
   cases h
   exact ⟨fun e he=>(by cases he),fun j hj=>.inl hj⟩
 | e::es,m0,m,h=>by
   unfold yM at h
   have lift:∀ x,yM clo es x=some m→(Region.binds .any e=true→∃ c,clo.get e.on=some c)→(∀ j,zy x j=true→zy m0 j=true∨(Region.binds .any e=true∧(j=e.on∨∃ c,clo.get e.on=some c∧zy c j=true)))→_:=fun x hx hb hj=>by
    obtain ⟨h1,h2⟩:=vF es x m hx
    refine (⟨fun f hf=>?_,fun j hm=>?_⟩:(∀ f∈e::es,Region.binds .any f=true→∃ c,clo.get f.on=some c)∧∀ j,zy m j=true→zy m0 j=true∨∃ f∈e::es,Region.binds .any f=true∧(j=f.on∨∃ c,clo.get f.on=some c∧zy c j=true))
    ·rcases List.mem_cons.1 hf with rfl | hf
     ·exact hb
     ·exact h1 f hf
    ·rcases h2 j hm with h3 | ⟨f,hf,r⟩
     ·rcases hj j h3 with h4 | h4
      ·exact .inl h4
      ·exact .inr ⟨e,by simp,h4⟩
     ·exact .inr ⟨f,by simp [hf],r⟩
   split at h
   ·next x hx=>exact lift m0 h (fun hb=>by rw [zAH,hx] at hb; cases hb) (fun j hj=>.inl hj)
   ·next x hx=>exact lift m0 h (fun hb=>by rw [zAH,hx] at hb; cases hb) (fun j hj=>.inl hj)
   ·next g1 g2 =>
    have hb:Region.binds .any e=true:=by
     rw [zAH]
     split
     ·next x hx=>exact absurd hx (g1 x)
     ·next x hx=>exact absurd hx (g2 x)
     ·rfl
    split at h
    ·next c hc =>
     refine lift _ h (fun _=>⟨c,hc⟩) fun j hj=>?_
     rw [zAv,zAv,Bool.or_eq_true,Bool.or_eq_true] at hj
     rcases hj with (hj | hj) | hj
     ·exact .inl hj
     ·exact .inr ⟨hb,.inr ⟨c,hc,hj⟩⟩
     ·exact .inr ⟨hb,.inl (zEG hj)⟩
    ·cases h
theorem uN {wr:T Nat} {m:Nat}:∀ (xs:List Operand),qa wr m xs=true→∀ t,.tmp t∈xs→∀ j,wr.get t=some j→zy m j=true
 | [],_,t,ht,_,_=>by cases ht
 | x::xs,h,t,ht,j,hj=>by
   cases x with
   | tmp u =>
     unfold qa at h
     cases hu:wr.get u with
     | none =>
       rw [hu] at h
       rcases List.mem_cons.1 ht with e | e
       ·cases e; rw [hu] at hj; cases hj
       ·exact uN xs h t e j hj
     | some k =>
       rw [hu] at h
       simp only at h
       cases hb:zy m k
       ·rw [hb] at h; cases h
       ·rw [hb] at h
        rcases List.mem_cons.1 ht with e | e
        ·cases e; rw [hu] at hj; cases hj; exact hb
        ·exact uN xs h t e j hj
   | const v =>
     rcases List.mem_cons.1 ht with e | e
     ·cases e
     ·exact uN xs h t e j hj
   | global g =>
     rcases List.mem_cons.1 ht with e | e
     ·cases e
     ·exact uN xs h t e j hj
   | func f =>
     rcases List.mem_cons.1 ht with e | e
     ·cases e
     ·exact uN xs h t e j hj
theorem wo {n:Nat} (hn:n≤zY):∀ (rest:List Oper) (i:Nat) (t wr:T Nat),wV n rest i t=some wr →
  (∀ d j,t.get d=some j→wr.get d=some j)∧(∀ (k:Nat) o d,rest[k]?=some o→o.dst=some d→wr.get d=some (i+k)∧d < n) ∧
  (∀ d j,wr.get d=some j→t.get d=some j∨∃ k o,j=i+k∧rest[k]?=some o∧o.dst=some d)
 | [],i,t,wr,h=>by
   cases h
   exact ⟨fun _ _ h=>h,fun k o d h=>by simp at h,fun _ _ h=>.inl h⟩
 | o::rest,i,t,wr,h=>by
   unfold wV at h
   split at h
   ·next hd =>
    obtain ⟨h1,h2,h3⟩:=wo hn rest (i+1) t wr h
    refine ⟨h1,fun k o' d hk hd'=>?_,fun d j hj=>?_⟩
    ·cases k with
     | zero=>simp at hk; subst hk; rw [hd] at hd'; cases hd'
     | succ k =>
       have:=h2 k o' d (by simpa using hk) hd'
       rw [show i+(k+1)=i+1+k by omega]; exact this
    ·rcases h3 d j hj with h4 | ⟨k,o',e1,e2,e3⟩
     ·exact .inl h4
     ·exact .inr ⟨k+1,o',by omega,by simpa using e2,e3⟩
   ·next d hd =>
    split at h
    ·cases h
    ·next hno =>
     cases hlt:Nat.blt d n
     ·rw [hlt] at h; cases h
     ·rw [hlt] at h
      have hdn:d < n:=by rw [Nat.blt_eq] at hlt; exact hlt
      obtain ⟨h1,h2,h3⟩:=wo hn rest (i+1) (t.set depth d i) wr h
      have hdb:d < zY:=Nat.lt_of_lt_of_le hdn hn
      have hset:∀ x,(t.set depth d i).get x=if x=d then some i else t.get x:=fun x=>T.get_set' _ _ _ hdb
      refine ⟨fun x j hx=>h1 x j ?_,fun k o' x hk hx=>?_,fun x j hx=>?_⟩
      ·rw [hset]
       split
       ·next e=>subst e; rw [hno] at hx; cases hx
       ·exact hx
      ·cases k with
       | zero =>
         simp at hk; subst hk
         rw [hd] at hx; cases hx
         exact ⟨h1 d i (by rw [hset,if_pos rfl]),hdn⟩
       | succ k =>
         have:=h2 k o' x (by simpa using hk) hx
         rw [show i+(k+1)=i+1+k by omega]; exact this
      ·rcases h3 x j hx with h4 | ⟨k,o',e1,e2,e3⟩
       ·rw [hset] at h4
        split at h4
        ·next e=>subst e; cases h4; exact .inr ⟨0,o,by omega,by simp,hd⟩
        ·exact .inl h4
       ·exact .inr ⟨k+1,o',by omega,by simpa using e2,e3⟩
end Go.Am
namespace Go.Am
open Go.RowKit
def OrdOK (ops:Array Oper):List Nat→Prop
 | []=>True
 | i::r=>(∀ o,ops[i]?=some o→∀ e∈o.after,Region.binds .any e=true→e.on∈r)∧OrdOK ops r
structure DStat (n:Nat) (ops:Array Oper) (wr clo:T Nat) (ord:List Nat):Prop where
 small:n≤zY
 wr1:∀ i o d,ops[i]?=some o→o.dst=some d→wr.get d=some i∧d < n
 wr2:∀ d j,wr.get d=some j→∃ o,ops[j]?=some o∧o.dst=some d
 under:∀ i m,clo.get i=some m→kQ ops m i
 look:∀ i m o,clo.get i=some m→ops[i]?=some o→qa wr m o.op.operands.toList=true∧yF m o=true
 inord:∀ i m,clo.get i=some m→i∈ord
 ordok:OrdOK ops ord
 ordlt:∀ i∈ord,i < ops.size
 here:∀ i m,clo.get i=some m→∃ o,ops[i]?=some o
section
variable {tb:Tab} {P:Program} {B:Nat} {w₀:World} {n:Nat} {ops:Array Oper} {wr clo:T Nat} {ord:List Nat}
theorem DStat.add (S:DStat n ops wr clo ord) {i m:Nat} {o:Oper} (ho:ops[i]?=some o) (hb:i < zY) (hc:yM clo o.after.toList 0=some m) (hs:qa wr m o.op.operands.toList=true) (hg:yF m o=true) :
  DStat n ops wr (clo.set depth i m) (i::ord)∧kQ ops m i:=by
 have get:∀ j,(clo.set depth i m).get j=if j=i then some m else clo.get j:=fun j=>T.get_set' _ _ _ hb
 obtain ⟨c1,c2⟩:=vF _ _ _ hc
 have hu:kQ ops m i:=fun L hd hp j hj=>by
  rcases c2 j hj with h | ⟨e,he,hbn,h⟩
  ·rw [kP] at h; cases h
  ·have hl:Dn L e.on:=hp o ho e (by simpa using he) hbn
   rcases h with rfl | ⟨c,hc1,hc2⟩
   ·exact hl
   ·exact S.under e.on c hc1 L hd (hd _ hl) j hc2
 refine ⟨⟨S.small,S.wr1,S.wr2,fun j k hj=>?_,fun j k o' hj ho'=>?_,fun j k hj=>?_,⟨fun o' ho' e he hbn=>?_,S.ordok⟩,fun j hj=>?_,fun j k hj=>?_⟩,hu⟩
 ·rw [get] at hj
  split at hj
  ·next e=>subst e; cases hj; exact hu
  ·exact S.under j k hj
 ·rw [get] at hj
  split at hj
  ·next e=>subst e; cases hj; rw [ho] at ho'; cases ho'; exact ⟨hs,hg⟩
  ·exact S.look j k o' hj ho'
 ·rw [get] at hj
  split at hj
  ·next e=>subst e; simp
  ·simp [S.inord j k hj]
 ·rw [ho] at ho'; cases ho'
  obtain ⟨c,hc'⟩:=c1 e (by simpa using he) hbn
  exact S.inord _ _ hc'
 ·rcases List.mem_cons.1 hj with rfl | hj
  ·exact (Array.getElem?_eq_some_iff.1 ho).1
  ·exact S.ordlt j hj
 ·rw [get] at hj
  split at hj
  ·next e=>subst e; exact ⟨o,ho⟩
  ·exact S.here j k hj
structure DDyn (tb:Tab) (B:Nat) (w₀:World) (n:Nat) (ops:Array Oper) (wr:T Nat) (ρ₀:Ren) (H₀:AH) (ρ:Ren) (L:Array Bool) (b:Act) (w:World) (clo:T Nat) (must:Nat) (a:AAct) (H:AH):Prop where
 size:L.size=ops.size
 down:Down ops L
 sub:∀ i,Dn L i→∃ m,clo.get i=some m
 eff:∀ i m o,clo.get i=some m→ops[i]?=some o→zj o.op=2→Dn L i
 must:∀ j,zy must j=true→Dn L j
 sr:SR tb B w₀ ρ H w
 glob:Glob tb ρ
 kept:Kept ρ₀ H₀ ρ H
 tsize:b.tmps.size=n
 tm:∀ t v,a.tmps.get t=some v→(∀ j,wr.get t=some j→Dn L j)→∃ v',b.tmps[t]?=some v'∧VR ρ v v'
 df:All2 (DR ρ) a.defers b.defers
 al:∀ i m o d v id,clo.get i=some m→ops[i]?=some o→zj o.op=1→¬ Dn L i→o.dst=some d→a.tmps.get d=some v→idOf v=some id→ρ id=none∧id < H.next∧H₀.next≤id
 inj:∀ i m o d v j m' o' d' v' id,clo.get i=some m→ops[i]?=some o→zj o.op=1→¬ Dn L i→o.dst=some d→a.tmps.get d=some v→idOf v=some id →
  clo.get j=some m'→ops[j]?=some o'→zj o'.op=1→¬ Dn L j→o'.dst=some d'→a.tmps.get d'=some v'→idOf v'=some id→i=j
variable {ρ₀:Ren} {H₀:AH} {ρ:Ren} {L:Array Bool} {b:Act} {w:World} {must:Nat} {a:AAct} {H:AH}
theorem DDyn.val (D:DDyn tb B w₀ n ops wr ρ₀ H₀ ρ L b w clo must a H) {i m:Nat} {o:Oper} (hu:kQ ops m i) (hs:qa wr m o.op.operands.toList=true) (hp:uW ops L i) :
  ∀ x∈o.op.operands,VR ρ (a.val tb x) (b.eval x):=fun x hx=>by
 have rest:(∀ t,x≠.tmp t)→VR ρ (a.val tb x) (b.eval x):=fun hne=>by
  have hA:AR ρ b.tmps.size ⟨.nil,[]⟩ { b with defers:=[] }∨True:=.inr trivial
  cases x with
  | tmp t=>exact absurd rfl (hne t)
  | const v=>exact VR.const ρ v
  | global g =>
    simp only [AAct.val,Act.eval]
    cases hgb:tb.glob g
    ·exact .dead _
    ·exact .ptr (s:=0) (off:=0) (D.glob g hgb)
  | func f=>exact .func rfl (fun i x y=>by simp at x) rfl (fun i x y=>by simp at x)
 cases x with
 | tmp t =>
   simp only [AAct.val,Act.eval]
   split
   ·next v hv =>
    obtain ⟨v',e1,r⟩:=D.tm t v hv fun j hj=>hu L D.down hp j (uN _ hs t (by simpa using hx) j hj)
    simp only [Array.getD_eq_getD_getElem?,e1,Option.getD_some]
    exact r
   ·exact .dead _
 | const v=>exact rest (fun t e=>by cases e)
 | global g=>exact rest (fun t e=>by cases e)
 | func f=>exact rest (fun t e=>by cases e)
theorem DDyn.wanted (D:DDyn tb B w₀ n ops wr ρ₀ H₀ ρ L b w clo must a H) (S:DStat n ops wr clo ord) {i m:Nat} {o:Oper} (hu:kQ ops m i) (hg:yF m o=true) (hp:uW ops L i) {x:Bool} (e:vR ops o a=some x) :
  Region.wanted o (yielded ops b.tmps)=x :=
 qh (ρ:=ρ) e fun j y g d v hgd hj hd hv=>by
  unfold yF at hg
  rw [hgd] at hg
  refine D.tm d v hv fun k hk=>?_
  have:=(S.wr1 j g d hj hd).1
  rw [this] at hk; cases hk
  exact hu L D.down hp j hg
theorem put_get {d t:Nat} {v:Value} (hd:d < n) (hn:n≤zY):(AAct.put a n (some d) v).tmps.get t=if t=d then some v else a.tmps.get t:=by
 obtain ⟨tm,ds⟩:=a
 have hb:Nat.blt d n=true:=by rw [Nat.blt_eq]; exact hd
 simp only [AAct.put,hb,cond_true]
 exact T.get_set' _ _ _ (by omega)
theorem zAI {L:Array Bool} {i:Nat} (hL:¬ Dn L i) (hsz:i < L.size):(L.setIfInBounds i true).toList.count false+1=L.toList.count false:=by
 have hl:L.toList[i]?=some false:=by
  rw [qi hsz] at hL
  rw [Array.getD_eq_getD_getElem?,Array.getElem?_eq_getElem hsz] at hL
  simp at hL
  simp [hsz,hL]
 have:∀ (l:List Bool) (i:Nat),l[i]?=some false→(l.set i true).count false+1=l.count false:=fun l=>by
  induction l with
  | nil=>intro i h; simp at h
  | cons x l ih =>
    intro i h
    cases i with
    | zero=>simp at h; subst h; simp
    | succ i =>
      have:=ih i (by simpa using h)
      cases x <;> simp <;> omega
 rw [Array.toList_setIfInBounds]
 exact this _ _ hl
theorem float_step (hT:TabOk tb P) {r:Option Nat} (S:DStat n ops wr clo ord) (D:DDyn tb B w₀ n ops wr ρ₀ H₀ ρ L b w clo must a H)
  (hre:∀ i m o,clo.get i=some m→ops[i]?=some o→zy must i=false→again tb ops o a H=true) {i m:Nat} {o:Oper} (hi:clo.get i=some m) (ho:ops[i]?=some o) (hL:¬ Dn L i) (hp:uW ops L i) (hcl:zj o.op≠2)
  {k:Nat} {K:Act→World→Prop} {Q:Exit→Act→World→Prop} (hk:∀ ρ' v' w',DDyn tb B w₀ n ops wr ρ₀ H₀ ρ' (L.setIfInBounds i true) (b.put o.dst v') w' clo must a H→K (b.put o.dst v') w') :
  wpOpIn (FF r) k P ops Q i K b w:=by
 have hlt:i < ops.size:=(Array.getElem?_eq_some_iff.1 ho).1
 have hu:=S.under i m hi
 obtain ⟨hs,hg⟩:=S.look i m o hi ho
 have hbit:zy must i=false:=by
  cases hb:zy must i
  ·rfl
  ·exact absurd (D.must i hb) hL
 have hag:=hre i m o hi ho hbit
 have hval:=D.val hu hs hp
 have done:∀ (ρ':Ren) (v':Value) (w':World),Kept ρ H ρ' H∨(ρ.le ρ'∧∃ d v id,o.dst=some d∧a.tmps.get d=some v∧idOf v=some id∧zj o.op=1∧∀ j,j≠id→ρ' j=ρ j) →
   SR tb B w₀ ρ' H w'→(∀ d v,o.dst=some d→a.tmps.get d=some v→VR ρ' v v')→DDyn tb B w₀ n ops wr ρ₀ H₀ ρ' (L.setIfInBounds i true) (b.put o.dst v') w' clo must a H:=fun ρ' v' w' hkp hsr hv=>by
  have hle:ρ.le ρ':=hkp.elim (fun h=>h.le) (fun h=>h.1)
  have none':∀ id,ρ id=none→id < H.next→(∀ d v,o.dst=some d→a.tmps.get d=some v→zj o.op=1→idOf v≠some id)→ρ' id=none:=fun id h1 h2 h3=>by
   rcases hkp with h | ⟨_,d,v,id',e1,e2,e3,e4,h⟩
   ·exact (h.left id h2 h1).1
   ·have:id≠id':=fun e=>h3 d v e1 e2 e4 (e ▸ e3)
    rw [h id this]; exact h1
  refine ⟨by simpa using D.size,fun j hj=>?_,fun j hj=>?_,fun j m' o' h1 h2 h3=>(D.eff j m' o' h1 h2 h3).set,fun j hj=>(D.must j hj).set,hsr,D.glob.mono hle,?_,?_,fun t v ht hw=>?_,?_,fun j m' o' d v id h1 h2 h3 h4 h5 h6 h7=>?_,fun j m1 o1 d1 v1 j2 m2 o2 d2 v2 id h1 h2 h3 h4 h5 h6 h7 g1 g2 g3 g4 g5 g6 g7=>?_⟩
  ·by_cases hji:j=i
   ·subst hji; exact fun o' h1 e he hb=>(hp o' h1 e he hb).set
   ·exact fun o' h1 e he hb=>(D.down j (hj.of_set hji) o' h1 e he hb).set
  ·by_cases hji:j=i
   ·subst hji; exact ⟨m,hi⟩
   ·exact D.sub j (hj.of_set hji)
  ·refine ⟨Ren.le_trans D.kept.le hle,D.kept.next,fun j hj hn=>?_⟩
   obtain ⟨q1,q2⟩:=D.kept.left j hj hn
   refine ⟨none' j q1 (Nat.lt_of_lt_of_le hj D.kept.next) fun d v e1 e2 e3 e4=>?_,q2⟩
   have:=(D.al i m o d v j hi ho e3 hL e1 e2 e4).2.2
   omega
  ·cases o.dst <;> simp [Act.put,D.tsize]
  ·by_cases htd:o.dst=some t
   ·rw [htd]
    refine ⟨v',?_,hv t v htd ht⟩
    have:=(S.wr1 i o t ho htd).2
    simp [Act.put,D.tsize,this]
   ·obtain ⟨u,e1,r1⟩:=D.tm t v ht fun j hj=>(hw j hj).of_set fun e=>by
     subst e
     obtain ⟨o',q1,q2⟩:=S.wr2 t j hj
     rw [ho] at q1; cases q1
     exact htd q2
    refine ⟨u,?_,r1.mono hle⟩
    cases hd:o.dst with
    | none=>simpa [Act.put] using e1
    | some d =>
      have:d≠t:=fun e=>htd (by rw [hd,e])
      simp only [Act.put]
      rw [Array.getElem?_setIfInBounds_ne this]
      exact e1
  ·have:(b.put o.dst v').defers=b.defers:=by cases o.dst <;> rfl
   rw [this]
   exact D.df.mono fun _ _=>DR.mono hle
  ·have hnL:¬ Dn L j:=fun h=>h4 h.set
   have hji:j≠i:=fun e=>by subst e; exact h4 (Dn.new (by rw [D.size]; exact hlt))
   obtain ⟨q1,q2,q3⟩:=D.al j m' o' d v id h1 h2 h3 hnL h5 h6 h7
   refine ⟨none' id q1 q2 fun d2 v2 e1 e2 e3 e4=>?_,q2,q3⟩
   exact hji (D.inj j m' o' d v i m o d2 v2 id h1 h2 h3 hnL h5 h6 h7 hi ho e3 hL e1 e2 e4)
  ·exact D.inj j m1 o1 d1 v1 j2 m2 o2 d2 v2 id h1 h2 h3 (fun h=>h4 h.set) h5 h6 h7 g1 g2 g3 (fun h=>g4 h.set) g5 g6 g7
 unfold wpOpIn
 rw [ho]
 simp only
 unfold again at hag
 split at hag
 ·next hwt =>
  rw [if_pos (D.wanted S hu hg hp hwt)]
  have hva:=zEF hval
  have hag':∀ x∈o.op.operands,a.val tb x=mask o.op.operands (a.val tb) x:=fun x hx=>mask_mem hx
  have hsem:o.semAt (FF r).round b.eval=execOp b.eval o:=Oper.semAt_eq _ _ _ fun c hc=>by rw [hc] at hcl; exact hcl rfl
  refine ⟨fun f _=>FF_fn r f,?_⟩
  rw [hsem]
  split at hag
  ·next h1 =>
   split at hag
   ·next obj mk d hal hd =>
    split at hag
    ·next u hu' =>
     split at hag
     ·next id hid =>
      split at hag
      ·next obj' hobj =>
       rw [Bool.and_eq_true] at hag
       have e1:=sameO_eq hag.1
       have e2:=kN _ _ _ hag.2
       subst e1
       obtain ⟨q1,q2,q3⟩:=D.al i m o d u id hi ho h1 hL hd hu' hid
       rw [zAg hag'] at hal
       obtain ⟨x,u',w',s1,le1,run,hv1⟩:=claim_sound (P:=P) hT D.sr hva hal q1 q2 hobj
       rw [run]
       refine hk _ u' w' (done _ u' w' (.inr ⟨le1,d,u,id,hd,hu',hid,h1,fun j hj=>Ren.put_other _ _ _ hj⟩) s1 fun d2 v2 e3 e4=>?_)
       rw [hd] at e3; cases e3
       rw [hu'] at e4; cases e4
       rw [← e2]; exact hv1
      ·cases hag
     ·cases hag
    ·cases hag
   ·cases hag
  ·next h1 =>
   have hc0:zj o.op=0:=by
    have:zj o.op=0∨zj o.op=1∨zj o.op=2:=by
     unfold zj
     (repeat' split) <;> simp
    rcases this with h | h | h
    ·exact h
    ·exact absurd h h1
    ·exact absurd h hcl
   split at hag
   ·next v H1 hop =>
    have hH:=amOp_same hc0 hop
    subst hH
    rw [zEE hag'] at hop
    obtain ⟨ρ1,w1,k1,s1,v',run,hv1⟩:=zAu (P:=P) hT D.sr hva hop
    rw [run]
    refine hk ρ1 v' w1 (done ρ1 v' w1 (.inl k1) s1 fun d2 v2 e3 e4=>?_)
    rw [e3] at hag
    simp only [e4] at hag
    rw [← kN _ _ _ hag]; exact hv1
   ·cases hag
 ·next hwt =>
  have h0:=D.wanted S hu hg hp hwt
  rw [if_neg (by rw [h0]; decide)]
  refine ⟨fun f _=>FF_fn r f,hk ρ undef w (done ρ undef w (.inl (.refl _ _)) D.sr fun d2 v2 e3 e4=>?_)⟩
  rw [e3] at hag
  simp only [e4] at hag
  split at hag
  ·next e5=>cases e5; exact .skip
  ·cases hag
 ·cases hag
end
end Go.Am
namespace Go.Am
open Go.RowKit
section
variable {tb:Tab} {P:Program} {B:Nat} {w₀:World} {n:Nat} {ops:Array Oper} {wr:T Nat}
variable {ρ₀:Ren} {H₀:AH} {ρ:Ren} {L:Array Bool} {b:Act} {w:World}
def Good (tb:Tab) (B:Nat) (w₀:World) (n:Nat) (ops:Array Oper) (wr:T Nat) (ρ₀:Ren) (H₀:AH) (ρ:Ren) (L:Array Bool) (b:Act) (w:World) (s:DSt):Prop :=
 DStat n ops wr s.clo s.ord∧DDyn tb B w₀ n ops wr ρ₀ H₀ ρ L b w s.clo s.must s.a s.H
theorem zEH (a:AAct) (d:Option Tmp) (v:Value):(a.put n d v).defers=a.defers:=by
 obtain ⟨tm,ds⟩:=a
 cases d <;> rfl
theorem kR {a:AAct} {d:Option Tmp} {t:Nat} {v:Value} (hd:∀ x,d=some x→x < n) (hn:n≤zY) (ht:d≠some t):(a.put n d v).tmps.get t=a.tmps.get t:=by
 cases d with
 | none=>rfl
 | some x =>
   rw [put_get (hd x rfl) hn,if_neg]
   intro e; subst e; exact ht rfl
theorem Good.add {clo:T Nat} {ord:List Nat} {must:Nat} {a a':AAct} {H H':AH} (G:Good tb B w₀ n ops wr ρ₀ H₀ ρ L b w ⟨clo,ord,must,a,H⟩) {i m:Nat} {o:Oper} {v:Value} (ho:ops[i]?=some o) (hb:i < zY) (hn:clo.get i=none)
  (hc:yM clo o.after.toList 0=some m) (hs:qa wr m o.op.operands.toList=true) (hg:yF m o=true) (hcl:zj o.op≠2) (ha:a'=a.put n o.dst v)
  (hH:(H'=H∧(zj o.op=1→idOf v=none))∨∃ obj id,H.alloc obj=some (id,H')∧idOf v=some id) :
  Good tb B w₀ n ops wr ρ₀ H₀ ρ L b w ⟨clo.set depth i m,i::ord,must,a',H'⟩:=by
 obtain ⟨S,D⟩:=G
 simp only at S D
 have S':=(S.add ho hb hc hs hg).1
 have get:∀ j,(clo.set depth i m).get j=if j=i then some m else clo.get j:=fun j=>T.get_set' _ _ _ hb
 have hnL:¬ Dn L i:=fun h=>by obtain ⟨x,hx⟩:=D.sub i h; rw [hn] at hx; cases hx
 have hdn:∀ x,o.dst=some x→x < n:=fun x hx=>(S.wr1 i o x ho hx).2
 have other:∀ j o' d,ops[j]?=some o'→j≠i→o'.dst=some d→a'.tmps.get d=a.tmps.get d:=fun j o' d h1 h2 h3=>by
  rw [ha]
  refine kR hdn S.small fun e=>?_
  have q1:=(S.wr1 i o d ho e).1
  have q2:=(S.wr1 j o' d h1 h3).1
  rw [q1] at q2; cases q2
  exact h2 rfl
 have hsr:SR tb B w₀ ρ H' w∧Kept ρ H ρ H'∧H.next≤H'.next∧∀ id,idOf v=some id→zj o.op=1→ρ id=none∧id < H'.next∧H.next≤id:=by
  rcases hH with ⟨rfl,h1⟩ | ⟨obj,id,h1,h2⟩
  ·exact ⟨D.sr,.refl _ _,Nat.le_refl _,fun id h3 h4=>by rw [h1 h4] at h3; cases h3⟩
  ·obtain ⟨s1,k1,f1⟩:=D.sr.owed h1
   obtain ⟨e1,e2,e3,_⟩:=vC h1
   exact ⟨s1,k1,k1.next,fun id' h3 _=>by rw [h2] at h3; cases h3; exact ⟨f1,by omega,by omega⟩⟩
 obtain ⟨s1,k1,l1,f1⟩:=hsr
 refine ⟨S',⟨D.size,D.down,fun j hj=>?_,fun j m' o' h1 h2 h3=>?_,D.must,s1,D.glob,D.kept.trans k1,D.tsize,fun t u ht hw=>?_,by rw [ha,zEH]; exact D.df,?_,?_⟩⟩
 ·obtain ⟨x,hx⟩:=D.sub j hj
  exact ⟨x,by rw [get,if_neg (fun e=>by subst e; exact hnL hj)]; exact hx⟩
 ·rw [get] at h1
  split at h1
  ·next e=>subst e; rw [ho] at h2; cases h2; exact absurd h3 hcl
  ·exact D.eff j m' o' h1 h2 h3
 ·have htd:o.dst≠some t:=fun e=>hnL (hw i (S.wr1 i o t ho e).1)
  rw [ha,kR hdn S.small htd] at ht
  exact D.tm t u ht hw
 ·intro j m' o' d u id h1 h2 h3 h4 h5 h6 h7
  rw [get] at h1
  split at h1
  ·next e =>
   subst e
   rw [ho] at h2; cases h2
   rw [ha,h5,put_get (hdn d h5) S.small,if_pos rfl] at h6
   cases h6
   obtain ⟨q1,q2,q3⟩:=f1 id h7 h3
   exact ⟨q1,q2,Nat.le_trans D.kept.next q3⟩
  ·next e =>
   rw [other j o' d h2 e h5] at h6
   obtain ⟨q1,q2,q3⟩:=D.al j m' o' d u id h1 h2 h3 h4 h5 h6 h7
   exact ⟨q1,Nat.lt_of_lt_of_le q2 l1,q3⟩
 ·intro j m1 o1 d1 v1 j2 m2 o2 d2 v2 id h1 h2 h3 h4 h5 h6 h7 g1 g2 g3 g4 g5 g6 g7
  have new:∀ (x:Nat) (ox:Oper) dx vx,x=i→ops[x]?=some ox→zj ox.op=1→ox.dst=some dx→a'.tmps.get dx=some vx→idOf vx=some id→H.next≤id:=fun x ox dx vx e p2 p3 p5 p6 p7=>by
   rw [e,ho] at p2
   have hox:=Option.some.inj p2
   rw [← hox] at p3 p5
   rw [ha,p5,put_get (hdn dx p5) S.small,if_pos rfl] at p6
   rw [← Option.some.inj p6] at p7
   exact (f1 id p7 p3).2.2
  have old:∀ (x:Nat) mx (ox:Oper) dx vx,x≠i→clo.get x=some mx→ops[x]?=some ox→zj ox.op=1→¬ Dn L x→ox.dst=some dx→a'.tmps.get dx=some vx→idOf vx=some id→id < H.next∧a.tmps.get dx=some vx:=fun x mx ox dx vx e p1 p2 p3 p4 p5 p6 p7=>by
   rw [other x ox dx p2 e p5] at p6
   exact ⟨(D.al x mx ox dx vx id p1 p2 p3 p4 p5 p6 p7).2.1,p6⟩
  rw [get] at h1 g1
  split at h1
  ·next e =>
   split at g1
   ·next e2=>rw [e,e2]
   ·next e2 =>
    have:=new j o1 d1 v1 e h2 h3 h5 h6 h7
    have:=(old j2 m2 o2 d2 v2 e2 g1 g2 g3 g4 g5 g6 g7).1
    omega
  ·next e =>
   split at g1
   ·next e2 =>
    have:=new j2 o2 d2 v2 e2 g2 g3 g5 g6 g7
    have:=(old j m1 o1 d1 v1 e h1 h2 h3 h4 h5 h6 h7).1
    omega
   ·next e2 =>
    exact D.inj j m1 o1 d1 v1 j2 m2 o2 d2 v2 id h1 h2 h3 h4 h5 (old j m1 o1 d1 v1 e h1 h2 h3 h4 h5 h6 h7).2 h7 g1 g2 g3 g4 g5 (old j2 m2 o2 d2 v2 e2 g1 g2 g3 g4 g5 g6 g7).2 g7
theorem doFloat_good {clo:T Nat} {ord:List Nat} {must:Nat} {a:AAct} {H:AH} (G:Good tb B w₀ n ops wr ρ₀ H₀ ρ L b w ⟨clo,ord,must,a,H⟩) {i m:Nat} {o:Oper} {s:DSt} (ho:ops[i]?=some o) (hn:clo.get i=none)
  (hc:yM clo o.after.toList 0=some m) (hcl:zj o.op≠2) (e:doFloat tb n ops wr i o m clo ord must a H=some s) :
  Good tb B w₀ n ops wr ρ₀ H₀ ρ L b w s∧s.ord.length=ord.length+1:=by
 unfold doFloat at e
 cases hb:(qa wr m o.op.operands.toList && yF m o && Nat.blt i zY)
 ·rw [hb] at e; cases e
 ·rw [hb] at e
  simp only [cond_true] at e
  simp only [Bool.and_eq_true] at hb
  obtain ⟨⟨hs,hg⟩,hbd⟩:=hb
  have hib:i < zY:=by rw [Nat.blt_eq] at hbd; exact hbd
  split at e
  ·next hw =>
   split at e
   ·next h1 =>
    split at e
    ·next obj mk d hal hd =>
     split at e
     ·next id H2 ha =>
      cases e
      exact ⟨G.add ho hib hn hc hs hg hcl (by rw [hd]) (.inr ⟨obj,id,ha,allocOf_mk hal id⟩),rfl⟩
     ·cases e
    ·cases e
   ·next h1 =>
    split at e
    ·next v H1 hop =>
     cases e
     exact ⟨G.add ho hib hn hc hs hg hcl rfl (.inl ⟨rfl,fun h=>absurd h h1⟩),rfl⟩
    ·cases e
  ·cases e
   exact ⟨G.add ho hib hn hc hs hg hcl rfl (.inl ⟨rfl,fun _=>rfl⟩),rfl⟩
  ·cases e
theorem zAw:∀ (rest:List Oper) (i:Nat) (s s':DSt),ops.toList.drop i=rest→Good tb B w₀ n ops wr ρ₀ H₀ ρ L b w s→zAe tb n ops wr rest i s=some s' →
  Good tb B w₀ n ops wr ρ₀ H₀ ρ L b w s'∧s.ord.length≤s'.ord.length ∧
   (s'.ord.length=s.ord.length→s'=s∧∀ (k:Nat) o,rest[k]?=some o→s.clo.get (i+k)=none→zj o.op≠2→yM s.clo o.after.toList 0=none)
 | [],i,s,s',_,G,e=>by
   cases e
   exact ⟨G,Nat.le_refl _,fun _=>⟨rfl,fun k o h=>by simp at h⟩⟩
 | o::rest,i,s,s',hd,G,e=>by
   have ho:ops[i]?=some o:=by
    have:=congrArg List.head? hd
    simpa using this
   have hd':ops.toList.drop (i+1)=rest:=by
    have:=congrArg List.tail hd
    simpa using this
   obtain ⟨clo,ord,must,a,H⟩:=s
   have pass:(clo.get i=none→zj o.op≠2→yM clo o.after.toList 0=none)→zAe tb n ops wr rest (i+1) ⟨clo,ord,must,a,H⟩=some s'→_:=fun hq e=>by
    obtain ⟨g1,g2,g3⟩:=zAw rest (i+1) _ s' hd' G e
    refine (⟨g1,g2,fun hl=>?_⟩:Good tb B w₀ n ops wr ρ₀ H₀ ρ L b w s'∧(DSt.ord ⟨clo,ord,must,a,H⟩).length≤s'.ord.length∧(s'.ord.length=(DSt.ord ⟨clo,ord,must,a,H⟩).length→s'=⟨clo,ord,must,a,H⟩∧∀ (k:Nat) o',(o::rest)[k]?=some o'→clo.get (i+k)=none→zj o'.op≠2→yM clo o'.after.toList 0=none))
    obtain ⟨e1,e2⟩:=g3 hl
    refine ⟨e1,fun k o' hk=>?_⟩
    cases k with
    | zero=>simp at hk; subst hk; exact hq
    | succ k =>
      have:=e2 k o' (by simpa using hk)
      rw [show i+(k+1)=i+1+k by omega]
      exact this
   unfold zAe at e
   try dsimp only at e
   split at e
   ·next x hx=>exact pass (fun h=>by rw [hx] at h; cases h) e
   ·next hn =>
    split at e
    ·next h2=>exact pass (fun _ h=>absurd h2 h) e
    ·next h2 =>
     split at e
     ·next hc=>exact pass (fun _ _=>hc) e
     ·next m hc =>
      split at e
      ·next s1 hf =>
       obtain ⟨G1,l1⟩:=doFloat_good G ho hn hc (fun h=>h2 h) hf
       obtain ⟨g1,g2,g3⟩:=zAw rest (i+1) s1 s' hd' G1 e
       exact ⟨g1,by simp only [] at l1 ⊢; omega,fun hl=>by simp only [] at l1 hl; omega⟩
      ·cases e
theorem zBd:∀ (k:Nat) (s s':DSt),Good tb B w₀ n ops wr ρ₀ H₀ ρ L b w s→qb tb n ops wr k s=some s' →
  Good tb B w₀ n ops wr ρ₀ H₀ ρ L b w s'∧∀ (i:Nat) o,ops[i]?=some o→s'.clo.get i=none→zj o.op≠2→yM s'.clo o.after.toList 0=none
 | 0,_,_,_,e=>by cases e
 | k+1,s,s',G,e=>by
   unfold qb at e
   split at e
   ·next s1 hp =>
    obtain ⟨g1,g2,g3⟩:=zAw ops.toList 0 s s1 rfl G hp
    cases hb:Nat.beq s1.ord.length s.ord.length
    ·rw [hb] at e
     exact zBd k s1 s' g1 e
    ·rw [hb] at e
     cases e
     obtain ⟨e1,e2⟩:=g3 (Nat.eq_of_beq_eq_true hb)
     subst e1
     refine ⟨g1,fun i o ho=>?_⟩
     have:=e2 i o (by simpa using ho)
     rw [Nat.zero_add] at this
     exact this
   ·cases e
theorem zBe {clo:T Nat} {must:Nat} {a:AAct} {H:AH}:∀ (rest:List Oper) (i:Nat),qc tb ops clo must a H rest i=true→∀ (k:Nat) o m,rest[k]?=some o→clo.get (i+k)=some m→zy must (i+k)=false→again tb ops o a H=true
 | [],_,_,k,o,_,h,_,_=>by simp at h
 | o::rest,i,e,k,o',m,hk,hm,hb=>by
   unfold qc at e
   cases hq:stillOk tb ops clo must a H o i
   ·rw [hq] at e; cases e
   ·rw [hq] at e
    simp only [cond_true] at e
    cases k with
    | zero =>
      simp at hk; subst hk
      simp only [Nat.add_zero] at hm hb
      unfold stillOk at hq
      rw [hm] at hq
      simp only [hb,cond_false] at hq
      exact hq
    | succ k =>
      exact zBe rest (i+1) e k o' m (by simpa using hk) (by rw [show i+1+k=i+(k+1) by omega]; exact hm) (by rw [show i+1+k=i+(k+1) by omega]; exact hb)
theorem xO {clo:T Nat}:∀ (rest:List Oper) (i:Nat) (j:Nat) (o:Oper) (m:Nat),(j,o,m)∈xC clo rest i↔∃ k,j=i+k∧rest[k]?=some o∧clo.get j=none∧zj o.op=2∧yM clo o.after.toList 0=some m
 | [],i,j,o,m=>by simp [xC]
 | x::rest,i,j,o,m=>by
   have ih:=xO (clo:=clo) rest (i+1) j o m
   have shift:(∃ k,j=i+1+k∧rest[k]?=some o∧clo.get j=none∧zj o.op=2∧yM clo o.after.toList 0=some m)→∃ k,j=i+k∧(x::rest)[k]?=some o∧clo.get j=none∧zj o.op=2∧yM clo o.after.toList 0=some m:=fun ⟨k,h1,h2,h3⟩=>⟨k+1,by omega,by simpa using h2,h3⟩
   have back:¬ (clo.get i=none∧zj x.op=2∧yM clo x.after.toList 0=some m∧x=o∧j=i)→(∃ k,j=i+k∧(x::rest)[k]?=some o∧clo.get j=none∧zj o.op=2∧yM clo o.after.toList 0=some m)→∃ k,j=i+1+k∧rest[k]?=some o∧clo.get j=none∧zj o.op=2∧yM clo o.after.toList 0=some m:=fun hn ⟨k,h1,h2,h3,h4,h5⟩=>by
    cases k with
    | zero =>
      simp at h2; subst h2
      simp only [Nat.add_zero] at h1
      subst h1
      exact absurd ⟨h3,h4,h5,rfl,rfl⟩ hn
    | succ k=>exact ⟨k,by omega,by simpa using h2,h3,h4,h5⟩
   have miss:¬ (clo.get i=none∧zj x.op=2∧yM clo x.after.toList 0=some m∧x=o∧j=i)→((j,o,m)∈xC clo rest (i+1)↔∃ k,j=i+k∧(x::rest)[k]?=some o∧clo.get j=none∧zj o.op=2∧yM clo o.after.toList 0=some m):=fun hn=>by
    rw [ih]
    exact ⟨shift,back hn⟩
   unfold xC
   split
   ·next y hy=>exact miss fun h=>by rw [hy] at h; cases h.1
   ·next hy =>
    split
    ·next h2 =>
     split
     ·next m' hm =>
      rw [List.mem_cons]
      constructor
      ·rintro (h | h)
       ·cases h
        exact ⟨0,by simp,by simp,hy,h2,hm⟩
       ·exact shift (ih.1 h)
      ·rintro ⟨k,h1,h⟩
       cases k with
       | zero =>
         obtain ⟨q1,q2,q3,q4⟩:=h
         simp at q1; subst q1
         simp only [Nat.add_zero] at h1
         subst h1
         rw [hm] at q4; cases q4
         exact .inl rfl
       | succ k =>
         refine .inr (ih.2 ⟨k,by omega,?_⟩)
         simpa using h
     ·next hm=>exact miss fun h=>by rw [hm] at h; cases h.2.2.1
    ·next h2=>exact miss fun h=>h2 h.2.1
theorem uB {clo:T Nat}:∀ (rest:List Oper) (i:Nat),vS clo rest i=true→∀ (k:Nat) o,rest[k]?=some o→∃ m,clo.get (i+k)=some m
 | [],_,_,k,o,h=>by simp at h
 | x::rest,i,e,k,o,hk=>by
   unfold vS at e
   split at e
   ·next y hy =>
    cases k with
    | zero=>exact ⟨y,hy⟩
    | succ k =>
      rw [show i+(k+1)=i+1+k by omega]
      exact uB rest (i+1) e k o (by simpa using hk)
   ·cases e
theorem ord_dn (hsz:L.size=ops.size) (hr:Region.ready .any ops L=[]):∀ (ord:List Nat),OrdOK ops ord→(∀ i∈ord,i < ops.size)→∀ i∈ord,Dn L i
 | [],_,_,i,h=>by cases h
 | j::r,⟨h1,h2⟩,hlt,i,hi=>by
   have ih:=ord_dn hsz hr r h2 fun k hk=>hlt k (by simp [hk])
   rcases List.mem_cons.1 hi with rfl | hi
   ·apply Classical.byContradiction
    intro hn
    have hil:=hlt i (by simp)
    have:i∈Region.ready .any ops L:=by
     rw [mem_ready]
     refine ⟨(qi (by rw [hsz]; exact hil)).1 hn,ops[i],Array.getElem?_eq_getElem hil,fun e he hb=>?_⟩
     exact ih _ (h1 ops[i] (Array.getElem?_eq_getElem hil) e he hb)
    rw [hr] at this
    cases this
   ·exact ih i hi
theorem eff_step (hT:TabOk tb P) {call:yp} (hc:CallerOK tb P B w₀ call) {en:AEnv} {r:Option Nat} (hr:en.inRound=r.isSome) {clo:T Nat} {ord:List Nat} {must:Nat} {a a2:AAct} {H H2:AH}
  (S:DStat en.n ops wr clo ord) (D:DDyn tb B w₀ en.n ops wr ρ₀ H₀ ρ L b w clo must a H) {i m:Nat} {o:Oper} (ho:ops[i]?=some o) (hb:i < zY) (hn:clo.get i=none) (hp:uW ops L i)
  (hcl:yM clo o.after.toList 0=some m) (h2:zj o.op=2) (hs:qa wr m o.op.operands.toList=true) (hg:yF m o=true) (e:amDo tb call en ops o a H=some (a2,H2))
  {k:Nat} {K:Act→World→Prop} {Q:Exit→Act→World→Prop}
  (hk:∀ ρ' b' w',Good tb B w₀ en.n ops wr ρ₀ H₀ ρ' (L.setIfInBounds i true) b' w' ⟨clo.set depth i m,i::ord,Nat.lor (Nat.lor must m) (bitOf i),a2,H2⟩→K b' w') :
  wpOpIn (FF r) k P ops Q i K b w:=by
 obtain ⟨S',hu⟩:=S.add ho hb hcl hs hg
 have hlt:i < ops.size:=(Array.getElem?_eq_some_iff.1 ho).1
 have hnL:¬ Dn L i:=fun h=>by obtain ⟨x,hx⟩:=D.sub i h; rw [hn] at hx; cases hx
 have get:∀ j,(clo.set depth i m).get j=if j=i then some m else clo.get j:=fun j=>T.get_set' _ _ _ hb
 have hdn:∀ x,o.dst=some x→x < en.n:=fun x hx=>(S.wr1 i o x ho hx).2
 unfold wpOpIn
 rw [ho]
 simp only
 have key:∀ ρ' w' v v' es es',Kept ρ H ρ' H2→SR tb B w₀ ρ' H2 w'→VR ρ' v v'→Pushed ρ' a.defers b.defers es es'→a2=AAct.put ⟨a.tmps,es⟩ en.n o.dst v→K (Act.put { b with defers:=es' } o.dst v') w':=fun ρ' w' v v' es es' k1 s1 hv hpu ha2=>by
  refine hk ρ' _ w' ⟨S',⟨by simpa using D.size,fun j hj=>?_,fun j hj=>?_,fun j m' o' q1 q2 q3=>?_,fun j hj=>?_,s1,D.glob.mono k1.le,D.kept.trans k1,?_,fun t u ht hw=>?_,?_,fun j m' o' d u id q1 q2 q3 q4 q5 q6 q7=>?_,fun j m1 o1 d1 v1 j2 m2 o2 d2 v2 id q1 q2 q3 q4 q5 q6 q7 g1 g2 g3 g4 g5 g6 g7=>?_⟩⟩
  ·by_cases hji:j=i
   ·subst hji; exact fun o' h1 e he hb=>(hp o' h1 e he hb).set
   ·exact fun o' h1 e he hb=>(D.down j (hj.of_set hji) o' h1 e he hb).set
  ·show ∃ x,(clo.set depth i m).get j=some x
   rw [get]
   split
   ·exact ⟨m,rfl⟩
   ·next hji=>exact D.sub j (hj.of_set hji)
  ·simp only [get] at q1
   split at q1
   ·next e=>subst e; exact Dn.new (by rw [D.size]; exact hlt)
   ·exact (D.eff j m' o' q1 q2 q3).set
  ·simp only [zAv,Bool.or_eq_true] at hj
   rcases hj with (hj | hj) | hj
   ·exact (D.must j hj).set
   ·exact (hu L D.down hp j hj).set
   ·rw [zEG hj]; exact Dn.new (by rw [D.size]; exact hlt)
  ·cases o.dst <;> simp [Act.put,D.tsize]
  ·have ht':(AAct.put ⟨a.tmps,es⟩ en.n o.dst v).tmps.get t=some u:=by rw [← ha2]; exact ht
   by_cases htd:o.dst=some t
   ·rw [htd,put_get (hdn t htd) S.small,if_pos rfl] at ht'
    cases ht'
    rw [htd]
    refine ⟨v',?_,hv⟩
    simp [Act.put,D.tsize,hdn t htd]
   ·rw [kR hdn S.small htd] at ht'
    obtain ⟨u',e1,r1⟩:=D.tm t u ht' fun j hj=>(hw j hj).of_set fun e=>by
     subst e
     obtain ⟨o',q1,q2⟩:=S.wr2 t j hj
     rw [ho] at q1; cases q1
     exact htd q2
    refine ⟨u',?_,r1.mono k1.le⟩
    cases hd:o.dst with
    | none=>simpa [Act.put] using e1
    | some d =>
      have:d≠t:=fun e=>htd (by rw [hd,e])
      simp only [Act.put]
      rw [Array.getElem?_setIfInBounds_ne this]
      exact e1
  ·have hd1:(Act.put { b with defers:=es' } o.dst v').defers=es':=by cases o.dst <;> rfl
   rw [hd1]
   show All2 (DR ρ') a2.defers es'
   rw [ha2,zEH]
   rcases hpu with ⟨rfl,rfl⟩ | ⟨d,d',hd,rfl,rfl⟩
   ·exact D.df.mono fun _ _=>DR.mono k1.le
   ·exact .cons hd (D.df.mono fun _ _=>DR.mono k1.le)
  ·simp only [get] at q1
   split at q1
   ·next e=>subst e; rw [ho] at q2; cases q2; rw [h2] at q3; cases q3
   ·next e =>
    have hnj:¬ Dn L j:=fun h=>q4 h.set
    have hod:o.dst≠some d:=fun e'=>by
     have p1:=(S.wr1 i o d ho e').1
     have p2:=(S.wr1 j o' d q2 q5).1
     rw [p1] at p2; cases p2; exact e rfl
    have q6':(AAct.put ⟨a.tmps,es⟩ en.n o.dst v).tmps.get d=some u:=by rw [← ha2]; exact q6
    rw [kR hdn S.small hod] at q6'
    obtain ⟨p1,p2,p3⟩:=D.al j m' o' d u id q1 q2 q3 hnj q5 q6' q7
    exact ⟨(k1.left id p2 p1).1,Nat.lt_of_lt_of_le p2 k1.next,p3⟩
  ·have old:∀ (j:Nat) m1 (o1:Oper) d1 v1,(clo.set depth i m).get j=some m1→ops[j]?=some o1→zj o1.op=1→o1.dst=some d1→a2.tmps.get d1=some v1→clo.get j=some m1∧a.tmps.get d1=some v1:=fun j m1 o1 d1 v1 q1 q2 q3 q5 q6=>by
    rw [get] at q1
    split at q1
    ·next e=>subst e; rw [ho] at q2; cases q2; rw [h2] at q3; cases q3
    ·next e =>
     have hod:o.dst≠some d1:=fun e'=>by
      have p1:=(S.wr1 i o d1 ho e').1
      have p2:=(S.wr1 j o1 d1 q2 q5).1
      rw [p1] at p2; cases p2; exact e rfl
     rw [ha2,kR hdn S.small hod] at q6
     exact ⟨q1,q6⟩
   obtain ⟨p1,p2⟩:=old j m1 o1 d1 v1 q1 q2 q3 q5 q6
   obtain ⟨r1,r2⟩:=old j2 m2 o2 d2 v2 g1 g2 g3 g5 g6
   exact D.inj j m1 o1 d1 v1 j2 m2 o2 d2 v2 id p1 q2 q3 (fun h=>q4 h.set) q5 p2 q7 r1 g2 g3 (fun h=>g4 h.set) g5 r2 g7
 exact do_sound (n:=k) (Q:=Q) (K:=K) hT hc hr D.sr D.glob (D.val hu hs hp) (fun x hx=>D.wanted S hu hg hp hx) e key
theorem zAx {L:Array Bool} (h:L.toList.count false=0) (i:Nat) (hi:i < L.size):Dn L i:=by
 apply Classical.byContradiction
 intro hn
 have:=zAI hn hi
 omega
structure Eqv (H H':AH):Prop where
 next:H'.next=H.next
 org:H'.org=H.org
 fam:H'.fam=H.fam
 get:∀ i,H'.get i=H.get i
theorem SR.ext {H H':AH} (h:SR tb B w₀ ρ H w) (e:Eqv H H'):SR tb B w₀ ρ H' w :=
 ⟨h.below,h.room,fun i b s hi=>by obtain ⟨o,o',e1,e2,e3⟩:=h.obj i b s hi; exact ⟨o,o',by rw [e.get]; exact e1,e2,e3⟩,by rw [e.next]; exact h.fresh,fun i b s hi hb=>by obtain ⟨c,el,e1⟩:=h.low i b s hi hb; exact ⟨c,el,by rw [e.get]; exact e1⟩,
  fun i j b s t hi hj hij=>by
   obtain ⟨⟨r,o,p,js,a1,a2,a3,a4,a5,a6⟩,c,el,e1⟩:=h.kin i j b s t hi hj hij
   exact ⟨⟨r,o,p,js,by rw [e.org]; exact a1,by rw [e.org]; exact a2,a3,by rw [e.fam]; exact a4,a5,a6⟩,c,el,by rw [e.get]; exact e1⟩,
  by rw [e.fam]; exact h.fam,by rw [e.org,e.fam]; exact h.home,by rw [e.fam]; exact h.root,h.rows,fun i b s hi c el ro hc=>h.elem i b s hi c el ro (by rw [e.get] at hc; exact hc),by rw [e.next]; exact h.bnd⟩
theorem Kept.ext {ρ σ:Ren} {H H1 H2:AH} (h:Kept ρ H σ H1) (e:Eqv H1 H2):Kept ρ H σ H2 :=
 ⟨h.le,by rw [e.next]; exact h.next,fun i hi hn=>by obtain ⟨a,b⟩:=h.left i hi hn; exact ⟨a,by rw [e.get]; exact b⟩⟩
theorem wH (i lo hi x:Nat):∀ (js:List Nat) (H H':AH),(∀ j∈js,j < zY)→x ∉ js→H'.org=H.org→(∀ j,j≠x→H'.get j=H.get j)→∀ j,j≠x→(xW i lo hi js H').get j=(xW i lo hi js H).get j
 | [],H,H',_,_,_,hg,j,hj=>hg j hj
 | k::js,H,H',hb,hx,ho,hg,j,hj=>by
   have hb':∀ j∈js,j < zY:=fun q hq=>hb q (by simp [hq])
   have hkb:k < zY:=hb k (by simp)
   have hkx:k≠x:=fun e=>hx (by simp [e])
   have hx':x ∉ js:=fun h=>hx (by simp [h])
   unfold xW
   cases hik:Nat.beq i k
   ·simp only [cond_false]
    rw [hg k hkx,ho]
    cases hgk:H.get k with
    | none=>exact wH i lo hi x js H H' hb' hx' ho hg j hj
    | some o =>
      cases hok:H.org.get k with
      | none =>
        cases o <;> exact wH i lo hi x js H H' hb' hx' ho hg j hj
      | some ro =>
        obtain ⟨r,q⟩:=ro
        cases o with
        | cells c e ro' =>
          refine wH i lo hi x js (H.put k (.cells (kill (lo - q) (hi - q) c) e ro')) (H'.put k (.cells (kill (lo - q) (hi - q) c) e ro')) hb' hx' ho (fun q hq=>?_) j hj
          rw [xM hkb,xM hkb]
          split
          ·rfl
          ·exact hg q hq
        | _=>exact wH i lo hi x js H H' hb' hx' ho hg j hj
   ·simp only [cond_true]
    exact wH i lo hi x js H H' hb' hx' ho hg j hj
theorem memN_spec {b:Nat}:∀ (js:List Nat),memN b js=false→b ∉ js
 | [],_=>by simp
 | j::js,h=>by
   unfold memN at h
   cases hb:Nat.beq b j
   ·rw [hb] at h
    have hne:b≠j:=fun e=>by subst e; rw [Nat.beq_refl] at hb; cases hb
    simp [hne,memN_spec js h]
   ·rw [hb] at h; cases h
theorem zEJ {H H1 H12 H2 H21:AH} {b c o p:Nat} {vs us:List Value} (hfam:∀ r js,H.fam.get r=some js→∀ j∈js,j < zY) (hb:b < zY) (hc:c < zY) (hbc:b≠c) (hap:zCL H b c=true)
  (e1:H.store ⟨b,o,none⟩ vs=some H1) (e12:H1.store ⟨c,p,none⟩ us=some H12) (e2:H.store ⟨c,p,none⟩ us=some H2) (e21:H2.store ⟨b,o,none⟩ vs=some H21):Eqv H12 H21:=by
 have horgb:H.org.get b=none:=by
  unfold zCL at hap
  cases h:H.org.get b with
  | none=>rfl
  | some x=>rw [h] at hap; cases hap
 obtain ⟨c1,el1,cl1,g1,l1,_,rfl⟩:=uL e1
 obtain ⟨c2,el2,cl2,g2,l2,_,rfl⟩:=uL e2
 have kf1:∀ (K:AH) n,K.org=H.org→K.killFam b o n=K:=fun K n hK=>by unfold AH.killFam; rw [hK,horgb]
 rw [kf1 (H.put b (.cells cl1 el1 false)) _ rfl] at e12
 obtain ⟨c2',el2',cl2',g2',l2',_,rfl⟩:=uL e12
 rw [xM hb,if_neg (fun e=>hbc e.symm),g2] at g2'
 cases g2'
 rw [l2] at l2'
 cases l2'
 obtain ⟨c1',el1',cl1',g1',l1',_,rfl⟩:=uL e21
 have main:∀ (K:AH),K.org=H.org→K.fam=H.fam→K.next=H.next→(K.killFam c p us.length).next=H.next∧(K.killFam c p us.length).org=H.org∧(K.killFam c p us.length).fam=H.fam∧(K.killFam c p us.length).get b=K.get b ∧
   ∀ K':AH,K'.org=H.org→K'.fam=H.fam→(∀ j,j≠b→K'.get j=K.get j)→∀ j,j≠b→(K'.killFam c p us.length).get j=(K.killFam c p us.length).get j:=fun K h1 h2 h3=>by
  unfold AH.killFam
  rw [h1,h2]
  cases hoc:H.org.get c with
  | none =>
    refine ⟨h3,h1,h2,rfl,fun K' q1 q2 q3=>?_⟩
    rw [q1,hoc]
    exact q3
  | some x =>
    obtain ⟨r,q⟩:=x
    simp only
    cases hf:H.fam.get r with
    | none =>
      refine ⟨h3,h1,h2,rfl,fun K' q1 q2 q3=>?_⟩
      rw [q1,q2,hoc]
      simp only [hf]
      exact q3
    | some js =>
      simp only
      have hnb:b ∉ js:=by
       unfold zCL at hap
       rw [horgb,hoc] at hap
       simp only [hf] at hap
       refine memN_spec js ?_
       cases hm:memN b js
       ·rfl
       ·rw [hm] at hap; cases hap
      have hjs:=hfam r js hf
      have KK:=vU c (q+p) (q+p+us.length) js K hjs
      refine ⟨by rw [KK.next]; exact h3,by rw [KK.org]; exact h1,by rw [KK.fam]; exact h2,KK.same b (.inr hnb),fun K' q1 q2 q3=>?_⟩
      rw [q1,q2,hoc]
      simp only [hf]
      exact wH c _ _ b js K K' hjs hnb (q1.trans h1.symm) q3
 obtain ⟨m1,m2,m3,m4,m5⟩:=main (H.put c (.cells cl2 el2 false)) rfl rfl rfl
 rw [m4,xM hc,if_neg hbc,g1] at g1'
 cases g1'
 rw [l1] at l1'
 cases l1'
 rw [kf1 (((H.put c (.cells cl2 el2 false)).killFam c p us.length).put b (.cells cl1 el1 false)) _ m2]
 obtain ⟨n1,n2,n3,n4,_⟩:=main ((H.put b (.cells cl1 el1 false)).put c (.cells cl2 el2 false)) rfl rfl rfl
 refine ⟨m1.trans n1.symm,m2.trans n2.symm,m3.trans n3.symm,fun j=>?_⟩
 rw [xM hb]
 split
 ·next e =>
  subst e
  rw [n4,xM hc,if_neg hbc,xM hb,if_pos rfl]
 ·next e =>
  refine (m5 ((H.put b (.cells cl1 el1 false)).put c (.cells cl2 el2 false)) rfl rfl (fun q hq=>?_) j e).symm
  rw [xM hc,xM hc,xM hb,if_neg hq]
theorem Eqv.symm {H H':AH} (h:Eqv H H'):Eqv H' H:=⟨h.next.symm,h.org.symm,h.fam.symm,fun i=>(h.get i).symm⟩
theorem zEK {t:TypeId} {ad:Addr} {v:Value} {H H1:AH} (e:storeVar tb H t ad v=some H1):H.store ad (cellsOf v)=some H1:=by
 unfold storeVar at e
 split at e
 ·next n hn =>
  cases hb:Nat.beq (cellsOf v).length n
  ·rw [hb] at e; cases e
  ·rw [hb] at e; exact e
 ·cases e
theorem zEL {call:yp} {en:AEnv} {o:Oper} {a:AAct} {b:Nat} (hp:zAD (a.val tb) o=some b) :
  b < zY∧∃ off vs,∀ (H:AH) r,amDo tb call en ops o a H=some r→r.1=a∧H.store ⟨b,off,none⟩ vs=some r.2:=by
 unfold zAD at hp
 split at hp
 ·next t x y ho hd hg =>
  split at hp
  ·next q off hv =>
   cases hb:Nat.blt q zY
   ·rw [hb] at hp; cases hp
   ·rw [hb] at hp
    cases hp
    refine ⟨by rw [Nat.blt_eq] at hb; exact hb,off,cellsOf (a.val tb y),fun H r e=>?_⟩
    unfold amDo vR at e
    rw [hg] at e
    simp only [yH,ho,hv] at e
    cases hs:storeVar tb H t ⟨b,off,none⟩ (a.val tb y) with
    | none=>rw [hs] at e; cases e
    | some H1 =>
      rw [hs,hd] at e
      simp only [Option.some.injEq] at e
      subst e
      exact ⟨rfl,zEK hs⟩
  ·cases hp
 ·cases hp
theorem zAy {clo:T Nat} {ord:List Nat} {must:Nat} {a:AAct} {H:AH}:∀ (rest:List Oper) (i:Nat),(∀ (k:Nat) o,rest[k]?=some o→clo.get (i+k)=none→zj o.op=2)→zAe tb n ops wr rest i ⟨clo,ord,must,a,H⟩=some ⟨clo,ord,must,a,H⟩
 | [],_,_=>rfl
 | o::rest,i,h=>by
   have hr:∀ (k:Nat) o',rest[k]?=some o'→clo.get (i+1+k)=none→zj o'.op=2:=fun k o' hk=>by
    have:=h (k+1) o' (by simpa using hk)
    rw [show i+(k+1)=i+1+k by omega] at this
    exact this
   unfold zAe
   cases hc:clo.get i with
   | some x=>exact zAy rest (i+1) hr
   | none =>
     have h2:=h 0 o (by simp) (by simpa using hc)
     simp only [h2]
     exact zAy rest (i+1) hr
theorem zBf {clo:T Nat} {ord:List Nat} {must:Nat} {a:AAct} {H:AH} (h:∀ (k:Nat) o,ops[k]?=some o→clo.get k=none→zj o.op=2) (m:Nat):qb tb n ops wr (m+1) ⟨clo,ord,must,a,H⟩=some ⟨clo,ord,must,a,H⟩:=by
 unfold qb
 rw [zAy ops.toList 0 (fun k o hk hn=>h k o (by simpa using hk) (by simpa using hn))]
 simp only [Nat.beq_refl,cond_true]
theorem drawN_done {call:yp} {en:AEnv} {k:Nat} {clo:T Nat} {ord:List Nat} {must:Nat} {a:AAct} {H:AH} {r:AAct×AH} (h:∀ (k:Nat) o,ops[k]?=some o→clo.get k≠none) (e:vT tb call en ops wr k ⟨clo,ord,must,a,H⟩=some r):r=(a,H):=by
 cases k with
 | zero=>cases e
 | succ k =>
   unfold vT at e
   rw [zBf (fun k o hk hn=>absurd hn (h k o hk))] at e
   simp only at e
   cases hre:qc tb ops clo must a H ops.toList 0
   ·rw [hre] at e; cases e
   rw [hre] at e
   simp only [cond_true] at e
   have hnil:xC clo ops.toList 0=[]:=by
    apply List.eq_nil_iff_forall_not_mem.2
    rintro ⟨j,o,m⟩ hm
    obtain ⟨q,e1,e2,e3,_⟩:=(xO ops.toList 0 j o m).1 hm
    have:q=j:=by omega
    subst this
    exact h q o (by simpa using e2) e3
   rw [hnil] at e
   simp only at e
   revert e
   cases vS clo ops.toList 0 <;> intro e <;> cases e
   rfl
theorem drawN_one {call:yp} {en:AEnv} {k j:Nat} {oj:Oper} {clo:T Nat} {ord:List Nat} {must:Nat} {a:AAct} {H:AH} {r:AAct×AH} (h:∀ (k:Nat) o,ops[k]?=some o→k≠j→clo.get k≠none) (hj:clo.get j=none) (hoj:ops[j]?=some oj) (h2:zj oj.op=2)
  (e:vT tb call en ops wr k ⟨clo,ord,must,a,H⟩=some r):amDo tb call en ops oj a H=some r:=by
 cases k with
 | zero=>cases e
 | succ k =>
   unfold vT at e
   rw [zBf (fun k o hk hn=>by
    by_cases hkj:k=j
    ·subst hkj; rw [hoj] at hk; cases hk; exact h2
    ·exact absurd hn (h k o hk hkj))] at e
   simp only at e
   cases hre:qc tb ops clo must a H ops.toList 0
   ·rw [hre] at e; cases e
   rw [hre] at e
   simp only [cond_true] at e
   have only:∀ i o m,(i,o,m)∈xC clo ops.toList 0→i=j∧o=oj:=fun i o m hm=>by
    obtain ⟨q,e1,e2,e3,_⟩:=(xO ops.toList 0 i o m).1 hm
    have hq:q=i:=by omega
    subst hq
    have hoi:ops[q]?=some o:=by simpa using e2
    have:q=j:=Classical.byContradiction fun hne=>h q o hoi hne e3
    subst this
    rw [hoj] at hoi; cases hoi
    exact ⟨rfl,rfl⟩
   split at e
   ·next hnil =>
    exfalso
    revert e
    cases had:vS clo ops.toList 0 <;> intro e
    ·cases e
    ·obtain ⟨m,hm⟩:=uB ops.toList 0 had j oj (by simpa using hoj)
     rw [Nat.zero_add,hj] at hm; cases hm
   ·next i o m hone =>
    obtain ⟨rfl,rfl⟩:=only i o m (by rw [hone]; simp)
    revert e
    cases hb:(qa wr m o.op.operands.toList && yF m o && Nat.blt i zY) <;> intro e
    ·cases e
    ·simp only [cond_true] at e
     simp only [Bool.and_eq_true] at hb
     have hib:i < zY:=by have:=hb.2; rw [Nat.blt_eq] at this; exact this
     split at e
     ·next a2 H2 hdo =>
      have:=drawN_done (fun q o' hq=>by
       rw [T.get_set' _ _ _ hib]
       split
       ·simp
       ·next hne=>exact h q o' hq hne) e
      rw [hdo,this]
     ·cases e
   ·next i o m i2 o2 m2 htwo =>
    exfalso
    obtain ⟨rfl,rfl⟩:=only i o m (by rw [htwo]; simp)
    obtain ⟨rfl,rfl⟩:=only i2 o2 m2 (by rw [htwo]; simp)
    split at e
    ·next b c hb hc =>
     rw [hb] at hc; cases hc
     have:vA H b b=false:=by unfold vA; rw [Nat.beq_refl]; rfl
     rw [this] at e
     simp at e
    ·cases e
   ·cases e
theorem zDB {clo:T Nat} {i j:Nat}:∀ (rest:List Oper) (q:Nat),zAr clo i j rest q=true→∀ (k:Nat) o,rest[k]?=some o→q+k≠i→q+k≠j→clo.get (q+k)≠none
 | [],_,_,k,o,h,_,_=>by simp at h
 | x::rest,q,e,k,o,hk,h1,h2=>by
   unfold zAr at e
   have rec':zAr clo i j rest (q+1)=true→∀ k',k=k'+1→clo.get (q+k)≠none:=fun er k' hk'=>by
    subst hk'
    have:=zDB rest (q+1) er k' o (by simpa using hk) (by omega) (by omega)
    rw [show q+(k'+1)=q+1+k' by omega]
    exact this
   cases k with
   | zero =>
     have n1:Nat.beq q i=false:=by
      cases hb:Nat.beq q i
      ·rfl
      ·exact absurd (Nat.eq_of_beq_eq_true hb) (by simpa using h1)
     have n2:Nat.beq q j=false:=by
      cases hb:Nat.beq q j
      ·rfl
      ·exact absurd (Nat.eq_of_beq_eq_true hb) (by simpa using h2)
     rw [n1,n2] at e
     simp only [cond_false] at e
     split at e
     ·next y hy=>simp [hy]
     ·cases e
   | succ k' =>
     revert e
     cases (cond (Nat.beq q i) true (Nat.beq q j)) <;> intro e
     ·simp only [cond_false] at e
      split at e
      ·exact rec' e k' rfl
      ·cases e
     ·exact rec' e k' rfl
theorem ut (hT:TabOk tb P) {call:yp} (hc:CallerOK tb P B w₀ call) {en:AEnv} {r:Option Nat} (hr:en.inRound=r.isSome) {k':Nat} {Q:Exit→Act→World→Prop} :
  ∀ (k:Nat) (s:DSt) (a':AAct) (H':AH),vT tb call en ops wr k s=some (a',H')→(∀ ρ' b' w',Kept ρ₀ H₀ ρ' H'→SR tb B w₀ ρ' H' w'→AR ρ' en.n a' b'→Q .normal b' w') →
   ∀ (ρ:Ren) (L:Array Bool) (b:Act) (w:World),Good tb B w₀ en.n ops wr ρ₀ H₀ ρ L b w s→∀ fuel,L.toList.count false≤fuel→wpAnyIn (FF r) k' P .any ops Q fuel L b w
 | 0,_,_,_,e,_,_,_,_,_,_,_,_=>by cases e
 | k+1,s,a',H',e,hq,ρ,L,b,w,G,fuel,hf=>by
   unfold vT at e
   cases hst:qb tb en.n ops wr (ops.size+2) s with
   | none=>rw [hst] at e; cases e
   | some s1 =>
   rw [hst] at e
   obtain ⟨clo,ord,must,a,H⟩:=s1
   simp only at e
   obtain ⟨⟨S,D⟩,hset⟩:=zBd _ s _ G hst
   simp only at S D hset
   cases hre:qc tb ops clo must a H ops.toList 0
   ·rw [hre] at e; cases e
   rw [hre] at e
   simp only [cond_true] at e
   have hre':∀ i m o,clo.get i=some m→ops[i]?=some o→zy must i=false→again tb ops o a H=true:=fun i m o h1 h2 h3 =>
    zBe ops.toList 0 hre i o m (by simpa using h2) (by rw [Nat.zero_add]; exact h1) (by rw [Nat.zero_add]; exact h3)
   have effs:∀ i o m,ops[i]?=some o→clo.get i=none→zj o.op=2→yM clo o.after.toList 0=some m→(i,o,m)∈xC clo ops.toList 0:=fun i o m h1 h2 h3 h4 =>
    (xO ops.toList 0 i o m).2 ⟨i,by omega,by simpa using h1,h2,h3,h4⟩
   have fin:∀ (ρ:Ren) (L:Array Bool) (b:Act) (w:World),DDyn tb B w₀ en.n ops wr ρ₀ H₀ ρ L b w clo must a H→(∀ i,i < ops.size→Dn L i)→xC clo ops.toList 0=[]→Q .normal b w:=fun ρ L b w D hall he=>by
    rw [he] at e
    simp only at e
    cases had:vS clo ops.toList 0
    ·rw [had] at e; cases e
    ·rw [had] at e
     simp only [cond_true,Option.some.injEq,Prod.mk.injEq] at e
     obtain ⟨rfl,rfl⟩:=e
     refine hq ρ b w D.kept D.sr ⟨⟨D.tsize,fun t v ht=>D.tm t v ht fun j hj=>?_⟩,D.df,S.small⟩
     obtain ⟨o,q1,_⟩:=S.wr2 t j hj
     exact hall j (Array.getElem?_eq_some_iff.1 q1).1
   have noeff:∀ (L:Array Bool),(∀ i,Dn L i→∃ m,clo.get i=some m)→(∀ i,i < ops.size→Dn L i)→xC clo ops.toList 0=[]:=fun L hsub hall=>by
    apply Classical.byContradiction
    intro hne
    obtain ⟨⟨j,o,m⟩,hmem⟩:=List.exists_mem_of_ne_nil _ hne
    obtain ⟨q,e1,e2,e3,_⟩:=(xO ops.toList 0 j o m).1 hmem
    have hj:j < ops.size:=by
     have:=(List.getElem?_eq_some_iff.1 e2).1
     simp at this; omega
    obtain ⟨x,hx⟩:=hsub j (hall j hj)
    rw [e3] at hx; cases hx
   have inner:∀ (fuel:Nat) (ρ:Ren) (L:Array Bool) (b:Act) (w:World),DDyn tb B w₀ en.n ops wr ρ₀ H₀ ρ L b w clo must a H→L.toList.count false≤fuel→wpAnyIn (FF r) k' P .any ops Q fuel L b w:=by
    intro fuel
    induction fuel with
    | zero =>
      intro ρ L b w D hf
      have hall:∀ i,i < ops.size→Dn L i:=fun i hi=>zAx (by omega) i (by rw [D.size]; exact hi)
      refine ⟨?_,fin ρ L b w D hall (noeff L D.sub hall)⟩
      apply List.eq_nil_iff_forall_not_mem.2
      intro j hj
      obtain ⟨h1,o,h2,_⟩:=mem_ready.1 hj
      have hlt:=(Array.getElem?_eq_some_iff.1 h2).1
      exact (qi (by rw [D.size]; exact hlt)).2 h1 (hall j hlt)
    | succ f ih =>
      intro ρ L b w D hf
      refine ⟨fun hr0=>?_,fun i hi=>?_⟩
      ·have hord:=ord_dn D.size hr0 ord S.ordok S.ordlt
       have hne:xC clo ops.toList 0=[]:=by
        apply Classical.byContradiction
        intro hne
        obtain ⟨⟨j,o,m⟩,hmem⟩:=List.exists_mem_of_ne_nil _ hne
        obtain ⟨q,e1,e2,e3,e4,e5⟩:=(xO ops.toList 0 j o m).1 hmem
        have hoj:ops[j]?=some o:=by
         have:q=j:=by omega
         subst this
         simpa using e2
        have hlt:=(Array.getElem?_eq_some_iff.1 hoj).1
        have hnj:¬ Dn L j:=fun h=>by obtain ⟨x,hx⟩:=D.sub j h; rw [e3] at hx; cases hx
        have:j∈Region.ready .any ops L:=by
         rw [mem_ready]
         refine ⟨(qi (by rw [D.size]; exact hlt)).1 hnj,o,hoj,fun ed he hb=>?_⟩
         obtain ⟨c,hc⟩:=(vF _ _ _ e5).1 ed (by simpa using he) hb
         exact hord _ (S.inord _ _ hc)
        rw [hr0] at this
        cases this
       refine fin ρ L b w D (fun i hi=>?_) hne
       rw [hne] at e
       simp only at e
       cases had:vS clo ops.toList 0
       ·rw [had] at e; cases e
       ·obtain ⟨m,hm⟩:=uB ops.toList 0 had i ops[i] (by simp [hi])
        rw [Nat.zero_add] at hm
        exact hord i (S.inord _ _ hm)
      ·obtain ⟨h1,o,ho,hpre⟩:=mem_ready.1 hi
       have hlt:=(Array.getElem?_eq_some_iff.1 ho).1
       have hnL:¬ Dn L i:=(qi (by rw [D.size]; exact hlt)).2 h1
       have hp:uW ops L i:=fun o' ho' e' he hb=>by rw [ho] at ho'; cases ho'; exact hpre e' he hb
       have hcnt:(L.setIfInBounds i true).toList.count false≤f:=by
        have:=zAI hnL (by rw [D.size]; exact hlt)
        omega
       cases hci:clo.get i with
       | some m =>
         have hcl:zj o.op≠2:=fun h=>hnL (D.eff i m o hci ho h)
         exact float_step hT S D hre' hci ho hnL hp hcl fun ρ' v' w' D'=>ih ρ' _ _ w' D' hcnt
       | none =>
         obtain ⟨m,hm⟩:=uX o.after.toList 0 fun e' he hb=>D.sub _ (hp o ho e' (by simpa using he) hb)
         have hcl:zj o.op=2:=by
          apply Classical.byContradiction
          intro hne
          have:=hset i o ho hci hne
          rw [hm] at this; cases this
         have hmem:=effs i o m ho hci hcl hm
         split at e
         ·next hnil=>rw [hnil] at hmem; cases hmem
         ·next i0 o0 m0 hone =>
          rw [hone] at hmem
          have heq:(i,o,m)=(i0,o0,m0):=by simpa using hmem
          cases heq
          cases hb:(qa wr m o.op.operands.toList && yF m o && Nat.blt i zY)
          ·rw [hb] at e; cases e
          ·rw [hb] at e
           simp only [cond_true] at e
           simp only [Bool.and_eq_true] at hb
           obtain ⟨⟨hs,hg⟩,hbd⟩:=hb
           split at e
           ·next a2 H2 hdo =>
            exact eff_step hT hc hr S D ho (by rw [Nat.blt_eq] at hbd; exact hbd) hci hp hm hcl hs hg hdo fun ρ' b' w' G' =>
             ut hT hc hr k _ a' H' e hq ρ' _ b' w' G' f hcnt
           ·cases e
         ·next i0 o0 m0 j0 p0 n0 htwo =>
          split at e
          ·next bb cc hbb hcc =>
           cases hch:(vA H bb cc && zAr clo i0 j0 ops.toList 0 && qa wr m0 o0.op.operands.toList && qa wr n0 p0.op.operands.toList && Nat.blt i0 zY && Nat.blt j0 zY)
           ·rw [hch] at e; cases e
           rw [hch] at e
           simp only [cond_true] at e
           simp only [Bool.and_eq_true] at hch
           obtain ⟨⟨⟨⟨⟨hap,hab⟩,hs0⟩,hs1⟩,hb0⟩,hb1⟩:=hch
           have hi0:i0 < zY:=by rw [Nat.blt_eq] at hb0; exact hb0
           have hj0:j0 < zY:=by rw [Nat.blt_eq] at hb1; exact hb1
           obtain ⟨q0,x1,x2,x3,x4,x5⟩:=(xO ops.toList 0 i0 o0 m0).1 (by rw [htwo]; simp)
           obtain ⟨q1,y1,y2,y3,y4,y5⟩:=(xO ops.toList 0 j0 p0 n0).1 (by rw [htwo]; simp)
           have ho0:ops[i0]?=some o0:=by
            have:q0=i0:=by omega
            subst this; simpa using x2
           have hp0:ops[j0]?=some p0:=by
            have:q1=j0:=by omega
            subst this; simpa using y2
           have gn:∀ (m:Nat) (o:Oper) (x:Nat),zAD (a.val tb) o=some x→yF m o=true:=fun m o x hx=>by
            unfold zAD at hx
            split at hx
            ·next hg=>unfold yF; rw [hg]
            ·cases hx
           obtain ⟨hbb1,off0,vs0,sp0⟩:=zEL (ops:=ops) (call:=call) (en:=en) hbb
           obtain ⟨hcc1,off1,vs1,sp1⟩:=zEL (ops:=ops) (call:=call) (en:=en) hcc
           have hne:i0≠j0:=fun h=>by
            subst h
            rw [ho0] at hp0; cases hp0
            rw [hbb] at hcc; cases hcc
            have:vA H bb bb=false:=by unfold vA; rw [Nat.beq_refl]; rfl
            rw [this] at hap; cases hap
           have others:∀ (q:Nat) o,ops[q]?=some o→q≠i0→q≠j0→clo.get q≠none:=fun q o hq' h1 h2=>by
            have:=zDB ops.toList 0 hab q o (by simpa using hq') (by omega) (by omega)
            rwa [Nat.zero_add] at this
           split at e
           ·next a1 H1 a2 H2 d1 d2 =>
            split at e
            ·next r1 r2 e1 e2 =>
             cases e
             obtain ⟨a21,H21⟩:=r2
             have f1:=drawN_one (j:=j0) (oj:=p0) (fun q o hq' h1=>by
              rw [T.get_set' _ _ _ hi0]
              split
              ·simp
              ·next h2=>exact others q o hq' h2 h1) (by rw [T.get_set' _ _ _ hi0,if_neg (fun h=>hne h.symm)]; exact y3) hp0 y4 e1
             have f2:=drawN_one (j:=i0) (oj:=o0) (fun q o hq' h1=>by
              rw [T.get_set' _ _ _ hj0]
              split
              ·simp
              ·next h2=>exact others q o hq' h1 h2) (by rw [T.get_set' _ _ _ hj0,if_neg hne]; exact x3) ho0 x4 e2
             obtain ⟨z1,s1⟩:=sp0 H _ d1
             obtain ⟨z2,s2⟩:=sp1 H _ d2
             simp only at z1 z2 s1 s2
             subst z1
             subst z2
             obtain ⟨z3,s12⟩:=sp1 H1 _ f1
             obtain ⟨z4,s21⟩:=sp0 H2 _ f2
             simp only at z3 z4 s12 s21
             subst z3
             subst z4
             have hfam:∀ r js,H.fam.get r=some js→∀ j∈js,j < zY:=fun r js h1 j h2=>by
              obtain ⟨x,hx⟩:=D.sr.fam r js h1 j h2
              exact D.sr.claimed hx
             have heqv:Eqv H' H21:=by
              unfold vA at hap
              cases hbc:Nat.beq bb cc
              ·rw [hbc] at hap
               have hbne:bb≠cc:=fun h=>by subst h; rw [Nat.beq_refl] at hbc; cases hbc
               cases h1:zCL H bb cc
               ·rw [h1] at hap
                exact (zEJ hfam hcc1 hbb1 (fun h=>hbne h.symm) hap s2 s21 s1 s12).symm
               ·exact zEJ hfam hbb1 hcc1 hbne h1 s1 s12 s2 s21
              ·rw [hbc] at hap; cases hap
             rw [htwo] at hmem
             rcases List.mem_cons.1 hmem with heq | hmem
             ·cases heq
              exact eff_step hT hc hr S D ho hi0 hci hp hm hcl hs0 (gn _ _ _ hbb) d1 fun ρ' b' w' G' =>
               ut hT hc hr k _ _ _ e1 hq ρ' _ b' w' G' f hcnt
             ·have heq:(i,o,m)=(j0,p0,n0):=by simpa using hmem
              cases heq
              exact eff_step hT hc hr S D ho hj0 hci hp hm hcl hs1 (gn _ _ _ hcc) d2 fun ρ' b' w' G' =>
               ut hT hc hr k _ _ _ e2 (fun ρ2 b2 w2 k2 s2' a2'=>hq ρ2 b2 w2 (k2.ext heqv.symm) (s2'.ext heqv.symm) a2') ρ' _ b' w' G' f hcnt
            ·cases e
           ·cases e
          ·cases e
         ·cases e
   exact inner fuel ρ L b w D hf
theorem draw_sound (hT:TabOk tb P) {call:yp} (hc:CallerOK tb P B w₀ call) {en:AEnv} {r:Option Nat} (hr:en.inRound=r.isSome) {id k':Nat} {Q:Exit→Act→World→Prop} {a a':AAct} {H H':AH}
  (h:SR tb B w₀ ρ H w) (hg:Glob tb ρ) (ha:AR ρ en.n a b) (e:amDraw tb call en ops a H=some (a',H'))
  (hq:∀ ρ' b' w',Kept ρ H ρ' H'→SR tb B w₀ ρ' H' w'→AR ρ' en.n a' b'→Q .normal b' w'):(Code.region id ops true).wpIn (FF r) k' P Q b w:=by
 unfold amDraw at e
 split at e
 ·next wr hwr =>
  obtain ⟨_,w2,w3⟩:=wo ha.small ops.toList 0 .nil wr hwr
  refine wpIn_region_any hT.mixed ?_
  have nodn:∀ i,¬ Dn (Array.replicate ops.size false) i:=fun i hi=>by
   unfold Dn at hi
   rw [Array.getD_eq_getD_getElem?,Array.getElem?_replicate] at hi
   split at hi <;> cases hi
  have getnil:∀ i,(T.nil:T Nat).get i=none:=fun i=>T.get_nil i
  refine ut hT hc hr (ρ₀:=ρ) (H₀:=H) (ops.size+2) _ a' H' e hq ρ _ b _ ⟨⟨ha.small,fun i o d h1 h2=>?_,fun d j hj=>?_,?_,?_,?_,trivial,?_,?_⟩,⟨by simp,?_,?_,?_,?_,h.drew,hg,.refl _ _,ha.tmps.size,fun t v ht _=>ha.tmps.get t v ht,ha.defers,?_,?_⟩⟩ _ ?_
  ·have:=w2 i o d (by simpa using h1) h2
   rw [Nat.zero_add] at this
   exact this
  ·rcases w3 d j hj with h4 | ⟨k,o,e1,e2,e3⟩
   ·rw [getnil] at h4; cases h4
   ·have:j=k:=by omega
    subst this
    exact ⟨o,by simpa using e2,e3⟩
  ·intro i m hi; rw [getnil] at hi; cases hi
  ·intro i m o hi; rw [getnil] at hi; cases hi
  ·intro i m hi; rw [getnil] at hi; cases hi
  ·intro i hi; cases hi
  ·intro i m hi; rw [getnil] at hi; cases hi
  ·exact fun i hi=>absurd hi (nodn i)
  ·exact fun i hi=>absurd hi (nodn i)
  ·intro i m o hi; rw [getnil] at hi; cases hi
  ·intro j hj; rw [kP] at hj; cases hj
  ·intro i m o d v id' hi; rw [getnil] at hi; cases hi
  ·intro i m o d v j m' o' d' v' id' hi; rw [getnil] at hi; cases hi
  ·simp
 ·cases e
end
end Go.Am
namespace Go.Am
open Go.RowKit
section
variable {tb:Tab} {P:Program} {B:Nat} {w₀:World}
def exitOf:AExit→Exit
 | .normal=>.normal
 | .exit id=>.exit id
 | .ret=>.ret
def Ends (tb:Tab) (B:Nat) (w₀:World) (n:Nat) (ρ:Ren) (H:AH) (x:AExit) (a':AAct) (H':AH) (Q:Exit→Act→World→Prop):Prop :=
 ∀ ρ' b' w',Kept ρ H ρ' H'→SR tb B w₀ ρ' H' w'→AR ρ' n a' b'→Q (exitOf x) b' w'
theorem Ends.after {n:Nat} {ρ ρ1:Ren} {H H1 H':AH} {x:AExit} {a':AAct} {Q:Exit→Act→World→Prop} (h:Ends tb B w₀ n ρ H x a' H' Q) (k:Kept ρ H ρ1 H1):Ends tb B w₀ n ρ1 H1 x a' H' Q :=
 fun ρ' b' w' k' s' a1=>h ρ' b' w' (k.trans k') s' a1
theorem run_newObj {P:Program} (o:Obj) (w:World):(newObj o).run P w = .ok w.heap.size (w.alloc o):=rfl
theorem wR (hT:TabOk tb P) {call:yp} (hc:CallerOK tb P B w₀ call) {en:AEnv} {r:Option Nat} (hr:en.inRound=r.isSome) {fuel:Nat}:∀ (c:Code) (a:AAct) (H:AH) (x:AExit) (a':AAct) (H':AH),yg tb call fuel en c a H=some (x,a',H') →
  ∀ (ρ:Ren) (b:Act) (w:World) (n:Nat) (Q:Exit→Act→World→Prop),SR tb B w₀ ρ H w→Glob tb ρ→AR ρ en.n a b→Ends tb B w₀ en.n ρ H x a' H' Q→c.wpIn (FF r) n P Q b w:=by
 intro c
 induction c with
 | skip =>
   intro a H x a' H' e ρ b w n Q h hg ha hq
   cases e
   exact wpIn_skip (hq ρ b w (.refl _ _) h ha)
 | label l =>
   intro a H x a' H' e ρ b w n Q h hg ha hq
   cases e
   exact wpIn_label (hq ρ b w (.refl _ _) h ha)
 | exit id =>
   intro a H x a' H' e ρ b w n Q h hg ha hq
   cases e
   exact wpIn_exit (hq ρ b w (.refl _ _) h ha)
 | ret =>
   intro a H x a' H' e ρ b w n Q h hg ha hq
   cases e
   exact wpIn_ret (hq ρ b w (.refl _ _) h ha)
 | region id ops draw =>
   intro a H x a' H' e ρ b w n Q h hg ha hq
   unfold yg at e
   cases draw
   ·simp only [cond_false] at e
    split at e
    ·next a1 H1 ho =>
     cases e
     refine wpIn_region ?_
     rw [List.range_eq_range',show ops.size=ops.toList.length by simp]
     exact ops_sound hT hc hr ops.toList 0 ρ H w a a' b H' rfl h hg ha ho fun ρ' b' w' k s a1=>hq ρ' b' w' k s a1
    ·cases e
   ·simp only [cond_true] at e
    split at e
    ·next a1 H1 ho =>
     cases e
     exact draw_sound hT hc hr h hg ha ho fun ρ' b' w' k s a1=>hq ρ' b' w' k s a1
    ·cases e
 | seq c d ihc ihd =>
   intro a H x a' H' e ρ b w n Q h hg ha hq
   unfold yg at e
   refine wpIn_seq ?_
   split at e
   ·next a1 H1 h1 =>
    exact ihc a H _ a1 H1 h1 ρ b w n _ h hg ha fun ρ' b' w' k s a2=>ihd a1 H1 x a' H' e ρ' b' w' n Q s (hg.mono k.le) a2 (hq.after k)
   ·next hne =>
    refine ihc a H x a' H' e ρ b w n _ h hg ha fun ρ' b' w' k s a2=>?_
    cases x with
    | normal=>exact absurd e (hne a' H')
    | exit id=>exact hq ρ' b' w' k s a2
    | ret=>exact hq ρ' b' w' k s a2
 | cond c d e' ihd ihe =>
   intro a H x a' H' e ρ b w n Q h hg ha hq
   unfold yg at e
   have hv:=ha.val hg c
   split at e
   ·next hb =>
    rw [hb] at hv
    exact wpIn_cond_true hv.bool_inv (ihd a H x a' H' e ρ b w n Q h hg ha hq)
   ·next hb =>
    rw [hb] at hv
    exact wpIn_cond_false hv.bool_inv (ihe a H x a' H' e ρ b w n Q h hg ha hq)
   ·cases e
 | block id c ih =>
   intro a H x a' H' e ρ b w n Q h hg ha hq
   unfold yg at e
   refine wpIn_block ?_
   split at e
   ·next j a1 H1 h1 =>
    refine ih a H _ a1 H1 h1 ρ b w n _ h hg ha fun ρ' b' w' k s a2=>?_
    simp only [exitOf,Exit.inBlock]
    cases hj:Nat.beq j id
    ·rw [hj] at e
     cases e
     rw [if_neg (fun hh=>by subst hh; rw [Nat.beq_refl] at hj; cases hj)]
     exact hq ρ' b' w' k s a2
    ·rw [hj] at e
     cases e
     rw [if_pos (Nat.eq_of_beq_eq_true hj)]
     exact hq ρ' b' w' k s a2
   ·next hne =>
    refine ih a H x a' H' e ρ b w n _ h hg ha fun ρ' b' w' k s a2=>?_
    cases x with
    | normal=>exact hq ρ' b' w' k s a2
    | exit j=>exact absurd e (hne j a' H')
    | ret=>exact hq ρ' b' w' k s a2
 | loop c ih =>
   intro a H x a' H' e ρ b w n Q h hg ha hq
   unfold yg at e
   have key:∀ (m:Nat) (a:AAct) (H:AH),loopN (yg tb call fuel en c) m a H=some (x,a',H')→∀ (ρ:Ren) (b:Act) (w:World),SR tb B w₀ ρ H w→Glob tb ρ→AR ρ en.n a b→Ends tb B w₀ en.n ρ H x a' H' Q→Code.roundsIn (FF r) n P c Q m b w:=by
    intro m
    induction m with
    | zero=>intro a H e; cases e
    | succ m ihm =>
      intro a H e ρ b w h hg ha hq
      unfold loopN at e
      rw [roundsIn_succ]
      split at e
      ·next a1 H1 h1 =>
       exact ih a H _ a1 H1 h1 ρ b w n _ h hg ha fun ρ' b' w' k s a2=>ihm a1 H1 e ρ' b' w' s (hg.mono k.le) a2 (hq.after k)
      ·next hne =>
       refine ih a H x a' H' e ρ b w n _ h hg ha fun ρ' b' w' k s a2=>?_
       cases x with
       | normal=>exact absurd e (hne a' H')
       | exit j=>exact hq ρ' b' w' k s a2
       | ret=>exact hq ρ' b' w' k s a2
   exact wpIn_loop_rounds fuel (key fuel a H e ρ b w h hg ha hq)
 | rangeFunc f ps assign body _ _ =>
   intro a H x a' H' e ρ b w n Q h hg ha hq
   unfold yg at e
   cases hin:en.inRound
   ·rw [hin] at e hr
    simp only [cond_false] at e
    have hr0:r=none:=by cases r with | none=>rfl | some l=>cases hr
    subst hr0
    split at e
    ·next g first captured hf =>
     have hv:=ha.val hg f
     rw [hf] at hv
     generalize hbf:b.eval f=u at hv
     cases hv with
     | func hs1 hk1 hs2 hk2 =>
       next first' captured' =>
       split at e
       ·next D H0 hD =>
        cases hx:Nat.beq (tb.ext g) 0
        ·rw [hx] at hD; cases hD
        rw [hx] at hD
        simp only [cond_true] at hD
        have hx0:=Nat.eq_of_beq_eq_true hx
        split at e
        ·next l H1 hl =>
         split at e
         ·next v2 H2 hcall =>
          obtain ⟨s1,k1⟩:=h.alloc (o':=.deferred (some [])) (r:=(0,0)) hD ⟨rfl,rfl⟩ (fun c e fr hx=>by cases hx) (fun c e ro hx=>by cases hx)
          refine wpIn_rangeFunc fun fn _=>?_
          obtain ⟨s2,k2⟩:=s1.alloc (o':=.loop { state:=.ready,pending:=none,fn:=fn,tmps:=b.tmps,params:=ps,assign:=assign,body:=body,defers:=w.heap.size }) (r:=(0,0)) hl ⟨rfl,rfl,rfl,ha.tmps.mono k1.le,by simp,rfl,rfl⟩ (fun c e fr hx=>by cases hx) (fun c e ro hx=>by cases hx)
          have hsz:(w.alloc (.deferred (some []))).heap.size=w.heap.size+1:=by simp
          have hl2:=Ren.put_same (ρ.put D (w.heap.size,0) (0,0)) l ((w.alloc (.deferred (some []))).heap.size,0) (0,0)
          have hD1:=Ren.put_same ρ D (w.heap.size,0) (0,0)
          have hargs:VRs ((ρ.put D (w.heap.size,0) (0,0)).put l ((w.alloc (.deferred (some []))).heap.size,0) (0,0)) (first.toList++[Value.func (.yield l) #[] #[]]++captured.toList)
            ((first'++#[Value.func (.yield (w.alloc (.deferred (some []))).heap.size) #[] #[]])++captured').toList:=by
           simp only [Array.toList_append]
           exact All2.append (All2.append ((VRs.of_array hs1 hk1).mono (Ren.le_trans k1.le k2.le)) (.cons (.yield hl2) .nil)) ((VRs.of_array hs2 hk2).mono (Ren.le_trans k1.le k2.le))
          obtain ⟨he,hcs⟩:=hc.fn g _ H1 v2 H2 hcall hx0 _ _ _ s2 (hg.mono (Ren.le_trans k1.le k2.le)) hargs
          refine ⟨(w.alloc (.deferred (some []))).heap.size,[{ target:=.collected w.heap.size,args:=#[] }],((w.alloc (.deferred (some []))).alloc (.loop { state:=.ready,pending:=none,fn:=fn,tmps:=b.tmps,params:=ps,assign:=assign,body:=body,defers:=w.heap.size })),{ target:=.fn (.func g) captured',args:=first'++#[Value.func (.yield (w.alloc (.deferred (some []))).heap.size) #[] #[]] },((w.alloc (.deferred (some []))).alloc (.loop { state:=.ready,pending:=none,fn:=fn,tmps:=b.tmps,params:=ps,assign:=assign,body:=body,defers:=w.heap.size })),g,_,((w.alloc (.deferred (some []))).alloc (.loop { state:=.ready,pending:=none,fn:=fn,tmps:=b.tmps,params:=ps,assign:=assign,body:=body,defers:=w.heap.size })),?_,?_,fun _ _=>trivial,he,(fun hd=>by cases hd),?_⟩
          ·rw [hsz]
           exact run_enterLoop_outer (P:=P) (w:=w) fn b.tmps ps assign body
          ·simp only [resolve,hbf,Deferred.ofValue,Sem.run_pure]
           simp [Act.eval]
          ·have hcs':CallsIn (FF none) (n - 1) P g _ _ _:=hcs (n - 1)
           refine hcs'.mono fun en' w3 hfin=>?_
           cases en' with
           | returned v' =>
             obtain ⟨ρ3,k3,s3,_⟩:=hfin
             have hl3:=k3.le.map _ _ hl2
             have hD3:=k3.le.map _ _ (k2.le.map _ _ hD1)
             have kk:=(k1.trans k2).trans k3
             have har:AR ρ3 en.n (a.defer { target:=.collected D,args:=#[] }) { b with defers:=[{ target:=.collected w.heap.size,args:=#[] }]++b.defers }:=(ha.mono kk.le).defer (.collected hD3)
             split at e
             ·next p tm m ps' as' bd' hget =>
              split at e
              ·cases e
               obtain ⟨o,o',e1,e2,e3⟩:=s3.obj l _ _ hl3
               rw [hget] at e1; cases e1
               cases o' with
               | loop lr =>
                 obtain ⟨_,q1,q2,_⟩:=e3
                 obtain ⟨s4,k4⟩:=s3.turn (o1:=.shut) (o1':=.loop { lr with state:=.exhausted }) hl3 hget (by simp) (by simp) (by simp) trivial
                 refine ⟨none,w3.putObj _ (.loop { lr with state:=.exhausted }),(run_endLoop (P:=P) e2 (by rw [q1]; decide)).trans (by rw [q2]),?_⟩
                 exact hq ρ3 _ _ (kk.trans k4) s4 har
               | _=>exact e3.elim
              ·cases e
             ·next p tm m ps' as' bd' hget =>
              obtain ⟨o,o',e1,e2,e3⟩:=s3.obj l _ _ hl3
              rw [hget] at e1; cases e1
              cases o' with
              | loop lr =>
                obtain ⟨_,q1,q2,_⟩:=e3
                obtain ⟨s4,k4⟩:=s3.turn (o1:=.shut) (o1':=.loop { lr with state:=.exhausted }) hl3 hget (by simp) (by simp) (by simp) trivial
                refine ⟨p,w3.putObj _ (.loop { lr with state:=.exhausted }),(run_endLoop (P:=P) e2 (by rw [q1]; decide)).trans (by rw [q2]),?_⟩
                split at e
                ·cases e
                 exact wpIn_exit (hq ρ3 _ _ (kk.trans k4) s4 har)
                ·cases e
                 exact wpIn_ret (hq ρ3 _ _ (kk.trans k4) s4 har)
                ·cases e
              | _=>exact e3.elim
             ·cases e
           | panicked ch=>exact hfin.elim
           | outgrown=>exact hfin.elim
         ·cases e
        ·cases e
       ·cases e
    ·cases e
   ·rw [hin] at e
    cases e
 | _ =>
   intro a H x a' H' e
   cases e
end
end Go.Am
namespace Go.Am
open Go.RowKit
section
variable {tb:Tab} {P:Program} {B:Nat} {w₀:World}
theorem zDC:∀ (args:List Value) (i:Nat) (t:T Value) (j:Nat),i+args.length≤zY→(v6 i args t).get j=if i≤j∧j < i+args.length then args[j - i]? else t.get j
 | [],i,t,j,_=>by
   rw [if_neg (by simp only [List.length_nil]; omega)]
   rfl
 | v::vs,i,t,j,h=>by
   simp only [List.length_cons] at h
   simp only [v6,List.length_cons]
   rw [zDC vs (i+1) _ j (by omega),T.get_set' _ _ _ (by omega)]
   by_cases h1:i+1≤j∧j < i+1+vs.length
   ·rw [if_pos h1,if_pos (by omega)]
    have:j - i=(j - (i+1))+1:=by omega
    rw [this,List.getElem?_cons_succ]
   ·rw [if_neg h1]
    by_cases h2:j=i
    ·subst h2
     rw [if_pos rfl,if_pos (by omega)]
     simp
    ·rw [if_neg h2,if_neg (by omega)]
theorem zEM {ρ:Ren} {args:List Value} {args':Array Value} {n:Nat} (hv:VRs ρ args args'.toList) (hle:args.length≤n) (hn:n≤zY):TR ρ n (v6 0 args .nil) (args'++Array.replicate (n - args'.size) undef):=by
 have hl:args.length=args'.size:=by simpa using hv.length
 refine ⟨by simp; omega,fun i v hi=>?_⟩
 rw [zDC args 0 .nil i (by omega)] at hi
 split at hi
 ·next hin =>
  simp only [Nat.sub_zero] at hi
  obtain ⟨v',e,r⟩:=hv.get i v hi
  refine ⟨v',?_,r⟩
  rw [Array.getElem?_append_left (by omega)]
  simpa using e
 ·rw [T.get_nil] at hi; cases hi
theorem qj (hT:TabOk tb P) {ρ:Ren} {H:AH} {w:World} (h:SR tb B w₀ ρ H w) {n:Nat} {a:AAct} {tmps:Array Value} (ha:TR ρ n a.tmps tmps) {f:ResultVar→Sem Value} (hf1:∀ t,f (.tmp t)=pure (tmps.getD t undef))
  (hf2:∀ x t,f (.cell x t)=(do Go.loadVar t (← asAddr (tmps.getD x undef)))):∀ (l:List ResultVar) (vs:List Value),vB tb H a l=some vs→∃ vs',(l.mapM f).run P w = .ok vs' w∧VRs ρ vs vs'
 | [],vs,e=>by
   cases e
   exact ⟨[],rfl,.nil⟩
 | .tmp t::l,vs,e=>by
   unfold vB at e
   split at e
   ·next us hus =>
    cases e
    obtain ⟨us',r1,r2⟩:=qj hT h ha hf1 hf2 l us hus
    refine ⟨tmps.getD t undef::us',?_,.cons ?_ r2⟩
    ·simp only [List.mapM_cons,hf1,Sem.run_bind,Sem.run_pure,Result.andThen,r1]
    ·split
     ·next v hv =>
      obtain ⟨v',e1,r⟩:=ha.get t v hv
      simp only [Array.getD_eq_getD_getElem?,e1,Option.getD_some]
      exact r
     ·exact .dead _
   ·cases e
 | .cell x t::l,vs,e=>by
   unfold vB at e
   split at e
   ·next ad had =>
    split at e
    ·next v us hl hus =>
     cases e
     obtain ⟨us',r1,r2⟩:=qj hT h ha hf1 hf2 l us hus
     obtain ⟨v',e1,r⟩:=ha.get x _ had
     obtain ⟨i,off,b,s,rfl,hi,hb⟩:=r.ptr_inv
     obtain ⟨u,r3,r4⟩:=zAf (P:=P) hT h hi hl
     refine ⟨u::us',?_,.cons r4 r2⟩
     simp only [List.mapM_cons,hf2,Sem.run_bind,Array.getD_eq_getD_getElem?,e1,Option.getD_some,hb,asAddr,Sem.run_pure,Result.andThen,r3,r1]
    ·cases e
   ·cases e
theorem zBg (hT:TabOk tb P) {ρ:Ren} {H H':AH} {w:World} (h:SR tb B w₀ ρ H w) {n:Nat} {a:AAct} {tmps:Array Value} (ha:TR ρ n a.tmps tmps) {fn:Func} {v:Value} (e:qA tb H a fn=some (v,H')) :
  H'=H∧∃ v',(results fn tmps).run P w = .ok v' w∧VR ρ v v':=by
 have key:∀ vs,vB tb H a fn.results.toList=some vs→∃ vs',(results fn tmps).run P w = .ok (if h:vs'.toArray.size=1 then vs'.toArray[0] else .tuple vs'.toArray) w∧VRs ρ vs vs':=fun vs hvs=>by
  unfold results
  generalize fn.results=rs at hvs ⊢
  obtain ⟨l⟩:=rs
  rw [List.mapM_toArray]
  generalize hf:(fun (x:ResultVar)=>(match x with
   | .tmp t=>pure (tmps.getD t undef)
   | .cell a t=>do Go.loadVar t (← asAddr (tmps.getD a undef)):Sem Value))=f
  obtain ⟨vs',r1,r2⟩:=qj (P:=P) hT h ha (f:=f) (fun t=>by rw [← hf]) (fun x t=>by rw [← hf]) l vs hvs
  refine ⟨vs',?_,r2⟩
  simp only [Sem.run_bind,Sem.run_map]
  rw [r1]
  rfl
 unfold qA at e
 split at e
 ·next u hu =>
  cases e
  obtain ⟨vs',r1,r2⟩:=key _ hu
  cases r2 with
  | cons hv hr =>
    cases hr
    exact ⟨rfl,_,r1,hv⟩
 ·next vs hne hu =>
  cases e
  obtain ⟨vs',r1,r2⟩:=key _ hu
  refine ⟨rfl,_,r1,?_⟩
  rw [dif_neg]
  ·exact VR.tuple_of (by simpa using r2)
  ·intro hs
   have hl:=r2.length
   simp only [List.size_toArray] at hs
   rw [hs] at hl
   match vs,hl with
   | [u],_=>exact hne u rfl
 ·cases e
theorem xf (hT:TabOk tb P) {f:FuncId} {fn:Func} {c:Code} (hf:tb.func f=some fn) (hb:fn.body=some c) (args:Array Value) (w:World):(callFunc f args).run P w = .ok (.enter f args) w:=by
 have h1:=hT.func f fn hf
 have h2:=hT.name f fn hf
 unfold callFunc
 simp only [program,Sem.run_bind,Sem.run,Result.andThen,h1,h2,hb,Option.isNone,Bool.false_eq_true,if_false,Sem.run_pure]
theorem zAz (hT:TabOk tb P) {en:AEnv} {ops:Array Oper} {n:Nat} {cs:List Frame} (hcs:recoverD cs=none) {Q:Exit→Act→List Frame→World→Prop}:∀ (rest:List Oper) (i:Nat) (ρ:Ren) (H:AH) (w:World) (a a':AAct) (b:Act) (H':AH),
  ops.toList.drop i=rest→SR tb B w₀ ρ H w→Glob tb ρ→AR ρ en.n a b→kK tb en ops rest a H=some (a',H') →
  (∀ ρ' b' w',Kept ρ H ρ' H'→SR tb B w₀ ρ' H' w'→AR ρ' en.n a' b'→Q .normal b' cs w')→wpOpsSIn Fence.wide n P ops Q (List.range' i rest.length) b cs w
 | [],i,ρ,H,w,a,a',b,H',_,h,_,ha,e,hq=>by
   cases e
   exact hq ρ b w (.refl _ _) h ha
 | o::rest,i,ρ,H,w,a,a',b,H',hd,h,hg,ha,e,hq=>by
   have ho:ops[i]?=some o:=by
    have:=congrArg List.head? hd
    simpa using this
   have hd':ops.toList.drop (i+1)=rest:=by
    have:=congrArg List.tail hd
    simpa using this
   have hw:∀ x,vR ops o a=some x→Region.wanted o (yielded ops b.tmps)=x:=fun x hx=>qh (ρ:=ρ) hx fun j y g d v _ _ _ hv=>ha.tmps.get d v hv
   rw [List.length_cons,List.range'_succ]
   simp only [wpOpsSIn,ho]
   refine ⟨fun _ _=>trivial,?_⟩
   unfold kK at e
   split at e
   ·next hwt =>
    rw [if_pos (hw _ hwt)]
    cases hop:yH tb (a.val tb) o H with
    | none=>rw [hop] at e; cases e
    | some y =>
      obtain ⟨nx,H1⟩:=y
      rw [hop] at e
      obtain ⟨ρ1,w1,k1,s1,hn⟩:=zAu (P:=P) hT h (fun x=>ha.val hg x) hop
      have go:∀ v v',VR ρ1 v v'→kK tb en ops rest (a.put en.n o.dst v) H1=some (a',H')→wpOpsSIn Fence.wide n P ops Q (List.range' (i+1) rest.length) (b.put o.dst v') cs w1:=fun v v' hv e =>
       zAz hT hcs rest (i+1) ρ1 H1 w1 _ a' _ H' hd' s1 (hg.mono k1.le) ((ha.mono k1.le).put o.dst hv) e fun ρ' b' w' k2 s2 a2=>hq ρ' b' w' (k1.trans k2) s2 a2
      cases nx with
      | value v =>
        obtain ⟨v',hrun,hvv⟩:=hn
        rw [hrun]
        exact go v v' hvv e
      | skip =>
        simp only [NR] at hn
        rw [hn]
        exact go undef undef (.dead _) e
      | recover =>
        simp only [NR] at hn
        rw [hn]
        simp only [hcs]
        exact go .nilIface .nilIface .nilIface e
      | enter f args=>cases e
      | round l args=>cases e
      | defer d=>cases e
   ·next hwt =>
    have h0:=hw _ hwt
    rw [if_neg (by rw [h0]; decide)]
    exact zAz hT hcs rest (i+1) ρ H w _ a' _ H' hd' h hg (ha.put o.dst .skip) e hq
   ·cases e
theorem zDD (hT:TabOk tb P) {call:yp} (hc:CallerOK tb P B w₀ call) {en:AEnv} (hr:en.inRound=false) {fuel:Nat} {cs:List Frame} (hcs:recoverD cs=none):∀ (c:Code) (a:AAct) (H:AH) (x:AExit) (a':AAct) (H':AH),vz tb call fuel en c a H=some (x,a',H') →
  ∀ (ρ:Ren) (b:Act) (w:World) (n:Nat) (Q:Exit→Act→List Frame→World→Prop),SR tb B w₀ ρ H w→Glob tb ρ→AR ρ en.n a b→Ends tb B w₀ en.n ρ H x a' H' (fun e b' w'=>Q e b' cs w')→c.wpSIn Fence.wide n P Q b cs w:=by
 intro c
 have plain:∀ (c:Code) (a:AAct) (H:AH) (x:AExit) (a':AAct) (H':AH),yg tb call fuel en c a H=some (x,a',H') →
  ∀ (ρ:Ren) (b:Act) (w:World) (n:Nat) (Q:Exit→Act→List Frame→World→Prop),SR tb B w₀ ρ H w→Glob tb ρ→AR ρ en.n a b→Ends tb B w₀ en.n ρ H x a' H' (fun e b' w'=>Q e b' cs w')→c.wpSIn Fence.wide n P Q b cs w :=
  fun c a H x a' H' e ρ b w n Q h hg ha hq=>wpSIn_of_wpIn rfl (wR (r:=none) hT hc hr c a H x a' H' e ρ b w n _ h hg ha hq)
 induction c with
 | seq c d ihc ihd =>
   intro a H x a' H' e ρ b w n Q h hg ha hq
   unfold vz at e
   refine wpSIn_seq ?_
   split at e
   ·next a1 H1 h1 =>
    exact ihc a H _ a1 H1 h1 ρ b w n _ h hg ha fun ρ' b' w' k s a2=>ihd a1 H1 x a' H' e ρ' b' w' n Q s (hg.mono k.le) a2 (hq.after k)
   ·next hne =>
    refine ihc a H x a' H' e ρ b w n _ h hg ha fun ρ' b' w' k s a2=>?_
    cases x with
    | normal=>exact absurd e (hne a' H')
    | exit id=>exact hq ρ' b' w' k s a2
    | ret=>exact hq ρ' b' w' k s a2
 | cond c d e' ihd ihe =>
   intro a H x a' H' e ρ b w n Q h hg ha hq
   unfold vz at e
   have hv:=ha.val hg c
   split at e
   ·next hb =>
    rw [hb] at hv
    exact wpSIn_cond hv.bool_inv (ihd a H x a' H' e ρ b w n Q h hg ha hq)
   ·next hb =>
    rw [hb] at hv
    exact wpSIn_cond hv.bool_inv (ihe a H x a' H' e ρ b w n Q h hg ha hq)
   ·cases e
 | region id ops draw =>
   intro a H x a' H' e ρ b w n Q h hg ha hq
   cases draw
   ·unfold vz at e
    split at e
    ·next a1 H1 ho =>
     cases e
     refine wpSIn_region ?_
     rw [List.range_eq_range',show ops.size=ops.toList.length by simp]
     exact zAz hT hcs ops.toList 0 ρ H w a a' b H' rfl h hg ha ho fun ρ' b' w' k s a1=>hq ρ' b' w' k s a1
    ·cases e
   ·exact plain _ a H x a' H' e ρ b w n Q h hg ha hq
 | _ =>
   intro a H x a' H' e ρ b w n Q h hg ha hq
   exact plain _ a H x a' H' e ρ b w n Q h hg ha hq
end
end Go.Am
namespace Go.Am
open Go.RowKit
def ExtOK (tb:Tab) (P:Program) (B:Nat) (w₀:World):Prop:=∀ f k,tb.ext f=k+1→∀ (args:Array Value) v,extOp (k+1) args.toList=some v→∀ w:World,Below B w₀ w→B≤w.heap.size →
 (∃ w',(callFunc f args).run P w = .ok (.value v) w'∧Below w.heap.size w w') ∨
  ((callFunc f args).run P w = .ok (.enter f args) w∧∀ n,CallsIn Fence.wide n P f args w (fun e w'=>e = .returned v∧Below w.heap.size w w'))
def ExtHOK (tb:Tab) (P:Program) (B:Nat) (w₀:World):Prop:=∀ f x,tb.ext f=x+1→∀ args H v H',tb.extH x args H=some (v,H')→∀ ρ w (args':Array Value),SR tb B w₀ ρ H w→Glob tb ρ→VRs ρ args args'.toList →
 (∃ w' v',(callFunc f args').run P w = .ok (.value v') w'∧Fin tb B w₀ ρ H v H' (.returned v') w') ∨
  ((callFunc f args').run P w = .ok (.enter f args') w∧∀ n,CallsIn Fence.wide n P f args' w (Fin tb B w₀ ρ H v H'))
theorem ExtHOK.none {tb:Tab} {P:Program} {B:Nat} {w₀:World} (h:∀ x args H,tb.extH x args H=none):ExtHOK tb P B w₀:=fun _ _ _ _ _ _ _ e=>by rw [h] at e; cases e
section
variable {tb:Tab} {P:Program} {B:Nat} {w₀:World}
theorem callD_sound (hT:TabOk tb P) {call:yp} (hc:CallerOK tb P B w₀ call) {loops:Nat} {f:FuncId} {args:List Value} {H H':AH} (e:amCallD tb call loops f args H=some H') {ρ:Ren} {w:World} {args':Array Value}
  (h:SR tb B w₀ ρ H w) (hg:Glob tb ρ) (hv:VRs ρ args args'.toList) :
  (callFunc f args').run P w = .ok (.enter f args') w∧∀ n,CallsDIn Fence.wide n P f args' .returning w (fun e u w'=>u = .returning∧∃ v',e = .returned v'∧∃ ρ',Kept ρ H ρ' H'∧SR tb B w₀ ρ' H' w'):=by
 unfold amCallD at e
 split at e
 ·split at e
  ·next fn hf =>
   split at e
   ·next c hb =>
    cases hle:(Nat.ble args.length fn.ntmps && Nat.ble fn.ntmps zY)
    ·rw [hle] at e; cases e
    rw [hle] at e
    simp only [cond_true] at e
    simp only [Bool.and_eq_true] at hle
    have l1:=Nat.le_of_ble_eq_true hle.1
    have l2:=Nat.le_of_ble_eq_true hle.2
    refine ⟨xf hT hf hb args' w,fun n=>callsDIn_of_wpSIn (hT.func f fn hf) hb trivial fun c₀ cs hu=>?_⟩
    have hcs:recoverD (c₀::cs)=none:=by simp only [recoverD,hu]
    have ha:AR ρ fn.ntmps { tmps:=v6 0 args .nil,defers:=[] } { tmps:=args'++Array.replicate (fn.ntmps - args'.size) undef,defers:=[] }:=⟨zEM hv l1 l2,.nil,l2⟩
    have stack:c₀::cs={ c₀ with mode:=.returning }::cs:=by rw [← hu]
    have post:∀ tm H1,(match qA tb H1 ⟨tm,[]⟩ fn with | some (_,H'')=>some H'' | none=>none)=some H'→∀ ρ' b' w',Kept ρ H ρ' H1→SR tb B w₀ ρ' H1 w'→AR ρ' fn.ntmps ⟨tm,[]⟩ b' →
      b'.defers=[]∧∃ u',c₀::cs={ c₀ with mode:=u' }::cs∧∃ v,(results fn b'.tmps).run P w' = .ok v w'∧(u' = .returning∧∃ v',Ending.returned v = .returned v'∧∃ ρ',Kept ρ H ρ' H'∧SR tb B w₀ ρ' H' w'):=fun tm H1 e ρ' b' w' k s ar=>by
     split at e
     ·next v H2 hfin =>
      cases e
      obtain ⟨rfl,v',r1,r2⟩:=zBg (P:=P) hT s ar.tmps hfin
      have hd:=ar.defers
      refine ⟨?_,.returning,stack,v',r1,rfl,v',rfl,ρ',k,s⟩
      cases hbd:b'.defers with
      | nil=>rfl
      | cons x y=>rw [hbd] at hd; cases hd
     ·cases e
    split at e
    ·next tm H1 hcode =>
     exact zDD hT hc rfl hcs c _ H .normal _ H1 hcode ρ _ w n _ h hg ha fun ρ' b' w' k s ar=>post tm H1 e ρ' b' w' k s ar
    ·next tm H1 hcode =>
     exact zDD hT hc rfl hcs c _ H .ret _ H1 hcode ρ _ w n _ h hg ha fun ρ' b' w' k s ar=>post tm H1 e ρ' b' w' k s ar
    ·cases e
   ·cases e
  ·cases e
 ·cases e
theorem qk (hT:TabOk tb P) {call:yp} (hc:CallerOK tb P B w₀ call) {loops:Nat} {fn:Func} {tmps:Array Value} {R:Ending→World→Prop} {n:Nat} {H'':AH}:∀ (ds:List Deferred) (H:AH),wG tb call loops ds H=some H'' →
  ∀ (ρ:Ren) (w:World) (ds':List Deferred),SR tb B w₀ ρ H w→Glob tb ρ→All2 (DR ρ) ds ds'→(∀ ρ' w',Kept ρ H ρ' H''→SR tb B w₀ ρ' H'' w'→∃ v,(results fn tmps).run P w' = .ok v w'∧R (.returned v) w') →
  LeavesInM Fence.wide n P fn tmps R ds' .returning w
 | [],H,e,ρ,w,ds',h,hg,hd,hq=>by
   cases e
   cases hd
   exact hq ρ w (.refl _ _) h
 | d::ds,H,e,ρ,w,ds',h,hg,hd,hq=>by
   cases hd with
   | cons hd1 hds =>
     refine ⟨by simp,?_⟩
     unfold wG at e
     cases hd1 with
     | collected hr =>
       next D D' =>
       simp only at e
       split at e
       ·next hget =>
        left
        obtain ⟨o,o',e1,e2,e3⟩:=h.obj _ _ _ hr
        rw [hget] at e1; cases e1
        cases o' with
        | deferred ds0 =>
          obtain ⟨_,h0⟩:=e3
          subst h0
          obtain ⟨s1,k1⟩:=h.turn (o1:=.shut) (o1':=.deferred none) hr hget (by simp) (by simp) (by simp) trivial
          refine ⟨_,_,rfl,run_takeDeferred (P:=P) e2,?_⟩
          exact qk hT hc ds _ e ρ _ _ s1 hg hds fun ρ' w' k s=>hq ρ' w' (k1.trans k) s
        | _=>exact e3.elim
       ·cases e
     | fn hcap hargs =>
       next g cap cap' ar ar' =>
       simp only at e
       split at e
       ·next H1 hcall =>
        right
        have hv:VRs ρ (ar.toList++cap.toList) (ar'++cap').toList:=by simp only [Array.toList_append]; exact All2.append hargs hcap
        obtain ⟨r1,r2⟩:=callD_sound hT hc hcall h hg hv
        refine ⟨(fun hd=>by cases hd),.func g,cap',g,ar'++cap',rfl,r1,fun _ _=>trivial,(r2 (n - 1)).mono fun en' u' w' hh=>?_⟩
        obtain ⟨rfl,v',rfl,ρ',k,s⟩:=hh
        exact qk hT hc ds H1 e ρ' w' _ s (hg.mono k.le) (hds.mono fun _ _=>DR.mono k.le) fun ρ2 w2 k2 s2=>hq ρ2 w2 (k.trans k2) s2
       ·cases e
theorem kS {ρ:Ren} {n:Nat} (hn:n≤zY):∀ (ps:List Tmp) (args args':List Value) (t t':T Value) (b:Array Value),VRs ρ args args'→TR ρ n t b→zBW n ps args t=some t' →
  ps.length=args'.length∧TR ρ n t' ((ps.zip args').foldl (fun tmps (x:Tmp×Value)=>tmps.setIfInBounds x.1 x.2) b)
 | [],[],_,t,t',b,.nil,ht,e=>by cases e; exact ⟨rfl,ht⟩
 | [],_::_,_,_,_,_,_,_,e=>by cases e
 | _::_,[],_,_,_,_,_,_,e=>by cases e
 | p::ps,v::vs,v'::vs',t,t',b,.cons h1 h2,ht,e=>by
   unfold zBW at e
   obtain ⟨l,r⟩:=kS hn ps vs vs' _ t' _ h2 (ht.set hn (d:=p) h1) e
   exact ⟨by simp [l],by simpa using r⟩
theorem uu {a b:ByteArray}:∀ (ρ:Ren) (l:List Value),VRs ρ [.string a,.string b] l→l=[.string a,.string b]:=fun ρ l hl=>by
 cases hl with
 | cons h1 hr =>
   cases hr with
   | cons h2 hr =>
     cases hr
     cases h1; cases h2; rfl
theorem ext_flat {k:Nat} {args:List Value} {v:Value} (e:extOp k args=some v):(∀ (ρ:Ren) (l:List Value),VRs ρ args l→l=args)∧∀ ρ:Ren,VR ρ v v:=by
 unfold extOp at e
 split at e
 ·unfold ext1 at e
  split at e
  ·next s c =>
   refine ⟨fun ρ l hl=>?_,fun ρ=>?_⟩
   ·cases hl with
    | cons h1 hr =>
      cases hr with
      | cons h2 hr =>
        cases hr
        cases h1; cases h2; rfl
   ·revert e
    cases Nat.blt c 256 <;> intro e <;> cases e
    unfold idxV
    split <;> exact .int _ _
  ·cases e
 ·unfold ext3 at e
  split at e
  ·cases e
   exact ⟨uu,fun ρ=>.int _ _⟩
  ·cases e
 ·unfold ext4 at e
  split at e
  ·next a b =>
   refine ⟨uu,fun ρ=>?_⟩
   revert e
   cases (wl (bytes b) && Nat.blt (len a) zY && Nat.blt (len b) zY) <;> intro e <;> cases e
   exact .string _
  ·cases e
 ·unfold ext5 at e
  split at e
  ·next a b =>
   refine ⟨uu,fun ρ=>?_⟩
   revert e
   cases (wl (bytes b) && Nat.blt (len a) zY && Nat.blt (len b) zY) <;> intro e <;> cases e
   exact .string _
  ·cases e
 ·unfold ext6 at e
  split at e
  ·next a b =>
   refine ⟨uu,fun ρ=>?_⟩
   revert e
   cases Nat.blt (len a) zY <;> intro e <;> cases e
   exact .bool _
  ·cases e
 ·cases e
theorem loop_obj {ρ:Ren} {H:AH} {w:World} (h:SR tb B w₀ ρ H w) {l l':Nat} (hl:ρ l=some (l',0)) {st:LoopState} {p:Option Code} {t:T Value} {n:Nat} {ps:List Tmp} {asg body:Code} (hg:H.get l=some (.loop st p t n ps asg body)) :
  ∃ lr:Loop,w.heap[l']?=some (.loop lr)∧lr.state=st∧lr.pending=p∧TR ρ n t lr.tmps∧lr.params=ps.toArray∧lr.assign=asg∧lr.body=body:=by
 obtain ⟨o,o',e1,e2,e3⟩:=h.obj l _ _ hl
 rw [hg] at e1; cases e1
 cases o' with
 | loop lr=>exact ⟨lr,e2,e3.2⟩
 | _=>exact e3.elim
theorem zBh (hT:TabOk tb P) (hx:ExtOK tb P B w₀) (hxh:ExtHOK tb P B w₀) (loops:Nat):∀ k,CallerOK tb P B w₀ (xS tb loops k)
 | 0=>⟨fun _ _ _ _ _ e=>(by cases e),fun _ _ _ _ _ e=>(by cases e),fun _ _ _ _ _ e=>(by cases e)⟩
 | k+1=>by
   have ih:CallerOK tb P B w₀ (xS tb loops k):=zBh hT hx hxh loops k
   refine ⟨fun f args H v H' e hf0 ρ w args' h hg hv=>?_,fun f args H v H' e hf0 ρ w args' h hg hv=>?_,fun l args H v H' e ρ w l' args' h hg hl hv=>?_⟩
   ·unfold xS at e
    rw [hf0] at e
    simp only at e
    split at e
    ·next fn hf =>
     split at e
     ·next c hb =>
      cases hle:(Nat.ble args.length fn.ntmps && Nat.ble fn.ntmps zY)
      ·rw [hle] at e; cases e
      rw [hle] at e
      simp only [cond_true] at e
      simp only [Bool.and_eq_true] at hle
      have l1:=Nat.le_of_ble_eq_true hle.1
      have l2:=Nat.le_of_ble_eq_true hle.2
      refine ⟨xf hT hf hb args' w,fun n=>callsIn_of_wp_marks (hT.func f fn hf) hb trivial ?_⟩
      have ha:AR ρ fn.ntmps { tmps:=v6 0 args .nil,defers:=[] } { tmps:=args'++Array.replicate (fn.ntmps - args'.size) undef,defers:=[] }:=⟨zEM hv l1 l2,.nil,l2⟩
      have post:∀ tm ds H1,(match wG tb (xS tb loops k) loops ds H1 with | some H''=>qA tb H'' ⟨tm,[]⟩ fn | none=>none)=some (v,H')→∀ ρ' b' w',Kept ρ H ρ' H1→SR tb B w₀ ρ' H1 w'→AR ρ' fn.ntmps ⟨tm,ds⟩ b' →
        LeavesInM Fence.wide n P fn b'.tmps (Fin tb B w₀ ρ H v H') b'.defers .returning w':=fun tm ds H1 e ρ' b' w' k1 s ar=>by
       split at e
       ·next H2 hd =>
        refine qk hT ih ds H1 hd ρ' w' _ s (hg.mono k1.le) ar.defers fun ρ2 w2 k2 s2=>?_
        obtain ⟨rfl,v',r1,r2⟩:=zBg (P:=P) hT s2 (a:=⟨tm,[]⟩) (ar.tmps.mono k2.le) e
        exact ⟨v',r1,ρ2,k1.trans k2,s2,r2⟩
       ·cases e
      split at e
      ·next tm ds H1 hcode =>
       exact wR (r:=none) hT ih rfl c _ H .normal _ H1 hcode ρ _ w n _ h hg ha fun ρ' b' w' k1 s ar=>post tm ds H1 e ρ' b' w' k1 s ar
      ·next tm ds H1 hcode =>
       exact wR (r:=none) hT ih rfl c _ H .ret _ H1 hcode ρ _ w n _ h hg ha fun ρ' b' w' k1 s ar=>post tm ds H1 e ρ' b' w' k1 s ar
      ·cases e
     ·cases e
    ·cases e
   ·unfold xS at e
    split at e
    ·next h0=>exact absurd h0 hf0
    ·next x hxx =>
     split at e
     ·next r hr =>
      cases e
      exact hxh f x hxx args H v H' hr ρ w args' h hg hv
     split at e
     ·next u hu =>
      cases e
      obtain ⟨f1,f2⟩:=ext_flat hu
      have hargs:=f1 ρ _ hv
      have hu':extOp (x+1) args'.toList=some v:=by rw [hargs]; exact hu
      have fin:∀ w',Below w.heap.size w w'→Fin tb B w₀ ρ H v H (.returned v) w':=fun w' hb=>⟨ρ,.refl _ _,h.later hb,f2 ρ⟩
      rcases hx f x hxx args' v hu' w h.below h.room with ⟨w',r1,hb⟩ | ⟨r1,hcs⟩
      ·exact .inl ⟨w',v,r1,fin w' hb⟩
      ·refine .inr ⟨r1,fun n=>(hcs n).mono fun en' w' hh=>?_⟩
       obtain ⟨rfl,hb⟩:=hh
       exact fin w' hb
     ·cases e
   ·unfold xS at e
    split at e
    ·next p tmps m ps assign body hget =>
     obtain ⟨lr,q1,q2,q3,q4,q5,q6,q7⟩:=loop_obj h hl hget
     split at e
     ·next t ht =>
      cases hm:Nat.ble m zY
      ·rw [hm] at ht; cases ht
      rw [hm] at ht
      simp only [cond_true] at ht
      have hmb:=Nat.le_of_ble_eq_true hm
      obtain ⟨a1,a2⟩:=kS hmb ps args args'.toList tmps t lr.tmps hv q4 ht
      refine ⟨lr.fn,_,lr.assign,lr.body,run_yield (P:=P) q1 (by rw [q5]; simpa using a1.symm),fun n=>?_⟩
      have htm:(lr.params.zip args').foldl (fun tmps (t,a)=>tmps.setIfInBounds t a) lr.tmps=(ps.zip args'.toList).foldl (fun tmps (x:Tmp×Value)=>tmps.setIfInBounds x.1 x.2) lr.tmps:=by
       rw [q5,← Array.foldl_toList,Array.toList_zip]
      rw [htm]
      split at e
      ·next a H1 hasg =>
       split at e
       ·next p2 tm2 m2 ps2 as2 bd2 hget2 =>
        refine roundIn_of_wpIn trivial ?_
        rw [q6]
        refine wR (r:=some l') hT ih rfl assign _ H .normal a H1 hasg ρ _ w n _ h hg ⟨a2,.nil,hmb⟩ fun ρ' b' w' k1 s ar=>?_
        have hl1:=k1.le.map _ _ hl
        obtain ⟨lr2,u1,u2,u3,u4,u5,u6,u7⟩:=loop_obj s hl1 hget2
        obtain ⟨s2,k2⟩:=s.turn (o1:=.loop .busy p2 tm2 m2 ps2 as2 bd2) (o1':=.loop { lr2 with state:=.busy }) hl1 hget2 (by simp) (by simp) (by simp) ⟨rfl,rfl,u3,u4,u5,u6,u7⟩
        refine ⟨_,run_beginRound (P:=P) u1 u2,?_⟩
        rw [q7]
        have post:∀ jump H2,endRound H2 l jump=some (v,H')→∀ ρ2 w2,Kept ρ H ρ2 H2→SR tb B w₀ ρ2 H2 w2→ρ2 l=some (l',0)→∃ v' w3,(Instr.endRound l' jump).run P w2 = .ok v' w3∧Fin tb B w₀ ρ H v H' (.returned v') w3:=fun jump H2 e ρ2 w2 k3 s3 hl2=>by
         unfold endRound at e
         split at e
         ·next st p3 tm3 m3 ps3 as3 bd3 hget3 =>
          cases e
          obtain ⟨lr3,y1,y2,y3,y4,y5,y6,y7⟩:=loop_obj s3 hl2 hget3
          obtain ⟨s4,k4⟩:=s3.turn (o1:=.loop (cond jump.isNone .ready .done) jump tm3 m3 ps3 as3 bd3) (o1':=.loop { lr3 with state:=if jump.isNone then .ready else .done,pending:=jump }) hl2 hget3 (by simp) (by simp) (by simp)
           ⟨rfl,by cases jump <;> rfl,rfl,y4,y5,y6,y7⟩
          exact ⟨_,_,run_endRound (P:=P) jump y1,ρ2,k3.trans k4,s4,.bool _⟩
         ·cases e
        split at e
        ·next a3 H3 hbody =>
         exact wR (r:=some l') hT ih rfl body a _ .normal a3 H3 hbody ρ' b' _ n _ s2 (hg.mono k1.le) ar fun ρ2 b2 w2 k3 s3 _=>post none H3 e ρ2 w2 ((k1.trans k2).trans k3) s3 (k3.le.map _ _ hl1)
        ·next a3 H3 hbody =>
         exact wR (r:=some l') hT ih rfl body a _ .ret a3 H3 hbody ρ' b' _ n _ s2 (hg.mono k1.le) ar fun ρ2 b2 w2 k3 s3 _=>post (some .ret) H3 e ρ2 w2 ((k1.trans k2).trans k3) s3 (k3.le.map _ _ hl1)
        ·next id a3 H3 hbody =>
         exact wR (r:=some l') hT ih rfl body a _ (.exit id) a3 H3 hbody ρ' b' _ n _ s2 (hg.mono k1.le) ar fun ρ2 b2 w2 k3 s3 _=>post (some (.exit id)) H3 e ρ2 w2 ((k1.trans k2).trans k3) s3 (k3.le.map _ _ hl1)
        ·cases e
       ·cases e
      ·cases e
     ·cases e
    ·cases e
theorem am_calls (hT:TabOk tb P) {w:World} (hx:ExtOK tb P w.heap.size w) (hxh:ExtHOK tb P w.heap.size w) (hgl:∀ g,tb.glob g=false) {loops k:Nat} {f:FuncId} {v:Value} {H':AH} (h0:tb.ext f=0) (e:xS tb loops k (.fn f) [] ⟨.nil,0,.nil,.nil⟩=some (v,H')) (hv:flat v=true) :
  Calls P f #[] w (fun en w'=>en = .returned v∧Below w.heap.size w w'):=by
 have start:SR tb w.heap.size w ⟨fun _=>none,fun _=>(0,0)⟩ ⟨.nil,0,.nil,.nil⟩ w :=
  ⟨.refl _ _,Nat.le_refl _,fun i b s e=>(by cases e),fun _ _=>rfl,fun i b s e=>(by cases e),fun i j b s t e=>(by cases e),fun r js e=>(by simp only [T.get_nil] at e; cases e),fun j r o e=>(by simp only [T.get_nil] at e; cases e),fun r js e=>(by simp only [T.get_nil] at e; cases e),
   fun i b s e=>(by cases e),fun i b s e=>(by cases e),Nat.zero_le _⟩
 obtain ⟨_,hcs⟩:=(zBh (B:=w.heap.size) (w₀:=w) hT hx hxh loops k).fn f [] _ v H' e h0 _ w #[] start (fun g hg=>by rw [hgl g] at hg; cases hg) .nil
 refine (callsIn_wide (n:=0)).1 ((hcs 0).mono fun en w' hf=>?_)
 cases en with
 | returned v' =>
   obtain ⟨ρ',_,s,hvv⟩:=hf
   refine ⟨?_,s.below⟩
   have:v'=v:=by
    unfold flat at hv
    split at hv <;> first | (cases hvv; rfl) | (cases hv)
   rw [this]
 | panicked ch=>exact hf.elim
 | outgrown=>exact hf.elim
end
end Go.Am
namespace Go.Am
open Go.RowKit
def T.All {α:Type}:T α→(Nat→α→Prop)→Prop
 | .nil,_=>True
 | .node v l r,Q=>(∀ a,v=some a→Q 0 a)∧T.All l (fun k=>Q (2 * k+1))∧T.All r (fun k=>Q (2 * k+2))
theorem T.All.node {α:Type} {Q:Nat→α→Prop} {a:α} {l r:T α} (h:Q 0 a) (hl:T.All l (fun k=>Q (2 * k+1))) (hr:T.All r (fun k=>Q (2 * k+2))):T.All (.node (some a) l r) Q :=
 ⟨fun b e=>by cases e; exact h,hl,hr⟩
theorem T.All.get {α:Type}:∀ (t:T α) (Q:Nat→α→Prop),T.All t Q→∀ n a,t.get n=some a→Q n a
 | .nil,_,_,n,a,e=>by cases e
 | .node v l r,Q,⟨h1,h2,h3⟩,n,a,e=>by
   unfold T.get at e
   cases h0:Nat.beq n 0
   ·rw [h0] at e
    simp only [cond_false] at e
    have hn:n≠0:=fun h=>by subst h; cases h0
    cases hm:Nat.beq (Nat.mod n 2) 1
    ·rw [hm] at e
     have hm':n % 2≠1:=fun h=>by
      have:Nat.mod n 2=1:=h
      rw [this] at hm; cases hm
     have:=T.All.get r _ h3 _ a e
     have hq:2 * (Nat.pred (Nat.div n 2))+2=n:=by
      show 2 * (Nat.pred (n / 2))+2=n
      rw [Nat.pred_eq_sub_one]
      omega
     rw [hq] at this
     exact this
    ·rw [hm] at e
     have hm':n % 2=1:=Nat.eq_of_beq_eq_true hm
     have:=T.All.get l _ h2 _ a e
     have hq:2 * (Nat.div n 2)+1=n:=by
      show 2 * (n / 2)+1=n
      omega
     rw [hq] at this
     exact this
   ·rw [h0] at e
    have hn:n=0:=Nat.eq_of_beq_eq_true h0
    subst hn
    exact h1 a e
def T.allB {α:Type} (p:α→Bool):T α→Bool
 | .nil=>true
 | .node v l r=>cond (match v with | some a=>p a | none=>true) (cond (T.allB p l) (T.allB p r) false) false
theorem T.allB_all {α:Type} {p:α→Bool}:∀ (t:T α) (Q:Nat→α→Prop),T.allB p t=true→(∀ n a,p a=true→Q n a)→T.All t Q
 | .nil,_,_,_=>trivial
 | .node v l r,Q,h,hq=>by
   unfold T.allB at h
   cases hl:T.allB p l
   ·rw [hl] at h; revert h; cases (match v with | some a=>p a | none=>true) <;> intro h <;> cases h
   ·rw [hl] at h
    cases hr:T.allB p r
    ·rw [hr] at h; revert h; cases (match v with | some a=>p a | none=>true) <;> intro h <;> cases h
    ·refine ⟨fun a e=>hq 0 a ?_,T.allB_all l _ hl fun n a h=>hq _ a h,T.allB_all r _ hr fun n a h=>hq _ a h⟩
     subst e
     revert h
     cases hp:p a <;> intro h
     ·simp only [hp] at h; cases h
     ·rfl
theorem info_of_types {P:Program} {t:TypeId} {i:TypeInfo} (h:P.types[t]?=some i):P.info? t=some i:=by
 have hlt:t < P.types.size:=(Array.getElem?_eq_some_iff.1 h).1
 unfold Tables.info?
 rw [if_pos hlt]
 exact h
def descI (tb:Tab) (i:TypeInfo):Option TypeDesc :=
 match i.desc with
 | .named _ u=>(tb.info u).map TypeInfo.desc
 | d=>some d
theorem under_eq {tb:Tab} {t:TypeId} {i:TypeInfo} (h:tb.info t=some i):tb.under t=descI tb i:=by
 unfold Tab.under descI
 rw [h]
 clear h
 obtain ⟨d,_⟩:=i
 cases d <;> rfl
def fldsB (tb:Tab) (i:TypeInfo):Bool :=
 match descI tb i with
 | some (.struct fs)=>fs.toList.all fun f=>(tb.size f.type).isSome
 | _=>true
def nameB (fn : Func) : Bool := !(fn.name == "runtime.NumGoroutine")
theorem tabOk {P:Program} {ti:T TypeInfo} {tf:T Func} {ext:Nat→Nat} {gl eq:Nat→Bool} {eh:Nat→List Value→AH→Option (Value×AH)} (hi:T.All ti (fun t i=>P.types[t]?=some i)) (hf:T.All tf (fun f fn=>P.funcs[f]?=some fn)) (hn:T.allB nameB tf=true)
  (he : ∀ t, eq t = true → P.stoodInHeld t = false ∧ ∀ fs, P.underlying t = some (.struct fs) → ∀ f ∈ fs.toList, f.name ≠ "_") (hm : P.follows .mixedOrders = true) (hb : T.allB (fldsB ⟨ti.get, tf.get, ext, gl, eq, eh⟩) ti = true) :
  TabOk ⟨ti.get,tf.get,ext,gl,eq,eh⟩ P:=by
 refine ⟨fun t i h=>info_of_types (T.All.get ti _ hi t i h),fun f fn h=>T.All.get tf _ hf f fn h,fun f fn h=>?_,he,hm,fun t fs hu f hfm=>?_⟩
 ·have:=T.All.get tf _ (T.allB_all tf (fun _ fn=>nameB fn=true) hn fun _ _ h=>h) f fn h
  unfold nameB at this
  simpa using this
 ·cases ht:ti.get t with
  | none =>
    have h0:Tab.under ⟨ti.get,tf.get,ext,gl,eq,eh⟩ t=none:=by unfold Tab.under; simp only [ht]
    rw [h0] at hu; cases hu
  | some i =>
    have hB:=T.All.get ti _ (T.allB_all ti (fun _ i=>fldsB ⟨ti.get,tf.get,ext,gl,eq,eh⟩ i=true) hb fun _ _ h=>h) t i ht
    unfold fldsB at hB
    rw [← under_eq (tb:=⟨ti.get,tf.get,ext,gl,eq,eh⟩) ht,hu] at hB
    simp only at hB
    rw [List.all_eq_true] at hB
    exact Option.isSome_iff_exists.1 (hB f hfm)
theorem hasB_eq (c:UInt8):∀ l,hasB c l=l.contains c
 | []=>rfl
 | b::l=>by
   unfold hasB
   rw [hasB_eq c l,List.contains_cons]
   cases h:Nat.beq b.toNat c.toNat
   ·have:¬ (c=b):=fun e=>by subst e; rw [Nat.beq_refl] at h; cases h
    simp [this]
   ·have:b=c:=UInt8.toNat_inj.1 (Nat.eq_of_beq_eq_true h)
    subst this
    simp
theorem zBi (cs:List UInt8):∀ l,trimL cs l=Lib.trimLeftS l cs
 | []=>rfl
 | b::l=>by
   unfold trimL
   rw [hasB_eq]
   have ih:=zBi cs l
   unfold Lib.trimLeftS at *
   rw [List.dropWhile_cons]
   cases h:cs.contains b
   ·simp
   ·simp only [cond_true,if_true]; exact ih
theorem revB_eq:∀ (l a:List UInt8),revB l a=l.reverse++a
 | [],_=>rfl
 | b::l,a=>by simp [revB,revB_eq l]
theorem zA0:∀ (p l:List UInt8),zAE p l=p.isPrefixOf l
 | [],_=>by simp [zAE]
 | _::_,[]=>rfl
 | a::p,b::l=>by
   unfold zAE
   rw [zA0 p l,List.isPrefixOf_cons_cons]
   cases h:Nat.beq a.toNat b.toNat
   ·have:¬ (a=b):=fun e=>by subst e; rw [Nat.beq_refl] at h; cases h
    simp [this]
   ·have:a=b:=UInt8.toNat_inj.1 (Nat.eq_of_beq_eq_true h)
    subst this
    simp
theorem zBj (p:List UInt8):∀ (l:List UInt8) (i:Nat),(match qH p l i with | some _=>true | none=>false)=Lib.contains l p
 | [],i=>by
   unfold qH Lib.contains Lib.index
   rw [zA0]
   cases p with
   | nil=>rfl
   | cons a p=>rfl
 | b::l,i=>by
   have ih:=zBj p l (i+1)
   unfold qH Lib.contains Lib.index
   rw [zA0]
   cases h:p.isPrefixOf (b::l)
   ·simp only [cond_false,Bool.false_eq_true,if_false]
    rw [ih]
    unfold Lib.contains
    have hge:=Lib.index_ge l p
    by_cases hm:Lib.index l p = -1
    ·simp [hm]
    ·have:(Lib.index l p == -1)=false:=by simpa using hm
     rw [this]
     simp only [Bool.false_eq_true,if_false]
     have h1:0≤Lib.index l p:=by omega
     have h2:0≤Lib.index l p+1:=by omega
     simp [h1,h2]
   ·simp
theorem zDE (c:UInt8):∀ (l:List UInt8) (i:Nat),idxV (zBV c.toNat l i) = .int .i64 (if Lib.indexByte l c = -1 then -1 else Lib.indexByte l c+i)
 | [],i=>rfl
 | b::l,i=>by
   have ih:=zDE c l (i+1)
   unfold zBV Lib.indexByte
   have hge:=Lib.indexByte_ge l c
   cases h:Nat.beq b.toNat c.toNat
   ·have:¬ (b=c):=fun e=>by subst e; rw [Nat.beq_refl] at h; cases h
    have hb:(b == c)=false:=by simpa using this
    simp only [cond_false,hb,Bool.false_eq_true,if_false]
    rw [ih]
    by_cases hm:Lib.indexByte l c = -1
    ·simp [hm]
    ·have h2:(Lib.indexByte l c == -1)=false:=by simpa using hm
     rw [if_neg hm,h2]
     simp only [Bool.false_eq_true,if_false]
     rw [if_neg (by omega)]
     congr 1
     omega
   ·have:b=c:=UInt8.toNat_inj.1 (Nat.eq_of_beq_eq_true h)
    subst this
    simp [idxV]
theorem zEO:∀ (a b:List UInt8),(cond (eqB a b) 0 (cond (lessB a b) (-1) 1):Int)=Lib.compareBytes a b
 | [],[]=>rfl
 | [],_::_=>rfl
 | _::_,[]=>rfl
 | x::a,y::b=>by
   have ih:=zEO a b
   unfold eqB lessB Lib.compareBytes
   cases h:Nat.beq x.toNat y.toNat
   ·simp only [cond_false]
    have hne:x.toNat≠y.toNat:=fun e=>by rw [e,Nat.beq_refl] at h; cases h
    cases hl:Nat.blt x.toNat y.toNat
    ·have h1:¬ x < y:=fun hh=>by
      have:x.toNat < y.toNat:=hh
      rw [← Nat.blt_eq,hl] at this; cases this
     have h2:y < x:=by
      have h3:¬ x.toNat < y.toNat:=h1
      show y.toNat < x.toNat
      omega
     simp [h1,h2]
    ·have h1:x < y:=by rw [Nat.blt_eq] at hl; exact hl
     simp [h1]
   ·have he:x=y:=UInt8.toNat_inj.1 (Nat.eq_of_beq_eq_true h)
    subst he
    have hirr:¬ x < x:=fun hh=>Nat.lt_irrefl _ (show x.toNat < x.toNat from hh)
    have hbl:Nat.blt x.toNat x.toNat=false:=by
     cases hq:Nat.blt x.toNat x.toNat
     ·rfl
     ·rw [Nat.blt_eq] at hq; exact absurd hq (Nat.lt_irrefl _)
    simp only [cond_true,hbl,cond_false,hirr,if_false]
    exact ih
theorem qC:∀ (l:List UInt8),wl l=true→∀ (j:Nat) b,l[j]?=some b→b.toNat < 128
 | [],_,j,b,h=>by simp at h
 | x::l,e,j,b,h=>by
   unfold wl at e
   cases hx:Nat.blt x.toNat 128
   ·rw [hx] at e; cases e
   ·rw [hx] at e
    cases j with
    | zero=>simp at h; subst h; rw [Nat.blt_eq] at hx; exact hx
    | succ j=>exact qC l e j b (by simpa using h)
theorem zEP {P : Program} {f : FuncId} {fn : Func} {x : Array Value → Sem Value} {args : Array Value} {v : Value} {w : World} (hf : P.funcs[f]? = some fn) (hn : (fn.name == "runtime.NumGoroutine") = false) (hb : fn.body.isNone = true)
  (h1:(Extern.findNext fn).isNone=true) (h2:Extern.find fn=some x) (hr:(x args).run P w = .ok v w):(callFunc f args).run P w = .ok (.value v) w:=by
 have h1':Extern.findNext fn=none:=Option.isNone_iff_eq_none.1 h1
 unfold callFunc
 simp only [program,Sem.run_bind,Sem.run,Result.andThen,hf,hn,hb,Bool.false_eq_true,if_false,if_true,mark,h1',h2,hr,Sem.run_pure]
theorem extOK {P:Program} {tb:Tab} {B:Nat} {w₀:World} {n1 n3 n4 n5 n6:FuncId} (hext:∀ f k,tb.ext f=k+1→(k=0∧f=n1)∨(k=2∧f=n3)∨(k=3∧f=n4)∨(k=4∧f=n5)∨(k=5∧f=n6)∨6≤k)
  (h1:∀ (s:ByteArray) (c:Int) w,(callFunc n1 #[.string s,.int .u8 c]).run P w = .ok (.value (.int .i64 (Lib.indexByte s.data.toList c.toNat.toUInt8))) w)
  (h3:∀ (a b:ByteArray) w,(callFunc n3 #[.string a,.string b]).run P w = .ok (.value (.int .i64 (Lib.compareBytes a.data.toList b.data.toList))) w)
  (e4:∀ args w,(callFunc n4 args).run P w = .ok (.enter n4 args) w) (e5:∀ args w,(callFunc n5 args).run P w = .ok (.enter n5 args) w) (e6:∀ args w,(callFunc n6 args).run P w = .ok (.enter n6 args) w)
  (h4:∀ (s cs:ByteArray) w,s.size≤9223372036854775807→cs.size < 4294967281→(∀ (j:Nat) b,cs.data.toList[j]?=some b→b.toNat < 128)→Calls P n4 #[.string s,.string cs] w fun e w'=>e = .returned (.string ⟨(Lib.trimS s.data.toList cs.data.toList).toArray⟩)∧Below w.heap.size w w')
  (h5:∀ (s cs:ByteArray) w,cs.size < 4294967281→(∀ (j:Nat) b,cs.data.toList[j]?=some b→b.toNat < 128)→Calls P n5 #[.string s,.string cs] w fun e w'=>e = .returned (.string ⟨(Lib.trimLeftS s.data.toList cs.data.toList).toArray⟩)∧Below w.heap.size w w')
  (h6:∀ (s sub:ByteArray) w,Below B w₀ w→s.size < 4294967281→Calls P n6 #[.string s,.string sub] w fun e w'=>e = .returned (.bool (Lib.contains s.data.toList sub.data.toList))∧w'=w):ExtOK tb P B w₀:=by
 intro f k hk args v hv w hB _
 obtain ⟨l⟩:=args
 simp only at hv
 have hlen:∀ s:ByteArray,len s=s.size:=fun s=>Array.length_toList
 rcases hext f k hk with ⟨rfl,rfl⟩ | ⟨rfl,rfl⟩ | ⟨rfl,rfl⟩ | ⟨rfl,rfl⟩ | ⟨rfl,rfl⟩ | h6k
 rotate_left 5
 ·exfalso
  unfold extOp at hv
  split at hv <;> first | omega | cases hv
 ·replace hv:ext1 l=some v:=hv
  unfold ext1 at hv
  split at hv
  ·next s c =>
   revert hv
   cases hc:Nat.blt c 256 <;> intro hv <;> cases hv
   rw [Nat.blt_eq] at hc
   refine .inl ⟨w,?_,.refl _ _⟩
   have:=h1 s (.ofNat c) w
   have hcu:(Int.ofNat c).toNat.toUInt8.toNat=c:=by
    show (c.toUInt8).toNat=c
    simp
    omega
   have he:=zDE ((Int.ofNat c).toNat.toUInt8) (bytes s) 0
   rw [hcu] at he
   rw [he]
   refine this.trans ?_
   congr 3
   show Lib.indexByte (bytes s) _=_
   split
   ·next hm=>exact hm
   ·simp
  ·cases hv
 ·replace hv:ext3 l=some v:=hv
  unfold ext3 at hv
  split at hv
  ·next a b =>
   cases hv
   refine .inl ⟨w,?_,.refl _ _⟩
   rw [zEO]
   exact h3 a b w
  ·cases hv
 ·replace hv:ext4 l=some v:=hv
  unfold ext4 at hv
  split at hv
  ·next a b =>
   revert hv
   cases hc:(wl (bytes b) && Nat.blt (len a) zY && Nat.blt (len b) zY) <;> intro hv <;> cases hv
   simp only [Bool.and_eq_true] at hc
   obtain ⟨⟨c1,c2⟩,c3⟩:=hc
   rw [Nat.blt_eq,hlen] at c2 c3
   unfold zY at c2 c3
   refine .inr ⟨e4 _ w,fun n=>callsIn_wide.2 ((h4 a b w (by omega) (by omega) (qC _ c1)).mono fun e w' hh=>?_)⟩
   obtain ⟨rfl,hb⟩:=hh
   refine ⟨?_,hb⟩
   congr 2
   rw [zBi,revB_eq,zBi,revB_eq]
   simp only [List.append_nil]
   rfl
  ·cases hv
 ·replace hv:ext5 l=some v:=hv
  unfold ext5 at hv
  split at hv
  ·next a b =>
   revert hv
   cases hc:(wl (bytes b) && Nat.blt (len a) zY && Nat.blt (len b) zY) <;> intro hv <;> cases hv
   simp only [Bool.and_eq_true] at hc
   obtain ⟨⟨c1,c2⟩,c3⟩:=hc
   rw [Nat.blt_eq,hlen] at c2 c3
   unfold zY at c2 c3
   refine .inr ⟨e5 _ w,fun n=>callsIn_wide.2 ((h5 a b w (by omega) (qC _ c1)).mono fun e w' hh=>?_)⟩
   obtain ⟨rfl,hb⟩:=hh
   refine ⟨?_,hb⟩
   congr 2
   rw [zBi]
   rfl
  ·cases hv
 ·replace hv:ext6 l=some v:=hv
  unfold ext6 at hv
  split at hv
  ·next a b =>
   revert hv
   cases hc:Nat.blt (len a) zY <;> intro hv <;> cases hv
   rw [Nat.blt_eq,hlen] at hc
   unfold zY at hc
   refine .inr ⟨e6 _ w,fun n=>callsIn_wide.2 ((h6 a b w hB (by omega)).mono fun e w' hh=>?_)⟩
   obtain ⟨rfl,rfl⟩:=hh
   refine ⟨?_,.refl _ _⟩
   congr 2
   exact (zBj (bytes b) (bytes a) 0).symm
  ·cases hv
end Go.Am
namespace Go.Am
open Go.RowKit
theorem SR.behind {tb:Tab} {B:Nat} {w₀:World} {ρ:Ren} {H:AH} {w w':World} (h0:SR tb B w₀ ρ H w) (hbl:Below w.heap.size w w') {o:AObj} {o':Obj} {i b':Nat} {H':AH} {r:Nat×Nat} (e:H.alloc o=some (i,H')) (hb':w.heap.size≤b') (eb:w'.heap[b']?=some o') (ho:OR ρ o 0 o')
  (hr:∀ c e fr,o' = .cells c e fr→c.size=r.1) (he:∀ c e ro,o = .cells c e ro→tb.size e=some r.2) :
  SR tb B w₀ (ρ.put i (b',0) r) H' w'∧Kept ρ H (ρ.put i (b',0) r) H'∧(ρ.put i (b',0) r) i=some (b',0):=by
 obtain ⟨rfl,hb,hn,hg,horg,hfam⟩:=vC e
 have h:=h0.later hbl
 have hf:ρ H.next=none:=h.fresh _ (Nat.le_refl _)
 have hlt:∀ j b s,ρ j=some (b,s)→b < w.heap.size:=fun j b s e=>by
  obtain ⟨_,_,_,e2,_⟩:=h0.obj j b s e
  exact (Array.getElem?_eq_some_iff.1 e2).1
 have hle:ρ.le (ρ.put H.next (b',0) r):=Ren.le_put hf (fun j b s e hb=>absurd (hlt j b s e) (by simp at hb; omega))
 have rowold:∀ j b s,ρ j=some (b,s)→(ρ.put H.next (b',0) r).row b=ρ.row b:=fun j b s e=>hle.row j b s e
 have rownew:(ρ.put H.next (b',0) r).row b'=r:=by rw [Ren.put_row,if_pos rfl]
 have cases':∀ j b s,ρ.put H.next (b',0) r j=some (b,s)→(j=H.next∧b=b'∧s=0)∨(j≠H.next∧ρ j=some (b,s)):=fun j b s e=>by
  rw [Ren.put_map] at e
  split at e
  ·next hj=>cases e; exact .inl ⟨hj,rfl,rfl⟩
  ·next hj=>exact .inr ⟨hj,e⟩
 refine ⟨⟨h.below,h.room,?_,?_,?_,?_,?_,by rw [horg,hfam]; exact h.home,fun r js e=>by rw [hfam] at e; obtain ⟨x,ex⟩:=h.root r js e; exact ⟨x,hle.map _ _ ex⟩,?_,?_,by rw [hn]; exact hb⟩,⟨hle,by omega,?_⟩,by rw [Ren.put_map,if_pos rfl]⟩
 ·intro j b s e
  rcases cases' j b s e with ⟨rfl,rfl,rfl⟩ | ⟨hj,e⟩
  ·exact ⟨o,o',by rw [hg,if_pos rfl],eb,ho.mono hle⟩
  ·obtain ⟨x,x',e1,e2,e3⟩:=h.obj j b s e
   exact ⟨x,x',by rw [hg,if_neg hj]; exact e1,e2,e3.mono hle⟩
 ·intro j hj
  rw [hn] at hj
  rw [Ren.put_other _ _ _ (by omega)]
  exact h.fresh j (by omega)
 ·intro j b s e hB
  rcases cases' j b s e with ⟨rfl,rfl,rfl⟩ | ⟨hj,e⟩
  ·exact absurd h0.room (by omega)
  ·obtain ⟨c,el,e1⟩:=h.low j b s e hB
   exact ⟨c,el,by rw [hg,if_neg hj]; exact e1⟩
 ·intro j k b s t ej ek hjk
  rcases cases' j b s ej with ⟨hj,hb1,_⟩ | ⟨hj,ej'⟩
  ·rcases cases' k _ t ek with ⟨hk,_,_⟩ | ⟨hk,ek'⟩
   ·exact absurd (hj.trans hk.symm) hjk
   ·exact absurd (hlt _ _ _ ek') (by omega)
  ·rcases cases' k _ t ek with ⟨hk,hb1,_⟩ | ⟨hk,ek'⟩
   ·exact absurd (hlt _ _ _ ej') (by omega)
   ·obtain ⟨⟨r,p,q,js,a1,a2,a3,a4,a5,a6⟩,c,el,e1⟩:=h.kin j k b s t ej' ek' hjk
    exact ⟨⟨r,p,q,js,by rw [horg]; exact a1,by rw [horg]; exact a2,a3,by rw [hfam]; exact a4,a5,a6⟩,c,el,by rw [hg,if_neg hj]; exact e1⟩
 ·intro r js e j hj
  rw [hfam] at e
  obtain ⟨x,ex⟩:=h.fam r js e j hj
  exact ⟨x,hle.map _ _ ex⟩
 ·intro j b s e c el fr hc
  rcases cases' j b s e with ⟨rfl,rfl,rfl⟩ | ⟨hj,e⟩
  ·rw [rownew]
   rw [eb] at hc
   exact hr c el fr (Option.some.inj hc)
  ·rw [rowold j b s e]
   exact h.rows j b s e c el fr hc
 ·intro j b s e c el ro hc
  rcases cases' j b s e with ⟨rfl,rfl,rfl⟩ | ⟨hj,e⟩
  ·rw [rownew]
   rw [hg,if_pos rfl] at hc
   exact he c el ro (Option.some.inj hc)
  ·rw [rowold j b s e]
   rw [hg,if_neg hj] at hc
   exact h.elem j b s e c el ro hc
 ·intro j hj e
  refine ⟨?_,by rw [hg,if_neg (by omega)]⟩
  rw [Ren.put_other _ _ _ (by omega)]
  exact e
def intsOf:List Value→Option (List Int)
 | []=>some []
 | .int .i64 a::r=>match intsOf r with
   | some l=>some (a::l)
   | none=>none
 | _=>none
def keyNs (agg:Bool):Value→Option (List Int)
 | .agg cs=>cond agg (intsOf cs.toList) none
 | .int .i64 a=>cond agg none (some [a])
 | _=>none
def emptyV:Value→Bool
 | .agg cs=>cs.toList.isEmpty
 | _=>false
def keysOfM (agg:Bool):List MapEntry→Option (List (Nat×List Int))
 | []=>some []
 | e::es=>match keyNs agg e.key,emptyV e.val,keysOfM agg es with
   | some k,true,some l=>some ((e.born,k)::l)
   | _,_,_=>none
def bornsB (cl:Nat):List (Nat×List Int)→Bool
 | []=>true
 | e::l=>cond (Nat.blt e.1 cl) (cond (l.any fun x=>Nat.beq x.1 e.1) false (bornsB cl l)) false
def xj:List Int→List Int→Bool
 | [],[]=>false
 | [],_::_=>true
 | _::_,[]=>false
 | a::r,b::s=>cond (decide (a < b)) true (cond (decide (a=b)) (xj r s) false)
def insL (x:List Int):List (List Int)→List (List Int)
 | []=>[x]
 | y::r=>cond (xj y x) (y::insL x r) (x::y::r)
def sortL:List (List Int)→List (List Int)
 | []=>[]
 | x::r=>insL x (sortL r)
def cellsL:List (List Int)→List Value
 | []=>[]
 | p::r=>p.map (Value.int .i64)++cellsL r
def extKeys (agg:Bool) (n keys elem:Nat) (rest:List Value→Bool) (args:List Value) (H:AH):Option (Value×AH) :=
 match args with
 | .func (.func g) a c::more=>cond (Nat.beq g keys && a.toList.isEmpty && rest more)
   (match c.toList with
   | [.pointer (some ⟨box,0,none⟩)]=>match H.get box with
     | some (.cells [.map (some m)] _ _)=>match H.get m with
       | some (.map es cl)=>match keysOfM agg es with
         | some []=>none
         | some ks=>cond (bornsB cl ks && ks.all (fun k=>Nat.beq k.2.length n) && Nat.blt ks.length 65536) (match H.alloc (.cells (cellsL (sortL (ks.map (·.2)))) elem false) with
           | some (i,H')=>some (.slice (some ⟨i,0,none⟩) ks.length ks.length,H')
           | none=>none) none
         | none=>none
       | _=>none
     | _=>none
   | _=>none) none
 | _=>none
def isFn (h:Nat):List Value→Bool
 | [.func (.func g) a c]=>Nat.beq g h && a.toList.isEmpty && c.toList.isEmpty
 | _=>false
end Go.Am
namespace Go.Am
open Go.RowKit
def amPre (tb:Tab) (call:yp) (fuel:Nat) (en:AEnv):Nat→Code→AAct→AH→Option (Code×AAct×AH)
 | 0,c,a,H=>some (c,a,H)
 | n+1,.seq x y,a,H=>match yg tb call fuel en x a H with
   | some (.normal,a',H')=>amPre tb call fuel en n y a' H'
   | _=>none
 | _+1,_,_,_=>none
def restN:Nat→Code→Code
 | 0,c=>c
 | n+1,.seq _ y=>restN n y
 | _+1,c=>c
theorem zA1 {tb:Tab} {call:yp} {fuel:Nat} {en:AEnv}:∀ (n:Nat) (c:Code) (a:AAct) (H:AH) (c1:Code) (a1:AAct) (H1:AH),amPre tb call fuel en n c a H=some (c1,a1,H1)→c1=restN n c∧yg tb call fuel en c a H=yg tb call fuel en c1 a1 H1
 | 0,c,a,H,c1,a1,H1,e=>by cases e; exact ⟨rfl,rfl⟩
 | n+1,.seq x y,a,H,c1,a1,H1,e=>by
   simp only [amPre] at e
   split at e
   ·next a' H' h =>
    obtain ⟨e1,e2⟩:=zA1 n y a' H' c1 a1 H1 e
    refine ⟨e1,?_⟩
    simp only [yg,h,e2]
   ·cases e
def amPost (tb:Tab) (call:yp) (loops:Nat) (fn:Func):Option (AExit×AAct×AH)→Option (Value×AH)
 | some (.normal,⟨tm,ds⟩,H')=>match wG tb call loops ds H' with | some H''=>qA tb H'' ⟨tm,[]⟩ fn | none=>none
 | some (.ret,⟨tm,ds⟩,H')=>match wG tb call loops ds H' with | some H''=>qA tb H'' ⟨tm,[]⟩ fn | none=>none
 | _=>none
theorem amCall_pre {tb:Tab} {loops k f n:Nat} {fn:Func} {c c1:Code} {args:List Value} {H H1:AH} {a1:AAct} (hx:tb.ext f=0) (hf:tb.func f=some fn) (hb:fn.body=some c) (hn:(Nat.ble args.length fn.ntmps && Nat.ble fn.ntmps zY)=true)
  (e:amPre tb (xS tb loops k) loops ⟨fn.ntmps,false⟩ n c { tmps:=v6 0 args .nil,defers:=[] } H=some (c1,a1,H1)):xS tb loops (k+1) (.fn f) args H=amPost tb (xS tb loops k) loops fn (yg tb (xS tb loops k) loops ⟨fn.ntmps,false⟩ c1 a1 H1):=by
 rw [xS,hx]
 simp only [hf,hb,hn,cond_true]
 rw [(zA1 n c _ H c1 a1 H1 e).2]
 unfold amPost
 rfl
theorem amPost_pre {tb:Tab} {call:yp} {loops n:Nat} {en:AEnv} {fn:Func} {c c1:Code} {a a1:AAct} {H H1:AH} (e:amPre tb call loops en n c a H=some (c1,a1,H1)):amPost tb call loops fn (yg tb call loops en c a H)=amPost tb call loops fn (yg tb call loops en c1 a1 H1):=by
 rw [(zA1 n c a H c1 a1 H1 e).2]
end Go.Am
