/- What order.Find, order.Check and order.Ranks answer; no condition beyond bounds on lengths. -/
import Derived.Test.YtamokenjdmfgbaaGreatDoorMF
import Derived.Test.YtamokenjdmfgbaaGreatDoorME
import Derived.Test.YtamokenjdmfgbaaGreatDoorMD
namespace Go.Vw
open Go.RowKit Go.Am Go.Proofs Go.Ord
attribute [local irreducible] yE zv zq VD VDn VDq Ret
def prK (p:Int×Int):V×V:=(prV p,.agg [])
def addK (ks:List (Int×Int)) (p:Int×Int):List (Int×Int):=if p∈ks then ks else ks++[p]
theorem keyP (p q:Int×Int):keyB tab 44 (prV p) (prV q)=some (decide (p=q)):=by
 rw [pair_eq]
 have:keyB tab 44 (prV p) (prV q)=some (decide (p.1=q.1) && (decide (p.2=q.2) && true)):=by rfl
 rw [this,Bool.and_true]
theorem putP (p:Int×Int):∀ ks:List (Int×Int),PutV tab 44 (prV p) (.agg []) (ks.map prK) ((addK ks p).map prK)
 | []=>.nil
 | q::ks=>by
   by_cases h:p=q
   ·subst h
    have:addK (p::ks) p=p::ks:=by simp [addK]
    rw [this]
    exact .hit (by rw [keyP,decide_eq_true rfl])
   ·have:addK (q::ks) p=q::addK ks p:=by
     simp only [addK,List.mem_cons,h,false_or]
     split <;> rfl
    rw [this]
    exact .miss (by rw [keyP,decide_eq_false h]) (putP p ks)
theorem addK_nodup {ks:List (Int×Int)} (h:ks.Nodup) (p:Int×Int):(addK ks p).Nodup:=by
 unfold addK
 split
 ·exact h
 ·next hn=>exact List.nodup_append.2 ⟨h,by simp,fun a ha b hb e=>hn (by rw [List.mem_singleton.1 hb] at e; exact e ▸ ha)⟩
theorem addK_mem (ks:List (Int×Int)) (p x:Int×Int):x∈addK ks p↔x∈ks∨x=p:=by
 unfold addK
 split
 ·next h=>exact ⟨.inl,fun k=>k.elim id fun e=>e ▸ h⟩
 ·simp
structure KeysOf (L:Nat) (pre:List Stp) (ks:List (Int×Int)):Prop where
 nodup:ks.Nodup
 mem:∀ x,x∈ks↔∃ s∈pre,∃ l,l < L∧s.1.kind=16∧vl s.2.2 l=true∧x=((l:Int),s.1.a)
structure KeysAt (L:Nat) (pre:List Stp) (s:Stp) (i:Nat) (ks:List (Int×Int)):Prop where
 nodup:ks.Nodup
 mem:∀ x,x∈ks↔(∃ s∈pre,∃ l,l < L∧s.1.kind=16∧vl s.2.2 l=true∧x=((l:Int),s.1.a))∨∃ l,l < i∧s.1.kind=16∧vl s.2.2 l=true∧x=((l:Int),s.1.a)
theorem KeysOf.at {L:Nat} {pre:List Stp} {ks:List (Int×Int)} (h:KeysOf L pre ks) (s:Stp):KeysAt L pre s 0 ks:=⟨h.nodup,fun x=>by
 rw [h.mem]
 constructor
 ·exact .inl
 ·rintro (h | ⟨l,hl,_⟩)
  ·exact h
  ·omega⟩
theorem KeysAt.done {L:Nat} {pre:List Stp} {s:Stp} {ks:List (Int×Int)} (h:KeysAt L pre s L ks):KeysOf L (pre++[s]) ks:=⟨h.nodup,fun x=>by
 rw [h.mem]
 constructor
 ·rintro (⟨s',hs,h⟩ | h)
  ·exact ⟨s',by simp [hs],h⟩
  ·exact ⟨s,by simp,h⟩
 ·rintro ⟨s',hs,h⟩
  rcases List.mem_append.1 hs with hs | hs
  ·exact .inl ⟨s',hs,h⟩
  ·rw [List.mem_singleton.1 hs] at h
   exact .inr h⟩
theorem KeysAt.skip {L:Nat} {pre:List Stp} {s:Stp} {i:Nat} {ks:List (Int×Int)} (h:KeysAt L pre s i ks) (hn:¬ (s.1.kind=16∧vl s.2.2 i=true)):KeysAt L pre s (i+1) ks:=⟨h.nodup,fun x=>by
 rw [h.mem]
 constructor
 ·rintro (h | ⟨l,hl,h⟩)
  ·exact .inl h
  ·exact .inr ⟨l,by omega,h⟩
 ·rintro (h | ⟨l,hl,h1,h2,h3⟩)
  ·exact .inl h
  ·rcases Nat.lt_or_ge l i with hli | hli
   ·exact .inr ⟨l,hli,h1,h2,h3⟩
   ·have:l=i:=by omega
    subst this
    exact absurd ⟨h1,h2⟩ hn⟩
theorem KeysAt.put {L:Nat} {pre:List Stp} {s:Stp} {i:Nat} {ks:List (Int×Int)} (h:KeysAt L pre s i ks) (h1:s.1.kind=16) (h2:vl s.2.2 i=true):KeysAt L pre s (i+1) (addK ks ((i:Int),s.1.a)):=⟨addK_nodup h.nodup _,fun x=>by
 rw [addK_mem,h.mem]
 constructor
 ·rintro ((h | ⟨l,hl,h⟩) | h)
  ·exact .inl h
  ·exact .inr ⟨l,by omega,h⟩
  ·exact .inr ⟨i,by omega,h1,h2,h⟩
 ·rintro (h | ⟨l,hl,h3,h4,h5⟩)
  ·exact .inl (.inl h)
  ·rcases Nat.lt_or_ge l i with hli | hli
   ·exact .inl (.inr ⟨l,hli,h3,h4,h5⟩)
   ·have:l=i:=by omega
    subst this
    exact .inr h5⟩
theorem keys_len {L:Nat} (hL:L≤8) {ss:List Stp} {ks:List (Int×Int)} (h:KeysOf L ss ks) (hs:∀ s∈ss,0≤s.1.a∧s.1.a < L):ks.length≤64:=by
 have hr:∀ x∈ks,0≤x.1∧x.1 < 8∧0≤x.2∧x.2 < 8:=fun x hx=>by
  obtain ⟨s,h1,l,hl,_,_,rfl⟩:=(h.mem x).1 hx
  have:=hs s h1
  dsimp only
  omega
 have hn:(ks.map fun x=>(x.1 * 8+x.2).toNat).Nodup:=by
  unfold List.Nodup
  rw [List.pairwise_map]
  refine h.nodup.imp_of_mem fun {x y} hx hy hne e=>hne ?_
  have a:=hr x hx
  have b:=hr y hy
  exact Prod.ext (by omega) (by omega)
 have:=nodup_le 64 _ hn fun x hx=>by
  obtain ⟨y,hy,rfl⟩:=List.mem_map.1 hx
  have:=hr y hy
  omega
 simpa using this
theorem unstamp {ks:List (Int×Int)} {es':List (Nat×V×V)} (h:es'.map (·.2)=ks.map prK):∃ es:List (Nat×Int×Int),es'=es.map prB∧es.map (·.2)=ks:=by
 refine ⟨(es'.map (·.1)).zip ks,?_,?_⟩
 ·induction ks generalizing es' with
  | nil=>cases es' with
    | nil=>rfl
    | cons=>cases h
  | cons k ks ih =>
    cases es' with
    | nil=>cases h
    | cons e es' =>
      simp only [List.map_cons,List.cons.injEq] at h
      simp only [List.map_cons,List.zip_cons_cons]
      rw [← ih h.2]
      congr 1
      exact Prod.ext rfl h.1
 ·have hl:es'.length=ks.length:=by simpa using congrArg List.length h
  rw [List.map_snd_zip (by simp [hl])]
theorem lens_ok {m:MModule} (hs:Small m) (hr:zO m=true) {us vs:List (List (List Int))} (h:Threads m m.threads us vs):Lens m vs:=by
 have hl:=h.lens
 have tk:=qy hs hr h
 have key:∀ r∈vs,∃ (t:Nat) (h1:t < us.length) (h2:t < vs.length),r=vs[t]:=fun r hr'=>by
  obtain ⟨t,ht,rfl⟩:=List.mem_iff_getElem.1 hr'
  exact ⟨t,by omega,ht,rfl⟩
 refine ⟨by rw [hl.2]; exact hs.threads,fun r hr'=>?_,fun r hr' x hx=>?_⟩
 ·obtain ⟨t,h1,h2,rfl⟩:=key r hr'
  rw [(tk.fn t h1 h2).2]; exact hs.funcs
 ·obtain ⟨t,h1,h2,rfl⟩:=key r hr'
  obtain ⟨f,hf,rfl⟩:=List.mem_iff_getElem.1 hx
  have e1:=tk.fn t h1 h2
  have hfu:f < us[t].length:=by omega
  refine Nat.lt_of_le_of_lt (tk.op t f h1 h2 hfu hf).2 ?_
  have hfl:f < m.funcs.length:=by omega
  unfold MModule.fn
  rw [Int.toNat_natCast,List.getElem?_eq_getElem hfl]
  exact hs.code _ (List.getElem_mem hfl)
section
variable [Drw] (hT:TabOk tab Tryz.prog)
include hT
theorem stopsOf (m:MModule) (us vs:List (List (List Int))):Pure Tryz.prog 40 [.agg (ze m),.agg (yY us vs)] (.func 89 [] [.pin (yY us vs) 0,.pin (ze m) 0]):=by
 refine VC.code hT 6 rfl rfl rfl rfl fun F w S0=>?_
 repeat' (first
  | (refine gz hT rfl ?_;conv=>whnf)
  | refine zA rfl (zN rfl rfl rfl ?_)
  | refine zA rfl (zH hT rfl rfl rfl rfl rfl rfl rfl rfl ?_)
  | refine zB rfl (zK hT rfl rfl rfl rfl rfl rfl (List.length_map _)) ?_
  | refine zG rfl rfl rfl rfl (fun h=>?_) (fun h=>?_))
 exact zQ (.tmp rfl .nil) rfl
def FindE (m:MModule) (v:V):Prop:=(zO m=true∧∃ us vs,Threads m m.threads us vs∧v = .tup [.slice .no ((ug m.locks.length (zZ m us vs)).map prs),.agg (yY us vs),.int .i64 0])∨(zO m=false∧v = .tup [.slice .no [],.agg (yY [] []),.int .i64 70])
set_option maxRecDepth 100000 in
set_option maxHeartbeats 2000000 in
theorem findE (m:MModule) (hs:Small m):PureR Tryz.prog 37 [.agg (ze m)] (FindE m):=by
 refine VC.code hT 54 rfl rfl rfl rfl fun F w S0=>?_
 refine gz hT rfl ?_;conv=>whnf
 refine zA rfl (zN rfl rfl rfl ?_)
 refine gz hT rfl ?_;conv=>whnf
 refine zA rfl (zX hT rfl rfl rfl fun b3=>?_)
 refine gz hT rfl ?_;conv=>whnf
 refine zA rfl (yl hT rfl rfl rfl rfl rfl rfl (findR hT m hs) ?_)
 rintro _ ⟨us,vs,e,rfl,hc⟩
 refine gz hT rfl ?_;conv=>whnf
 refine zA rfl (zX hT rfl rfl rfl fun b5=>?_)
 refine gz hT rfl ?_;conv=>whnf
 refine zA rfl (zI (cs':=yY us vs) hT rfl rfl rfl .here rfl ?_)
 refine gz hT rfl ?_;conv=>whnf
 refine zC rfl (fun h=>?_) (fun h=>?_)
 ·simp only [Bool.not_eq_true',decide_eq_false_iff_not] at h
  rcases hc with ⟨_,_,rfl⟩ | ⟨hr,rfl,rfl,rfl⟩
  ·exact absurd rfl h
  refine gz hT rfl ?_;conv=>whnf
  intro id
  refine zd hT rfl rfl ?_ id
  repeat' (first
   | (refine god hT 1 rfl ?_;conv=>whnf)
   | refine zV rfl ?_
   | refine q_g rfl (fun S'=>(zK hT rfl rfl rfl rfl rfl rfl (List.length_map _)).qs) ?_
   | refine zk rfl rfl rfl rfl (fun h=>?_) (fun h=>?_)
   | refine yD hT rfl rfl rfl .here rfl ?_)
  refine zS rfl (eff rfl rfl (zI (cs':=yY [] []) hT rfl rfl rfl (.there .here) rfl (And.intro trivial ?_)))
  refine god hT 1 rfl ?_;conv=>whnf
  refine zV rfl ?_
  refine gz hT rfl ?_;conv=>whnf
  refine zQ (.tmpL rfl (V.Le.slice _ _) (.cell rfl (.there .here) rfl (.tmp rfl .nil))) (.inr ⟨hr,rfl⟩)
 ·simp only [Bool.not_eq_false',decide_eq_true_eq] at h
  subst h
  rcases hc with ⟨hr,hth,_⟩ | ⟨_,_,_,h0⟩
  case inr=>exact absurd h0 (by decide)
  have hL:=(xB (by simp only [zO,Bool.and_eq_true] at hr; exact hr.1)).1
  have tk:=qy hs hr hth
  have hso:∀ s∈zZ m us vs,StopOk m s:=fun s h=>stop_ok hs hr hth h
  refine gz hT rfl ?_;conv=>whnf
  refine zA rfl (zAO rfl fun b20=>?_)
  refine gz hT rfl ?_;conv=>whnf
  refine zA rfl (zX hT rfl rfl rfl fun b7=>?_)
  refine gz hT rfl ?_;conv=>whnf
  refine zA rfl (zI (cs':=[.map b20]) hT rfl rfl rfl .here rfl ?_)
  refine gz hT rfl ?_;conv=>whnf
  refine zo (t:=7) rfl ?_
  refine zBE (t:=5) rfl (.there .here) ?_
  refine yC (.keep (.drop (.refl _))) ?_
  refine gz hT rfl ?_;conv=>whnf
  refine zA rfl (zR hT rfl rfl rfl rfl rfl rfl (stopsOf hT m us vs) ?_)
  refine gz hT rfl ?_;conv=>whnf
  refine zBJ hT rfl rfl rfl rfl rfl fun l L hL'=>?_
  refine (stops1 hT l m us vs tk (lens_ok hs hr hth) (fun pre S=>∃ ks,KeysOf m.locks.length pre ks∧S=[.loop false l L,.map b20 (ks.map prK),.cells b3 [.slice .zero [],.slice .zero []] 81]) ?_ _ ⟨[],⟨.nil,fun x=>by simp⟩,rfl⟩).mono ?_
  ·rintro pre ⟨o,p⟩ S1 ⟨ks0,hk0,rfl⟩ hmem _
   have so:=hso _ hmem
   obtain ⟨u,v,e,hv⟩:=so.held
   dsimp only at e
   subst e
   have hv8:v < 256:=yi fun i hi=>by have:=hv i hi; omega
   refine VY.ofL hL' .here rfl rfl fun m0 F w S0=>?_
   refine gz hT rfl ?_;conv=>whnf
   refine zA rfl (zX hT rfl rfl rfl fun b8=>?_)
   refine gz hT rfl ?_;conv=>whnf
   refine zA rfl (zI (cs':=stpV (o,(u:Int),(v:Int))) hT rfl rfl rfl .here rfl ?_)
   refine gz hT rfl ?_;conv=>whnf
   refine ⟨rfl,_,.there .here,fun F w S0 ds=>?_⟩
   refine gz hT rfl ?_;conv=>whnf
   refine zo (t:=8) rfl ?_
   refine zB rfl (zK hT rfl rfl rfl rfl rfl rfl (List.length_map _)) ?_
   refine gz hT rfl ?_;conv=>whnf
   refine zW (fun x:Nat×List (Int×Int)=>([(1,.pin (ze m) 0),(7,.pin [.map b20] 0),(8,.pin (stpV (o,(u:Int),(v:Int))) 0),(27,.int .i64 m.locks.length),(28,.int .i64 x.1)],[.loop true l L,.map b20 (x.2.map prK),.cells b3 [.slice .zero [],.slice .zero []] 81]))
    (fun x=>x.1≤m.locks.length∧KeysAt m.locks.length pre (o,(u:Int),(v:Int)) x.1 x.2) (fun x=>m.locks.length - x.1) (0,ks0) ⟨Nat.zero_le _,hk0.at _⟩ ⟨⟨lk rfl,lk rfl,lk rfl,lk rfl,lk rfl,trivial⟩,.refl _⟩ ?_
   rintro ⟨i,ks⟩ ⟨hi,hk⟩
   dsimp only at hi hk
   refine gz hT rfl ?_;conv=>whnf
   refine zC rfl (fun hlt=>?_) (fun hlt=>?_)
   ·simp only [decide_eq_true_eq,Int.ofNat_lt] at hlt
    refine gz hT rfl ?_;conv=>whnf
    refine zG rfl rfl rfl rfl (fun h16=>?_) (fun h16=>?_)
    ·simp only [decide_eq_true_eq] at h16
     refine gz hT rfl ?_;conv=>whnf
     refine zA rfl (zR hT rfl rfl rfl rfl rfl rfl (hasP hT v i hv8 (by omega)) ?_)
     refine gz hT rfl ?_;conv=>whnf
     refine zC rfl (fun hh=>?_) (fun hh=>?_)
     ·have hk2:=hk.put h16 (show vl (v:Int) i=true by unfold vl; rw [Int.toNat_natCast]; exact hh)
      refine gz hT rfl ?_;conv=>whnf
      refine zA rfl (wX hT (.inl rfl) rfl rfl rfl rfl rfl (.there .here) (putP ((i:Int),o.a) ks) ?_)
      refine gz hT rfl ?_;conv=>whnf
      refine zB rfl (zU rfl rfl rfl (by omega)) ?_
      refine gz hT rfl ?_;conv=>whnf
      exact ⟨(i+1,_),⟨hlt,hk2⟩,by dsimp only; omega,⟨lk rfl,lk rfl,lk rfl,lk rfl,lk rfl,trivial⟩,.refl _⟩
     ·have hk2:=hk.skip (fun e=>by
       have e2:vl (v:Int) i=true:=e.2
       unfold vl at e2
       rw [Int.toNat_natCast,hh] at e2; cases e2)
      refine gz hT rfl ?_;conv=>whnf
      refine zB rfl (zU rfl rfl rfl (by omega)) ?_
      refine gz hT rfl ?_;conv=>whnf
      exact ⟨(i+1,_),⟨hlt,hk2⟩,by dsimp only; omega,⟨lk rfl,lk rfl,lk rfl,lk rfl,lk rfl,trivial⟩,.refl _⟩
    ·simp only [decide_eq_false_iff_not] at h16
     have hk2:=hk.skip (fun e=>h16 e.1)
     refine gz hT rfl ?_;conv=>whnf
     refine zB rfl (zU rfl rfl rfl (by omega)) ?_
     refine gz hT rfl ?_;conv=>whnf
     exact ⟨(i+1,_),⟨hlt,hk2⟩,by dsimp only; omega,⟨lk rfl,lk rfl,lk rfl,lk rfl,lk rfl,trivial⟩,.refl _⟩
   ·simp only [decide_eq_false_iff_not,Int.ofNat_lt] at hlt
    have:i=m.locks.length:=by omega
    subst this
    refine gz hT rfl ?_;conv=>whnf
    exact ⟨rfl,_,.here,rfl,ks,hk.done,rfl⟩
  ·rintro _ S' hj
   obtain ⟨ks,hk,rfl⟩:=hj
   refine ⟨_,rfl,fun σ' h1 h2=>?_⟩
   obtain ⟨r',m',n',F',w',S0',ds'⟩:=σ'
   dsimp only at h1 h2
   subst h1 h2
   refine gz hT rfl ?_;conv=>whnf
   refine zA rfl (zR hT rfl rfl rfl rfl rfl rfl (keysOf hT b20) ?_)
   refine gz hT rfl ?_;conv=>whnf
   have hlk:=keys_len hL hk fun s h=>(hso s h).lock
   refine zA rfl (yQ hT rfl rfl rfl rfl rfl rfl ((VC.stamped (Q:=fun v S'=>v = .slice .no ((ug m.locks.length (zZ m us vs)).map prs)∧S'=[.map b20 (ks.map prK),.cells b3 [.slice .zero [],.slice .zero []] 81]) fun es' cl he=>?_).mono ?_))
   ·obtain ⟨es,rfl,rfl⟩:=unstamp he
    rw [List.length_map] at hlk
    refine ((sortedF hT b20 cl es (by omega)).frame [.cells b3 [.slice .zero [],.slice .zero []] 81]).less ?_
    rintro v S' ⟨S1,rfl,ys,hp,hsrt,rfl,rfl⟩
    refine ⟨_,[.map b20 ((es.map (·.2)).map prK),.cells b3 [.slice .zero [],.slice .zero []] 81],.refl _,.stamps ?_ (.refl _),?_⟩
    ·rw [List.map_map,List.map_map]; rfl
    ·rw [keys_edges (fun s h=>(hso s h).lock) hk.nodup hk.mem hp hsrt]
     exact ⟨rfl,rfl⟩
   ·rintro _ S' ⟨rfl,rfl⟩
    refine gz hT rfl ?_;conv=>whnf
    intro id
    refine zd hT rfl rfl ?_ id
    repeat' (first
     | (refine god hT 1 rfl ?_;conv=>whnf)
     | refine zV rfl ?_
     | refine q_g rfl (fun S'=>(zK hT rfl rfl rfl rfl rfl rfl (List.length_map _)).qs) ?_
     | refine zk rfl rfl rfl rfl (fun h=>?_) (fun h=>?_))
    refine zS rfl (eff rfl rfl (zI (cs':=yY us vs) hT rfl rfl rfl (.there .here) rfl (And.intro trivial ?_)))
    refine god hT 1 rfl ?_;conv=>whnf
    refine zV rfl ?_
    refine gz hT rfl ?_;conv=>whnf
    exact zQ (.tmp rfl (.cell rfl (.there .here) rfl (.tmp rfl .nil))) (.inl ⟨hr,us,vs,hth,rfl⟩)
end
end Go.Vw
namespace Go.Vw
open Go.RowKit Go.Am Go.Proofs Go.Ord
attribute [local irreducible] yE zv zq VD VDn VDq Ret
def natV (n:Nat):V:=.int .i64 (n:Int)
def natR (n:Nat):List V:=[natV n]
theorem natR_flat (B:List Nat):(B.map natR).flatten=B.map natV:=by
 induction B with
 | nil=>rfl
 | cons x B ih=>rw [List.map_cons,List.flatten_cons,ih]; rfl
def vu (L l:Nat):List Nat:=(List.range L).map fun j=>if j < l then 2 ^ j else 0
theorem firstB_zero (L:Nat):(vu L 0).map natV=uk L [V.int .i64 0]:=by
 rw [zBt]
 refine List.ext_getElem (by simp [vu]) fun i h1 h2=>?_
 simp [vu,natV]
theorem firstB_succ (L l:Nat):(vu L l).set l (2 ^ l)=vu L (l+1):=by
 refine List.ext_getElem (by simp [vu]) fun i h1 h2=>?_
 simp only [vu,List.getElem_set,List.getElem_map,List.getElem_range]
 by_cases h:l=i
 ·subst h; rw [if_pos rfl,if_pos (Nat.lt_succ_self _)]
 ·rw [if_neg h]
  by_cases h3:i < l
  ·rw [if_pos h3,if_pos (by omega)]
  ·rw [if_neg h3,if_neg (by omega)]
theorem firstB_end (L:Nat):vu L L=xI L:=by
 unfold vu xI
 refine List.map_congr_left fun j hj=>?_
 rw [if_pos (List.mem_range.1 hj)]
theorem getN_of {B:List Nat} {i:Nat} (h:i < B.length):wt B i=B[i]:=by unfold wt; rw [List.getElem?_eq_getElem h]; rfl
def Low (B:List Nat):Prop:=∀ x∈B,x < 256
theorem zB8 {B:List Nat} (h:Low B) (i:Nat):wt B i < 256:=by
 by_cases hi:i < B.length
 ·rw [getN_of hi]; exact h _ (List.getElem_mem hi)
 ·unfold wt; rw [List.getElem?_eq_none (by omega)]; decide
theorem edgeB_low {B:List Nat} (h:Low B) (e:Nat×Nat):Low (xu B e):=fun x hx=>by
 rcases List.mem_or_eq_of_mem_set hx with hx | rfl
 ·exact h x hx
 ·exact Nat.or_lt_two_pow (n:=8) (zB8 h _) (zB8 h _)
theorem zE4 {L:Nat} (hL:L≤8):Low (xI L):=fun x hx=>by
 obtain ⟨j,hj,rfl⟩:=List.mem_map.1 hx
 have:=List.mem_range.1 hj
 exact Nat.pow_lt_pow_right (by decide) (show j < 8 by omega)
theorem zAV:∀ (es:List (Nat×Nat)) {B:List Nat},Low B→Low (es.foldl xu B)
 | [],_,h=>h
 | e::es,_,h=>zAV es (edgeB_low h e)
theorem fold_take {α β:Type} (f:β→α→β) (b:β) (l:List α) (i:Nat) (h:i < l.length):(l.take (i+1)).foldl f b=f ((l.take i).foldl f b) l[i]:=by
 rw [List.take_succ_eq_append_getElem h,List.foldl_append]; rfl
theorem foldB_len (es:List (Nat×Nat)) (B:List Nat):(es.foldl xu B).length=B.length:=zBH es B
section
variable [Drw] (hT:TabOk tab Tryz.prog)
include hT
set_option maxRecDepth 100000 in
theorem leadsP {t:Tok} (L:Nat) (hL:L≤8) (es:List (Nat×Nat)) (he:∀ e∈es,e.1 < L∧e.2 < L) (hl:es.length < 2000000) :
  Pure Tryz.prog 39 [.int .i64 (L:Int),.slice t ((es.map uz).map prs)] (.slice .no ((uZ L es).map natR)):=by
 refine VC.code hT 47 rfl rfl rfl rfl fun F w S0=>?_
 refine gz hT rfl ?_;conv=>whnf
 refine zA rfl (wY hT rfl rfl rfl rfl rfl rfl rfl (Nat.le_refl _) (by omega) fun b=>?_)
 refine gz hT rfl ?_;conv=>whnf
 refine zB rfl (zBp hT rfl rfl rfl rfl rfl rfl) ?_
 refine gz hT rfl ?_;conv=>whnf
 refine zW (fun l:Nat=>([(0,.int .i64 (L:Int)),(1,.slice t ((es.map uz).map prs)),(5,.ref b 0 L L),(12,.int .i64 (L:Int)),(13,.int .i64 (l:Int))],[.cells b ((vu L l).map natV) 3])) (fun l=>l≤L) (fun l=>L - l) 0 (Nat.zero_le _) ⟨⟨lk rfl,lk rfl,lk rfl,lk rfl,lk rfl,trivial⟩,by rw [firstB_zero]; exact .refl _⟩ ?_
 intro l hl
 refine gz hT rfl ?_;conv=>whnf
 refine zC rfl (fun hlt=>?_) (fun hlt=>?_)
 ·simp only [decide_eq_true_eq,Int.ofNat_lt] at hlt
  refine gz hT rfl ?_;conv=>whnf
  refine zB rfl (zBL rfl rfl rfl) ?_
  rw [kn (by omega),Int.toNat_natCast]
  refine gz hT rfl ?_;conv=>whnf
  refine zB rfl (za hT rfl rfl rfl rfl rfl (Int.natCast_nonneg _) (Int.ofNat_lt.2 hlt)) ?_
  refine gz hT rfl ?_;conv=>whnf
  refine zA rfl (zI (cs':=((vu L l).map natV).set l (natV (2 ^ l))) hT rfl rfl rfl .here (by
   show vG tab 3 (natV (2 ^ l)) (0+((l:Nat):Int).toNat * 1) _=_
   rw [Int.toNat_natCast,Nat.mul_one,Nat.zero_add]; exact yu rfl rfl rfl (by simpa [vu] using hlt)) ?_)
  rw [← List.map_set,firstB_succ]
  refine gz hT rfl ?_;conv=>whnf
  refine zB rfl (zU rfl rfl rfl (by omega)) ?_
  refine gz hT rfl ?_;conv=>whnf
  exact ⟨l+1,hlt,by omega,⟨lk rfl,lk rfl,lk rfl,lk rfl,lk rfl,trivial⟩,.refl _⟩
 simp only [decide_eq_false_iff_not,Int.ofNat_lt] at hlt
 have:l=L:=by omega
 subst this
 rw [firstB_end]
 refine gz hT rfl ?_;conv=>whnf
 refine zW (fun i:Nat=>([(0,.int .i64 (l:Int)),(1,.slice t ((es.map uz).map prs)),(5,.ref b 0 l l),(23,.int .i64 (l:Int)),(24,.int .i64 (i:Int))],[.cells b ((iter (wT es) i (xI l)).map natV) 3])) (fun i=>i≤l∧(iter (wT es) i (xI l)).length=l∧Low (iter (wT es) i (xI l))) (fun i=>l - i) 0 ⟨Nat.zero_le _,by simp [iter,xI],zE4 hL⟩ ⟨⟨lk rfl,lk rfl,lk rfl,lk rfl,lk rfl,trivial⟩,.refl _⟩ ?_
 rintro i ⟨hi,hlen,hlow⟩
 refine gz hT rfl ?_;conv=>whnf
 refine zC rfl (fun hlt=>?_) (fun hlt=>?_)
 ·simp only [decide_eq_true_eq,Int.ofNat_lt] at hlt
  refine gz hT rfl ?_;conv=>whnf
  refine zB rfl (zK hT rfl rfl rfl rfl rfl rfl (List.length_map _)) ?_
  rw [List.length_map]
  refine gz hT rfl ?_;conv=>whnf
  generalize hB0:iter (wT es) i (xI l)=B0 at hlen hlow
  have hnext:iter (wT es) (i+1) (xI l)=es.foldl xu B0:=by rw [uP,hB0]; rfl
  refine zW (fun k:Nat=>([(0,.int .i64 (l:Int)),(1,.slice t ((es.map uz).map prs)),(5,.ref b 0 l l),(23,.int .i64 (l:Int)),(24,.int .i64 (i:Int)),(26,.slice t ((es.map uz).map prs)),(27,.int .i64 (es.length:Int)),(28,.int .i64 (k:Int))],[.cells b (((es.take k).foldl xu B0).map natV) 3])) (fun k=>k≤es.length) (fun k=>es.length - k) 0 (Nat.zero_le _) ⟨⟨lk rfl,lk rfl,lk rfl,lk rfl,lk rfl,lk rfl,lk rfl,lk rfl,trivial⟩,.refl _⟩ ?_
  intro k hk
  refine gz hT rfl ?_;conv=>whnf
  refine zC rfl (fun hltk=>?_) (fun hltk=>?_)
  ·simp only [decide_eq_true_eq,Int.ofNat_lt] at hltk
   have hB:=foldB_len (es.take k) B0
   have hBl:=zAV (es.take k) hlow
   have htk:=fold_take xu B0 es k hltk
   generalize (es.take k).foldl xu B0=B at hB hBl htk
   obtain ⟨h1,h2⟩:=he _ (List.getElem_mem hltk)
   refine gz hT rfl ?_;conv=>whnf
   refine zB rfl (zJ (xs:=es.map uz) hT rfl rfl rfl rfl rfl (by simpa using hltk) rfl) ?_
   rw [List.getElem_map]
   refine gz hT rfl ?_;conv=>whnf
   refine zA rfl (zX hT rfl rfl rfl fun b8=>?_)
   refine gz hT rfl ?_;conv=>whnf
   refine zA rfl (zI (cs':=prs (uz es[k])) hT rfl rfl rfl .here rfl ?_)
   refine gz hT rfl ?_;conv=>whnf
   intro id
   refine zBD (t:=8) rfl .here ?_
   refine wJ (.drop (.refl _)) ?_
   refine zd hT rfl rfl ?_ id
   have hp1:xH tab 3 (B.map natV) (0+((es[k].1:Nat):Int).toNat * 1)=some (natV (wt B es[k].1)):=by
    rw [Int.toNat_natCast,Nat.mul_one,Nat.zero_add,getN_of (by omega)]
    exact yK rfl (by rw [List.getElem?_map,List.getElem?_eq_getElem (by omega)]; rfl)
   have hp2:xH tab 3 (B.map natV) (0+((es[k].2:Nat):Int).toNat * 1)=some (natV (wt B es[k].2)):=by
    rw [Int.toNat_natCast,Nat.mul_one,Nat.zero_add,getN_of (by omega)]
    exact yK rfl (by rw [List.getElem?_map,List.getElem?_eq_getElem (by omega)]; rfl)
   repeat' (first
    | (refine god hT 1 rfl ?_;conv=>whnf)
    | refine zV rfl ?_
    | refine q_g rfl (fun S'=>(zK hT rfl rfl rfl rfl rfl rfl (List.length_map _)).qs) ?_
    | refine zk rfl rfl rfl rfl (fun h=>?_) (fun h=>?_)
    | refine q_g rfl (fun S'=>(zEr hT rfl rfl rfl rfl rfl (by decide) (by decide)).qs) ?_
    | refine q_g rfl (fun S'=>(za (i:=((es[k].1:Nat):Int)) hT rfl rfl rfl rfl rfl (Int.natCast_nonneg _) (Int.ofNat_lt.2 h1)).qs) ?_
    | refine q_g rfl (fun S'=>(za (i:=((es[k].2:Nat):Int)) hT rfl rfl rfl rfl rfl (Int.natCast_nonneg _) (Int.ofNat_lt.2 h2)).qs) ?_
    | refine yD hT rfl rfl rfl .here hp1 ?_
    | refine yD hT rfl rfl rfl .here hp2 ?_)
   refine zS rfl (eff rfl rfl (zI (cs':=(xu B es[k]).map natV) hT rfl rfl rfl .here ?_ ?_))
   ·show vG tab 3 (.int .i64 (orI ((wt B es[k].1:Nat):Int) ((wt B es[k].2:Nat):Int))) (0+((es[k].1:Nat):Int).toNat * 1) _=_
    rw [uH (zB8 hBl _) (zB8 hBl _),Int.toNat_natCast,Nat.mul_one,Nat.zero_add]
    unfold xu
    rw [List.map_set]
    exact yu rfl rfl rfl (by rw [List.length_map]; omega)
   ·refine And.intro trivial ?_
    refine god hT 1 rfl ?_;conv=>whnf
    refine zV rfl ?_
    refine gz hT rfl ?_;conv=>whnf
    refine zB rfl (zU rfl rfl rfl (by omega)) ?_
    refine gz hT rfl ?_;conv=>whnf
    exact ⟨k+1,hltk,by omega,⟨lk rfl,lk rfl,lk rfl,lk rfl,lk rfl,lk rfl,lk rfl,lk rfl,trivial⟩,by rw [htk]; exact .refl _⟩
  ·simp only [decide_eq_false_iff_not,Int.ofNat_lt] at hltk
   have:k=es.length:=by omega
   subst this
   rw [List.take_length]
   refine gz hT rfl ?_;conv=>whnf
   refine zB rfl (zU rfl rfl rfl (by omega)) ?_
   refine gz hT rfl ?_;conv=>whnf
   refine ⟨i+1,⟨hlt,?_,?_⟩,by omega,⟨lk rfl,lk rfl,lk rfl,lk rfl,lk rfl,trivial⟩,by rw [hnext]; exact .refl _⟩
   ·rw [hnext,foldB_len]; exact hlen
   ·rw [hnext]; exact zAV es hlow
 ·simp only [decide_eq_false_iff_not,Int.ofNat_lt] at hlt
  have:i=l:=by omega
  subst this
  refine ke (t:=5) (n:=i) (c:=i) (sz:=1) (rows:=(uZ i es).map natR) rfl .here (natR_flat _) (fun r hr=>by obtain ⟨x,_,rfl⟩:=List.mem_map.1 hr; rfl) (by rw [List.length_map]; exact hlen) (Nat.le_refl _) ?_
  refine gz hT rfl ?_;conv=>whnf
  exact zQ (.tmp rfl .nil) rfl
end
end Go.Vw
namespace Go.Vw
open Go.RowKit Go.Am Go.Proofs Go.Ord
attribute [local irreducible] yE zv zq VD VDn VDq Ret
section
variable [Drw] (hT:TabOk tab Tryz.prog)
include hT
end
end Go.Vw
namespace Go.Ord
section
variable {α:Type} [DecidableEq α]
theorem kA:∀ (l:List α) (y x:α),zg (l++[y,x])=if y=x then zg (l++[y]) else zg (l++[y])++[x]
 | [],y,x=>by
   show (if y=x then zg [x] else y::zg [x])=_
   split
   ·next e=>subst e; rfl
   ·rfl
 | [a],y,x=>by
   show (if a=y then zg [y,x] else a::zg [y,x])=if y=x then (if a=y then zg [y] else a::zg [y]) else (if a=y then zg [y] else a::zg [y])++[x]
   have:=kA [] y x
   simp only [List.nil_append] at this
   rw [this]
   split <;> split <;> rfl
 | a::b::l,y,x=>by
   have ih:=kA (b::l) y x
   show (if a=b then zg (b::l++[y,x]) else a::zg (b::l++[y,x]))=if y=x then (if a=b then zg (b::l++[y]) else a::zg (b::l++[y])) else (if a=b then zg (b::l++[y]) else a::zg (b::l++[y]))++[x]
   rw [ih]
   split <;> split <;> rfl
omit [DecidableEq α] in
theorem zB9 {D:List α} {j:Nat} {y:α} (hy:D[j]?=some y):D.take (j+1)=D.take j++[y]:=by
 obtain ⟨h,rfl⟩:=List.getElem?_eq_some_iff.1 hy
 rw [List.take_append_getElem]
theorem uI {D:List α} {j:Nat} (h1:1≤j) {x y:α} (hx:D[j - 1]?=some x) (hy:D[j]?=some y):zg (D.take (j+1))=if x=y then zg (D.take j) else zg (D.take j)++[y]:=by
 obtain ⟨i,rfl⟩:∃ i,j=i+1:=⟨j - 1,by omega⟩
 rw [zB9 hy]
 rw [Nat.add_sub_cancel] at hx
 rw [zB9 hx,List.append_assoc]
 exact kA _ _ _
structure CAt (D:List α) (k0 k2 k:Nat) (R:List α):Prop where
 lo:k0≤k
 le:k+1≤k0+k2
 fit:k0+k2≤D.length
 len:R.length=D.length
 same:∀ j,k0+k2≤j+1→R[j]?=D[j]?
 done:R.take k=zg (D.take (k0+k2))
theorem CAt.start {D:List α} {k0:Nat} (h1:1≤k0) (hl:k0 < D.length) (h:zg (D.take k0)=D.take k0) (he:D[k0 - 1]?=D[k0]?):CAt D k0 1 k0 D:=by
 refine ⟨Nat.le_refl _,Nat.le_refl _,hl,rfl,fun _ _=>rfl,?_⟩
 have hy:D[k0]?=some D[k0]:=List.getElem?_eq_getElem hl
 rw [uI h1 (he.trans hy) hy,if_pos rfl,h]
theorem CAt.skip {D R:List α} {k0 k2 k:Nat} (h:CAt D k0 k2 k R) (h1:1≤k0+k2) (hl:k0+k2 < D.length) (he:D[k0+k2 - 1]?=D[k0+k2]?):CAt D k0 (k2+1) k R:=by
 refine ⟨h.lo,by have:=h.le; omega,by omega,h.len,fun j hj=>h.same j (by omega),?_⟩
 have hy:D[k0+k2]?=some D[k0+k2]:=List.getElem?_eq_getElem hl
 rw [h.done,← Nat.add_assoc,uI h1 (he.trans hy) hy,if_pos rfl]
theorem CAt.put {D R:List α} {k0 k2 k:Nat} (h:CAt D k0 k2 k R) (h1:1≤k0+k2) (hl:k0+k2 < D.length) (he:D[k0+k2 - 1]?≠D[k0+k2]?):CAt D k0 (k2+1) (k+1) (R.set k D[k0+k2]):=by
 have hle:=h.le
 have hlen:=h.len
 refine ⟨by have:=h.lo; omega,by omega,by omega,by rw [List.length_set]; exact hlen,fun j hj=>?_,?_⟩
 ·rw [List.getElem?_set_ne (by omega)]
  exact h.same j (by omega)
 ·have hy:D[k0+k2]?=some D[k0+k2]:=List.getElem?_eq_getElem hl
  have hx:D[k0+k2 - 1]?=some (D[k0+k2 - 1]'(by omega)):=List.getElem?_eq_getElem (by omega)
  rw [← Nat.add_assoc,uI h1 hx hy,if_neg (fun e=>he (by rw [hx,hy,e])),← h.done]
  rw [zB9 (y:=D[k0+k2]) (by rw [List.getElem?_set_self (by omega)]),List.take_set_of_le (Nat.le_refl _)]
end
end Go.Ord
namespace Go.Vw
open Go.RowKit Go.Am Go.Proofs Go.Ord
attribute [local irreducible] yE zv zq VD VDn VDq Ret
def dgR (d:yj):List V:=[.int .i64 d.1,.int .i64 d.2.1,.str d.2.2]
theorem zCp (D:List yj):∀ r∈D.map dgR,r.length=3:=fun r hr=>by obtain ⟨x,_,rfl⟩:=List.mem_map.1 hr; rfl
theorem dg_eq (x y:yj):(decide (x.1=y.1) && (decide (x.2.1=y.2.1) && (decide (x.2.2=y.2.2) && true)))=decide (x=y):=by
 obtain ⟨a,b,c⟩:=x
 obtain ⟨d,e,f⟩:=y
 simp only [Bool.and_true,Prod.mk.injEq,Bool.decide_and]
theorem dg_part {D:List yj} {X:List V} {z:Int} {o j:Nat} (hz:o+z.toNat * 3=j * 3) (h:j < D.length):xH tab 47 ((D.map dgR).flatten++X) (o+z.toNat * 3)=some (.agg (dgR D[j])):=by
 rw [hz,rows_part (sz:=3) rfl rfl (zCp D) (by simpa using h),List.getElem_map]
theorem dg_store {D:List yj} {X:List V} {z:Int} {o j:Nat} (x:yj) (hz:o+z.toNat * 3=j * 3) (h:j < D.length):vG tab 47 (.agg (dgR x)) (o+z.toNat * 3) ((D.map dgR).flatten++X)=some (((D.set j x).map dgR).flatten++X):=by
 rw [hz,rows_store (sz:=3) rfl (zCp D) (by simpa using h) rfl rfl,List.map_set]
section
variable [Drw] (hT:TabOk tab Tryz.prog)
include hT
set_option maxRecDepth 100000 in
set_option maxHeartbeats 2000000 in
theorem compactD (b n c:Nat) (D:List yj) (X:List V) (hn:D.length=n) (hc:n≤c) (hl:n < 2000000) :
  VC Tryz.prog 48 [.ref b 0 n c] [.cells b ((D.map dgR).flatten++X) 47] fun v S'=>∃ Y,v = .ref b 0 (zg D).length c∧S'=[.cells b (((zg D).map dgR).flatten++Y) 47]:=by
 refine VC.code hT 61 rfl rfl rfl rfl fun F w S0=>?_
 refine gz hT rfl ?_;conv=>whnf
 refine zB rfl (zBp hT rfl rfl rfl rfl rfl rfl) ?_
 refine gz hT rfl ?_;conv=>whnf
 refine zC rfl (fun h2=>?_) (fun h2=>?_)
 ·simp only [decide_eq_true_eq] at h2
  have e:zg D=D:=by
   match D,hn with
   | [],_=>rfl
   | [x],_=>rfl
   | x::y::r,h=>simp at h; omega
  refine gz hT rfl ?_;conv=>whnf
  exact zQ (.tmp rfl .nil) ⟨X,by rw [e,hn]; rfl,by rw [e]⟩
 simp only [decide_eq_false_iff_not] at h2
 refine gz hT rfl ?_;conv=>whnf
 refine zW (fun k:Nat=>([(0,.ref b 0 n c),(3,.int .i64 (k:Int))],[.cells b ((D.map dgR).flatten++X) 47])) (fun k=>1≤k∧k≤n∧zg (D.take k)=D.take k) (fun k=>n - k) 1 ⟨Nat.le_refl _,by omega,by
  match D,hn with
  | [],h=>simp at h; omega
  | x::r,_=>rfl⟩ ⟨⟨lk rfl,lk rfl,trivial⟩,.refl _⟩ ?_
 rintro k0 ⟨hk1,hkn,hcp⟩
 refine gz hT rfl ?_;conv=>whnf
 refine zB rfl (zBp hT rfl rfl rfl rfl rfl rfl) ?_
 refine gz hT rfl ?_;conv=>whnf
 refine zC rfl (fun hlt=>?_) (fun hlt=>?_)
 ·simp only [decide_eq_true_eq,Int.ofNat_lt] at hlt
  have hx:D[k0]?=some D[k0]:=List.getElem?_eq_getElem (by omega)
  have hy:D[k0 - 1]?=some D[k0 - 1]:=List.getElem?_eq_getElem (by omega)
  refine gz hT rfl ?_;conv=>whnf
  intro id
  refine zd hT rfl rfl ?_ id
  have hp1:xH tab 47 ((D.map dgR).flatten++X) (0+((k0:Nat):Int).toNat * 3)=some (.agg (dgR D[k0])):=dg_part (by omega) (by omega)
  have hp2:xH tab 47 ((D.map dgR).flatten++X) (0+(((k0:Nat):Int) - 1).toNat * 3)=some (.agg (dgR D[k0 - 1])):=dg_part (by omega) (by omega)
  repeat' (first
   | (refine god hT 1 rfl ?_;conv=>whnf)
   | refine zV rfl ?_
   | refine q_g rfl (fun S'=>(zK hT rfl rfl rfl rfl rfl rfl (List.length_map _)).qs) ?_
   | refine zk rfl rfl rfl rfl (fun h=>?_) (fun h=>?_)
   | refine q_g rfl (fun S'=>(za (i:=((k0:Nat):Int)) hT rfl rfl rfl rfl rfl (by omega) (by omega)).qs) ?_
   | refine q_g rfl (fun S'=>(za (i:=((k0:Nat):Int) - 1) hT rfl rfl rfl rfl rfl (by omega) (by omega)).qs) ?_
   | refine q_g rfl (fun S'=>(g_sub rfl rfl rfl (by omega)).qs) ?_
   | refine yD hT rfl rfl rfl .here hp1 ?_
   | refine yD hT rfl rfl rfl .here hp2 ?_)
  refine gz hT rfl ?_;conv=>whnf
  refine zC rfl (fun heq=>?_) (fun hne=>?_)
  ·have heq:D[k0]=D[k0 - 1]:=of_decide_eq_true ((dg_eq D[k0] D[k0 - 1]).symm.trans heq)
   have hst:=CAt.start (D:=D) hk1 (by omega) hcp (by rw [hx,hy,heq])
   clear hx hy hp1 hp2 heq hcp
   refine gz hT rfl ?_;conv=>whnf
   refine zB rfl (g_refFrom hT rfl rfl rfl rfl rfl (by omega) (by omega)) ?_
   refine gz hT rfl ?_;conv=>whnf
   refine zW (fun x:Nat×Nat×List yj=>([(0,.ref b 0 n c),(3,.int .i64 (x.2.1:Int)),(4,.ref b (0+k0 * 3) (n - k0) (c - k0)),(5,.int .i64 (x.1:Int))],[.cells b ((x.2.2.map dgR).flatten++X) 47])) (fun x=>1≤x.1∧CAt D k0 x.1 x.2.1 x.2.2) (fun x=>n - k0 - x.1) (1,k0,D) ⟨Nat.le_refl _,hst⟩ ⟨⟨lk rfl,lk rfl,lk rfl,lk rfl,trivial⟩,.refl _⟩ ?_
   rintro ⟨k2,k,R⟩ ⟨hk2,hat⟩
   dsimp only at hk2 hat
   have a1:=hat.lo
   have a2:=hat.le
   have a3:=hat.fit
   have a4:=hat.len
   refine gz hT rfl ?_;conv=>whnf
   refine zB rfl (zBp hT rfl rfl rfl rfl rfl rfl) ?_
   refine gz hT rfl ?_;conv=>whnf
   refine zC rfl (fun hlt2=>?_) (fun hlt2=>?_)
   ·simp only [decide_eq_true_eq,Int.ofNat_lt] at hlt2
    have r1:R[k0+k2]?=some (D[k0+k2]'(by omega)):=by rw [hat.same _ (by omega)]; exact List.getElem?_eq_getElem (by omega)
    have r2:R[k0+k2 - 1]?=some (D[k0+k2 - 1]'(by omega)):=by rw [hat.same _ (by omega)]; exact List.getElem?_eq_getElem (by omega)
    obtain ⟨q1,r1⟩:=List.getElem?_eq_some_iff.1 r1
    obtain ⟨q2,r2⟩:=List.getElem?_eq_some_iff.1 r2
    have hx:D[k0+k2]?=some (D[k0+k2]'(by omega)):=List.getElem?_eq_getElem (by omega)
    have hy:D[k0+k2 - 1]?=some (D[k0+k2 - 1]'(by omega)):=List.getElem?_eq_getElem (by omega)
    have hp1:xH tab 47 ((R.map dgR).flatten++X) (0+k0 * 3+((k2:Nat):Int).toNat * 3)=some (.agg (dgR R[k0+k2])):=dg_part (by omega) (by omega)
    have hp2:xH tab 47 ((R.map dgR).flatten++X) (0+k0 * 3+(((k2:Nat):Int) - 1).toNat * 3)=some (.agg (dgR R[k0+k2 - 1])):=dg_part (by omega) (by omega)
    refine gz hT rfl ?_;conv=>whnf
    intro id
    refine zd hT rfl rfl ?_ id
    repeat' (first
     | (refine god hT 1 rfl ?_;conv=>whnf)
     | refine zV rfl ?_
     | refine q_g rfl (fun S'=>(zK hT rfl rfl rfl rfl rfl rfl (List.length_map _)).qs) ?_
     | refine zk rfl rfl rfl rfl (fun h=>?_) (fun h=>?_)
     | refine q_g rfl (fun S'=>(za (i:=((k2:Nat):Int)) hT rfl rfl rfl rfl rfl (by first | omega | (dsimp only; omega)) (by first | omega | (dsimp only; omega))).qs) ?_
     | refine q_g rfl (fun S'=>(za (i:=((k2:Nat):Int) - 1) hT rfl rfl rfl rfl rfl (by first | omega | (dsimp only; omega)) (by first | omega | (dsimp only; omega))).qs) ?_
     | refine q_g rfl (fun S'=>(g_sub rfl rfl rfl (by omega)).qs) ?_
     | refine yD hT rfl rfl rfl .here hp1 ?_
     | refine yD hT rfl rfl rfl .here hp2 ?_)
    refine gz hT rfl ?_;conv=>whnf
    refine zC rfl (fun hne=>?_) (fun heq=>?_)
    ·have hne:R[k0+k2]≠R[k0+k2 - 1]:=by
      have e:=(dg_eq R[k0+k2] R[k0+k2 - 1])
      intro e2
      rw [decide_eq_true e2] at e
      have hne:(!(decide (R[k0+k2].1=R[k0+k2 - 1].1) && (decide (R[k0+k2].2.1=R[k0+k2 - 1].2.1) && (decide (R[k0+k2].2.2=R[k0+k2 - 1].2.2) && true))))=true:=hne
      rw [e] at hne
      cases hne
     have hput:=hat.put (by omega) (by omega) (fun e=>hne (by
      rw [hx,hy] at e
      rw [r1,r2]
      exact (Option.some.inj e).symm))
     rw [← r1] at hput
     refine gz hT rfl ?_;conv=>whnf
     refine zB rfl (za hT rfl rfl rfl rfl rfl (by first | omega | (dsimp only; omega)) (by first | omega | (dsimp only; omega))) ?_
     refine gz hT rfl ?_;conv=>whnf
     refine zB rfl (zT hT rfl rfl .here hp1) ?_
     refine gz hT rfl ?_;conv=>whnf
     refine zB rfl (za hT rfl rfl rfl rfl rfl (by first | omega | (dsimp only; omega)) (by first | omega | (dsimp only; omega))) ?_
     refine gz hT rfl ?_;conv=>whnf
     refine zA rfl (zI (cs':=((R.set k R[k0+k2]).map dgR).flatten++X) hT rfl rfl rfl .here (dg_store (D:=R) (z:=((k:Nat):Int)) (o:=0) (j:=k) _ (by omega) (by omega)) ?_)
     refine gz hT rfl ?_;conv=>whnf
     refine zB rfl (zU rfl rfl rfl (by first | omega | (dsimp only; omega))) ?_
     refine gz hT rfl ?_;conv=>whnf
     refine zB rfl (zU rfl rfl rfl (by first | omega | (dsimp only; omega))) ?_
     refine gz hT rfl ?_;conv=>whnf
     exact ⟨(k2+1,k+1,R.set k R[k0+k2]),⟨by dsimp only; omega,hput⟩,by dsimp only; omega,⟨⟨lk rfl,lk rfl,lk rfl,lk rfl,trivial⟩,.refl _⟩⟩
    ·have heq:R[k0+k2]=R[k0+k2 - 1]:=by
      have e:=(dg_eq R[k0+k2] R[k0+k2 - 1])
      have heq:(!(decide (R[k0+k2].1=R[k0+k2 - 1].1) && (decide (R[k0+k2].2.1=R[k0+k2 - 1].2.1) && (decide (R[k0+k2].2.2=R[k0+k2 - 1].2.2) && true))))=false:=heq
      rw [e] at heq
      simpa using heq
     have hsk:=hat.skip (by omega) (by omega) (by rw [hx,hy,← r1,← r2,heq])
     refine gz hT rfl ?_;conv=>whnf
     refine zB rfl (zU rfl rfl rfl (by first | omega | (dsimp only; omega))) ?_
     refine gz hT rfl ?_;conv=>whnf
     exact ⟨(k2+1,k,R),⟨by dsimp only; omega,hsk⟩,by dsimp only; omega,⟨⟨lk rfl,lk rfl,lk rfl,lk rfl,trivial⟩,.refl _⟩⟩
   ·simp only [decide_eq_false_iff_not,Int.ofNat_lt] at hlt2
    have hdone:=hat.done
    rw [List.take_of_length_le (l:=D) (by omega)] at hdone
    have hcl:(zg D).length=k:=by rw [← hdone,List.length_take]; omega
    have hclr:=rows_clear (sz:=3) (rows:=R.map dgR) (X:=X) (z:=[.int .i64 0,.int .i64 0,.str ByteArray.empty]) (i:=k) (zCp R) (by rw [List.length_map]; omega) rfl
    rw [List.length_map,a4,hn,← List.map_take,hdone] at hclr
    refine gz hT rfl ?_;conv=>whnf
    refine zB rfl (g_refFrom hT rfl rfl rfl rfl rfl (by first | omega | (dsimp only; omega)) (by first | omega | (dsimp only; omega))) ?_
    refine gz hT rfl ?_;conv=>whnf
    refine zA rfl (s_clear hT rfl rfl rfl rfl rfl rfl rfl rfl rfl (by first | omega | (dsimp only; omega)) (by decide) rfl .here (by rw [Nat.zero_add]; exact hclr) ?_)
    refine gz hT rfl ?_;conv=>whnf
    refine zB rfl (g_refTo hT rfl rfl rfl rfl rfl (by first | omega | (dsimp only; omega))) ?_
    refine gz hT rfl ?_;conv=>whnf
    exact zQ (.tmp rfl .nil) ⟨_,by rw [hcl]; rfl,rfl⟩
  ·have hne:D[k0]≠D[k0 - 1]:=fun e=>by
    have e1:=(dg_eq D[k0] D[k0 - 1]).symm.trans hne
    exact of_decide_eq_false e1 e
   refine gz hT rfl ?_;conv=>whnf
   refine zB rfl (zU rfl rfl rfl (by first | omega | (dsimp only; omega))) ?_
   refine gz hT rfl ?_;conv=>whnf
   exact ⟨k0+1,⟨by omega,hlt,by rw [uI hk1 hy hx,if_neg (fun e=>hne e.symm),hcp,zB9 hx]⟩,by omega,⟨⟨lk rfl,lk rfl,trivial⟩,.refl _⟩⟩
 ·simp only [decide_eq_false_iff_not,Int.ofNat_lt] at hlt
  have e:zg D=D:=by
   rw [List.take_of_length_le (by omega)] at hcp
   exact hcp
  refine gz hT rfl ?_;conv=>whnf
  exact zQ (.tmp rfl .nil) ⟨X,by rw [e,hn]; rfl,by rw [e]⟩
end
end Go.Vw
namespace Go.Vw
open Go.RowKit Go.Am Go.Proofs Go.Ord Go.Sort
attribute [local irreducible] yE zv zq VD VDn VDq Ret
def cfD (x y:yj):Int:=orL [qE x.1 y.1,qE x.2.1 y.2.1,cmpS x.2.2 y.2.2]
theorem zE5 (a b:Int):(a < b∧qE a b = -1)∨(b < a∧qE a b=1)∨(a=b∧qE a b=0):=by
 unfold qE
 by_cases h1:a < b
 ·exact .inl ⟨h1,if_pos h1⟩
 ·by_cases h2:b < a
  ·exact .inr (.inl ⟨h2,by rw [if_neg h1,if_pos h2]⟩)
  ·exact .inr (.inr ⟨by omega,by rw [if_neg h1,if_neg h2]⟩)
theorem ltOf_cfD:ltOf cfD=ltD:=by
 funext p q
 obtain ⟨a,b,c⟩:=p
 obtain ⟨d,e,f⟩:=q
 show decide (orL [qE a d,qE b e,cmpS c f] < 0)=(decide (a < d) || (decide (a=d) && (decide (b < e) || (decide (b=e) && lessS c f))))
 rcases zE5 a d with ⟨h,k⟩ | ⟨h,k⟩ | ⟨rfl,k⟩
 ·rw [k]; simp [orL,h]
 ·have h1:¬ a < d:=by omega
  have h2:a≠d:=by omega
  rw [k]; simp [orL,h1,h2]
 ·rw [k]
  rcases zE5 b e with ⟨h,k⟩ | ⟨h,k⟩ | ⟨rfl,k⟩
  ·rw [k]; simp [orL,h]
  ·have h1:¬ b < e:=by omega
   have h2:b≠e:=by omega
   rw [k]; simp [orL,h1,h2]
  ·rw [k]
   unfold cmpS
   by_cases h1:lessS c f=true
   ·simp [orL,h1]
   ·by_cases h2:c=f
    ·subst h2
     have h3:=tot_lessS.irr c
     simp [orL,h3]
    ·simp [orL,h1,h2]
theorem swoD:SWO (ltOf cfD):=by rw [ltOf_cfD]; exact swo_of tot_ltD.irr tot_ltD.tr tot_ltD.tot
def dgE (d:yj):List Value:=[.int .i64 d.1,.int .i64 d.2.1,.string d.2.2]
theorem dg_det (F:Fz) (w:World) (x:yj) (us:List Value) (h:Iss F w (dgR x) us):us=dgE x:=by
 cases h with
 | cons h1 h2 =>
   cases h2 with
   | cons h2 h3 =>
     cases h3 with
     | cons h3 h4 =>
       cases h4
       cases h3
       rw [int_inv h1,int_inv h2]; rfl
theorem dg_of (F:Fz) (w:World) (x:yj):Iss F w (dgR x) (dgE x):=.cons (.int _ _) (.cons (.int _ _) (.cons (.str _) .nil))
theorem dg_cell1:∀ (x:yj),∀ v∈dgE x,v.oneCell'=true:=by
 intro x v hv
 simp only [dgE,List.mem_cons,List.not_mem_nil,or_false] at hv
 rcases hv with rfl | rfl | rfl <;> rfl
theorem xi {α:Type} {g:Nat→List α} {B:Nat}:∀ n,(∀ i,i < n→(g i).length≤B)→((List.range n).flatMap g).length≤n * B
 | 0,_=>by simp
 | n+1,h=>by
   rw [wL,List.length_append,Nat.succ_mul]
   have:=xi n fun i hi=>h i (by omega)
   have:=h n (by omega)
   omega
theorem stopR_len (m:MModule) (f:Nat) (u v:List Int) (n:Nat):(stopR m f u v n).length≤1:=by
 unfold stopR
 split
 ·split <;> simp
 ·simp
theorem stopF_len (m:MModule) (f:Nat) (u v:List Int) (n:Nat):(xP m f u v n).length≤n:=by
 have:=xi (g:=stopR m f u v) (B:=1) n fun i _=>stopR_len m f u v i
 rw [Nat.mul_one] at this
 exact this
theorem code_cons (x:MFunc) (fs:List MFunc):yk (x::fs)=(x.code.length:Int)+yk fs:=by
 unfold yk
 rw [List.map_cons,List.sum_cons]
theorem zDW:∀ fs:List MFunc,0≤yk fs
 | []=>by unfold yk; exact Int.le_refl _
 | x::fs=>by
   have:=zDW fs
   rw [code_cons]
   omega
theorem code_sum:∀ {fs:List MFunc} {f:MFunc},f∈fs→(f.code.length:Int)≤yk fs
 | x::fs,f,h=>by
   have h0:=zDW fs
   rw [code_cons]
   rcases List.mem_cons.1 h with e | h
   ·rw [e]; omega
   ·have:=code_sum h; omega
theorem zCq {m:MModule} (hs:Small m) (hr:zO m=true) {us vs:List (List (List Int))} (h:Threads m m.threads us vs):(zZ m us vs).length≤200000:=by
 have tk:=qy hs hr h
 have hl:=h.lens
 have hf:xt m=true:=by simp only [zO,Bool.and_eq_true] at hr; exact hr.1
 simp only [xt,Bool.and_eq_true,decide_eq_true_eq] at hf
 obtain ⟨_,⟨⟨⟨⟨⟨_,h12⟩,h4⟩,hc⟩,_⟩⟩⟩:=hf
 have hrow:∀ (t f:Nat) (ht1:t < us.length) (ht:t < vs.length) (hf1:f < us[t].length) (hf2:f < vs[t].length),vs[t][f].length≤4096:=fun t f ht1 ht hf1 hf2=>by
  obtain ⟨e1,e2⟩:=tk.fn t ht1 ht
  have ho:=(tk.op t f ht1 ht hf1 hf2).2
  have hfl:f < m.funcs.length:=by omega
  have:m.fn (f:Int)=m.funcs[f]:=by unfold MModule.fn; rw [Int.toNat_natCast,List.getElem?_eq_getElem hfl]; rfl
  rw [this] at ho
  have:=code_sum (List.getElem_mem hfl)
  omega
 have hT:∀ t,t < vs.length→(kr m us vs t).length≤12 * 4096:=fun t ht=>by
  have ht1:t < us.length:=by rw [tk.len]; exact ht
  unfold kr
  rw [List.getElem?_eq_getElem ht1,List.getElem?_eq_getElem ht]
  dsimp only
  obtain ⟨e1,e2⟩:=tk.fn t ht1 ht
  have:=xi (g:=zBN m us[t] vs[t]) (B:=4096) vs[t].length fun f hf=>by
   unfold zBN
   have hfu:f < us[t].length:=by omega
   rw [List.getElem?_eq_getElem hfu,List.getElem?_eq_getElem hf]
   exact Nat.le_trans (stopF_len _ _ _ _ _) (hrow t f ht1 ht hfu hf)
  refine Nat.le_trans this (Nat.mul_le_mul_right _ (by omega))
 have:=xi (g:=kr m us vs) (B:=12 * 4096) vs.length hT
 have e:(zZ m us vs).length≤vs.length * (12 * 4096):=this
 have:vs.length≤4:=by omega
 omega
section
variable [Drw] (hT:TabOk tab Tryz.prog)
include hT
set_option maxRecDepth 100000 in
set_option maxHeartbeats 2000000 in
theorem cmpDiag (x y:yj):Pure Tryz.prog 43 [.agg (dgR x),.agg (dgR y)] (.int .i64 (cfD x y)):=by
 refine VC.code hT 22 rfl rfl rfl rfl fun F w S0=>?_
 repeat' (first
  | (refine gz hT rfl ?_;conv=>whnf)
  | refine zA rfl (zN rfl rfl rfl ?_)
  | refine zA rfl (zH hT rfl rfl rfl rfl rfl rfl rfl rfl ?_)
  | refine zB rfl (zK hT rfl rfl rfl rfl rfl rfl (List.length_map _)) ?_
  | refine zG rfl rfl rfl rfl (fun h=>?_) (fun h=>?_))
 intro id
 refine zd hT rfl rfl ?_ id
 refine god hT 1 rfl ?_;conv=>whnf
 refine zS rfl (eff rfl rfl (zR hT rfl rfl rfl rfl rfl rfl (zE1 hT x.1 y.1) (And.intro trivial ?_)))
 refine god hT 1 rfl ?_;conv=>whnf
 refine zS rfl (eff rfl rfl (zR hT rfl rfl rfl rfl rfl rfl (compareErr hT x.2.1 y.2.1) (And.intro trivial ?_)))
 refine god hT 1 rfl ?_;conv=>whnf
 refine zS rfl (eff rfl rfl (zR hT rfl rfl rfl rfl rfl rfl (compareStr hT x.2.2 y.2.2) (And.intro trivial ?_)))
 refine god hT 1 rfl ?_;conv=>whnf
 refine q_g rfl (fun S'=>zH hT rfl rfl rfl rfl rfl rfl rfl rfl ⟨rfl,rfl⟩) ?_
 refine god hT 1 rfl ?_;conv=>whnf
 refine zS rfl (eff rfl rfl (zR hT rfl rfl rfl rfl rfl rfl (orInt hT [qE x.1 y.1,qE x.2.1 y.2.1,cmpS x.2.2 y.2.2] (by show 3 < _; omega)) (And.intro trivial ?_)))
 refine god hT 1 rfl ?_;conv=>whnf
 refine zV rfl ?_
 refine gz hT rfl ?_;conv=>whnf
 exact zQ (.tmp rfl .nil) rfl
theorem sortDiagsP (b n c r:Nat) (xs:List yj) (hn:xs.length=n) (hl:n < 60000000) :
  VC Tryz.prog 42 [.ref b 0 n c,.func 43 [] []] [.cells b ((xs.map dgR).flatten++List.replicate r .any) 47] fun v S'=>v = .tup []∧S'=[.cells b (((xs.mergeSort fun x y=>!(ltOf cfD) y x).map dgR).flatten++List.replicate r .any) 47] :=
 zDP (en:=dgR) (enc:=dgE) Tryz.sortDiags 3 (fun w=>xq hT (t:=47) (b:=true) rfl w) (fun w=>Am.run_size hT (t:=47) (n:=3) rfl w) dg_det dg_of (fun _=>rfl) dg_cell1 cfD swoD (by rw [ltOf_cfD]; exact tot_ltD.tot) _ (fun args w=>xf hT rfl rfl args w) (fun {_} x y=>cmpDiag hT x y) b n c r _ xs hn (by omega)
end
end Go.Vw
namespace Go.Vw
open Go.RowKit Go.Am Go.Proofs Go.Ord Go.Sort
attribute [local irreducible] yE zv zq VD VDn VDq Ret
def ColD (D:List yj) (v:V) (R:Hp):Prop:=(D=[]∧v = .slice .zero []∧R=[])∨(D≠[]∧∃ b' c r,v = .ref b' 0 D.length c∧c * 3=D.length * 3+r∧R=[.cells b' ((D.map dgR).flatten++List.replicate r .any) 47])
theorem yG (m:MModule) (to:List Nat) (pre:List Stp) (s:Stp):yV m to (pre++[s])=yV m to pre++w5 m to s:=by
 unfold yV
 rw [List.flatMap_append]
 simp
theorem wrongS_len (m:MModule) (to:List Nat) (s:Stp):(w5 m to s).length≤1:=by
 unfold w5
 split
 ·simp
 ·split <;> simp
theorem kB (m:MModule) (to:List Nat):∀ ss:List Stp,(yV m to ss).length≤ss.length
 | []=>Nat.le_refl _
 | s::ss=>by
   have:=kB m to ss
   have:=wrongS_len m to s
   unfold yV at *
   rw [List.flatMap_cons,List.length_append,List.length_cons]
   omega
theorem zE7 (D:List yj):zg (D.mergeSort fun x y=>!ltD y x)=xl ltD D:=by
 have hsort:((D.mergeSort fun x y=>!ltD y x).Pairwise fun x y=>ltD y x=false):=by
  have:=List.pairwise_mergeSort (le:=fun x y=>!ltD y x) (fun a b c h1 h2=>by
   simp only [Bool.not_eq_true'] at h1 h2 ⊢
   exact (swo_of tot_ltD.irr tot_ltD.tr tot_ltD.tot).ntrans _ _ _ h2 h1) (fun a b=>by
   cases e:ltD b a
   ·rfl
   ·rw [tot_ltD.asym e]; rfl) D
  exact this.imp fun h=>by simpa using h
 exact compact_sortR tot_ltD hsort fun z=>(List.mergeSort_perm D fun x y=>!ltD y x).mem_iff
theorem zDX:∀ l:List yj,(zg l).length≤l.length
 | []=>Nat.le_refl _
 | [x]=>Nat.le_refl _
 | x::y::r=>by
   have:=zDX (y::r)
   unfold zg
   split
   ·rw [List.length_cons]; omega
   ·rw [List.length_cons,List.length_cons]; omega
theorem sortD_len (D:List yj):(xl ltD D).length≤D.length:=by
 rw [← zE7]
 have:=zDX (D.mergeSort fun x y=>!ltD y x)
 rwa [(List.mergeSort_perm D fun x y=>!ltD y x).length_eq] at this
theorem kx {L:Nat} (hL:L≤8) (ss:List Stp):(ye L ss).length≤64:=by
 have h1:∀ l,(wy L ss l L).length≤8:=fun l=>by
  have:=xi (g:=fun k=>if xm ss l k then [((l:Int),(k:Int))] else []) (B:=1) L fun k _=>by split <;> simp
  rw [Nat.mul_one] at this
  exact Nat.le_trans this hL
 have h2:=xi (g:=fun l=>wy L ss l L) (B:=8) L fun l _=>h1 l
 have h3:(ye L ss).length≤L * 8:=by unfold ye; rw [List.length_map]; exact h2
 omega
def rawM (m:MModule) (us vs:List (List (List Int))):List yj:=yV m (uZ m.locks.length (ye m.locks.length (zZ m us vs))) (zZ m us vs)
def CheckE (m:MModule) (v:V):Prop:=(zO m=true∧∃ us vs,Threads m m.threads us vs∧v = .slice .no ((xl ltD (rawM m us vs)).map dgR))∨(zO m=false∧v = .slice .no [])
def CheckQ (m:MModule) (v:V) (S':Hp):Prop:=(zO m=true∧∃ us vs,Threads m m.threads us vs∧((xl ltD (rawM m us vs)=[]∧v = .slice .zero []∧S'=[])∨∃ b c Y,(xl ltD (rawM m us vs)).length≤c∧v = .ref b 0 (xl ltD (rawM m us vs)).length c∧S'=[.cells b (((xl ltD (rawM m us vs)).map dgR).flatten++Y) 47]))∨(zO m=false∧v = .slice .zero []∧S'=[])
def CheckT (m:MModule) (v:V) (S':Hp):Prop:=S'=[]∧((zO m=true∧∃ us vs t,Threads m m.threads us vs∧v = .slice t ((xl ltD (rawM m us vs)).map dgR))∨(zO m=false∧v = .slice .zero []))
theorem leads_low {L:Nat} (hL:L≤8) (es:List (Nat×Nat)):∀ n,Low (iter (wT es) n (xI L))
 | 0=>zE4 hL
 | n+1=>by rw [uP]; exact zAV es (leads_low hL es n)
theorem leads_len (L:Nat) (es:List (Nat×Nat)):∀ n,(iter (wT es) n (xI L)).length=L
 | 0=>by show (xI L).length=L; unfold xI; simp
 | n+1=>by rw [uP,zBH]; exact leads_len L es n
section
variable [Drw] (hT:TabOk tab Tryz.prog)
include hT
theorem compact0:Pure Tryz.prog 48 [.slice .zero []] (.slice .zero []):=by
 refine VC.code hT 61 rfl rfl rfl rfl fun F w S0=>?_
 refine gz hT rfl ?_;conv=>whnf
 refine zB rfl (zK hT rfl rfl rfl rfl rfl rfl rfl) ?_
 refine gz hT rfl ?_;conv=>whnf
 refine zC rfl (fun _=>?_) (fun h=>absurd h (by decide))
 refine gz hT rfl ?_;conv=>whnf
 exact zQ (.tmp rfl .nil) rfl
set_option maxRecDepth 100000 in
set_option maxHeartbeats 4000000 in
theorem checkQ (m:MModule) (hs:Small m):VC Tryz.prog 17 [.agg (ze m)] [] (CheckQ m):=by
 refine VC.code hT 79 rfl rfl rfl rfl fun F w S0=>?_
 refine gz hT rfl ?_;conv=>whnf
 refine zA rfl (zN rfl rfl rfl ?_)
 refine gz hT rfl ?_;conv=>whnf
 refine zA rfl (yl hT rfl rfl rfl rfl rfl rfl (findE hT m hs) ?_)
 rintro _ (⟨hr,us,vs,hth,rfl⟩ | ⟨hr,rfl⟩)
 case inr =>
  refine gz hT rfl ?_;conv=>whnf
  refine zA rfl (zX hT rfl rfl rfl fun b4=>?_)
  refine gz hT rfl ?_;conv=>whnf
  refine zA rfl (zI (cs':=yY [] []) hT rfl rfl rfl .here rfl ?_)
  refine yC (.drop (.refl _)) ?_
  refine gz hT rfl ?_;conv=>whnf
  refine zC rfl (fun h=>?_) (fun h=>?_)
  ·refine gz hT rfl ?_;conv=>whnf
   exact zQ (.tmp rfl .nil) (.inr ⟨hr,rfl,rfl⟩)
  ·exact absurd h (by decide)
 have hL:=(xB (by simp only [zO,Bool.and_eq_true] at hr; exact hr.1)).1
 have tk:=qy hs hr hth
 have hso:∀ s∈zZ m us vs,StopOk m s:=fun s h=>stop_ok hs hr hth h
 have hsl:=zCq hs hr hth
 rw [← zAm]
 have hlt:=kv m.locks.length (zZ m us vs)
 have hlen:=kx hL (zZ m us vs)
 refine gz hT rfl ?_;conv=>whnf
 refine zA rfl (zX hT rfl rfl rfl fun b4=>?_)
 refine gz hT rfl ?_;conv=>whnf
 refine zA rfl (zI (cs':=yY us vs) hT rfl rfl rfl .here rfl ?_)
 refine zo (t:=4) rfl ?_
 refine gz hT rfl ?_;conv=>whnf
 refine zC rfl (fun h=>?_) (fun h=>?_)
 ·exact absurd h (by decide)
 refine gz hT rfl ?_;conv=>whnf
 refine zB rfl (zK hT rfl rfl rfl rfl rfl rfl (List.length_map _)) ?_
 refine gz hT rfl ?_;conv=>whnf
 refine zA rfl (zR hT rfl rfl rfl rfl rfl rfl (leadsP hT m.locks.length hL (ye m.locks.length (zZ m us vs)) hlt (by omega)) ?_)
 have hlow:Low (uZ m.locks.length (ye m.locks.length (zZ m us vs))):=leads_low hL _ _
 have hlb:(uZ m.locks.length (ye m.locks.length (zZ m us vs))).length=m.locks.length:=leads_len _ _ _
 generalize hto0:uZ m.locks.length (ye m.locks.length (zZ m us vs))=to at hlow hlb
 have hraw:rawM m us vs=yV m to (zZ m us vs):=by unfold rawM; rw [hto0]
 refine gz hT rfl ?_;conv=>whnf
 refine zA rfl (zX hT rfl rfl rfl fun b6=>?_)
 refine gz hT rfl ?_;conv=>whnf
 refine zA rfl (zI (cs':=[.slice .no (to.map natR)]) hT rfl rfl rfl .here rfl ?_)
 refine zo (t:=6) rfl ?_
 refine gz hT rfl ?_;conv=>whnf
 refine zA rfl (zX hT rfl rfl rfl fun b7=>?_)
 refine gz hT rfl ?_;conv=>whnf
 refine zA rfl (zR hT rfl rfl rfl rfl rfl rfl (stopsOf hT m us vs) ?_)
 refine gz hT rfl ?_;conv=>whnf
 refine zBJ hT rfl rfl rfl rfl rfl fun l L hL'=>?_
 refine (stops1 hT l m us vs tk (lens_ok hs hr hth) (fun pre S=>∃ v R,ColD (yV m to pre) v R∧S=[.loop false l L,.cells b7 [v] 37]++R) ?_ _ ⟨_,[],.inl ⟨rfl,rfl,rfl⟩,rfl⟩).mono ?_
 ·rintro pre ⟨⟨ok,oa,o2,o3,o4,o5,o6,o7,oargs,onext,oels,oat⟩,p⟩ S1 ⟨v,R,hc,rfl⟩ hmem hle
  have so:=hso _ hmem
  obtain ⟨u,q,e,hv⟩:=so.held
  have hu:=so.low
  have hk:=so.kind
  obtain ⟨ha0,ha1⟩:=so.lock
  dsimp only at e hu hk ha0 ha1
  subst e
  obtain ⟨A,rfl⟩:∃ A:Nat,oa=A:=⟨oa.toNat,by omega⟩
  have hA:A < m.locks.length:=by omega
  have hu8:u < 256:=by omega
  have hq8:q < 256:=yi fun i hi=>by have:=hv i hi; omega
  refine VY.ofL hL' .here rfl rfl fun m0 F w S0=>?_
  refine gz hT rfl ?_;conv=>whnf
  refine zA rfl (zX hT rfl rfl rfl fun b8=>?_)
  refine gz hT rfl ?_;conv=>whnf
  refine zA rfl (zI (cs':=stpV (⟨ok,A,o2,o3,o4,o5,o6,o7,oargs,onext,oels,oat⟩,(u:Int),(q:Int))) hT rfl rfl rfl .here rfl ?_)
  refine gz hT rfl ?_;conv=>whnf
  refine ⟨rfl,_,.there .here,fun F w S0 ds=>?_⟩
  have hnm:wz m ((A:Nat):Int)=m.locks[A]:=by unfold wz; rw [Int.toNat_natCast,List.getElem?_eq_getElem hA]; rfl
  have hpl:(yV m to pre).length≤pre.length:=kB m to pre
  have hle2:pre.length+1≤(zZ m us vs).length:=by simpa using hle
  refine gz hT rfl ?_;conv=>whnf
  intro id
  refine zBD (t:=8) rfl .here ?_
  refine wJ (.drop (.refl _)) ?_
  refine zd hT rfl rfl ?_ id
  repeat' (first
   | (refine god hT 1 rfl ?_;conv=>whnf)
   | refine zV rfl ?_
   | refine q_g rfl (fun S'=>(zK hT rfl rfl rfl rfl rfl rfl (List.length_map _)).qs) ?_
   | refine zk rfl rfl rfl rfl (fun h=>?_) (fun h=>?_)
   | refine q_g rfl (fun S'=>(zJ (i:=A) (xs:=m.locks) (g:=vi) hT rfl rfl rfl rfl rfl hA rfl).qs) ?_)
  refine zS rfl (eff rfl rfl (zX hT rfl rfl rfl fun b9=>⟨trivial,?_⟩))
  refine god hT 1 rfl ?_;conv=>whnf
  refine zS rfl (eff rfl rfl (zI (cs':=[.int .i64 oat,.int .i64 0,.str m.locks[A]]) hT rfl rfl rfl .here rfl (And.intro trivial ?_)))
  refine god hT 1 rfl ?_;conv=>whnf
  refine zV rfl ?_
  refine gz hT rfl ?_;conv=>whnf
  refine zG rfl rfl rfl rfl (fun h17=>?_) (fun h17=>?_)
  ·simp only [decide_eq_true_eq] at h17
   subst h17
   refine gz hT rfl ?_;conv=>whnf
   refine zA rfl (zR hT rfl rfl rfl rfl rfl rfl (hasP hT u A hu8 (by omega)) ?_)
   refine gz hT rfl ?_;conv=>whnf
   refine zC rfl (fun hh=>?_) (fun hh=>?_)
   ·have hw:w5 m to (⟨17,(A:Int),o2,o3,o4,o5,o6,o7,oargs,onext,oels,oat⟩,(u:Int),(q:Int))=[(oat,80,m.locks[A])]:=by
     unfold w5
     rw [if_pos ⟨rfl,by unfold vl; dsimp only; rw [Int.toNat_natCast,Int.toNat_natCast]; simpa using hh⟩]
     dsimp only
     rw [hnm]
    refine gz hT rfl ?_;conv=>whnf
    refine zA rfl (zI (cs':=[.int .i64 oat,.int .i64 80,.str m.locks[A]]) hT rfl rfl rfl .here rfl ?_)
    rcases hc with ⟨hD,rfl,rfl⟩ | ⟨hne,b',c,r,rfl,hcr,rfl⟩
    ·refine gz hT rfl ?_;conv=>whnf
     refine zB rfl (zT hT rfl rfl (.there (.there .here)) rfl) ?_
     refine gz hT rfl ?_;conv=>whnf
     refine zB rfl (zT hT rfl rfl .here rfl) ?_
     refine gz hT rfl ?_;conv=>whnf
     refine zA rfl (zH hT rfl rfl rfl rfl rfl rfl rfl rfl ?_)
     refine gz hT rfl ?_;conv=>whnf
     refine yC (.no (.drop (.refl _))) ?_
     refine zA rfl (qQ hT rfl rfl rfl rfl rfl rfl rfl rfl rfl rfl .here (fun r hr=>by rw [List.mem_singleton.1 hr]; rfl) Nat.zero_lt_one (by show 1 < _; omega) fun b' c' r' hcr=>?_)
     refine gz hT rfl ?_;conv=>whnf
     refine zA rfl (zI (cs':=[.ref b' 0 1 c']) hT rfl rfl rfl (.there (.there .here)) rfl ?_)
     refine vj (rot3 _ _ _) ?_
     refine gz hT rfl ?_;conv=>whnf
     refine ⟨rfl,_,.here,rfl,.ref b' 0 1 c',_,.inr ⟨by rw [yG,hw]; simp,b',c',r',by rw [yG,hD,hw]; rfl,by rw [yG,hD,hw]; exact hcr,rfl⟩,?_⟩
     rw [yG,hD,hw]
     rfl
    ·refine gz hT rfl ?_;conv=>whnf
     refine zB rfl (zT hT rfl rfl (.there (.there .here)) rfl) ?_
     refine gz hT rfl ?_;conv=>whnf
     refine zB rfl (zT hT rfl rfl .here rfl) ?_
     refine gz hT rfl ?_;conv=>whnf
     refine zA rfl (zH hT rfl rfl rfl rfl rfl rfl rfl rfl ?_)
     refine gz hT rfl ?_;conv=>whnf
     refine yC (.drop (.refl _)) ?_
     have hcl:(((yV m to pre).map dgR).flatten).length=(yV m to pre).length * 3:=by
      have:=(yT ((yV m to pre).map dgR) (sz:=3) (zCp _)).1
      rwa [List.length_map] at this
     refine zA rfl (qR hT rfl rfl rfl rfl rfl rfl rfl rfl rfl rfl (.there (.there .here)) hcl hcr (fun r hr=>by rw [List.mem_singleton.1 hr]; rfl) (fun r hr=>by rw [List.mem_singleton.1 hr]; rfl) (by show (yV m to pre).length+1 < _; omega) fun b' c' r' hcr=>?_)
     refine gz hT rfl ?_;conv=>whnf
     refine zA rfl (zI (cs':=[.ref b' 0 ((yV m to pre).length+1) c']) hT rfl rfl rfl (.there .here) rfl ?_)
     refine gz hT rfl ?_;conv=>whnf
     refine ⟨rfl,_,.here,rfl,.ref b' 0 ((yV m to pre).length+1) c',_,.inr ⟨by rw [yG,hw]; simp,b',c',r',by rw [yG,hw,List.length_append]; rfl,by rw [yG,hw,List.length_append]; exact hcr,rfl⟩,?_⟩
     rw [yG,hw,List.map_append,List.flatten_append]
     rfl
   ·have hw:w5 m to (⟨17,(A:Int),o2,o3,o4,o5,o6,o7,oargs,onext,oels,oat⟩,(u:Int),(q:Int))=[]:=by
     unfold w5
     rw [if_neg (fun e=>by
      have e2:=e.2
      unfold vl at e2
      dsimp only at e2
      rw [Int.toNat_natCast,Int.toNat_natCast] at e2
      rw [e2] at hh
      cases hh),if_neg (fun e=>by have e1:=e.1; dsimp only at e1; omega)]
    refine gz hT rfl ?_;conv=>whnf
    intro id
    refine wJ (.drop (.refl _)) ?_
    refine zd hT rfl rfl ?_ id
    repeat' (first
     | (refine god hT 1 rfl ?_;conv=>whnf)
     | refine zV rfl ?_
     | refine q_g rfl (fun S'=>(zK hT rfl rfl rfl rfl rfl rfl (List.length_map _)).qs) ?_
     | refine zk rfl rfl rfl rfl (fun h=>?_) (fun h=>?_)
     | fail)
    ·exact absurd (show (17:Int)=16 from of_decide_eq_true h) (by decide)
    refine gz hT rfl ?_;conv=>whnf
    exact ⟨rfl,_,.here,rfl,v,R,by rw [yG,hw,List.append_nil]; exact hc,rfl⟩
  ·simp only [decide_eq_false_iff_not] at h17
   have h16:ok=16:=hk.resolve_right h17
   subst h16
   refine gz hT rfl ?_;conv=>whnf
   intro id
   refine zd hT rfl rfl ?_ id
   repeat' (first
    | (refine god hT 1 rfl ?_;conv=>whnf)
    | refine zV rfl ?_
    | refine q_g rfl (fun S'=>(zK hT rfl rfl rfl rfl rfl rfl (List.length_map _)).qs) ?_
    | refine zk rfl rfl rfl rfl (fun h=>?_) (fun h=>?_)
    | refine q_g rfl (fun S'=>(zJ (i:=A) (xs:=to) (g:=natR) hT rfl rfl rfl rfl rfl (by omega) rfl).qs) ?_)
   rotate_left
   ·exact absurd (show (16:Int)=16 from rfl) (of_decide_eq_false h)
   have hto:to[A]'(by omega) < 256:=hlow _ (List.getElem_mem _)
   have hga:wt to A=to[A]'(by omega):=getN_of (by omega)
   refine gz hT rfl ?_;conv=>whnf
   refine zC rfl (fun hh=>?_) (fun hh=>?_)
   ·have hh:(!(decide (ym ((q:Nat):Int) ((to[A]'(by omega):Nat):Int)=0)))=true:=hh
    rw [uc hq8 hto] at hh
    have hw:w5 m to (⟨16,(A:Int),o2,o3,o4,o5,o6,o7,oargs,onext,oels,oat⟩,(u:Int),(q:Int))=[(oat,82,m.locks[A])]:=by
     unfold w5
     rw [if_neg (fun e=>by have e1:=e.1; dsimp only at e1; omega),if_pos ⟨rfl,by
      dsimp only
      rw [Int.toNat_natCast,Int.toNat_natCast,hga]
      intro e
      rw [e] at hh
      cases hh⟩]
     dsimp only
     rw [hnm]
    refine gz hT rfl ?_;conv=>whnf
    refine zA rfl (zI (cs':=[.int .i64 oat,.int .i64 82,.str m.locks[A]]) hT rfl rfl rfl .here rfl ?_)
    rcases hc with ⟨hD,rfl,rfl⟩ | ⟨hne,b',c,r,rfl,hcr,rfl⟩
    ·refine gz hT rfl ?_;conv=>whnf
     refine zB rfl (zT hT rfl rfl (.there (.there .here)) rfl) ?_
     refine gz hT rfl ?_;conv=>whnf
     refine zB rfl (zT hT rfl rfl .here rfl) ?_
     refine gz hT rfl ?_;conv=>whnf
     refine zA rfl (zH hT rfl rfl rfl rfl rfl rfl rfl rfl ?_)
     refine gz hT rfl ?_;conv=>whnf
     refine yC (.no (.drop (.refl _))) ?_
     refine zA rfl (qQ hT rfl rfl rfl rfl rfl rfl rfl rfl rfl rfl .here (fun r hr=>by rw [List.mem_singleton.1 hr]; rfl) Nat.zero_lt_one (by show 1 < _; omega) fun b' c' r' hcr=>?_)
     refine gz hT rfl ?_;conv=>whnf
     refine zA rfl (zI (cs':=[.ref b' 0 1 c']) hT rfl rfl rfl (.there (.there .here)) rfl ?_)
     refine vj (rot3 _ _ _) ?_
     refine gz hT rfl ?_;conv=>whnf
     refine ⟨rfl,_,.here,rfl,.ref b' 0 1 c',_,.inr ⟨by rw [yG,hw]; simp,b',c',r',by rw [yG,hD,hw]; rfl,by rw [yG,hD,hw]; exact hcr,rfl⟩,?_⟩
     rw [yG,hD,hw]
     rfl
    ·refine gz hT rfl ?_;conv=>whnf
     refine zB rfl (zT hT rfl rfl (.there (.there .here)) rfl) ?_
     refine gz hT rfl ?_;conv=>whnf
     refine zB rfl (zT hT rfl rfl .here rfl) ?_
     refine gz hT rfl ?_;conv=>whnf
     refine zA rfl (zH hT rfl rfl rfl rfl rfl rfl rfl rfl ?_)
     refine gz hT rfl ?_;conv=>whnf
     refine yC (.drop (.refl _)) ?_
     have hcl:(((yV m to pre).map dgR).flatten).length=(yV m to pre).length * 3:=by
      have:=(yT ((yV m to pre).map dgR) (sz:=3) (zCp _)).1
      rwa [List.length_map] at this
     refine zA rfl (qR hT rfl rfl rfl rfl rfl rfl rfl rfl rfl rfl (.there (.there .here)) hcl hcr (fun r hr=>by rw [List.mem_singleton.1 hr]; rfl) (fun r hr=>by rw [List.mem_singleton.1 hr]; rfl) (by show (yV m to pre).length+1 < _; omega) fun b' c' r' hcr=>?_)
     refine gz hT rfl ?_;conv=>whnf
     refine zA rfl (zI (cs':=[.ref b' 0 ((yV m to pre).length+1) c']) hT rfl rfl rfl (.there .here) rfl ?_)
     refine gz hT rfl ?_;conv=>whnf
     refine ⟨rfl,_,.here,rfl,.ref b' 0 ((yV m to pre).length+1) c',_,.inr ⟨by rw [yG,hw]; simp,b',c',r',by rw [yG,hw,List.length_append]; rfl,by rw [yG,hw,List.length_append]; exact hcr,rfl⟩,?_⟩
     rw [yG,hw,List.map_append,List.flatten_append]
     rfl
   ·have hh:(!(decide (ym ((q:Nat):Int) ((to[A]'(by omega):Nat):Int)=0)))=false:=hh
    rw [uc hq8 hto] at hh
    have hw:w5 m to (⟨16,(A:Int),o2,o3,o4,o5,o6,o7,oargs,onext,oels,oat⟩,(u:Int),(q:Int))=[]:=by
     unfold w5
     rw [if_neg (fun e=>by have e1:=e.1; dsimp only at e1; omega),if_neg (fun e=>by
      have e2:=e.2
      dsimp only at e2
      rw [Int.toNat_natCast,Int.toNat_natCast,hga] at e2
      rw [decide_eq_false (by omega)] at hh
      cases hh)]
    refine wJ (.drop (.refl _)) ?_
    refine gz hT rfl ?_;conv=>whnf
    exact ⟨rfl,_,.here,rfl,v,R,by rw [yG,hw,List.append_nil]; exact hc,rfl⟩
 ·rintro _ S' hj
  obtain ⟨v,R,hc,rfl⟩:=hj
  refine ⟨_,rfl,fun σ' h1 h2=>?_⟩
  obtain ⟨r',m',n',F',w',S0',ds'⟩:=σ'
  dsimp only at h1 h2
  subst h1 h2
  have hwl:(yV m to (zZ m us vs)).length≤200000:=Nat.le_trans (kB m to _) hsl
  have hsd:=zE7 (yV m to (zZ m us vs))
  have hml:=(List.mergeSort_perm (yV m to (zZ m us vs)) fun x y=>!ltD y x).length_eq
  have hsl2:=sortD_len (yV m to (zZ m us vs))
  rcases hc with ⟨hD,rfl,rfl⟩ | ⟨hne,b',c,r,rfl,hcr,rfl⟩
  ·refine gz hT rfl ?_;conv=>whnf
   refine zB rfl (zT hT rfl rfl .here rfl) ?_
   refine gz hT rfl ?_;conv=>whnf
   refine zA rfl (yQ hT rfl rfl rfl rfl rfl rfl ((zDQ Tryz.sortDiags _ _).mono ?_))
   rintro _ S' ⟨rfl,rfl⟩
   refine gz hT rfl ?_;conv=>whnf
   refine zB rfl (zT hT rfl rfl .here rfl) ?_
   refine yC (.drop (.refl _)) ?_
   refine gz hT rfl ?_;conv=>whnf
   refine zA rfl (zR hT rfl rfl rfl rfl rfl rfl (compact0 hT) ?_)
   refine gz hT rfl ?_;conv=>whnf
   exact zQ (.tmp rfl .nil) (.inl ⟨hr,us,vs,hth,.inl ⟨by rw [hraw,hD]; rfl,rfl,rfl⟩⟩)
  ·refine gz hT rfl ?_;conv=>whnf
   refine zB rfl (zT hT rfl rfl .here rfl) ?_
   refine vj (.swap _ _ _) ?_
   refine gz hT rfl ?_;conv=>whnf
   refine zA rfl (yQ hT rfl rfl rfl rfl rfl rfl (((sortDiagsP hT b' (yV m to (zZ m us vs)).length c r (yV m to (zZ m us vs)) rfl (by omega)).frame [.cells b7 [.ref b' 0 (yV m to (zZ m us vs)).length c] 37]).mono ?_))
   rintro _ S' ⟨S1,rfl,rfl,rfl⟩
   rw [ltOf_cfD]
   generalize (yV m to (zZ m us vs)).mergeSort (fun x y=>!ltD y x)=D2 at hsd hml
   refine gz hT rfl ?_;conv=>whnf
   refine zB rfl (zT hT rfl rfl (.there .here) rfl) ?_
   refine yC (.keep (.drop (.refl _))) ?_
   refine gz hT rfl ?_;conv=>whnf
   refine zA rfl (yQ hT rfl rfl rfl rfl rfl rfl ((compactD hT b' (yV m to (zZ m us vs)).length c D2 (List.replicate r .any) hml (by omega) (by omega)).mono ?_))
   rintro _ S' ⟨Y,rfl,rfl⟩
   rw [hsd]
   refine gz hT rfl ?_;conv=>whnf
   exact zQ (.tmp rfl .nil) (.inl ⟨hr,us,vs,hth,.inr ⟨b',c,Y,by rw [hraw]; omega,by rw [hraw]; rfl,by rw [hraw]⟩⟩)
theorem checkE (m:MModule) (hs:Small m):PureR Tryz.prog 17 [.agg (ze m)] (CheckE m):=by
 have h1:VC Tryz.prog 17 [.agg (ze m)] [] (CheckT m):=(checkQ hT m hs).freeze fun v S' h=>by
  rcases h with ⟨hr,us,vs,hth,⟨e,rfl,rfl⟩ | ⟨b,c,Y,hc,rfl,rfl⟩⟩ | ⟨hr,rfl,rfl⟩
  ·exact .inl ⟨rfl,.inl ⟨hr,us,vs,.zero,hth,by rw [e]; rfl⟩⟩
  ·exact .inr ⟨b,_,c,3,(xl ltD (rawM m us vs)).map dgR,Y,_,[],rfl,rfl,zCp _,List.length_map _,hc,rfl,.inl ⟨hr,us,vs,.no,hth,rfl⟩⟩
  ·exact .inl ⟨rfl,.inr ⟨hr,rfl⟩⟩
 exact h1.less (Q':=fun v _=>CheckE m v) fun v S1 hq=>by
  rcases hq with ⟨rfl,⟨hr,us,vs,t,hth,rfl⟩ | ⟨hr,rfl⟩⟩
  ·exact ⟨_,[],V.Le.slice _ _,.refl _,.inl ⟨hr,us,vs,hth,rfl⟩⟩
  ·exact ⟨_,[],V.Le.slice _ _,.refl _,.inr ⟨hr,rfl⟩⟩
end
end Go.Vw
namespace Go.Vw
open Go.RowKit Go.Am Go.Proofs Go.Ord Go.Sort
attribute [local irreducible] yE zv zq VD VDn VDq Ret
theorem Threads.unique {m:MModule}:∀ {fs:List Int} {us vs us' vs':List (List (List Int))},Threads m fs us vs→Threads m fs us' vs'→us=us'∧vs=vs':=fun {fs us vs us' vs'} h=>by
 induction h generalizing us' vs' with
 | nil=>intro k; cases k; exact ⟨rfl,rfl⟩
 | cons h1 _ ih =>
   intro k
   cases k with
   | cons k1 k2 =>
     obtain ⟨e1,e2⟩:=h1.unique k1
     obtain ⟨e3,e4⟩:=ih k2
     exact ⟨by rw [e1,e3],by rw [e2,e4]⟩
section
variable [Drw] (hT:TabOk tab Tryz.prog)
include hT
def EdgesE (m:MModule) (v:V):Prop:=(zO m=true∧∃ us vs,Threads m m.threads us vs∧v = .tup [.slice .no ((ug m.locks.length (zZ m us vs)).map prs),.int .i64 0])∨(zO m=false∧v = .tup [.slice .no [],.int .i64 70])
theorem edgesE (m:MModule) (hs:Small m):PureR Tryz.prog 13 [.agg (ze m)] (EdgesE m):=by
 refine VC.code hT 15 rfl rfl rfl rfl fun F w S0=>?_
 refine gz hT rfl ?_;conv=>whnf
 refine zA rfl (zN rfl rfl rfl ?_)
 refine gz hT rfl ?_;conv=>whnf
 refine zA rfl (yl hT rfl rfl rfl rfl rfl rfl (findE hT m hs) ?_)
 rintro _ (⟨hr,us,vs,hth,rfl⟩ | ⟨hr,rfl⟩)
 ·refine gz hT rfl ?_;conv=>whnf
  refine zA rfl (zX hT rfl rfl rfl fun b5=>?_)
  refine gz hT rfl ?_;conv=>whnf
  refine zA rfl (zI (cs':=yY us vs) hT rfl rfl rfl .here rfl ?_)
  refine gz hT rfl ?_;conv=>whnf
  exact zQ (.tmp rfl (.tmp rfl .nil)) (.inl ⟨hr,us,vs,hth,rfl⟩)
 ·refine gz hT rfl ?_;conv=>whnf
  refine zA rfl (zX hT rfl rfl rfl fun b5=>?_)
  refine gz hT rfl ?_;conv=>whnf
  refine zA rfl (zI (cs':=yY [] []) hT rfl rfl rfl .here rfl ?_)
  refine gz hT rfl ?_;conv=>whnf
  exact zQ (.tmp rfl (.tmp rfl .nil)) (.inr ⟨hr,rfl⟩)
end
end Go.Vw
