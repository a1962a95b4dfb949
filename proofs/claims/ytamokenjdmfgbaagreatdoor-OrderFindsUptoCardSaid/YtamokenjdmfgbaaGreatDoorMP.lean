/- What the document answers of the order of locks; no condition beyond bounds on lengths. -/
import Derived.Test.YtamokenjdmfgbaaGreatDoorME
import Derived.Test.YtamokenjdmfgbaaGreatDoorMG
import Derived.Test.YtamokenjdmfgbaaGreatDoorMO
namespace Go.Vw
open Go.RowKit Go.Am Go.Proofs Go.Ord
attribute [local irreducible] yE zv zq VD VDn VDq Ret
section
variable [Drw] (hT:TabOk tab Tryz.prog)
include hT
theorem sameEdges {t1 t2:Tok} (xs ys:List (Int×Int)) (hl:xs.length < 2000000):Pure Tryz.prog 15 [.slice t1 (xs.map prs),.slice t2 (ys.map prs)] (.ob (decide (xs=ys))):=by
 refine VC.code hT 26 rfl rfl rfl rfl fun F W S0=>?_
 repeat' (first
  | (refine gz hT rfl ?_;conv=>whnf)
  | refine zA rfl (zN rfl rfl rfl ?_)
  | refine zA rfl (zH hT rfl rfl rfl rfl rfl rfl rfl rfl ?_)
  | refine zB rfl (zK hT rfl rfl rfl rfl rfl rfl (List.length_map _)) ?_
  | refine zG rfl rfl rfl rfl (fun h=>?_) (fun h=>?_))
 refine zC rfl (fun h=>?_) (fun h=>?_)
 ·refine gz hT rfl ?_;conv=>whnf
  refine zP rfl rfl rfl ?_
  rw [decide_eq_false fun e=>by subst e; simp at h]
 ·simp only [Bool.not_eq_false',decide_eq_true_eq,Int.ofNat_inj] at h
  refine gz hT rfl ?_;conv=>whnf
  refine zW (fun i:Nat=>([(0,.slice t1 (xs.map prs)),(1,.slice t2 (ys.map prs)),(5,.int .i64 i)],[])) (fun i=>i≤xs.length∧xs.take i=ys.take i) (fun i=>xs.length - i) 0 ⟨Nat.zero_le _,rfl⟩ ⟨⟨lk rfl,lk rfl,lk rfl,trivial⟩,.nil⟩ ?_
  rintro i ⟨hi,ht⟩
  repeat' (first
   | (refine gz hT rfl ?_;conv=>whnf)
   | refine zA rfl (zN rfl rfl rfl ?_)
   | refine zA rfl (zH hT rfl rfl rfl rfl rfl rfl rfl rfl ?_)
   | refine zB rfl (zK hT rfl rfl rfl rfl rfl rfl (List.length_map _)) ?_
   | refine zG rfl rfl rfl rfl (fun h=>?_) (fun h=>?_))
  refine zC rfl (fun hlt=>?_) (fun hlt=>?_)
  ·simp only [decide_eq_true_eq,Int.ofNat_lt] at hlt
   have hlt2:i < ys.length:=by omega
   refine gz hT rfl ?_;conv=>whnf
   intro id
   refine zd hT rfl rfl ?_ id
   repeat' (first
    | (refine god hT 1 rfl ?_;conv=>whnf)
    | refine zV rfl ?_
    | refine q_g rfl (fun S'=>(zK hT rfl rfl rfl rfl rfl rfl (List.length_map _)).qs) ?_
    | refine zk rfl rfl rfl rfl (fun h=>?_) (fun h=>?_)
    | refine q_g rfl (fun S'=>(zJ (xs:=xs) hT rfl rfl rfl rfl rfl hlt rfl).qs) ?_
    | refine q_g rfl (fun S'=>(zJ (xs:=ys) hT rfl rfl rfl rfl rfl hlt2 rfl).qs) ?_)
   refine gz hT rfl ?_;conv=>whnf
   refine zC rfl (fun hne=>?_) (fun hne=>?_)
   ·refine gz hT rfl ?_;conv=>whnf
    refine zP rfl rfl rfl ?_
    rw [decide_eq_false fun e=>by subst e; simp at hne]
   ·have he:xs[i]=ys[i]:=by
     simp only [Bool.and_true,Bool.not_eq_false',Bool.and_eq_true,decide_eq_true_eq] at hne
     exact Prod.ext hne.1 hne.2
    refine gz hT rfl ?_;conv=>whnf
    refine zB rfl (zU rfl rfl rfl (by omega)) ?_
    refine gz hT rfl ?_;conv=>whnf
    exact ⟨i+1,⟨hlt,take_same hlt hlt2 ht he⟩,by omega,⟨lk rfl,lk rfl,lk rfl,trivial⟩,.nil⟩
  ·simp only [decide_eq_false_iff_not,Int.ofNat_lt] at hlt
   refine gz hT rfl ?_;conv=>whnf
   refine zP rfl rfl rfl ?_
   rw [decide_eq_true (take_all hlt h ht)]
end
end Go.Vw
namespace Go.Vw
open Go.RowKit Go.Am Go.Proofs Go.Ord Go.Sort
theorem cell_nat {L:Nat} {u v:Int} (hL:L≤8) (h:CellOk L u v):(u = -1∧v = -1)∨∃ a b:Nat,u=a∧v=b∧a < 256∧b < 256:=by
 rcases h with h | ⟨c1,c2,c3,c4⟩
 ·exact .inl h
 ·obtain ⟨w,hw,hw2⟩:=andI_all hL c4
  have hw3:w < 256:=Nat.lt_of_lt_of_le hw2 (Nat.pow_le_pow_right (by omega) hL)
  have:=andI_low hw3 (by rw [← hw]; exact c3)
  exact .inr ⟨u.toNat,w,by omega,hw,by omega,hw3⟩
theorem edgeL_app (a b:List Stp) (l k:Nat):xm (a++b) l k=(xm a l k || xm b l k):=List.any_append
def stopO (o:MOp) (u v:Int):List Stp:=if vk o v then [(o,u,v)] else []
theorem edgeL_no {o:MOp} {u:Int} {l k:Nat}:xm (stopO o u (-1)) l k=false:=rfl
theorem edgeL_op {o:MOp} {u:Int} {b l k:Nat}:xm (stopO o u (b:Int)) l k=(decide (o.kind=16) && (decide (o.a=(k:Int)) && b.testBit l)):=by
 unfold stopO vk
 rw [decide_eq_true (Int.natCast_nonneg b),Bool.true_and]
 cases h:decide (o.kind=16)
 ·rw [Bool.false_or,Bool.false_and]
  split
  ·show (decide (o.kind=16) && _ || false)=false
   rw [h]; rfl
  ·rfl
 ·rw [Bool.true_or,if_pos rfl]
  show (decide (o.kind=16) && (decide (o.a=(k:Int)) && vl (b:Int) l) || false)=_
  rw [h,Bool.or_false]
  rfl
theorem stopF_op (m:MModule) (f:Nat) (u v:List Int) (n:Nat) (h1:n < u.length) (h2:n < v.length):xP m f u v (n+1)=xP m f u v n++stopO (qx m f n) u[n] v[n]:=vM m f u v n h1 h2
def qG (m:MModule) (R:Nat→Nat→Bool) (o:MOp) (v:Int) (l:Nat):List yj:=(List.range l).flatMap fun l=>if vl v l && R o.a.toNat l then [(o.at_,82,wz m o.a)] else []
def wC (m:MModule) (o:MOp) (u:Int):List yj:=if o.kind=17∧vl u o.a.toNat=false then [(o.at_,80,wz m o.a)] else []
theorem zDb (m:MModule) (R:Nat→Nat→Bool) (o:MOp) (v:Int) (l:Nat):qG m R o v (l+1)=qG m R o v l++(if vl v l && R o.a.toNat l then [(o.at_,82,wz m o.a)] else []):=by unfold qG; rw [wL]
theorem zCt (m:MModule) (R:Nat→Nat→Bool) (o:MOp) (u v:Int):xF m R (o,u,v)=wC m o u++(if o.kind=16 then qG m R o v m.locks.length else []):=rfl
theorem wrong_no {m:MModule} {R:Nat→Nat→Bool} {o:MOp} {u:Int}:(stopO o u (-1)).flatMap (xF m R)=[]:=rfl
theorem wrong_op {m:MModule} {R:Nat→Nat→Bool} {o:MOp} {u:Int} {b:Nat}:(stopO o u (b:Int)).flatMap (xF m R)=wC m o u++(if o.kind=16 then qG m R o b m.locks.length else []):=by
 unfold stopO vk
 rw [decide_eq_true (Int.natCast_nonneg b),Bool.true_and]
 by_cases h1:o.kind=16
 ·rw [decide_eq_true h1,Bool.true_or,if_pos rfl,List.flatMap_cons,List.flatMap_nil,List.append_nil,zCt]
 ·by_cases h2:o.kind=17
  ·rw [decide_eq_true h2,Bool.or_true,if_pos rfl,List.flatMap_cons,List.flatMap_nil,List.append_nil,zCt]
  ·have hu:wC m o u=[]:=by unfold wC; exact if_neg fun e=>h2 e.1
   rw [hu]
   simp [h1,h2]
theorem zBQ (m:MModule) (R:Nat→Nat→Bool) (o:MOp) (v:Int):∀ l,(qG m R o v l).length≤l
 | 0=>Nat.le_refl _
 | l+1=>by
   rw [zDb,List.length_append]
   have:=zBQ m R o v l
   split
   ·rw [List.length_singleton]; omega
   ·rw [List.length_nil]; omega
theorem zFI {m:MModule} (hL:m.locks.length≤8) (R:Nat→Nat→Bool):∀ ss:List Stp,(ss.flatMap (xF m R)).length≤9 * ss.length
 | []=>Nat.le_refl _
 | (o,u,v)::ss=>by
   rw [List.flatMap_cons,List.length_append,List.length_cons,zCt,List.length_append]
   have h1:=zFI hL R ss
   have h2:(wC m o u).length≤1:=by unfold wC; split <;> simp
   have h3:(if o.kind=16 then qG m R o v m.locks.length else []).length≤8:=by
    split
    ·exact Nat.le_trans (zBQ m R o v _) hL
    ·simp
   omega
theorem flatMap_pre {α β:Type} {g:α→List β} {a b:List α} (h:a <+: b):(a.flatMap g).length≤(b.flatMap g).length:=by
 obtain ⟨t,rfl⟩:=h
 rw [List.flatMap_append,List.length_append]; omega
theorem stopF_pre (m:MModule) (f:Nat) (u v:List Int) {n k:Nat} (h:n≤k):xP m f u v n <+: xP m f u v k:=by
 obtain ⟨d,rfl⟩:=Nat.le.dest h
 unfold xP
 rw [List.range_add,List.flatMap_append]
 exact ⟨_,rfl⟩
theorem stopT_pre (m:MModule) (us vs:List (List Int)) {n k:Nat} (h:n≤k):yv m us vs n <+: yv m us vs k:=by
 obtain ⟨d,rfl⟩:=Nat.le.dest h
 unfold yv
 rw [List.range_add,List.flatMap_append]
 exact ⟨_,rfl⟩
theorem stopM_pre (m:MModule) (us vs:List (List (List Int))) {n k:Nat} (h:n≤k):yd m us vs n <+: yd m us vs k:=by
 obtain ⟨d,rfl⟩:=Nat.le.dest h
 unfold yd
 rw [List.range_add,List.flatMap_append]
 exact ⟨_,rfl⟩
theorem pre_all (m:MModule) (us vs:List (List (List Int))) (t f n:Nat) (h1:t < us.length) (h2:t < vs.length) (h3:f < us[t].length) (h4:f < vs[t].length) (h5:n≤vs[t][f].length) :
  yd m us vs t++(yv m us[t] vs[t] f++xP m f us[t][f] vs[t][f] n) <+: zZ m us vs:=by
 have e1:yd m us vs t++yv m us[t] vs[t] vs[t].length <+: zZ m us vs:=by
  rw [← uf m us vs t h1 h2]; exact stopM_pre m us vs h2
 have e2:yv m us[t] vs[t] f++xP m f us[t][f] vs[t][f] vs[t][f].length <+: yv m us[t] vs[t] vs[t].length:=by
  rw [← ue m us[t] vs[t] f h3 h4]; exact stopT_pre m us[t] vs[t] h4
 have e3:xP m f us[t][f] vs[t][f] n <+: xP m f us[t][f] vs[t][f] vs[t][f].length:=stopF_pre m f _ _ h5
 obtain ⟨a,ha⟩:=e3
 obtain ⟨b,hb⟩:=e2
 obtain ⟨c,hc⟩:=e1
 refine ⟨a++(b++c),?_⟩
 rw [← hc,← hb,← ha]
 simp only [List.append_assoc]
theorem insR_len {α:Type} [DecidableEq α] (lt:α→α→Bool) (d:α):∀ (b:Bool) (l:List α),(uE lt d b l).length≤l.length+(if b then 0 else 1)
 | b,[]=>by cases b <;> simp [uE]
 | b,x::r=>by
   unfold uE
   have h:=insR_len lt d (b || lt d x || decide (x=d)) r
   rw [List.length_append,List.length_cons,List.length_cons]
   cases b
   ·cases h1:lt d x
    ·simp only [Bool.not_false,Bool.and_false,Bool.false_eq_true,if_false,List.length_nil]
     have:(if (false || lt d x || decide (x=d))=true then 0 else 1)≤1:=by split <;> omega
     rw [h1] at h this
     omega
    ·rw [h1] at h
     simp only [Bool.not_false,Bool.and_true,if_true,List.length_singleton,Bool.false_or,Bool.true_or,Bool.false_eq_true,if_false] at h ⊢
     omega
   ·simp only [Bool.not_true,Bool.false_and,Bool.false_eq_true,if_false,List.length_nil,Bool.true_or,if_true] at h ⊢
    omega
theorem zFK {α:Type} [DecidableEq α] (lt:α→α→Bool) (l:List α) (i:Nat) (h:i < l.length):xl lt (l.take (i+1))=uE lt l[i] false (xl lt (l.take i)):=by
 unfold xl
 rw [List.take_succ_eq_append_getElem h,List.foldl_append]
 rfl
theorem sortR_len {α:Type} [DecidableEq α] (lt:α→α→Bool) (l:List α):∀ i,i≤l.length→(xl lt (l.take i)).length≤i
 | 0,_=>by simp [xl]
 | i+1,h=>by
   rw [zFK lt l i h]
   have h1:=insR_len lt l[i] false (xl lt (l.take i))
   have h2:=sortR_len lt l i (by omega)
   simp only [Bool.false_eq_true,if_false] at h1
   omega
theorem insR_step {α:Type} [DecidableEq α] (lt:α→α→Bool) (d:α) (b:Bool) (l:List α) (k:Nat) (h:k < l.length):uE lt d b (l.drop k)=(if !b && lt d l[k] then [d] else [])++l[k]::uE lt d (b || lt d l[k] || decide (l[k]=d)) (l.drop (k+1)):=by
 rw [List.drop_eq_getElem_cons h]
 rfl
theorem raw_same {m:MModule} (hs:Small m) (hr:zO m=true) {us vs:List (List (List Int))} (hth:Threads m m.threads us vs) :
  xl ltD ((zZ m us vs).flatMap (xF m (wu m.locks.length (ye m.locks.length (zZ m us vs)))))=xl ltD (rawM m us vs):=by
 obtain ⟨a1,a2⟩:=zBI tot_ltD ((zZ m us vs).flatMap (xF m (wu m.locks.length (ye m.locks.length (zZ m us vs)))))
 obtain ⟨b1,b2⟩:=zBI tot_ltD (rawM m us vs)
 refine SSorted.unique tot_ltD a1 b1 fun x=>?_
 rw [a2,b2]
 exact (wrong_same (kv _ _) (fun s h=>stop_ok hs hr hth h) x).symm
end Go.Vw
namespace Go.Vw
open Go.RowKit Go.Am Go.Proofs Go.Ord Go.Sort
attribute [local irreducible] yE zv zq VD VDn VDq Ret
section
variable [Drw] (hT:TabOk tab Tryz.prog)
include hT
set_option maxRecDepth 100000 in
set_option maxHeartbeats 2000000 in
theorem zFL {t1 t2:Tok} (xs:List yj) (hl:xs.length < 2000000):Pure Tryz.prog 16 [.slice t1 (xs.map dgR),.slice t2 (xs.map dgR)] (.ob true):=by
 refine VC.code hT 54 rfl rfl rfl rfl fun F W S0=>?_
 repeat' (first
  | (refine gz hT rfl ?_;conv=>whnf)
  | refine zA rfl (zN rfl rfl rfl ?_)
  | refine zA rfl (zH hT rfl rfl rfl rfl rfl rfl rfl rfl ?_)
  | refine zB rfl (zK hT rfl rfl rfl rfl rfl rfl (List.length_map _)) ?_
  | refine zG rfl rfl rfl rfl (fun h=>?_) (fun h=>?_))
 refine zC rfl (fun h=>by simp at h) (fun _=>?_)
 refine gz hT rfl ?_;conv=>whnf
 refine zW (fun i:Nat=>([(0,.slice t1 (xs.map dgR)),(1,.slice t2 (xs.map dgR)),(5,.int .i64 i)],[])) (fun i=>i≤xs.length) (fun i=>xs.length - i) 0 (Nat.zero_le _) ⟨⟨lk rfl,lk rfl,lk rfl,trivial⟩,.nil⟩ ?_
 intro i hi
 repeat' (first
  | (refine gz hT rfl ?_;conv=>whnf)
  | refine zA rfl (zN rfl rfl rfl ?_)
  | refine zA rfl (zH hT rfl rfl rfl rfl rfl rfl rfl rfl ?_)
  | refine zB rfl (zK hT rfl rfl rfl rfl rfl rfl (List.length_map _)) ?_
  | refine zG rfl rfl rfl rfl (fun h=>?_) (fun h=>?_))
 refine zC rfl (fun hlt=>?_) (fun hlt=>?_)
 ·simp only [decide_eq_true_eq,Int.ofNat_lt] at hlt
  refine gz hT rfl ?_;conv=>whnf
  intro id
  refine zd hT rfl rfl ?_ id
  repeat' (first
   | (refine god hT 2 rfl ?_;conv=>whnf)
   | refine zV rfl ?_
   | refine q_g rfl (fun S'=>(zK hT rfl rfl rfl rfl rfl rfl (List.length_map _)).qs) ?_
   | refine zk rfl rfl rfl rfl (fun h=>?_) (fun h=>?_)
   | (exfalso; simp at h; done)
   | refine q_g rfl (fun S'=>(zJ (xs:=xs) hT rfl rfl rfl rfl rfl hlt rfl).qs) ?_)
  refine gz hT rfl ?_;conv=>whnf
  refine zC rfl (fun hne=>by simp at hne) (fun _=>?_)
  refine gz hT rfl ?_;conv=>whnf
  refine zB rfl (zU rfl rfl rfl (by omega)) ?_
  refine gz hT rfl ?_;conv=>whnf
  exact ⟨i+1,hlt,by omega,⟨lk rfl,lk rfl,lk rfl,trivial⟩,.nil⟩
 ·refine gz hT rfl ?_;conv=>whnf
  exact zP rfl rfl rfl rfl
omit hT [Drw] in
theorem dg_one (l:List yj) (d:yj):l.map dgR++[dgR d]=(l++[d]).map dgR:=by rw [List.map_append]; rfl
omit hT [Drw] in
theorem eq_dg (a b:Int) (c:ByteArray) (d e:Int) (f:ByteArray):decide (((a,b,c):yj)=(d,e,f))=(decide (a=d) && (decide (b=e) && decide (c=f))):=by
 rw [Bool.eq_iff_iff]
 simp
set_option maxRecDepth 100000 in
set_option maxHeartbeats 4000000 in
theorem sortedRef {t:Tok} (D:List yj) (hl:D.length < 2000000):Pure Tryz.prog 50 [.slice t (D.map dgR)] (.slice .no ((xl ltD D).map dgR)):=by
 refine VC.code hT 104 rfl rfl rfl rfl fun F W S0=>?_
 refine gz hT rfl ?_;conv=>whnf
 refine zA rfl (yZ hT rfl rfl rfl rfl rfl rfl rfl rfl fun t3 ht3=>?_)
 refine gz hT rfl ?_;conv=>whnf
 refine zW (fun x:Nat×Tok=>([(0,.slice t (D.map dgR)),(3,.slice x.2 ((xl ltD (D.take x.1)).map dgR)),(4,.int .i64 (x.1:Int))],[.tl x.2])) (fun x=>x.1≤D.length∧xg 3 x.2=true) (fun x=>D.length - x.1) (0,t3) ⟨Nat.zero_le _,ht3⟩ ⟨⟨lk rfl,lk rfl,lk rfl,trivial⟩,.refl _⟩ ?_
 rintro ⟨i,t3⟩ ⟨hi,ht3⟩
 dsimp only at hi ht3
 refine gz hT rfl ?_;conv=>whnf
 refine zB rfl (zK hT rfl rfl rfl rfl rfl rfl (List.length_map _)) ?_
 refine gz hT rfl ?_;conv=>whnf
 refine zC rfl (fun hlt=>?_) (fun hlt=>?_)
 ·simp only [decide_eq_true_eq,Int.ofNat_lt] at hlt
  have hol:=sortR_len ltD D i hi
  have hst:=zFK ltD D i hlt
  generalize xl ltD (D.take i)=out at hol hst
  obtain ⟨⟨da,dc,dn⟩,hd⟩:∃ d,D[i]?=some d:=⟨_,List.getElem?_eq_getElem hlt⟩
  have hget:(D.map dgR)[((i:Nat):Int).toNat]?=some (dgR (da,dc,dn)):=by rw [Int.toNat_natCast,List.getElem?_map,hd]; rfl
  have hdi:D[i]=(da,dc,dn):=by rw [List.getElem?_eq_getElem hlt] at hd; exact Option.some.inj hd
  rw [hdi] at hst
  have hil:=insR_len ltD (da,dc,dn) false out
  simp only [Bool.false_eq_true,if_false] at hil
  refine gz hT rfl ?_;conv=>whnf
  refine zB rfl (zr hT rfl rfl rfl rfl rfl (Int.natCast_nonneg _) hget rfl) ?_
  refine gz hT rfl ?_;conv=>whnf
  refine zA rfl (zX hT rfl rfl rfl fun b5=>?_)
  refine gz hT rfl ?_;conv=>whnf
  refine zA rfl (zI (cs':=dgR (da,dc,dn)) hT rfl rfl rfl .here rfl ?_)
  refine zo (t:=5) rfl ?_
  refine gz hT rfl ?_;conv=>whnf
  refine zA rfl (yZ hT rfl rfl rfl rfl rfl rfl rfl rfl fun t6 ht6=>?_)
  refine gz hT rfl ?_;conv=>whnf
  refine zW (fun x:Nat×Bool×List yj×Tok=>([(0,.slice t (D.map dgR)),(3,.slice t3 (out.map dgR)),(4,.int .i64 (i:Int)),(5,.pin (dgR (da,dc,dn)) 0),(6,.slice x.2.2.2 (x.2.2.1.map dgR)),(7,.ob x.2.1),(8,.int .i64 (x.1:Int))],[.tl x.2.2.2])) (fun x=>x.1≤out.length∧xg 3 x.2.2.2=true∧x.2.2.1++uE ltD (da,dc,dn) x.2.1 (out.drop x.1)=uE ltD (da,dc,dn) false out) (fun x=>out.length - x.1) (0,false,[],t6) ⟨Nat.zero_le _,ht6,rfl⟩ ⟨⟨lk rfl,lk rfl,lk rfl,lk rfl,lk rfl,⟨_,rfl,wZ rfl⟩,lk rfl,trivial⟩,.keep .nil⟩ ?_
  rintro ⟨k,put,nx,t6⟩ ⟨hk,ht6,hinv⟩
  dsimp only at hk ht6 hinv
  have hnl:nx.length≤out.length+1:=by
   have:=congrArg List.length hinv
   rw [List.length_append] at this
   omega
  refine gz hT rfl ?_;conv=>whnf
  refine zB rfl (zK hT rfl rfl rfl rfl rfl rfl (List.length_map _)) ?_
  refine gz hT rfl ?_;conv=>whnf
  refine zC rfl (fun hltk=>?_) (fun hltk=>?_)
  ·simp only [decide_eq_true_eq,Int.ofNat_lt] at hltk
   have hstep:=insR_step ltD (da,dc,dn) put out k hltk
   obtain ⟨⟨xa,xc,xn⟩,hx⟩:∃ d,out[k]?=some d:=⟨_,List.getElem?_eq_getElem hltk⟩
   have hgetx:(out.map dgR)[((k:Nat):Int).toNat]?=some (dgR (xa,xc,xn)):=by rw [Int.toNat_natCast,List.getElem?_map,hx]; rfl
   have hxk:out[k]=(xa,xc,xn):=by rw [List.getElem?_eq_getElem hltk] at hx; exact Option.some.inj hx
   rw [hxk] at hstep
   rw [hstep,← List.append_assoc] at hinv
   refine gz hT rfl ?_;conv=>whnf
   refine zB rfl (zr hT rfl rfl rfl rfl rfl (Int.natCast_nonneg _) hgetx rfl) ?_
   refine gz hT rfl ?_;conv=>whnf
   refine zA rfl (zX hT rfl rfl rfl fun b9=>?_)
   refine gz hT rfl ?_;conv=>whnf
   refine zA rfl (zI (cs':=dgR (xa,xc,xn)) hT rfl rfl rfl .here rfl ?_)
   refine zo (t:=9) rfl ?_
   clear hstep hst hget hdi hd hx hgetx hxk ht3
   refine ops_nil (zAM (run_seq ?_))
   refine run_cut (fun y:Bool×List yj×Tok=>([(0,.slice t (D.map dgR)),(3,.slice t3 (out.map dgR)),(4,.int .i64 (i:Int)),(5,.pin (dgR (da,dc,dn)) 0),(6,.slice y.2.2 (y.2.1.map dgR)),(7,.ob y.1),(8,.int .i64 (k:Int)),(9,.pin (dgR (xa,xc,xn)) 0)],[.tl y.2.2])) (fun y=>xg 3 y.2.2=true∧y.1=(put || ltD (da,dc,dn) (xa,xc,xn))∧y.2.1=nx++(if !put && ltD (da,dc,dn) (xa,xc,xn) then [(da,dc,dn)] else [])) ?_ ?_
   ·clear hinv
    cases put with
    | true =>
      refine gz hT rfl ?_;conv=>whnf
      refine zG rfl rfl rfl rfl (fun h=>by simp at h) (fun _=>?_)
      refine gz hT rfl ?_;conv=>whnf
      exact ⟨(true,nx,t6),⟨ht6,rfl,(List.append_nil _).symm⟩,⟨lk rfl,lk rfl,lk rfl,lk rfl,lk rfl,⟨_,rfl,wZ rfl⟩,lk rfl,lk rfl,trivial⟩,.refl _⟩
    | false =>
      have hlt:ltD (da,dc,dn) (xa,xc,xn)=(decide (da < xa) || (decide (da=xa) && (decide (dc < xc) || (decide (dc=xc) && Am.lessB (Am.bytes dn) (Am.bytes xn))))):=rfl
      refine gz hT rfl ?_;conv=>whnf
      refine zG rfl rfl rfl rfl (fun _=>?_) (fun h=>by simp at h)
      repeat' (first
       | (refine gz hT rfl ?_;conv=>whnf)
       | refine zA rfl (zN rfl rfl rfl ?_)
       | refine zA rfl (zH hT rfl rfl rfl rfl rfl rfl rfl rfl ?_)
       | refine zB rfl (zK hT rfl rfl rfl rfl rfl rfl (List.length_map _)) ?_
       | refine zG rfl rfl rfl rfl (fun h=>?_) (fun h=>?_)
       | refine zC rfl (fun h=>?_) (fun h=>?_)
       | refine zA rfl (zx (news:=[dgR (da,dc,dn)]) hT rfl rfl rfl rfl rfl rfl rfl rfl rfl rfl (by assumption) .here (yO (g:=dgR) (n:=3) (fun _=>rfl) _) (fun r hr=>by rw [List.mem_singleton.1 hr]; rfl) (fun r hr=>by rw [List.mem_singleton.1 hr]; rfl) (by simp only [List.length_append,List.length_map,List.length_singleton]; omega) fun tok htok=>?_))
      all_goals simp only [*,Bool.true_or,Bool.false_or,Bool.true_and,Bool.false_and] at hlt
      all_goals first
       | exact ⟨(true,nx++[(da,dc,dn)],_),⟨htok,by rw [hlt]; rfl,by rw [hlt]; rfl⟩,⟨lk rfl,lk rfl,lk rfl,lk rfl,⟨_,rfl,by rw [← dg_one]; exact .refl _⟩,⟨_,rfl,wZ rfl⟩,lk rfl,lk rfl,trivial⟩,.refl _⟩
       | exact ⟨(false,nx,_),⟨ht6,by rw [hlt]; rfl,by rw [hlt]; exact (List.append_nil _).symm⟩,⟨lk rfl,lk rfl,lk rfl,lk rfl,lk rfl,⟨_,rfl,wZ rfl⟩,lk rfl,lk rfl,trivial⟩,.refl _⟩
   rintro ⟨p2,n2,t2⟩ ⟨ht2,hp2,hn2⟩
   dsimp only at ht2 hp2 hn2
   rw [← hp2,← hn2] at hinv
   have hnl2:n2.length≤out.length+1:=by
    have:=congrArg List.length hinv
    rw [List.length_append] at this
    omega
   refine zAM (run_seq (run_cut (fun y:Bool=>([(0,.slice t (D.map dgR)),(3,.slice t3 (out.map dgR)),(4,.int .i64 (i:Int)),(5,.pin (dgR (da,dc,dn)) 0),(6,.slice t2 (n2.map dgR)),(7,.ob y),(8,.int .i64 (k:Int)),(9,.pin (dgR (xa,xc,xn)) 0)],[.tl t2])) (fun y=>y=(p2 || decide ((xa,xc,xn)=(da,dc,dn)))) ?_ ?_))
   ·have heq:=eq_dg xa xc xn da dc dn
    clear hinv hp2
    repeat' (first
     | (refine gz hT rfl ?_;conv=>whnf)
     | refine zA rfl (zN rfl rfl rfl ?_)
     | refine zA rfl (zH hT rfl rfl rfl rfl rfl rfl rfl rfl ?_)
     | refine zB rfl (zK hT rfl rfl rfl rfl rfl rfl (List.length_map _)) ?_
     | refine zG rfl rfl rfl rfl (fun h=>?_) (fun h=>?_)
     | refine zC rfl (fun h=>?_) (fun h=>?_)
     | fail)
    all_goals simp only [*,Bool.true_or,Bool.false_or,Bool.true_and,Bool.false_and] at heq
    all_goals first
     | exact ⟨true,by rw [heq,Bool.or_true],⟨lk rfl,lk rfl,lk rfl,lk rfl,lk rfl,⟨_,rfl,wZ rfl⟩,lk rfl,lk rfl,trivial⟩,.refl _⟩
     | exact ⟨p2,by rw [heq,Bool.or_false],⟨lk rfl,lk rfl,lk rfl,lk rfl,lk rfl,lk rfl,lk rfl,lk rfl,trivial⟩,.refl _⟩
   rintro _ rfl
   have hinv:n2++[(xa,xc,xn)]++uE ltD (da,dc,dn) (p2 || decide ((xa,xc,xn)=(da,dc,dn))) (out.drop (k+1))=uE ltD (da,dc,dn) false out:=by
    rw [List.append_assoc]; exact hinv
   repeat' (first
    | (refine gz hT rfl ?_;conv=>whnf)
    | refine zA rfl (zN rfl rfl rfl ?_)
    | refine zA rfl (zH hT rfl rfl rfl rfl rfl rfl rfl rfl ?_)
    | refine zB rfl (zK hT rfl rfl rfl rfl rfl rfl (List.length_map _)) ?_
    | refine zG rfl rfl rfl rfl (fun h=>?_) (fun h=>?_)
    | refine zA rfl (zx (news:=[dgR (xa,xc,xn)]) hT rfl rfl rfl rfl rfl rfl rfl rfl rfl rfl (by assumption) .here (yO (g:=dgR) (n:=3) (fun _=>rfl) _) (fun r hr=>by rw [List.mem_singleton.1 hr]; rfl) (fun r hr=>by rw [List.mem_singleton.1 hr]; rfl) (by simp only [List.length_append,List.length_map,List.length_singleton]; omega) fun tok htok=>?_)
    | refine zB rfl (zU rfl rfl rfl (by omega)) ?_)
   exact ⟨(k+1,_,n2++[(xa,xc,xn)],tok),⟨hltk,htok,hinv⟩,by dsimp only; omega,⟨lk rfl,lk rfl,lk rfl,lk rfl,⟨_,rfl,by rw [← dg_one]; exact .refl _⟩,lk rfl,lk rfl,trivial⟩,.refl _⟩
  ·simp only [decide_eq_false_iff_not,Int.ofNat_lt] at hltk
   rw [List.drop_eq_nil_of_le (by omega)] at hinv
   cases put with
   | true =>
     have hinv:nx++[]=uE ltD (da,dc,dn) false out:=hinv
     rw [List.append_nil] at hinv
     refine gz hT rfl ?_;conv=>whnf
     refine zC rfl (fun h=>by simp at h) (fun _=>?_)
     refine gz hT rfl ?_;conv=>whnf
     refine zB rfl (zU rfl rfl rfl (by omega)) ?_
     refine gz hT rfl ?_;conv=>whnf
     exact ⟨(i+1,_),⟨hlt,ht6⟩,by dsimp only; omega,⟨lk rfl,⟨_,rfl,by rw [hst,← hinv]; exact .refl _⟩,lk rfl,trivial⟩,.refl _⟩
   | false =>
     have hinv:nx++[(da,dc,dn)]=uE ltD (da,dc,dn) false out:=hinv
     refine gz hT rfl ?_;conv=>whnf
     refine zC rfl (fun _=>?_) (fun h=>by simp at h)
     refine gz hT rfl ?_;conv=>whnf
     refine zA rfl (zH hT rfl rfl rfl rfl rfl rfl rfl rfl ?_)
     refine gz hT rfl ?_;conv=>whnf
     refine zA rfl (zx (news:=[dgR (da,dc,dn)]) hT rfl rfl rfl rfl rfl rfl rfl rfl rfl rfl ht6 .here (yO (g:=dgR) (n:=3) (fun _=>rfl) _) (fun r hr=>by rw [List.mem_singleton.1 hr]; rfl) (fun r hr=>by rw [List.mem_singleton.1 hr]; rfl) (by simp only [List.length_append,List.length_map,List.length_singleton]; omega) fun tok htok=>?_)
     refine gz hT rfl ?_;conv=>whnf
     refine zB rfl (zU rfl rfl rfl (by omega)) ?_
     refine gz hT rfl ?_;conv=>whnf
     exact ⟨(i+1,_),⟨hlt,htok⟩,by dsimp only; omega,⟨lk rfl,⟨_,rfl,by rw [hst,← hinv,← dg_one]; exact .refl _⟩,lk rfl,trivial⟩,.refl _⟩
 ·simp only [decide_eq_false_iff_not,Int.ofNat_lt] at hlt
  rw [List.take_of_length_le (by omega)]
  refine gz hT rfl ?_;conv=>whnf
  exact zQ (.tmpL rfl (V.Le.slice _ _) .nil) rfl
end
end Go.Vw
namespace Go.Vw
open Go.RowKit Go.Am Go.Proofs Go.Ord Go.Sort
attribute [local irreducible] yE zv zq VD VDn VDq Ret
section
variable [Drw] (hT:TabOk tab Tryz.prog)
include hT
theorem heldRef (m:MModule) (hs:Small m) (hr:zO m=true) {us vs:List (List (List Int))} (hth:Threads m m.threads us vs):Pure Tryz.prog 38 [.agg (ze m)] (.tup [.agg (yY us vs),.int .i64 0]) :=
 VC.mono (findRef hT m hs (rightRef hT m hs)) (by
  rintro v S ⟨us',vs',e2,rfl,hv'⟩
  rcases hv' with ⟨_,ht',rfl⟩ | ⟨hr',_⟩
  ·obtain ⟨rfl,rfl⟩:=zCE hr (fun f h=>h) hth ht'
   exact rfl
  ·rw [hr] at hr'; cases hr')
set_option maxRecDepth 100000 in
set_option maxHeartbeats 4000000 in
theorem findRef20 (m:MModule) (hs:Small m) (hr:zO m=true) {us vs:List (List (List Int))} (hth:Threads m m.threads us vs):Pure Tryz.prog 14 [.agg (ze m)] (.tup [.slice .no ((ug m.locks.length (zZ m us vs)).map prs),.int .i64 0]):=by
 have hL:=(xB (by simp only [zO,Bool.and_eq_true] at hr; exact hr.1)).1
 have tk:=qy hs hr hth
 have hl:=lens_ok hs hr hth
 refine VC.code hT 128 rfl rfl rfl rfl fun F W S0=>?_
 refine gz hT rfl ?_;conv=>whnf
 refine zA rfl (zN rfl rfl rfl ?_)
 refine gz hT rfl ?_;conv=>whnf
 refine zA rfl (zR hT rfl rfl rfl rfl rfl rfl (heldRef hT m hs hr hth) ?_)
 refine gz hT rfl ?_;conv=>whnf
 refine zA rfl (zX hT rfl rfl rfl fun b4=>?_)
 refine gz hT rfl ?_;conv=>whnf
 refine zA rfl (zI (cs':=yY us vs) hT rfl rfl rfl .here rfl ?_)
 refine zo (t:=4) rfl ?_
 refine gz hT rfl ?_;conv=>whnf
 refine zC rfl (fun h=>absurd h (by decide)) (fun _=>?_)
 refine gz hT rfl ?_;conv=>whnf
 refine zA rfl (yZ hT rfl rfl rfl rfl rfl rfl rfl rfl fun t6 ht6=>?_)
 refine gz hT rfl ?_;conv=>whnf
 refine zW (fun x:Nat×Tok=>([(1,.pin (ze m) 0),(4,.pin (yY us vs) 0),(6,.slice x.2 ((vt m.locks.length (zZ m us vs) x.1).map prs)),(7,.int .i64 (x.1:Int))],[.tl x.2])) (fun x=>x.1≤m.locks.length∧xg 2 x.2=true) (fun x=>m.locks.length - x.1) (0,t6) ⟨Nat.zero_le _,ht6⟩ ⟨⟨lk rfl,lk rfl,lk rfl,lk rfl,trivial⟩,.refl _⟩ ?_
 rintro ⟨l,t6⟩ ⟨hll,ht6⟩
 dsimp only at hll ht6
 refine gz hT rfl ?_;conv=>whnf
 refine zB rfl (zK hT rfl rfl rfl rfl rfl rfl (List.length_map _)) ?_
 refine gz hT rfl ?_;conv=>whnf
 refine zC rfl (fun hlt=>?_) (fun hlt=>?_)
 ·simp only [decide_eq_true_eq,Int.ofNat_lt] at hlt
  refine gz hT rfl ?_;conv=>whnf
  refine zW (fun x:Nat×Tok=>([(1,.pin (ze m) 0),(4,.pin (yY us vs) 0),(6,.slice x.2 ((vt m.locks.length (zZ m us vs) l++wy m.locks.length (zZ m us vs) l x.1).map prs)),(7,.int .i64 (l:Int)),(8,.int .i64 (x.1:Int))],[.tl x.2])) (fun x=>x.1≤m.locks.length∧xg 2 x.2=true) (fun x=>m.locks.length - x.1) (0,t6) ⟨Nat.zero_le _,ht6⟩ ⟨⟨lk rfl,lk rfl,⟨_,rfl,by
   show V.Le (.slice t6 ((vt m.locks.length (zZ m us vs) l).map prs)) (.slice t6 ((vt m.locks.length (zZ m us vs) l++[]).map prs))
   rw [List.append_nil]; exact .refl _⟩,lk rfl,lk rfl,trivial⟩,.refl _⟩ ?_
  rintro ⟨k,t6⟩ ⟨hkl,ht6⟩
  dsimp only at hkl ht6
  refine gz hT rfl ?_;conv=>whnf
  refine zB rfl (zK hT rfl rfl rfl rfl rfl rfl (List.length_map _)) ?_
  refine gz hT rfl ?_;conv=>whnf
  refine zC rfl (fun hltk=>?_) (fun hltk=>?_)
  ·simp only [decide_eq_true_eq,Int.ofNat_lt] at hltk
   have hsz:(vt m.locks.length (zZ m us vs) l++wy m.locks.length (zZ m us vs) l k).length < 1000:=by
    have h1:=xi (g:=fun l=>wy m.locks.length (zZ m us vs) l m.locks.length) (B:=8) l fun l _=>by
     have:=xi (g:=fun k=>if xm (zZ m us vs) l k then [((l:Int),(k:Int))] else []) (B:=1) m.locks.length fun k _=>by split <;> simp
     rw [Nat.mul_one] at this
     exact Nat.le_trans this hL
    have h2:=xi (g:=fun k=>if xm (zZ m us vs) l k then [((l:Int),(k:Int))] else []) (B:=1) k fun k _=>by split <;> simp
    rw [List.length_append]
    have h1:(vt m.locks.length (zZ m us vs) l).length≤l * 8:=h1
    have h2:(wy m.locks.length (zZ m us vs) l k).length≤k * 1:=h2
    omega
   have hnext:=edgesR_succ m.locks.length (zZ m us vs) l k
   generalize wy m.locks.length (zZ m us vs) l k=er at hsz hnext
   generalize vt m.locks.length (zZ m us vs) l=eq at hsz
   refine gz hT rfl ?_;conv=>whnf
   refine zW (fun t:Nat=>([(1,.pin (ze m) 0),(4,.pin (yY us vs) 0),(6,.slice t6 ((eq++er).map prs)),(7,.int .i64 (l:Int)),(8,.int .i64 (k:Int)),(9,.ob (xm (yd m us vs t) l k)),(10,.int .i64 (t:Int))],[.tl t6])) (fun t=>t≤vs.length) (fun t=>vs.length - t) 0 (Nat.zero_le _) ⟨⟨lk rfl,lk rfl,lk rfl,lk rfl,lk rfl,⟨_,rfl,wZ rfl⟩,lk rfl,trivial⟩,.refl _⟩ ?_
   intro t ht
   refine gz hT rfl ?_;conv=>whnf
   refine zB rfl (zK hT rfl rfl rfl rfl rfl rfl (List.length_map _)) ?_
   refine gz hT rfl ?_;conv=>whnf
   refine zC rfl (fun hltt=>?_) (fun hltt=>?_)
   ·simp only [decide_eq_true_eq,Int.ofNat_lt] at hltt
    have hltu:t < us.length:=by rw [tk.len]; exact hltt
    obtain ⟨hfu,hfv⟩:=tk.fn t hltu hltt
    refine gz hT rfl ?_;conv=>whnf
    refine zW (fun f:Nat=>([(1,.pin (ze m) 0),(4,.pin (yY us vs) 0),(6,.slice t6 ((eq++er).map prs)),(7,.int .i64 (l:Int)),(8,.int .i64 (k:Int)),(9,.ob (xm (yd m us vs t++yv m us[t] vs[t] f) l k)),(10,.int .i64 (t:Int)),(11,.int .i64 (f:Int))],[.tl t6])) (fun f=>f≤vs[t].length) (fun f=>vs[t].length - f) 0 (Nat.zero_le _) ⟨⟨lk rfl,lk rfl,lk rfl,lk rfl,lk rfl,⟨_,rfl,by
     show V.Le (.ob (xm (yd m us vs t) l k)) (.ob (xm (yd m us vs t++[]) l k))
     rw [List.append_nil]; exact .refl _⟩,lk rfl,lk rfl,trivial⟩,.refl _⟩ ?_
    intro f hf
    refine gz hT rfl ?_;conv=>whnf
    refine zB rfl (zJ (xs:=vs) hT rfl rfl rfl rfl rfl hltt rfl) ?_
    refine gz hT rfl ?_;conv=>whnf
    refine zB rfl (zK hT rfl rfl rfl rfl rfl rfl (List.length_map _)) ?_
    refine gz hT rfl ?_;conv=>whnf
    refine zC rfl (fun hltf=>?_) (fun hltf=>?_)
    ·simp only [decide_eq_true_eq,Int.ofNat_lt] at hltf
     have hlfu:f < us[t].length:=by omega
     have hfm:f < m.funcs.length:=by omega
     obtain ⟨ho1,ho2⟩:=tk.op t f hltu hltt hlfu hltf
     have hfn:m.fn (f:Int)=m.funcs[f]:=by unfold MModule.fn; rw [Int.toNat_natCast,List.getElem?_eq_getElem hfm]; rfl
     rw [hfn] at ho2
     refine gz hT rfl ?_;conv=>whnf
     refine zW (fun n:Nat=>([(1,.pin (ze m) 0),(4,.pin (yY us vs) 0),(6,.slice t6 ((eq++er).map prs)),(7,.int .i64 (l:Int)),(8,.int .i64 (k:Int)),(9,.ob (xm (yd m us vs t++(yv m us[t] vs[t] f++xP m f us[t][f] vs[t][f] n)) l k)),(10,.int .i64 (t:Int)),(11,.int .i64 (f:Int)),(12,.int .i64 (n:Int))],[.tl t6])) (fun n=>n≤vs[t][f].length) (fun n=>vs[t][f].length - n) 0 (Nat.zero_le _) ⟨⟨lk rfl,lk rfl,lk rfl,lk rfl,lk rfl,⟨_,rfl,by
      show V.Le (.ob (xm (yd m us vs t++yv m us[t] vs[t] f) l k)) (.ob (xm (yd m us vs t++(yv m us[t] vs[t] f++[])) l k))
      rw [List.append_nil]; exact .refl _⟩,lk rfl,lk rfl,lk rfl,trivial⟩,.refl _⟩ ?_
     intro n hn
     refine gz hT rfl ?_;conv=>whnf
     refine zB rfl (zJ (xs:=vs) hT rfl rfl rfl rfl rfl hltt rfl) ?_
     refine gz hT rfl ?_;conv=>whnf
     refine zB rfl (zJ (xs:=vs[t]) hT rfl rfl rfl rfl rfl hltf rfl) ?_
     refine gz hT rfl ?_;conv=>whnf
     refine zB rfl (zK hT rfl rfl rfl rfl rfl rfl (List.length_map _)) ?_
     refine gz hT rfl ?_;conv=>whnf
     refine zC rfl (fun hltn=>?_) (fun hltn=>?_)
     ·simp only [decide_eq_true_eq,Int.ofNat_lt] at hltn
      have hlnu:n < us[t][f].length:=by omega
      have hnc:n < m.funcs[f].code.length:=by omega
      have hop:qx m f n=m.funcs[f].code[n]:=by
       unfold qx
       rw [hfn]
       exact op_nat2 _ _ hnc
      have hnl:=hl.n _ (List.getElem_mem hltt) _ (List.getElem_mem hltf)
      have hval:xm (yd m us vs t++(yv m us[t] vs[t] f++xP m f us[t][f] vs[t][f] (n+1))) l k=(xm (yd m us vs t++(yv m us[t] vs[t] f++xP m f us[t][f] vs[t][f] n)) l k || xm (stopO m.funcs[f].code[n] us[t][f][n] vs[t][f][n]) l k):=by
       rw [stopF_op m f _ _ n hlnu hltn,← List.append_assoc,← List.append_assoc,edgeL_app,hop,List.append_assoc]
      have hcell:=cell_nat hL (tk.cell t f n hltu hltt hlfu hltf hlnu hltn)
      generalize xm (yd m us vs t++(yv m us[t] vs[t] f++xP m f us[t][f] vs[t][f] n)) l k=fd at hval
      refine gz hT rfl ?_;conv=>whnf
      refine zB rfl (zJ (xs:=m.funcs) hT rfl rfl rfl rfl rfl hfm rfl) ?_
      refine gz hT rfl ?_;conv=>whnf
      refine zB rfl (zJ (xs:=m.funcs[f].code) hT rfl rfl rfl rfl rfl hnc rfl) ?_
      refine gz hT rfl ?_;conv=>whnf
      refine zA rfl (zX hT rfl rfl rfl fun b13=>?_)
      refine gz hT rfl ?_;conv=>whnf
      refine zA rfl (zI (cs':=opV m.funcs[f].code[n]) hT rfl rfl rfl .here rfl ?_)
      refine zo (t:=13) rfl ?_
      refine gz hT rfl ?_;conv=>whnf
      refine zG rfl rfl rfl rfl (fun hfd=>?_) (fun hfd=>?_)
      ·subst hfd
       rw [Bool.true_or] at hval
       refine gz hT rfl ?_;conv=>whnf
       refine zB rfl (zU rfl rfl rfl (by omega)) ?_
       refine gz hT rfl ?_;conv=>whnf
       exact ⟨n+1,hltn,by omega,⟨lk rfl,lk rfl,lk rfl,lk rfl,lk rfl,⟨_,rfl,by rw [hval]; exact wZ rfl⟩,lk rfl,lk rfl,lk rfl,trivial⟩,.refl _⟩
      ·subst hfd
       rw [Bool.false_or] at hval
       rcases hcell with ⟨_,hv⟩ | ⟨_,b,_,hv,_,hb⟩
       ·have hget:(vs[t][f].map zt)[((n:Nat):Int).toNat]?=some [.int .i64 (-1)]:=by rw [Int.toNat_natCast,List.getElem?_map,List.getElem?_eq_getElem hltn,hv]; rfl
        rw [hv] at hval
        rw [edgeL_no] at hval
        refine gz hT rfl ?_;conv=>whnf
        refine zB rfl (zJ (xs:=vs) hT rfl rfl rfl rfl rfl hltt rfl) ?_
        refine gz hT rfl ?_;conv=>whnf
        refine zB rfl (zJ (xs:=vs[t]) hT rfl rfl rfl rfl rfl hltf rfl) ?_
        refine gz hT rfl ?_;conv=>whnf
        refine zB rfl (zr hT rfl rfl rfl rfl rfl (Int.natCast_nonneg _) hget rfl) ?_
        refine gz hT rfl ?_;conv=>whnf
        refine zG rfl rfl rfl rfl (fun h=>absurd (show decide (0≤(-1:Int))=true from h) (by decide)) (fun _=>?_)
        refine gz hT rfl ?_;conv=>whnf
        refine zB rfl (zU rfl rfl rfl (by omega)) ?_
        refine gz hT rfl ?_;conv=>whnf
        exact ⟨n+1,hltn,by omega,⟨lk rfl,lk rfl,lk rfl,lk rfl,lk rfl,⟨_,rfl,by rw [hval]; exact wZ rfl⟩,lk rfl,lk rfl,lk rfl,trivial⟩,.refl _⟩
       ·have hget:(vs[t][f].map zt)[((n:Nat):Int).toNat]?=some [.int .i64 (b:Int)]:=by rw [Int.toNat_natCast,List.getElem?_map,List.getElem?_eq_getElem hltn,hv]; rfl
        rw [hv,edgeL_op] at hval
        refine gz hT rfl ?_;conv=>whnf
        refine zB rfl (zJ (xs:=vs) hT rfl rfl rfl rfl rfl hltt rfl) ?_
        refine gz hT rfl ?_;conv=>whnf
        refine zB rfl (zJ (xs:=vs[t]) hT rfl rfl rfl rfl rfl hltf rfl) ?_
        refine gz hT rfl ?_;conv=>whnf
        refine zB rfl (zr hT rfl rfl rfl rfl rfl (Int.natCast_nonneg _) hget rfl) ?_
        refine gz hT rfl ?_;conv=>whnf
        refine zG rfl rfl rfl rfl (fun _=>?_) (fun h=>absurd (Int.natCast_nonneg b) (of_decide_eq_false h))
        refine gz hT rfl ?_;conv=>whnf
        refine zG rfl rfl rfl rfl (fun h16=>?_) (fun h16=>?_)
        rotate_left
        ·have h16:decide (m.funcs[f].code[n].kind=16)=false:=h16
         rw [h16,Bool.false_and] at hval
         refine gz hT rfl ?_;conv=>whnf
         refine zB rfl (zU rfl rfl rfl (by omega)) ?_
         refine gz hT rfl ?_;conv=>whnf
         exact ⟨n+1,hltn,by omega,⟨lk rfl,lk rfl,lk rfl,lk rfl,lk rfl,⟨_,rfl,by rw [hval]; exact wZ rfl⟩,lk rfl,lk rfl,lk rfl,trivial⟩,.refl _⟩
        have h16:decide (m.funcs[f].code[n].kind=16)=true:=h16
        rw [h16,Bool.true_and] at hval
        refine gz hT rfl ?_;conv=>whnf
        refine zG rfl rfl rfl rfl (fun hk=>?_) (fun hk=>?_)
        rotate_left
        ·have hk:decide (m.funcs[f].code[n].a=(k:Int))=false:=hk
         rw [hk,Bool.false_and] at hval
         refine gz hT rfl ?_;conv=>whnf
         refine zB rfl (zU rfl rfl rfl (by omega)) ?_
         refine gz hT rfl ?_;conv=>whnf
         exact ⟨n+1,hltn,by omega,⟨lk rfl,lk rfl,lk rfl,lk rfl,lk rfl,⟨_,rfl,by rw [hval]; exact wZ rfl⟩,lk rfl,lk rfl,lk rfl,trivial⟩,.refl _⟩
        have hk:decide (m.funcs[f].code[n].a=(k:Int))=true:=hk
        rw [hk,Bool.true_and] at hval
        refine gz hT rfl ?_;conv=>whnf
        refine zB rfl (zJ (xs:=vs) hT rfl rfl rfl rfl rfl hltt rfl) ?_
        refine gz hT rfl ?_;conv=>whnf
        refine zB rfl (zJ (xs:=vs[t]) hT rfl rfl rfl rfl rfl hltf rfl) ?_
        refine gz hT rfl ?_;conv=>whnf
        refine zB rfl (zr hT rfl rfl rfl rfl rfl (Int.natCast_nonneg _) hget rfl) ?_
        refine gz hT rfl ?_;conv=>whnf
        refine zB rfl (g_shrN (n:=b) (l:=l) (by omega) rfl rfl rfl) ?_
        have hbit:decide (ym ((b >>> l:Nat):Int) 1=1)=b.testBit l:=by
         rw [zB7 (Nat.lt_of_le_of_lt (by rw [Nat.shiftRight_eq_div_pow]; exact Nat.div_le_self _ _) hb),kw]
        rw [← hbit] at hval
        generalize b >>> l=q at hval
        refine gz hT rfl ?_;conv=>whnf
        refine zB rfl (zU rfl rfl rfl (by omega)) ?_
        refine gz hT rfl ?_;conv=>whnf
        exact ⟨n+1,hltn,by omega,⟨lk rfl,lk rfl,lk rfl,lk rfl,lk rfl,⟨_,rfl,by rw [hval]; exact .refl _⟩,lk rfl,lk rfl,lk rfl,trivial⟩,.refl _⟩
     ·simp only [decide_eq_false_iff_not,Int.ofNat_lt] at hltn
      have:n=vs[t][f].length:=by omega
      subst this
      have hfl:=hl.f _ (List.getElem_mem hltt)
      refine gz hT rfl ?_;conv=>whnf
      refine zB rfl (zU rfl rfl rfl (by omega)) ?_
      refine gz hT rfl ?_;conv=>whnf
      refine ⟨f+1,hltf,by omega,⟨lk rfl,lk rfl,lk rfl,lk rfl,lk rfl,⟨_,rfl,?_⟩,lk rfl,lk rfl,trivial⟩,.refl _⟩
      rw [ue m us[t] vs[t] f hlfu hltf]
      exact .refl _
    ·simp only [decide_eq_false_iff_not,Int.ofNat_lt] at hltf
     have:f=vs[t].length:=by omega
     subst this
     have htl:=hl.t
     refine gz hT rfl ?_;conv=>whnf
     refine zB rfl (zU rfl rfl rfl (by omega)) ?_
     refine gz hT rfl ?_;conv=>whnf
     refine ⟨t+1,hltt,by omega,⟨lk rfl,lk rfl,lk rfl,lk rfl,lk rfl,⟨_,rfl,?_⟩,lk rfl,trivial⟩,.refl _⟩
     rw [uf m us vs t hltu hltt]
     exact .refl _
   ·simp only [decide_eq_false_iff_not,Int.ofNat_lt] at hltt
    have:t=vs.length:=by omega
    subst this
    have hss:yd m us vs vs.length=zZ m us vs:=rfl
    rw [hss]
    refine gz hT rfl ?_;conv=>whnf
    refine zC rfl (fun hfd=>?_) (fun hfd=>?_)
    ·rw [hfd] at hnext
     refine gz hT rfl ?_;conv=>whnf
     refine zA rfl (zH hT rfl rfl rfl rfl rfl rfl rfl rfl ?_)
     refine gz hT rfl ?_;conv=>whnf
     refine zA rfl (zx (news:=[prs ((l:Int),(k:Int))]) hT rfl rfl rfl rfl rfl rfl rfl rfl rfl rfl ht6 .here (yO (g:=prs) (n:=2) (fun _=>rfl) _) (fun r hr=>by rw [List.mem_singleton.1 hr]; rfl) (fun r hr=>by rw [List.mem_singleton.1 hr]; rfl) (by rw [List.length_map,List.length_singleton]; omega) fun t6 ht6=>?_)
     refine gz hT rfl ?_;conv=>whnf
     refine zB rfl (zU rfl rfl rfl (by omega)) ?_
     refine gz hT rfl ?_;conv=>whnf
     refine ⟨(k+1,t6),⟨hltk,ht6⟩,by dsimp only; omega,⟨lk rfl,lk rfl,⟨_,rfl,?_⟩,lk rfl,lk rfl,trivial⟩,.refl _⟩
     dsimp only
     rw [hnext,if_pos rfl]
     simp only [List.map_append,List.map_cons,List.map_nil,List.append_assoc]
     exact .refl _
    ·rw [hfd] at hnext
     refine gz hT rfl ?_;conv=>whnf
     refine zB rfl (zU rfl rfl rfl (by omega)) ?_
     refine gz hT rfl ?_;conv=>whnf
     refine ⟨(k+1,t6),⟨hltk,ht6⟩,by dsimp only; omega,⟨lk rfl,lk rfl,⟨_,rfl,?_⟩,lk rfl,lk rfl,trivial⟩,.refl _⟩
     dsimp only
     rw [hnext]
     show V.Le _ (.slice t6 ((eq++(er++[])).map prs))
     rw [List.append_nil]
     exact .refl _
  ·simp only [decide_eq_false_iff_not,Int.ofNat_lt] at hltk
   have:k=m.locks.length:=by omega
   subst this
   refine gz hT rfl ?_;conv=>whnf
   refine zB rfl (zU rfl rfl rfl (by omega)) ?_
   refine gz hT rfl ?_;conv=>whnf
   refine ⟨(l+1,t6),⟨hlt,ht6⟩,by dsimp only; omega,⟨lk rfl,lk rfl,⟨_,rfl,?_⟩,lk rfl,trivial⟩,.refl _⟩
   dsimp only
   rw [edgesQ_succ]
   exact .refl _
 ·simp only [decide_eq_false_iff_not,Int.ofNat_lt] at hlt
  have:l=m.locks.length:=by omega
  subst this
  refine gz hT rfl ?_;conv=>whnf
  exact zQ (.tmpL rfl (V.Le.slice _ _) (.tmp rfl .nil)) rfl
end
end Go.Vw
namespace Go.Vw
open Go.RowKit Go.Am Go.Proofs Go.Ord Go.Sort
attribute [local irreducible] yE zv zq VD VDn VDq Ret
theorem tabR_get' {n i:Nat} {R:Mat} (h:i < n):(tabR n R)[i]?=some [V.slice .no (zAp n R i)]:=by
 unfold tabR; rw [List.getElem?_map,List.getElem?_range h]; rfl
theorem rowRR_get' {n i j:Nat} {R:Mat} (h:j < n):(zAp n R i)[j]?=some [V.ob (R i j)]:=by
 unfold zAp; rw [List.getElem?_map,List.getElem?_range h]; rfl
theorem shr_bit {b l:Nat} (hb:b < 256):decide (ym ((b >>> l:Nat):Int) 1=1)=b.testBit l:=by
 rw [zB7 (Nat.lt_of_le_of_lt (by rw [Nat.shiftRight_eq_div_pow]; exact Nat.div_le_self _ _) hb),kw]
theorem shr_bit0 {b l:Nat} (hb:b < 256):decide (ym ((b >>> l:Nat):Int) 1=0)=!b.testBit l:=by
 rw [← shr_bit hb]
 have h:ym ((b >>> l:Nat):Int) 1=(((b >>> l) % 2:Nat):Int):=zB7 (Nat.lt_of_le_of_lt (by rw [Nat.shiftRight_eq_div_pow]; exact Nat.div_le_self _ _) hb)
 rw [h]
 rcases Nat.mod_two_eq_zero_or_one (b >>> l) with e | e <;> rw [e] <;> rfl
section
variable [Drw] (hT:TabOk tab Tryz.prog)
include hT
set_option maxRecDepth 100000 in
set_option maxHeartbeats 4000000 in
theorem checkRef20 (m:MModule) (hs:Small m) (hr:zO m=true) {us vs:List (List (List Int))} (hth:Threads m m.threads us vs):Pure Tryz.prog 18 [.agg (ze m)] (.slice .no ((xl ltD (rawM m us vs)).map dgR)):=by
 have hL:=(xB (by simp only [zO,Bool.and_eq_true] at hr; exact hr.1)).1
 have tk:=qy hs hr hth
 have hl:=lens_ok hs hr hth
 have hsl:=zCq hs hr hth
 have hle:=kx hL (zZ m us vs)
 have hlt:=kv m.locks.length (zZ m us vs)
 have hsame:=raw_same hs hr hth
 refine VC.code hT 161 rfl rfl rfl rfl fun F W S0=>?_
 refine gz hT rfl ?_;conv=>whnf
 refine zA rfl (zN rfl rfl rfl ?_)
 refine gz hT rfl ?_;conv=>whnf
 refine zA rfl (zR hT rfl rfl rfl rfl rfl rfl (findRef20 hT m hs hr hth) ?_)
 refine gz hT rfl ?_;conv=>whnf
 refine zC rfl (fun h=>absurd h (by decide)) (fun _=>?_)
 refine gz hT rfl ?_;conv=>whnf
 refine zA rfl (zR hT rfl rfl rfl rfl rfl rfl (heldRef hT m hs hr hth) ?_)
 refine gz hT rfl ?_;conv=>whnf
 refine zA rfl (zX hT rfl rfl rfl fun b5=>?_)
 refine gz hT rfl ?_;conv=>whnf
 refine zA rfl (zI (cs':=yY us vs) hT rfl rfl rfl .here rfl ?_)
 refine zo (t:=5) rfl ?_
 refine gz hT rfl ?_;conv=>whnf
 refine zB rfl (zK hT rfl rfl rfl rfl rfl rfl (List.length_map _)) ?_
 rw [← zAm]
 refine gz hT rfl ?_;conv=>whnf
 refine zA rfl (zR hT rfl rfl rfl rfl rfl rfl (closedP hT m.locks.length hL (ye m.locks.length (zZ m us vs)) hlt (by omega)) ?_)
 rw [← hsame]
 generalize ye m.locks.length (zZ m us vs)=es
 generalize wu m.locks.length es=R
 have hbound:∀ pre:List Stp,pre <+: zZ m us vs→(pre.flatMap (xF m R)).length≤1800000:=fun pre hp=>by
  have h1:=flatMap_pre (g:=xF m R) hp
  have h2:=zFI hL R (zZ m us vs)
  omega
 refine gz hT rfl ?_;conv=>whnf
 refine zA rfl (yZ hT rfl rfl rfl rfl rfl rfl rfl rfl fun t8 ht8=>?_)
 refine gz hT rfl ?_;conv=>whnf
 refine zW (fun x:Nat×Tok=>([(1,.pin (ze m) 0),(5,.pin (yY us vs) 0),(7,.slice .no (tabR m.locks.length R)),(8,.slice x.2 (((yd m us vs x.1).flatMap (xF m R)).map dgR)),(9,.int .i64 (x.1:Int))],[.tl x.2])) (fun x=>x.1≤vs.length∧xg 3 x.2=true) (fun x=>vs.length - x.1) (0,t8) ⟨Nat.zero_le _,ht8⟩ ⟨⟨lk rfl,lk rfl,lk rfl,lk rfl,lk rfl,trivial⟩,.refl _⟩ ?_
 rintro ⟨t,t8⟩ ⟨ht,ht8⟩
 dsimp only at ht ht8
 refine gz hT rfl ?_;conv=>whnf
 refine zB rfl (zK hT rfl rfl rfl rfl rfl rfl (List.length_map _)) ?_
 refine gz hT rfl ?_;conv=>whnf
 refine zC rfl (fun hltt=>?_) (fun hltt=>?_)
 ·simp only [decide_eq_true_eq,Int.ofNat_lt] at hltt
  have hltu:t < us.length:=by rw [tk.len]; exact hltt
  obtain ⟨hfu,hfv⟩:=tk.fn t hltu hltt
  refine gz hT rfl ?_;conv=>whnf
  refine zW (fun x:Nat×Tok=>([(1,.pin (ze m) 0),(5,.pin (yY us vs) 0),(7,.slice .no (tabR m.locks.length R)),(8,.slice x.2 (((yd m us vs t++yv m us[t] vs[t] x.1).flatMap (xF m R)).map dgR)),(9,.int .i64 (t:Int)),(10,.int .i64 (x.1:Int))],[.tl x.2])) (fun x=>x.1≤vs[t].length∧xg 3 x.2=true) (fun x=>vs[t].length - x.1) (0,t8) ⟨Nat.zero_le _,ht8⟩ ⟨⟨lk rfl,lk rfl,lk rfl,⟨_,rfl,by
   show V.Le (.slice t8 (((yd m us vs t).flatMap (xF m R)).map dgR)) (.slice t8 (((yd m us vs t++[]).flatMap (xF m R)).map dgR))
   rw [List.append_nil]; exact .refl _⟩,lk rfl,lk rfl,trivial⟩,.refl _⟩ ?_
  rintro ⟨f,t8⟩ ⟨hf,ht8⟩
  dsimp only at hf ht8
  refine gz hT rfl ?_;conv=>whnf
  refine zB rfl (zJ (xs:=vs) hT rfl rfl rfl rfl rfl hltt rfl) ?_
  refine gz hT rfl ?_;conv=>whnf
  refine zB rfl (zK hT rfl rfl rfl rfl rfl rfl (List.length_map _)) ?_
  refine gz hT rfl ?_;conv=>whnf
  refine zC rfl (fun hltf=>?_) (fun hltf=>?_)
  ·simp only [decide_eq_true_eq,Int.ofNat_lt] at hltf
   have hlfu:f < us[t].length:=by omega
   have hfm:f < m.funcs.length:=by omega
   obtain ⟨ho1,ho2⟩:=tk.op t f hltu hltt hlfu hltf
   have hfn:m.fn (f:Int)=m.funcs[f]:=by unfold MModule.fn; rw [Int.toNat_natCast,List.getElem?_eq_getElem hfm]; rfl
   rw [hfn] at ho2
   refine gz hT rfl ?_;conv=>whnf
   refine zW (fun x:Nat×Tok=>([(1,.pin (ze m) 0),(5,.pin (yY us vs) 0),(7,.slice .no (tabR m.locks.length R)),(8,.slice x.2 (((yd m us vs t++(yv m us[t] vs[t] f++xP m f us[t][f] vs[t][f] x.1)).flatMap (xF m R)).map dgR)),(9,.int .i64 (t:Int)),(10,.int .i64 (f:Int)),(11,.int .i64 (x.1:Int))],[.tl x.2])) (fun x=>x.1≤vs[t][f].length∧xg 3 x.2=true) (fun x=>vs[t][f].length - x.1) (0,t8) ⟨Nat.zero_le _,ht8⟩ ⟨⟨lk rfl,lk rfl,lk rfl,⟨_,rfl,by
    show V.Le (.slice t8 (((yd m us vs t++yv m us[t] vs[t] f).flatMap (xF m R)).map dgR)) (.slice t8 (((yd m us vs t++(yv m us[t] vs[t] f++[])).flatMap (xF m R)).map dgR))
    rw [List.append_nil]; exact .refl _⟩,lk rfl,lk rfl,lk rfl,trivial⟩,.refl _⟩ ?_
   rintro ⟨n,t8⟩ ⟨hn,ht8⟩
   dsimp only at hn ht8
   refine gz hT rfl ?_;conv=>whnf
   refine zB rfl (zJ (xs:=vs) hT rfl rfl rfl rfl rfl hltt rfl) ?_
   refine gz hT rfl ?_;conv=>whnf
   refine zB rfl (zJ (xs:=vs[t]) hT rfl rfl rfl rfl rfl hltf rfl) ?_
   refine gz hT rfl ?_;conv=>whnf
   refine zB rfl (zK hT rfl rfl rfl rfl rfl rfl (List.length_map _)) ?_
   refine gz hT rfl ?_;conv=>whnf
   refine zC rfl (fun hltn=>?_) (fun hltn=>?_)
   ·simp only [decide_eq_true_eq,Int.ofNat_lt] at hltn
    have hlnu:n < us[t][f].length:=by omega
    have hnc:n < m.funcs[f].code.length:=by omega
    have hop:qx m f n=m.funcs[f].code[n]:=by
     unfold qx
     rw [hfn]
     exact op_nat2 _ _ hnc
    have hnl:=hl.n _ (List.getElem_mem hltt) _ (List.getElem_mem hltf)
    have hval:xA m ((f:Int),(n:Int)):=⟨belowB_one.2 ⟨by omega,by omega⟩,by show (0:Int)≤_; omega,by
     show (n:Int) < _
     dsimp only
     rw [hfn]; omega⟩
    have hof:=qV hr _ hval
    have hof:∀ h:m.funcs[f].code[n].kind=16∨m.funcs[f].code[n].kind=17,0≤m.funcs[f].code[n].a∧m.funcs[f].code[n].a < m.locks.length:=fun h=>by
     have e:((m.fn (f:Int)).op (n:Int))=m.funcs[f].code[n]:=hop
     have:=hof.lock
     dsimp only at this
     rw [e] at this
     exact this h
    have hnext:(yd m us vs t++(yv m us[t] vs[t] f++xP m f us[t][f] vs[t][f] (n+1))).flatMap (xF m R)=(yd m us vs t++(yv m us[t] vs[t] f++xP m f us[t][f] vs[t][f] n)).flatMap (xF m R)++(stopO m.funcs[f].code[n] us[t][f][n] vs[t][f][n]).flatMap (xF m R):=by
     rw [stopF_op m f _ _ n hlnu hltn,← List.append_assoc,← List.append_assoc,List.flatMap_append,hop,List.append_assoc]
    have hlen:=hbound _ (pre_all m us vs t f n hltu hltt hlfu hltf (by omega))
    have hcell:=cell_nat hL (tk.cell t f n hltu hltt hlfu hltf hlnu hltn)
    generalize (yd m us vs t++(yv m us[t] vs[t] f++xP m f us[t][f] vs[t][f] n)).flatMap (xF m R)=out at hnext hlen
    obtain ⟨o,ho⟩:∃ o,m.funcs[f].code[n]=o:=⟨_,rfl⟩
    have hgo:(m.funcs[f].code.map opV)[((n:Nat):Int).toNat]?=some (opV o):=by rw [Int.toNat_natCast,List.getElem?_map,List.getElem?_eq_getElem hnc,ho]; rfl
    rw [ho] at hof hnext
    clear hop ho
    refine gz hT rfl ?_;conv=>whnf
    refine zB rfl (zJ (xs:=m.funcs) hT rfl rfl rfl rfl rfl hfm rfl) ?_
    refine gz hT rfl ?_;conv=>whnf
    refine zB rfl (zr hT rfl rfl rfl rfl rfl (Int.natCast_nonneg _) hgo rfl) ?_
    refine gz hT rfl ?_;conv=>whnf
    refine zA rfl (zX hT rfl rfl rfl fun b12=>?_)
    refine gz hT rfl ?_;conv=>whnf
    refine zA rfl (zI (cs':=opV o) hT rfl rfl rfl .here rfl ?_)
    refine zo (t:=12) rfl ?_
    refine gz hT rfl ?_;conv=>whnf
    refine zB rfl (zJ (xs:=us) hT rfl rfl rfl rfl rfl hltu rfl) ?_
    refine gz hT rfl ?_;conv=>whnf
    refine zB rfl (zJ (xs:=us[t]) hT rfl rfl rfl rfl rfl hlfu rfl) ?_
    refine gz hT rfl ?_;conv=>whnf
    rcases hcell with ⟨hu,hv⟩ | ⟨a,b,hu,hv,ha,hb⟩
    ·have hget:(us[t][f].map zt)[((n:Nat):Int).toNat]?=some [.int .i64 (-1)]:=by rw [Int.toNat_natCast,List.getElem?_map,List.getElem?_eq_getElem hlnu,hu]; rfl
     rw [hv,wrong_no,List.append_nil] at hnext
     refine zB rfl (zr hT rfl rfl rfl rfl rfl (Int.natCast_nonneg _) hget rfl) ?_
     refine gz hT rfl ?_;conv=>whnf
     refine zC rfl (fun _=>?_) (fun h=>absurd (show decide ((-1:Int) < 0)=false from h) (by decide))
     refine gz hT rfl ?_;conv=>whnf
     refine zB rfl (zU rfl rfl rfl (by omega)) ?_
     refine gz hT rfl ?_;conv=>whnf
     exact ⟨(n+1,t8),⟨hltn,ht8⟩,by dsimp only; omega,⟨lk rfl,lk rfl,lk rfl,⟨_,rfl,by rw [hnext]; exact .refl _⟩,lk rfl,lk rfl,lk rfl,trivial⟩,.refl _⟩
    ·have hget:(us[t][f].map zt)[((n:Nat):Int).toNat]?=some [.int .i64 (a:Int)]:=by rw [Int.toNat_natCast,List.getElem?_map,List.getElem?_eq_getElem hlnu,hu]; rfl
     have hgetv:(vs[t][f].map zt)[((n:Nat):Int).toNat]?=some [.int .i64 (b:Int)]:=by rw [Int.toNat_natCast,List.getElem?_map,List.getElem?_eq_getElem hltn,hv]; rfl
     rw [hv,hu,wrong_op] at hnext
     refine zB rfl (zr hT rfl rfl rfl rfl rfl (Int.natCast_nonneg _) hget rfl) ?_
     refine gz hT rfl ?_;conv=>whnf
     refine zC rfl (fun h=>absurd (Int.natCast_nonneg a) (by have:=of_decide_eq_true h; omega)) (fun _=>?_)
     have hlu:(wC m o (a:Int)).length≤1:=by unfold wC; split <;> simp
     refine run_skip (zAM (run_seq (run_cut (fun y:Tok=>([(1,.pin (ze m) 0),(5,.pin (yY us vs) 0),(7,.slice .no (tabR m.locks.length R)),(8,.slice y ((out++wC m o (a:Int)).map dgR)),(9,.int .i64 (t:Int)),(10,.int .i64 (f:Int)),(11,.int .i64 (n:Int)),(12,.pin (opV o) 0)],[.tl y])) (fun y=>xg 3 y=true) ?_ ?_)))
     ·by_cases h17:o.kind=17
      ·obtain ⟨a0,a1⟩:=hof (.inr h17)
       obtain ⟨ok,oa,o2,o3,o4,o5,o6,o7,oargs,onext,oels,oat⟩:=o
       dsimp only at h17 a0 a1
       subst h17
       obtain ⟨A,rfl⟩:∃ A:Nat,oa=A:=⟨oa.toNat,by omega⟩
       have hA:A < m.locks.length:=by omega
       have hnm:wz m ((A:Nat):Int)=m.locks[A]:=by unfold wz; rw [Int.toNat_natCast,List.getElem?_eq_getElem hA]; rfl
       refine gz hT rfl ?_;conv=>whnf
       refine zG rfl rfl rfl rfl (fun _=>?_) (fun h=>absurd (show decide ((17:Int)=17)=false from h) (by decide))
       refine gz hT rfl ?_;conv=>whnf
       refine zB rfl (g_shrN (n:=a) (l:=A) (by omega) rfl rfl rfl) ?_
       have hbit:=shr_bit0 (l:=A) ha
       generalize a >>> A=q at hbit
       refine gz hT rfl ?_;conv=>whnf
       refine zC rfl (fun h0=>?_) (fun h0=>?_)
       ·have h0:decide (ym ((q:Nat):Int) 1=0)=true:=h0
        rw [hbit] at h0
        have hw:wC m ⟨17,(A:Int),o2,o3,o4,o5,o6,o7,oargs,onext,oels,oat⟩ (a:Int)=[(oat,80,m.locks[A])]:=by
         unfold wC
         rw [if_pos ⟨rfl,by unfold vl; dsimp only; rw [Int.toNat_natCast,Int.toNat_natCast]; simpa using h0⟩]
         dsimp only
         rw [hnm]
        rw [hw]
        refine gz hT rfl ?_;conv=>whnf
        intro id
        refine zd hT rfl rfl ?_ id
        repeat' (first
         | (refine god hT 1 rfl ?_;conv=>whnf)
         | refine zV rfl ?_
         | refine q_g rfl (fun S'=>(zK hT rfl rfl rfl rfl rfl rfl (List.length_map _)).qs) ?_
         | refine zk rfl rfl rfl rfl (fun h=>?_) (fun h=>?_)
         | refine q_g rfl (fun S'=>(zJ (i:=A) (xs:=m.locks) (g:=vi) hT rfl rfl rfl rfl rfl hA rfl).qs) ?_
         | refine q_g rfl (fun S'=>zH hT rfl rfl rfl rfl rfl rfl rfl rfl ⟨rfl,rfl⟩) ?_)
        refine zS rfl (eff rfl rfl (zx (news:=[dgR (oat,80,m.locks[A])]) hT rfl rfl rfl rfl rfl rfl rfl rfl rfl rfl ht8 .here (yO (g:=dgR) (n:=3) (fun _=>rfl) _) (fun r hr=>by rw [List.mem_singleton.1 hr]; rfl) (fun r hr=>by rw [List.mem_singleton.1 hr]; rfl) (by rw [List.length_map,List.length_singleton]; omega) fun t8 ht8=>(And.intro trivial ?_)))
        refine god hT 1 rfl ?_;conv=>whnf
        refine zV rfl ?_
        refine gz hT rfl ?_;conv=>whnf
        exact ⟨t8,ht8,⟨lk rfl,lk rfl,lk rfl,⟨_,rfl,by rw [← dg_one]; exact .refl _⟩,lk rfl,lk rfl,lk rfl,lk rfl,trivial⟩,.refl _⟩
       ·have h0:decide (ym ((q:Nat):Int) 1=0)=false:=h0
        rw [hbit] at h0
        have hw:wC m ⟨17,(A:Int),o2,o3,o4,o5,o6,o7,oargs,onext,oels,oat⟩ (a:Int)=[]:=by
         unfold wC
         refine if_neg fun e=>?_
         have e2:=e.2
         unfold vl at e2
         dsimp only at e2
         rw [Int.toNat_natCast,Int.toNat_natCast] at e2
         rw [e2] at h0
         cases h0
        rw [hw,List.append_nil]
        refine gz hT rfl ?_;conv=>whnf
        exact ⟨t8,ht8,⟨lk rfl,lk rfl,lk rfl,lk rfl,lk rfl,lk rfl,lk rfl,lk rfl,trivial⟩,.refl _⟩
      ·have hw:wC m o (a:Int)=[]:=by unfold wC; exact if_neg fun e=>h17 e.1
       rw [hw,List.append_nil]
       refine gz hT rfl ?_;conv=>whnf
       refine zG rfl rfl rfl rfl (fun h=>absurd (of_decide_eq_true h) h17) (fun _=>?_)
       refine gz hT rfl ?_;conv=>whnf
       exact ⟨t8,ht8,⟨lk rfl,lk rfl,lk rfl,lk rfl,lk rfl,lk rfl,lk rfl,lk rfl,trivial⟩,.refl _⟩
     clear ht8
     intro t8 ht8
     have hlo:(out++wC m o (a:Int)).length≤1800001:=by rw [List.length_append]; omega
     have hnext:=hnext.trans (List.append_assoc _ _ _).symm
     generalize out++wC m o (a:Int)=out2 at hnext hlo
     refine gz hT rfl ?_;conv=>whnf
     refine zW (fun x:Nat×Tok=>([(1,.pin (ze m) 0),(5,.pin (yY us vs) 0),(7,.slice .no (tabR m.locks.length R)),(8,.slice x.2 ((out2++(if o.kind=16 then qG m R o (b:Int) x.1 else [])).map dgR)),(9,.int .i64 (t:Int)),(10,.int .i64 (f:Int)),(11,.int .i64 (n:Int)),(12,.pin (opV o) 0),(14,.int .i64 (x.1:Int))],[.tl x.2])) (fun x=>x.1≤m.locks.length∧xg 3 x.2=true) (fun x=>m.locks.length - x.1) (0,t8) ⟨Nat.zero_le _,ht8⟩ ⟨⟨lk rfl,lk rfl,lk rfl,⟨_,rfl,by show V.Le (.slice t8 (out2.map dgR)) (.slice t8 ((out2++(if o.kind=16 then [] else [])).map dgR)); rw [ite_self,List.append_nil]; exact .refl _⟩,lk rfl,lk rfl,lk rfl,lk rfl,lk rfl,trivial⟩,.refl _⟩ ?_
     rintro ⟨l,t8⟩ ⟨hll,ht8⟩
     dsimp only at hll ht8
     have hfin:(¬ l < m.locks.length∨¬ o.kind=16)→(if o.kind=16 then qG m R o (b:Int) l else [])=(if o.kind=16 then qG m R o (b:Int) m.locks.length else []):=fun h=>by
      rcases h with h | h
      ·rw [show l=m.locks.length by omega]
      ·rw [if_neg h,if_neg h]
     refine gz hT rfl ?_;conv=>whnf
     refine zB rfl (zK hT rfl rfl rfl rfl rfl rfl (List.length_map _)) ?_
     refine gz hT rfl ?_;conv=>whnf
     refine zG rfl rfl rfl rfl (fun hltl=>?_) (fun hltl=>?_)
     ·simp only [decide_eq_true_eq,Int.ofNat_lt] at hltl
      refine gz hT rfl ?_;conv=>whnf
      refine zC rfl (fun h16=>?_) (fun h16=>?_)
      ·have h16:o.kind=16:=of_decide_eq_true h16
       obtain ⟨a0,a1⟩:=hof (.inl h16)
       rw [if_pos h16]
       have hwl:=zDb m R o (b:Int) l
       have hwn:=zBQ m R o (b:Int) l
       have hgl:(m.locks.map vi)[o.a.toNat]?=some (vi (wz m o.a)):=by
        rw [List.getElem?_map,List.getElem?_eq_getElem (by omega)]
        unfold wz
        rw [List.getElem?_eq_getElem (by omega)]
        rfl
       have hgr:(tabR m.locks.length R)[o.a.toNat]?=some [V.slice .no (zAp m.locks.length R o.a.toNat)]:=tabR_get' (by omega)
       refine gz hT rfl ?_;conv=>whnf
       refine zB rfl (zJ (xs:=vs) hT rfl rfl rfl rfl rfl hltt rfl) ?_
       refine gz hT rfl ?_;conv=>whnf
       refine zB rfl (zJ (xs:=vs[t]) hT rfl rfl rfl rfl rfl hltf rfl) ?_
       refine gz hT rfl ?_;conv=>whnf
       refine zB rfl (zr hT rfl rfl rfl rfl rfl (Int.natCast_nonneg _) hgetv rfl) ?_
       refine gz hT rfl ?_;conv=>whnf
       refine zB rfl (g_shrN (n:=b) (l:=l) (by omega) rfl rfl rfl) ?_
       have hbit:=shr_bit (l:=l) hb
       have hhas:vl (b:Int) l=b.testBit l:=by unfold vl; rw [Int.toNat_natCast]
       rw [hhas] at hwl
       generalize b >>> l=q at hbit
       refine gz hT rfl ?_;conv=>whnf
       refine zG rfl rfl rfl rfl (fun h0=>?_) (fun h0=>?_)
       ·have h0:decide (ym ((q:Nat):Int) 1=1)=true:=h0
        rw [hbit] at h0
        rw [h0,Bool.true_and] at hwl
        refine gz hT rfl ?_;conv=>whnf
        refine zB rfl (zr hT rfl rfl rfl rfl rfl a0 hgr rfl) ?_
        refine gz hT rfl ?_;conv=>whnf
        refine zB rfl (zr hT rfl rfl rfl rfl rfl (Int.natCast_nonneg _) (by rw [Int.toNat_natCast]; exact rowRR_get' hltl) rfl) ?_
        refine gz hT rfl ?_;conv=>whnf
        refine zC rfl (fun h2=>?_) (fun h2=>?_)
        ·have h2:R o.a.toNat l=true:=h2
         rw [if_pos h2] at hwl
         refine gz hT rfl ?_;conv=>whnf
         intro id
         refine zd hT rfl rfl ?_ id
         repeat' (first
          | (refine god hT 1 rfl ?_;conv=>whnf)
          | refine zV rfl ?_
          | refine q_g rfl (fun S'=>(zK hT rfl rfl rfl rfl rfl rfl (List.length_map _)).qs) ?_
          | refine zk rfl rfl rfl rfl (fun h=>?_) (fun h=>?_)
          | refine q_g rfl (fun S'=>(zr hT rfl rfl rfl rfl rfl a0 hgl rfl).qs) ?_
          | refine q_g rfl (fun S'=>zH hT rfl rfl rfl rfl rfl rfl rfl rfl ⟨rfl,rfl⟩) ?_)
         refine zS rfl (eff rfl rfl (zx (news:=[dgR (o.at_,82,wz m o.a)]) hT rfl rfl rfl rfl rfl rfl rfl rfl rfl rfl ht8 .here (yO (g:=dgR) (n:=3) (fun _=>rfl) _) (fun r hr=>by rw [List.mem_singleton.1 hr]; rfl) (fun r hr=>by rw [List.mem_singleton.1 hr]; rfl) (by rw [List.length_map,List.length_singleton,List.length_append]; dsimp only; omega) fun t8 ht8=>(And.intro trivial ?_)))
         refine god hT 1 rfl ?_;conv=>whnf
         refine zV rfl ?_
         refine gz hT rfl ?_;conv=>whnf
         refine zB rfl (zU rfl rfl rfl (by omega)) ?_
         refine gz hT rfl ?_;conv=>whnf
         exact ⟨(l+1,t8),⟨hltl,ht8⟩,by dsimp only; omega,⟨⟨lk rfl,lk rfl,lk rfl,⟨_,rfl,by dsimp only; rw [if_pos h16,hwl,← List.append_assoc,← dg_one]; exact .refl _⟩,lk rfl,lk rfl,lk rfl,lk rfl,lk rfl,trivial⟩,.refl _⟩⟩
        ·have h2:R o.a.toNat l=false:=h2
         rw [if_neg (by rw [h2]; decide),List.append_nil] at hwl
         refine gz hT rfl ?_;conv=>whnf
         refine zB rfl (zU rfl rfl rfl (by omega)) ?_
         refine gz hT rfl ?_;conv=>whnf
         exact ⟨(l+1,t8),⟨hltl,ht8⟩,by dsimp only; omega,⟨⟨lk rfl,lk rfl,lk rfl,⟨_,rfl,by dsimp only; rw [if_pos h16,hwl]; exact .refl _⟩,lk rfl,lk rfl,lk rfl,lk rfl,lk rfl,trivial⟩,.refl _⟩⟩
       ·have h0:decide (ym ((q:Nat):Int) 1=1)=false:=h0
        rw [hbit] at h0
        rw [h0,Bool.false_and,if_neg (by decide),List.append_nil] at hwl
        refine gz hT rfl ?_;conv=>whnf
        refine zB rfl (zU rfl rfl rfl (by omega)) ?_
        refine gz hT rfl ?_;conv=>whnf
        exact ⟨(l+1,t8),⟨hltl,ht8⟩,by dsimp only; omega,⟨⟨lk rfl,lk rfl,lk rfl,⟨_,rfl,by dsimp only; rw [if_pos h16,hwl]; exact .refl _⟩,lk rfl,lk rfl,lk rfl,lk rfl,lk rfl,trivial⟩,.refl _⟩⟩
      ·have h16:¬ o.kind=16:=of_decide_eq_false h16
       refine gz hT rfl ?_;conv=>whnf
       refine zB rfl (zU rfl rfl rfl (by omega)) ?_
       refine gz hT rfl ?_;conv=>whnf
       exact ⟨(n+1,t8),⟨hltn,ht8⟩,by dsimp only; omega,⟨lk rfl,lk rfl,lk rfl,⟨_,rfl,by dsimp only; rw [hnext,← hfin (.inr h16)]; exact .refl _⟩,lk rfl,lk rfl,lk rfl,trivial⟩,.refl _⟩
     ·simp only [decide_eq_false_iff_not,Int.ofNat_lt] at hltl
      refine gz hT rfl ?_;conv=>whnf
      refine zB rfl (zU rfl rfl rfl (by omega)) ?_
      refine gz hT rfl ?_;conv=>whnf
      exact ⟨(n+1,t8),⟨hltn,ht8⟩,by dsimp only; omega,⟨lk rfl,lk rfl,lk rfl,⟨_,rfl,by dsimp only; rw [hnext,← hfin (.inl hltl)]; exact .refl _⟩,lk rfl,lk rfl,lk rfl,trivial⟩,.refl _⟩
   ·simp only [decide_eq_false_iff_not,Int.ofNat_lt] at hltn
    have:n=vs[t][f].length:=by omega
    subst this
    have hfl:=hl.f _ (List.getElem_mem hltt)
    refine gz hT rfl ?_;conv=>whnf
    refine zB rfl (zU rfl rfl rfl (by omega)) ?_
    refine gz hT rfl ?_;conv=>whnf
    refine ⟨(f+1,t8),⟨hltf,ht8⟩,by dsimp only; omega,⟨lk rfl,lk rfl,lk rfl,⟨_,rfl,?_⟩,lk rfl,lk rfl,trivial⟩,.refl _⟩
    dsimp only
    rw [ue m us[t] vs[t] f hlfu hltf]
    exact .refl _
  ·simp only [decide_eq_false_iff_not,Int.ofNat_lt] at hltf
   have:f=vs[t].length:=by omega
   subst this
   have htl:=hl.t
   refine gz hT rfl ?_;conv=>whnf
   refine zB rfl (zU rfl rfl rfl (by omega)) ?_
   refine gz hT rfl ?_;conv=>whnf
   refine ⟨(t+1,t8),⟨hltt,ht8⟩,by dsimp only; omega,⟨lk rfl,lk rfl,lk rfl,⟨_,rfl,?_⟩,lk rfl,trivial⟩,.refl _⟩
   dsimp only
   rw [uf m us vs t hltu hltt]
   exact .refl _
 ·simp only [decide_eq_false_iff_not,Int.ofNat_lt] at hltt
  have:t=vs.length:=by omega
  subst this
  have hb:=hbound (zZ m us vs) List.prefix_rfl
  have hss:yd m us vs vs.length=zZ m us vs:=rfl
  rw [hss]
  refine gz hT rfl ?_;conv=>whnf
  refine zA rfl (zR hT rfl rfl rfl rfl rfl rfl (sortedRef hT ((zZ m us vs).flatMap (xF m R)) (by omega)) ?_)
  refine gz hT rfl ?_;conv=>whnf
  exact zQ (.tmp rfl .nil) rfl
end
end Go.Vw
namespace Go.Vw
open Go.RowKit Go.Am Go.Proofs Go.Ord Go.Sort
attribute [local irreducible] yE zv zq VD VDn VDq Ret
section
variable [Drw] (hT:TabOk tab Tryz.prog)
include hT
theorem heldRefW (m:MModule) (hs:Small m) (hr:zO m=false):Pure Tryz.prog 38 [.agg (ze m)] (.tup [.agg (yY [] []),.int .i64 70]) :=
 VC.mono (findRef hT m hs (rightRef hT m hs)) (by
  rintro v S ⟨us',vs',e2,rfl,hv'⟩
  rcases hv' with ⟨hr',_⟩ | ⟨_,rfl,rfl,rfl⟩
  ·rw [hr] at hr'; cases hr'
  ·rfl)
theorem findRefW (m:MModule) (hs:Small m) (hr:zO m=false):Pure Tryz.prog 14 [.agg (ze m)] (.tup [.slice .no [],.int .i64 70]):=by
 refine VC.code hT 128 rfl rfl rfl rfl fun F W S0=>?_
 refine gz hT rfl ?_;conv=>whnf
 refine zA rfl (zN rfl rfl rfl ?_)
 refine gz hT rfl ?_;conv=>whnf
 refine zA rfl (zR hT rfl rfl rfl rfl rfl rfl (heldRefW hT m hs hr) ?_)
 refine gz hT rfl ?_;conv=>whnf
 refine zA rfl (zX hT rfl rfl rfl fun b4=>?_)
 refine gz hT rfl ?_;conv=>whnf
 refine zA rfl (zI (cs':=yY [] []) hT rfl rfl rfl .here rfl ?_)
 refine yC (.drop (.refl _)) ?_
 refine gz hT rfl ?_;conv=>whnf
 refine zC rfl (fun _=>?_) (fun h=>absurd h (by decide))
 refine gz hT rfl ?_;conv=>whnf
 exact zQ (.tmpL rfl (V.Le.slice _ _) (.tmp rfl .nil)) rfl
theorem checkRefW (m:MModule) (hs:Small m) (hr:zO m=false):Pure Tryz.prog 18 [.agg (ze m)] (.slice .no []):=by
 refine VC.code hT 161 rfl rfl rfl rfl fun F W S0=>?_
 refine gz hT rfl ?_;conv=>whnf
 refine zA rfl (zN rfl rfl rfl ?_)
 refine gz hT rfl ?_;conv=>whnf
 refine zA rfl (zR hT rfl rfl rfl rfl rfl rfl (findRefW hT m hs hr) ?_)
 refine gz hT rfl ?_;conv=>whnf
 refine zC rfl (fun _=>?_) (fun h=>absurd h (by decide))
 refine gz hT rfl ?_;conv=>whnf
 exact zQ (.tmpL rfl (V.Le.slice _ _) .nil) rfl
theorem tail_of (m:MModule) (hs:Small m) {v:V} (hv:EdgesE m v):∃ (es:List (Int×Int)) (D:List yj) (e:Int),v = .tup [.slice .no (es.map prs),.int .i64 e]∧es.length < 2000000∧D.length < 2000000 ∧
  Pure Tryz.prog 14 [.agg (ze m)] (.tup [.slice .no (es.map prs),.int .i64 e]) ∧
  Pure Tryz.prog 17 [.agg (ze m)] (.slice .no (D.map dgR))∧Pure Tryz.prog 18 [.agg (ze m)] (.slice .no (D.map dgR)):=by
 rcases hv with ⟨hr,us,vs,hth,rfl⟩ | ⟨hr,rfl⟩
 ·have hL:=(xB (by simp only [zO,Bool.and_eq_true] at hr; exact hr.1)).1
  have hsl:=zCq hs hr hth
  refine ⟨_,_,_,rfl,?_,?_,findRef20 hT m hs hr hth,VC.mono (checkE hT m hs) ?_,checkRef20 hT m hs hr hth⟩
  ·have:=kx hL (zZ m us vs)
   unfold ye at this
   rw [List.length_map] at this
   omega
  ·have h1:=sortD_len (rawM m us vs)
   have h2:(rawM m us vs).length≤_:=kB _ _ _
   omega
  ·rintro v S (⟨_,us',vs',hth',rfl⟩ | ⟨hr',_⟩)
   ·obtain ⟨rfl,rfl⟩:=hth.unique hth'
    rfl
   ·rw [hr] at hr'; cases hr'
 ·refine ⟨[],[],70,rfl,by decide,by decide,findRefW hT m hs hr,VC.mono (checkE hT m hs) ?_,checkRefW hT m hs hr⟩
  rintro v S (⟨hr',_⟩ | ⟨_,rfl⟩)
  ·rw [hr] at hr'; cases hr'
  ·rfl
set_option maxRecDepth 100000 in
set_option maxHeartbeats 2000000 in
theorem orderFinds (m:MModule) (hs:Small m) (hn:SmallN m) (S:Hp) (hal:VC Tryz.prog 10 [] S fun v S'=>v = .ob true∧S'=S):VC Tryz.prog 3 [.agg (ze m)] S fun v _=>v = .ob true:=by
 refine VC.code hT 44 rfl rfl rfl rfl fun F W S0=>?_
 refine gz hT rfl ?_;conv=>whnf
 refine zA rfl (zN rfl rfl rfl ?_)
 refine gz hT rfl ?_;conv=>whnf
 refine zA rfl (yQ hT rfl rfl rfl rfl rfl rfl (hal.mono ?_))
 rintro _ S' ⟨rfl,rfl⟩
 refine gz hT rfl ?_;conv=>whnf
 refine run_f rfl rfl ?_
 refine gz hT rfl ?_;conv=>whnf
 refine zA rfl (yl hT rfl rfl rfl rfl rfl rfl (great hT m hs hn) ?_)
 rintro _ ⟨b,rfl⟩
 refine gz hT rfl ?_;conv=>whnf
 refine zC rfl (fun _=>?_) (fun _=>?_)
 ·refine gz hT rfl ?_;conv=>whnf
  exact zP rfl rfl rfl rfl
 refine gz hT rfl ?_;conv=>whnf
 refine zA rfl (zR hT rfl rfl rfl rfl rfl rfl (copyModule hT m hs) ?_)
 refine gz hT rfl ?_;conv=>whnf
 refine zA rfl (zX hT rfl rfl rfl fun b3=>?_)
 refine gz hT rfl ?_;conv=>whnf
 refine zA rfl (zI (cs':=ze m) hT rfl rfl rfl .here rfl ?_)
 refine zo (t:=3) rfl ?_
 refine gz hT rfl ?_;conv=>whnf
 refine zA rfl (yl hT rfl rfl rfl rfl rfl rfl (edgesE hT m hs) ?_)
 intro v hv
 obtain ⟨es,D,e,rfl,he,hD,h2,h3,h4⟩:=tail_of hT m hs hv
 refine gz hT rfl ?_;conv=>whnf
 refine zA rfl (zR hT rfl rfl rfl rfl rfl rfl h2 ?_)
 refine gz hT rfl ?_;conv=>whnf
 intro id
 refine zd hT rfl rfl ?_ id
 repeat' (first
  | (refine god hT 1 rfl ?_;conv=>whnf)
  | refine zV rfl ?_
  | refine q_g rfl (fun S'=>(zK hT rfl rfl rfl rfl rfl rfl (List.length_map _)).qs) ?_
  | refine zk rfl rfl rfl rfl (fun h=>?_) (fun h=>?_)
  | exact absurd rfl (of_decide_eq_false h))
 refine zS rfl (eff rfl rfl (zR hT rfl rfl rfl rfl rfl rfl (sameEdges hT es es he) (And.intro trivial ?_)))
 repeat' (first
  | (refine god hT 1 rfl ?_;conv=>whnf)
  | refine zV rfl ?_
  | refine q_g rfl (fun S'=>(zK hT rfl rfl rfl rfl rfl rfl (List.length_map _)).qs) ?_
  | refine zk rfl rfl rfl rfl (fun h=>?_) (fun h=>?_)
  | exact absurd rfl (of_decide_eq_false h))
 refine zS rfl (eff rfl rfl (zR hT rfl rfl rfl rfl rfl rfl h3 (And.intro trivial ?_)))
 repeat' (first
  | (refine god hT 1 rfl ?_;conv=>whnf)
  | refine zV rfl ?_
  | refine q_g rfl (fun S'=>(zK hT rfl rfl rfl rfl rfl rfl (List.length_map _)).qs) ?_
  | refine zk rfl rfl rfl rfl (fun h=>?_) (fun h=>?_)
  | fail)
 refine zS rfl (eff rfl rfl (zR hT rfl rfl rfl rfl rfl rfl h4 (And.intro trivial ?_)))
 repeat' (first
  | (refine god hT 1 rfl ?_;conv=>whnf)
  | refine zV rfl ?_
  | refine q_g rfl (fun S'=>(zK hT rfl rfl rfl rfl rfl rfl (List.length_map _)).qs) ?_
  | refine zk rfl rfl rfl rfl (fun h=>?_) (fun h=>?_)
  | fail)
 refine zS rfl (eff rfl rfl (zR hT rfl rfl rfl rfl rfl rfl (zFL hT D hD) (And.intro trivial ?_)))
 repeat' (first
  | (refine god hT 1 rfl ?_;conv=>whnf)
  | refine zV rfl ?_
  | refine q_g rfl (fun S'=>(zK hT rfl rfl rfl rfl rfl rfl (List.length_map _)).qs) ?_
  | refine zk rfl rfl rfl rfl (fun h=>?_) (fun h=>?_)
  | (cases h; done))
 refine zS rfl (eff rfl rfl (zR hT rfl rfl rfl rfl rfl rfl (zDg hT m hs) (And.intro trivial ?_)))
 repeat' (first
  | (refine god hT 1 rfl ?_;conv=>whnf)
  | refine zV rfl ?_
  | refine q_g rfl (fun S'=>(zK hT rfl rfl rfl rfl rfl rfl (List.length_map _)).qs) ?_
  | refine zk rfl rfl rfl rfl (fun h=>?_) (fun h=>?_)
  | fail)
 refine gz hT rfl ?_;conv=>whnf
 exact zP rfl rfl rfl rfl
end
end Go.Vw
