/- Edges, stops, sorted keys and rows; no condition beyond bounds on lengths. -/
import Derived.Test.YtamokenjdmfgbaaGreatDoorProg
import Derived.Ground.SlsfProg
import Derived.Shelf.SlLaysF0
import Derived.Test.YtamokenjdmfgbaaGreatDoorME
import Derived.Test.YtamokenjdmfgbaaGreatDoorMD
namespace Go.Proofs
open Go.Shelf
def Tryz.sortPairs_ren:Go.Shelf.Ren:=⟨fun | 6=>148 | 15=>91 | 14=>200 | 28=>158 | 29=>159 | 20=>249 | 21=>250 | 22=>251 | 23=>252 | 24=>253 | 25=>254 | 26=>255 | 27=>256 | 46=>306 | 47=>202 | 48=>203 | 49=>307 | 50=>308 | 57=>332 | n=>n,fun | 22=>31 | 24=>44 | 25=>162 | 3=>3 | 39=>86 | 0=>0 | 53=>274 | 55=>276 | 4=>4 | 46=>267 | 45=>266 | 50=>271 | 5=>5 | 9=>9 | 66=>319 | 70=>323 | 76=>359 | 77=>288 | n=>n,fun | n=>n⟩
theorem Tryz.sortPairs:Go.Proofs.SlLaysF0.n6 Tryz.prog Tryz.sortPairs_ren:={
 mixed:=by kernel_rfl
 f6:=⟨Tryz.f148.name,by decide,Tryz.func148.trans (congrArg some (by kernel_rfl))⟩
 f14:=⟨Tryz.f200.name,by decide,Tryz.func200.trans (congrArg some (by kernel_rfl))⟩
 f15:=Tryz.func91.trans (congrArg some (by kernel_rfl))
 f20:=⟨Tryz.f249.name,by decide,Tryz.func249.trans (congrArg some (by kernel_rfl))⟩
 f21:=⟨Tryz.f250.name,by decide,Tryz.func250.trans (congrArg some (by kernel_rfl))⟩
 f22:=⟨Tryz.f251.name,by decide,Tryz.func251.trans (congrArg some (by kernel_rfl))⟩
 f23:=⟨Tryz.f252.name,by decide,Tryz.func252.trans (congrArg some (by kernel_rfl))⟩
 f24:=⟨Tryz.f253.name,by decide,Tryz.func253.trans (congrArg some (by kernel_rfl))⟩
 f25:=⟨Tryz.f254.name,by decide,Tryz.func254.trans (congrArg some (by kernel_rfl))⟩
 f26:=⟨Tryz.f255.name,by decide,Tryz.func255.trans (congrArg some (by kernel_rfl))⟩
 f27:=⟨Tryz.f256.name,by decide,Tryz.func256.trans (congrArg some (by kernel_rfl))⟩
 f28:=Tryz.func158.trans (congrArg some (by kernel_rfl))
 f29:=Tryz.func159.trans (congrArg some (by kernel_rfl))
 f46:=⟨Tryz.f306.name,by decide,Tryz.func306.trans (congrArg some (by kernel_rfl))⟩
 f47:=Tryz.func202.trans (congrArg some (by kernel_rfl))
 f48:=Tryz.func203.trans (congrArg some (by kernel_rfl))
 f49:=⟨Tryz.f307.name,by decide,Tryz.func307.trans (congrArg some (by kernel_rfl))⟩
 f50:=⟨Tryz.f308.name,by decide,Tryz.func308.trans (congrArg some (by kernel_rfl))⟩
 f57:=⟨Tryz.f332.name,by decide,Tryz.func332.trans (congrArg some (by kernel_rfl))⟩
 t0:=Tryz.underlying0
 a0:=Tryz.isAgg0
 z0:=Tryz.sizeOf0
 v0:=Tryz.zeroValue0
 t3:=Tryz.underlying3
 a3:=Tryz.isAgg3
 z3:=Tryz.sizeOf3
 v3:=Tryz.zeroValue3
 t4:=Tryz.underlying4
 a4:=Tryz.isAgg4
 z4:=Tryz.sizeOf4
 v4:=Tryz.zeroValue4
 t5:=Tryz.underlying5
 a5:=Tryz.isAgg5
 z5:=Tryz.sizeOf5
 v5:=Tryz.zeroValue5
 t9:=Tryz.underlying9
 a9:=Tryz.isAgg9
 z9:=Tryz.sizeOf9
 v9:=Tryz.zeroValue9
 t22:=Tryz.underlying31
 a22:=Tryz.isAgg31
 z22:=Tryz.sizeOf31
 v22:=Tryz.zeroValue31
 t25:=Tryz.underlying162
 a25:=Tryz.isAgg162
 z25:=Tryz.sizeOf162
 v25:=Tryz.zeroValue162
 t39:=Tryz.underlying86
 a39:=Tryz.isAgg86
 z39:=Tryz.sizeOf86
 v39:=Tryz.zeroValue86
 t45:=Tryz.underlying266
 a45:=Tryz.isAgg266
 z45:=Tryz.sizeOf266
 v45:=Tryz.zeroValue266
 t46:=Tryz.underlying267
 a46:=Tryz.isAgg267
 z46:=Tryz.sizeOf267
 v46:=Tryz.zeroValue267
 t50:=Tryz.underlying271
 a50:=Tryz.isAgg271
 z50:=Tryz.sizeOf271
 v50:=Tryz.zeroValue271
 t53:=Tryz.underlying274
 a53:=Tryz.isAgg274
 z53:=Tryz.sizeOf274
 v53:=Tryz.zeroValue274
 t55:=Tryz.underlying276
 a55:=Tryz.isAgg276
 z55:=Tryz.sizeOf276
 v55:=Tryz.zeroValue276
 t66:=Tryz.underlying319
 a66:=Tryz.isAgg319
 z66:=Tryz.sizeOf319
 v66:=Tryz.zeroValue319
 t70:=Tryz.underlying323
 a70:=Tryz.isAgg323
 z70:=Tryz.sizeOf323
 v70:=Tryz.zeroValue323
 t76:=Tryz.underlying359
 a76:=Tryz.isAgg359
 z76:=Tryz.sizeOf359
 v76:=Tryz.zeroValue359
 t77:=Tryz.underlying288
 a77:=Tryz.isAgg288
 z77:=Tryz.sizeOf288
 v77:=Tryz.zeroValue288 }
def Tryz.sortDiags_ren:Go.Shelf.Ren:=⟨fun | 6=>42 | 15=>91 | 14=>90 | 28=>158 | 29=>159 | 20=>150 | 21=>151 | 22=>152 | 23=>153 | 24=>154 | 25=>155 | 26=>156 | 27=>157 | 46=>201 | 47=>202 | 48=>203 | 49=>204 | 50=>205 | 57=>257 | n=>n,fun | 22=>37 | 24=>47 | 25=>98 | 3=>3 | 39=>86 | 0=>0 | 53=>274 | 55=>276 | 4=>4 | 46=>267 | 45=>266 | 50=>271 | 5=>5 | 9=>9 | 66=>319 | 70=>323 | 76=>359 | 77=>288 | n=>n,fun | n=>n⟩
theorem Tryz.sortDiags:Go.Proofs.SlLaysF0.n6 Tryz.prog Tryz.sortDiags_ren:={
 mixed:=by kernel_rfl
 f6:=⟨Tryz.f42.name,by decide,Tryz.func42.trans (congrArg some (by kernel_rfl))⟩
 f14:=⟨Tryz.f90.name,by decide,Tryz.func90.trans (congrArg some (by kernel_rfl))⟩
 f15:=Tryz.func91.trans (congrArg some (by kernel_rfl))
 f20:=⟨Tryz.f150.name,by decide,Tryz.func150.trans (congrArg some (by kernel_rfl))⟩
 f21:=⟨Tryz.f151.name,by decide,Tryz.func151.trans (congrArg some (by kernel_rfl))⟩
 f22:=⟨Tryz.f152.name,by decide,Tryz.func152.trans (congrArg some (by kernel_rfl))⟩
 f23:=⟨Tryz.f153.name,by decide,Tryz.func153.trans (congrArg some (by kernel_rfl))⟩
 f24:=⟨Tryz.f154.name,by decide,Tryz.func154.trans (congrArg some (by kernel_rfl))⟩
 f25:=⟨Tryz.f155.name,by decide,Tryz.func155.trans (congrArg some (by kernel_rfl))⟩
 f26:=⟨Tryz.f156.name,by decide,Tryz.func156.trans (congrArg some (by kernel_rfl))⟩
 f27:=⟨Tryz.f157.name,by decide,Tryz.func157.trans (congrArg some (by kernel_rfl))⟩
 f28:=Tryz.func158.trans (congrArg some (by kernel_rfl))
 f29:=Tryz.func159.trans (congrArg some (by kernel_rfl))
 f46:=⟨Tryz.f201.name,by decide,Tryz.func201.trans (congrArg some (by kernel_rfl))⟩
 f47:=Tryz.func202.trans (congrArg some (by kernel_rfl))
 f48:=Tryz.func203.trans (congrArg some (by kernel_rfl))
 f49:=⟨Tryz.f204.name,by decide,Tryz.func204.trans (congrArg some (by kernel_rfl))⟩
 f50:=⟨Tryz.f205.name,by decide,Tryz.func205.trans (congrArg some (by kernel_rfl))⟩
 f57:=⟨Tryz.f257.name,by decide,Tryz.func257.trans (congrArg some (by kernel_rfl))⟩
 t0:=Tryz.underlying0
 a0:=Tryz.isAgg0
 z0:=Tryz.sizeOf0
 v0:=Tryz.zeroValue0
 t3:=Tryz.underlying3
 a3:=Tryz.isAgg3
 z3:=Tryz.sizeOf3
 v3:=Tryz.zeroValue3
 t4:=Tryz.underlying4
 a4:=Tryz.isAgg4
 z4:=Tryz.sizeOf4
 v4:=Tryz.zeroValue4
 t5:=Tryz.underlying5
 a5:=Tryz.isAgg5
 z5:=Tryz.sizeOf5
 v5:=Tryz.zeroValue5
 t9:=Tryz.underlying9
 a9:=Tryz.isAgg9
 z9:=Tryz.sizeOf9
 v9:=Tryz.zeroValue9
 t22:=Tryz.underlying37
 a22:=Tryz.isAgg37
 z22:=Tryz.sizeOf37
 v22:=Tryz.zeroValue37
 t25:=Tryz.underlying98
 a25:=Tryz.isAgg98
 z25:=Tryz.sizeOf98
 v25:=Tryz.zeroValue98
 t39:=Tryz.underlying86
 a39:=Tryz.isAgg86
 z39:=Tryz.sizeOf86
 v39:=Tryz.zeroValue86
 t45:=Tryz.underlying266
 a45:=Tryz.isAgg266
 z45:=Tryz.sizeOf266
 v45:=Tryz.zeroValue266
 t46:=Tryz.underlying267
 a46:=Tryz.isAgg267
 z46:=Tryz.sizeOf267
 v46:=Tryz.zeroValue267
 t50:=Tryz.underlying271
 a50:=Tryz.isAgg271
 z50:=Tryz.sizeOf271
 v50:=Tryz.zeroValue271
 t53:=Tryz.underlying274
 a53:=Tryz.isAgg274
 z53:=Tryz.sizeOf274
 v53:=Tryz.zeroValue274
 t55:=Tryz.underlying276
 a55:=Tryz.isAgg276
 z55:=Tryz.sizeOf276
 v55:=Tryz.zeroValue276
 t66:=Tryz.underlying319
 a66:=Tryz.isAgg319
 z66:=Tryz.sizeOf319
 v66:=Tryz.zeroValue319
 t70:=Tryz.underlying323
 a70:=Tryz.isAgg323
 z70:=Tryz.sizeOf323
 v70:=Tryz.zeroValue323
 t76:=Tryz.underlying359
 a76:=Tryz.isAgg359
 z76:=Tryz.sizeOf359
 v76:=Tryz.zeroValue359
 t77:=Tryz.underlying288
 a77:=Tryz.isAgg288
 z77:=Tryz.sizeOf288
 v77:=Tryz.zeroValue288 }
end Go.Proofs
namespace Go.Vw
open Go.RowKit Go.Am Go.Proofs Go.Ord
abbrev Stp:=MOp×Int×Int
def qx (m:MModule) (f n:Nat):MOp:=(m.fn (f:Int)).op (n:Int)
def vk (o:MOp) (v:Int):Bool:=decide (0≤v) && (decide (o.kind=16) || decide (o.kind=17))
def stopR (m:MModule) (f:Nat) (u v:List Int) (n:Nat):List Stp:=match u[n]?,v[n]? with
 | some a,some b=>if vk (qx m f n) b then [(qx m f n,a,b)] else []
 | _,_=>[]
def xP (m:MModule) (f:Nat) (u v:List Int) (n:Nat):List Stp:=(List.range n).flatMap (stopR m f u v)
def zBN (m:MModule) (us vs:List (List Int)) (f:Nat):List Stp:=match us[f]?,vs[f]? with
 | some u,some v=>xP m f u v v.length
 | _,_=>[]
def yv (m:MModule) (us vs:List (List Int)) (f:Nat):List Stp:=(List.range f).flatMap (zBN m us vs)
def kr (m:MModule) (us vs:List (List (List Int))) (t:Nat):List Stp:=match us[t]?,vs[t]? with
 | some u,some v=>yv m u v v.length
 | _,_=>[]
def yd (m:MModule) (us vs:List (List (List Int))) (t:Nat):List Stp:=(List.range t).flatMap (kr m us vs)
def zZ (m:MModule) (us vs:List (List (List Int))):List Stp:=yd m us vs vs.length
theorem wL {α:Type} (g:Nat→List α) (n:Nat):(List.range (n+1)).flatMap g=(List.range n).flatMap g++g n:=by
 rw [List.range_succ,List.flatMap_append]; simp
theorem vM (m:MModule) (f:Nat) (u v:List Int) (n:Nat) (h1:n < u.length) (h2:n < v.length):xP m f u v (n+1)=xP m f u v n++(if vk (qx m f n) v[n] then [(qx m f n,u[n],v[n])] else []):=by
 unfold xP
 rw [wL]
 congr 1
 unfold stopR
 rw [List.getElem?_eq_getElem h1,List.getElem?_eq_getElem h2]
theorem ue (m:MModule) (us vs:List (List Int)) (f:Nat) (h1:f < us.length) (h2:f < vs.length):yv m us vs (f+1)=yv m us vs f++xP m f us[f] vs[f] vs[f].length:=by
 unfold yv
 rw [wL]
 congr 1
 unfold zBN
 rw [List.getElem?_eq_getElem h1,List.getElem?_eq_getElem h2]
theorem uf (m:MModule) (us vs:List (List (List Int))) (t:Nat) (h1:t < us.length) (h2:t < vs.length):yd m us vs (t+1)=yd m us vs t++yv m us[t] vs[t] vs[t].length:=by
 unfold yd
 rw [wL]
 congr 1
 unfold kr
 rw [List.getElem?_eq_getElem h1,List.getElem?_eq_getElem h2]
structure TabsOk (m:MModule) (us vs:List (List (List Int))):Prop where
 len:us.length=vs.length
 fn:∀ (t:Nat) (h1:t < us.length) (h2:t < vs.length),us[t].length=m.funcs.length∧vs[t].length=m.funcs.length
 op:∀ (t f:Nat) (h1:t < us.length) (h2:t < vs.length) (h3:f < us[t].length) (h4:f < vs[t].length),us[t][f].length=vs[t][f].length∧vs[t][f].length≤(m.fn (f:Int)).code.length
 cell:∀ (t f n:Nat) (h1:t < us.length) (h2:t < vs.length) (h3:f < us[t].length) (h4:f < vs[t].length) (h5:n < us[t][f].length) (h6:n < vs[t][f].length),CellOk m.locks.length us[t][f][n] vs[t][f][n]
theorem Threads.mem {m:MModule}:∀ {fs:List Int} {us vs:List (List (List Int))},Threads m fs us vs→∀ (t:Nat) (h1:t < us.length) (h2:t < vs.length),∃ f∈fs,Thread m f us[t] vs[t]:=fun {fs us vs} h t h1 h2=>by
 obtain ⟨l1,l2⟩:=h.lens
 exact ⟨fs[t]'(by omega),List.getElem_mem _,zE0 h t (by omega) h1 h2⟩
theorem thread_rows {m:MModule} {f:Int} {a b:List (List Int)} (h:Thread m f a b) (g:Nat) (h1:g < b.length):b[g].length≤(m.fn (g:Int)).code.length:=by
 obtain ⟨y,hd,rfl,rfl⟩:=h
 simp only [yU,List.getElem_map,List.getElem_range]
 unfold wx
 split
 ·simp
 ·simp
theorem qy {m:MModule} (hs:Small m) (hr:zO m=true) {us vs:List (List (List Int))} (h:Threads m m.threads us vs):TabsOk m us vs:=by
 obtain ⟨l1,l2⟩:=h.lens
 have th:=fun t h1 h2=>h.mem t h1 h2
 refine ⟨by omega,fun t h1 h2=>?_,fun t f h1 h2 h3 h4=>?_,fun t f n h1 h2 h3 h4 h5 h6=>?_⟩
 ·obtain ⟨g,hg,k⟩:=th t h1 h2
  have:=qw hs hr hg k
  exact ⟨this.la,this.lb⟩
 ·obtain ⟨g,hg,k⟩:=th t h1 h2
  have:=qw hs hr hg k
  exact ⟨this.row f h3 h4,thread_rows k f h4⟩
 ·obtain ⟨g,hg,k⟩:=th t h1 h2
  exact (qw hs hr hg k).cell f n h3 h4 h5 h6
theorem mem_flat {α:Type} {g:Nat→List α} {n:Nat} {x:α}:x∈(List.range n).flatMap g↔∃ i,i < n∧x∈g i:=by
 rw [List.mem_flatMap]
 simp only [List.mem_range]
theorem stops_mem {m:MModule} {us vs:List (List (List Int))} {s:Stp}:s∈zZ m us vs↔∃ (t f n:Nat) (u v:List (List Int)) (a b:Int),us[t]?=some u∧vs[t]?=some v∧∃ (p q:List Int),u[f]?=some p∧v[f]?=some q∧p[n]?=some a∧q[n]?=some b∧vk (qx m f n) b=true∧s=(qx m f n,a,b):=by
 unfold zZ yd
 rw [mem_flat]
 constructor
 ·rintro ⟨t,ht,h⟩
  unfold kr at h
  split at h
  ·next u v hu hv =>
   unfold yv at h
   rw [mem_flat] at h
   obtain ⟨f,hf,h⟩:=h
   unfold zBN at h
   split at h
   ·next p q hp hq =>
    unfold xP at h
    rw [mem_flat] at h
    obtain ⟨n,hn,h⟩:=h
    unfold stopR at h
    split at h
    ·next a b ha hb =>
     split at h
     ·next hs =>
      rw [List.mem_singleton] at h
      exact ⟨t,f,n,u,v,a,b,hu,hv,p,q,hp,hq,ha,hb,hs,h⟩
     ·cases h
    ·cases h
   ·cases h
  ·cases h
 ·rintro ⟨t,f,n,u,v,a,b,hu,hv,p,q,hp,hq,ha,hb,hs,rfl⟩
  refine ⟨t,(List.getElem?_eq_some_iff.1 hv).1,?_⟩
  unfold kr
  rw [hu,hv]
  dsimp only
  unfold yv
  rw [mem_flat]
  refine ⟨f,(List.getElem?_eq_some_iff.1 hq).1,?_⟩
  unfold zBN
  rw [hp,hq]
  dsimp only
  unfold xP
  rw [mem_flat]
  refine ⟨n,(List.getElem?_eq_some_iff.1 hb).1,?_⟩
  unfold stopR
  rw [ha,hb]
  dsimp only
  rw [if_pos hs]
  simp
theorem andI_all {L:Nat} (hL:L≤8) {v:Int} (h:ym v (allI L)=v):∃ w:Nat,v=w∧w < 2 ^ L:=by
 have hp:2 ^ L≤2 ^ 8:=Nat.pow_le_pow_right (by omega) hL
 have h1:0 < 2 ^ L:=Nat.two_pow_pos L
 rw [allI_nat hL] at h
 unfold ym at h
 rw [wA (2 ^ L - 1)] at h
 change IntKind.i64.wrap (((BitVec.ofInt 64 v:BitVec 64) &&& BitVec.ofNat 64 (2 ^ L - 1)).toNat:Int)=v at h
 have hle:((BitVec.ofInt 64 v:BitVec 64) &&& BitVec.ofNat 64 (2 ^ L - 1)).toNat≤2 ^ L - 1:=by
  rw [BitVec.toNat_and]
  exact Nat.le_trans Nat.and_le_right (by rw [BitVec.toNat_ofNat]; exact Nat.mod_le _ _)
 rw [ub (by omega)] at h
 exact ⟨_,h.symm,by omega⟩
theorem andI_low {w:Nat} (hw:w < 256) {u:Int} (h:ym u (w:Int)=u):u < 256:=by
 unfold ym at h
 rw [wA w] at h
 change IntKind.i64.wrap (((BitVec.ofInt 64 u:BitVec 64) &&& BitVec.ofNat 64 w).toNat:Int)=u at h
 have hle:((BitVec.ofInt 64 u:BitVec 64) &&& BitVec.ofNat 64 w).toNat≤w:=by
  rw [BitVec.toNat_and]
  exact Nat.le_trans Nat.and_le_right (by rw [BitVec.toNat_ofNat]; exact Nat.mod_le _ _)
 rw [ub (by omega)] at h
 omega
structure StopOk (m:MModule) (s:Stp):Prop where
 kind:s.1.kind=16∨s.1.kind=17
 lock:0≤s.1.a∧s.1.a < m.locks.length
 held:∃ u v:Nat,s.2=((u:Int),(v:Int))∧∀ i,v.testBit i=true→i < m.locks.length
 low:s.2.1 < 256
theorem stop_ok {m:MModule} (hs:Small m) (hr:zO m=true) {us vs:List (List (List Int))} (h:Threads m m.threads us vs) {s:Stp} (hm:s∈zZ m us vs):StopOk m s:=by
 obtain ⟨t,f,n,u,v,a,b,hu,hv,p,q,hp,hq,ha,hb,hst,rfl⟩:=stops_mem.1 hm
 have tk:=qy hs hr h
 obtain ⟨h1,rfl⟩:=List.getElem?_eq_some_iff.1 hu
 obtain ⟨h2,rfl⟩:=List.getElem?_eq_some_iff.1 hv
 obtain ⟨h3,rfl⟩:=List.getElem?_eq_some_iff.1 hp
 obtain ⟨h4,rfl⟩:=List.getElem?_eq_some_iff.1 hq
 obtain ⟨h5,rfl⟩:=List.getElem?_eq_some_iff.1 ha
 obtain ⟨h6,rfl⟩:=List.getElem?_eq_some_iff.1 hb
 simp only [vk,Bool.and_eq_true,Bool.or_eq_true,decide_eq_true_eq] at hst
 obtain ⟨h0,hk⟩:=hst
 obtain ⟨hfn1,hfn2⟩:=tk.fn t h1 h2
 obtain ⟨ho1,ho2⟩:=tk.op t f h1 h2 h3 h4
 have hval:xA m ((f:Int),(n:Int)):=⟨belowB_one.2 ⟨by omega,by omega⟩,by show (0:Int)≤_; omega,by show (n:Int) < _; dsimp only; omega⟩
 have hof:=qV hr _ hval
 have hcell:=tk.cell t f n h1 h2 h3 h4 h5 h6
 have hL:=(xB (by simp only [zO,Bool.and_eq_true] at hr; exact hr.1)).1
 rcases hcell with ⟨_,e⟩ | ⟨c1,c2,c3,c4⟩
 ·omega
 ·obtain ⟨w,hw,hw2⟩:=andI_all hL c4
  have hw3:w < 256:=Nat.lt_of_lt_of_le hw2 (Nat.pow_le_pow_right (by omega) hL)
  refine ⟨hk,hof.lock hk,⟨_,w,Prod.ext (Int.toNat_of_nonneg c1).symm hw,fun i hi=>?_⟩,andI_low hw3 (by rw [← hw]; exact c3)⟩
  rcases Nat.lt_or_ge i m.locks.length with h | h
  ·exact h
  ·rw [Nat.testBit_lt_two_pow (Nat.lt_of_lt_of_le hw2 (Nat.pow_le_pow_right (by omega) h))] at hi
   cases hi
end Go.Vw
namespace Go.Vw
open Go.RowKit Go.Am Go.Proofs Go.Ord
def vl (v:Int) (l:Nat):Bool:=v.toNat.testBit l
def xm (ss:List Stp) (l k:Nat):Bool:=ss.any fun s=>decide (s.1.kind=16) && (decide (s.1.a=k) && vl s.2.2 l)
def wy (_L:Nat) (ss:List Stp) (l k:Nat):List (Int×Int):=(List.range k).flatMap fun k=>if xm ss l k then [((l:Int),(k:Int))] else []
def vt (L:Nat) (ss:List Stp) (l:Nat):List (Int×Int):=(List.range l).flatMap fun l=>wy L ss l L
def ug (L:Nat) (ss:List Stp):List (Int×Int):=vt L ss L
theorem edgesR_succ (L:Nat) (ss:List Stp) (l k:Nat):wy L ss l (k+1)=wy L ss l k++(if xm ss l k then [((l:Int),(k:Int))] else []):=by unfold wy; rw [wL]
theorem edgesQ_succ (L:Nat) (ss:List Stp) (l:Nat):vt L ss (l+1)=vt L ss l++wy L ss l L:=by unfold vt; rw [wL]
theorem qz (L:Nat) (ss:List Stp) (x:Int×Int):x∈ug L ss↔∃ l k,l < L∧k < L∧xm ss l k=true∧x=((l:Int),(k:Int)):=by
 unfold ug vt
 rw [mem_flat]
 constructor
 ·rintro ⟨l,hl,h⟩
  unfold wy at h
  rw [mem_flat] at h
  obtain ⟨k,hk,h⟩:=h
  split at h
  ·next e=>exact ⟨l,k,hl,hk,e,List.mem_singleton.1 h⟩
  ·cases h
 ·rintro ⟨l,k,hl,hk,e,rfl⟩
  refine ⟨l,hl,?_⟩
  unfold wy
  rw [mem_flat]
  exact ⟨k,hk,by rw [if_pos e]; simp⟩
theorem ku {g:Nat→List (Int×Int)} (h1:∀ i,SSorted ltP (g i)) (h2:∀ i j,i < j→∀ x∈g i,∀ y∈g j,ltP x y=true):∀ n,SSorted ltP ((List.range n).flatMap g)
 | 0=>.nil
 | n+1=>by
   rw [wL]
   refine List.pairwise_append.2 ⟨ku h1 h2 n,h1 n,fun x hx y hy=>?_⟩
   obtain ⟨i,hi,hx⟩:=mem_flat.1 hx
   exact h2 i n hi x hx y hy
theorem edgesP_sorted (L:Nat) (ss:List Stp):SSorted ltP (ug L ss):=by
 refine ku (fun l=>ku (fun k=>?_) (fun i j h x hx y hy=>?_) L) (fun i j h x hx y hy=>?_) L
 ·split <;> simp [SSorted]
 ·split at hx
  ·split at hy
   ·rw [List.mem_singleton] at hx hy
    subst hx hy
    have:((i:Nat):Int) < (j:Int):=by omega
    simp [ltP,this]
   ·cases hy
  ·cases hx
 ·obtain ⟨k,_,hx⟩:=mem_flat.1 hx
  obtain ⟨k',_,hy⟩:=mem_flat.1 hy
  split at hx
  ·split at hy
   ·rw [List.mem_singleton] at hx hy
    subst hx hy
    have:((i:Nat):Int) < (j:Int):=by omega
    simp [ltP,this]
   ·cases hy
  ·cases hx
def ye (L:Nat) (ss:List Stp):List (Nat×Nat):=(ug L ss).map fun e=>(e.1.toNat,e.2.toNat)
def uz (e:Nat×Nat):Int×Int:=((e.1:Int),(e.2:Int))
theorem zAm (L:Nat) (ss:List Stp):(ye L ss).map uz=ug L ss:=by
 unfold ye
 rw [List.map_map]
 conv=>rhs; rw [← List.map_id (ug L ss)]
 refine List.map_congr_left fun x hx=>?_
 obtain ⟨l,k,_,_,_,rfl⟩:=(qz L ss x).1 hx
 simp [uz]
theorem edgesNat_mem (L:Nat) (ss:List Stp) (l k:Nat):(l,k)∈ye L ss↔l < L∧k < L∧xm ss l k=true:=by
 unfold ye
 rw [List.mem_map]
 constructor
 ·rintro ⟨x,hx,e⟩
  obtain ⟨l',k',h1,h2,h3,rfl⟩:=(qz L ss x).1 hx
  simp only [Int.toNat_natCast,Prod.mk.injEq] at e
  obtain ⟨rfl,rfl⟩:=e
  exact ⟨h1,h2,h3⟩
 ·rintro ⟨h1,h2,h3⟩
  exact ⟨((l:Int),(k:Int)),(qz L ss _).2 ⟨l,k,h1,h2,h3,rfl⟩,by simp⟩
theorem kv (L:Nat) (ss:List Stp):∀ e∈ye L ss,e.1 < L∧e.2 < L:=fun e he=>by
 obtain ⟨l,k⟩:=e
 obtain ⟨h1,h2,_⟩:=(edgesNat_mem L ss l k).1 he
 exact ⟨h1,h2⟩
def wz (m:MModule) (a:Int):ByteArray:=(m.locks[a.toNat]?).getD ByteArray.empty
def w5 (m:MModule) (to:List Nat) (s:Stp):List yj :=
 if s.1.kind=17∧vl s.2.1 s.1.a.toNat=false then [(s.1.at_,80,wz m s.1.a)]
 else if s.1.kind=16∧s.2.2.toNat &&& wt to s.1.a.toNat≠0 then [(s.1.at_,82,wz m s.1.a)] else []
def yV (m:MModule) (to:List Nat) (ss:List Stp):List yj:=ss.flatMap (w5 m to)
def xF (m:MModule) (R:Nat→Nat→Bool) (s:Stp):List yj :=
 (if s.1.kind=17∧vl s.2.1 s.1.a.toNat=false then [(s.1.at_,80,wz m s.1.a)] else []) ++
 (if s.1.kind=16 then (List.range m.locks.length).flatMap fun l=>if vl s.2.2 l && R s.1.a.toNat l then [(s.1.at_,82,wz m s.1.a)] else [] else [])
theorem and_ne {a b:Nat}:a &&& b≠0↔∃ i,a.testBit i=true∧b.testBit i=true:=by
 constructor
 ·intro h
  rcases Classical.em (∃ i,a.testBit i=true∧b.testBit i=true) with k | k
  ·exact k
  ·exfalso
   apply h
   apply Nat.eq_of_testBit_eq
   intro i
   rw [Nat.testBit_and,Nat.zero_testBit]
   cases h1:a.testBit i <;> cases h2:b.testBit i <;> try rfl
   exact absurd ⟨i,h1,h2⟩ k
 ·rintro ⟨i,h1,h2⟩ e
  have:=congrArg (fun n=>Nat.testBit n i) e
  simp [Nat.testBit_and,h1,h2] at this
theorem wrong_one {m:MModule} {es:List (Nat×Nat)} (he:∀ e∈es,e.1 < m.locks.length∧e.2 < m.locks.length) {s:Stp} (hs:StopOk m s) (x:yj) :
  x∈w5 m (uZ m.locks.length es) s↔x∈xF m (wu m.locks.length es) s:=by
 have ha:s.1.a.toNat < m.locks.length:=by have:=hs.lock; omega
 unfold w5 xF
 rcases hs.kind with hk | hk
 ·have h17:¬ (s.1.kind=17∧vl s.2.1 s.1.a.toNat=false):=by rw [hk]; simp
  rw [if_neg h17,if_neg h17,if_pos hk,List.nil_append]
  have key:s.2.2.toNat &&& wt (uZ m.locks.length es) s.1.a.toNat≠0↔∃ l,l < m.locks.length∧(vl s.2.2 l && wu m.locks.length es s.1.a.toNat l)=true:=by
   rw [and_ne]
   constructor
   ·rintro ⟨l,h1,h2⟩
    have hr:=(zEp he ha).1 h2
    exact ⟨l,hr.lt he ha,by rw [Bool.and_eq_true]; exact ⟨h1,(zDN he).2 hr⟩⟩
   ·rintro ⟨l,_,h⟩
    rw [Bool.and_eq_true] at h
    exact ⟨l,h.1,(zEp he ha).2 ((zDN he).1 h.2)⟩
  by_cases hc:s.2.2.toNat &&& wt (uZ m.locks.length es) s.1.a.toNat≠0
  ·rw [if_pos ⟨hk,hc⟩,List.mem_singleton,mem_flat]
   obtain ⟨l,hl,h⟩:=key.1 hc
   constructor
   ·rintro rfl
    exact ⟨l,hl,by rw [if_pos h]; simp⟩
   ·rintro ⟨l,_,h⟩
    split at h
    ·exact List.mem_singleton.1 h
    ·cases h
  ·rw [if_neg fun e=>hc e.2,mem_flat]
   constructor
   ·intro h; cases h
   ·rintro ⟨l,hl,h⟩
    split at h
    ·next e=>exact absurd (key.2 ⟨l,hl,e⟩) hc
    ·cases h
 ·have h16:¬ s.1.kind=16:=by rw [hk]; decide
  rw [if_neg h16,List.append_nil]
  split
  ·rfl
  ·rw [if_neg fun e=>h16 e.1]
theorem wrong_same {m:MModule} {es:List (Nat×Nat)} (he:∀ e∈es,e.1 < m.locks.length∧e.2 < m.locks.length) {ss:List Stp} (hs:∀ s∈ss,StopOk m s) (x:yj) :
  x∈yV m (uZ m.locks.length es) ss↔x∈ss.flatMap (xF m (wu m.locks.length es)):=by
 unfold yV
 rw [List.mem_flatMap,List.mem_flatMap]
 constructor
 ·rintro ⟨s,h1,h2⟩
  exact ⟨s,h1,(wrong_one he (hs s h1) x).1 h2⟩
 ·rintro ⟨s,h1,h2⟩
  exact ⟨s,h1,(wrong_one he (hs s h1) x).2 h2⟩
theorem keys_edges {L:Nat} {ss:List Stp} (hs:∀ s∈ss,0≤s.1.a∧s.1.a < L) {ks ys:List (Int×Int)} (hn:ks.Nodup) (hm:∀ x,x∈ks↔∃ s∈ss,∃ l,l < L∧s.1.kind=16∧vl s.2.2 l=true∧x=((l:Int),s.1.a)) (hp:ys.Perm ks) (ho:ys.Pairwise fun a b=>ltP b a=false):ys=ug L ss:=by
 have hn':ys.Nodup:=hp.nodup_iff.2 hn
 have h1:SSorted ltP ys:=by
  unfold SSorted
  have:=ho.and hn'
  refine this.imp fun {a b} ⟨h1,h2⟩=>?_
  cases e:ltP a b
  ·exact absurd (tot_ltP.tot _ _ e h1) h2
  ·rfl
 refine SSorted.unique tot_ltP h1 (edgesP_sorted L ss) fun x=>?_
 rw [hp.mem_iff,hm,qz]
 constructor
 ·rintro ⟨s,h2,l,hl,h3,h4,rfl⟩
  obtain ⟨a0,a1⟩:=hs s h2
  refine ⟨l,s.1.a.toNat,hl,by omega,?_,by rw [Int.toNat_of_nonneg a0]⟩
  unfold xm
  rw [List.any_eq_true]
  refine ⟨s,h2,?_⟩
  rw [decide_eq_true h3,h4,decide_eq_true (Int.toNat_of_nonneg a0).symm]
  rfl
 ·rintro ⟨l,k,hl,hk,h,rfl⟩
  unfold xm at h
  rw [List.any_eq_true] at h
  obtain ⟨s,h2,h⟩:=h
  simp only [Bool.and_eq_true,decide_eq_true_eq] at h
  exact ⟨s,h2,l,hl,h.1,h.2.2,by rw [h.2.1]⟩
end Go.Vw
namespace Go.Vw
open Go.RowKit Go.Am Go.Proofs Go.Ord
attribute [local irreducible] yE zv zq VD VDn VDq Ret
theorem u64_small {l:Nat} (h:l < 64):IntKind.u64.wrap (l:Int)=l:=by
 simp [IntKind.wrap,IntKind.bits,IntKind.signed]
 omega
theorem g_shrN {P:Program} {S:Hp} {o:Oper} {ρ:Operand→Option V} {t z:TypeId} {x y:Operand} {n l:Nat} (hl:l < 64) (ho:o.op = .binOp .shr t x y z) (hx:ρ x=some (.int .i64 (n:Int))) (hy:ρ y=some (.int .u64 (IntKind.u64.wrap (l:Int)))):QG P o ρ S (.int .i64 ((n >>> l:Nat):Int)) :=
 g_int (u:=.int .i64 ((n >>> l:Nat):Int)) ho hx hy (by
  rw [u64_small hl]
  unfold wM
  have h1:decide ((l:Int) < 0)=false:=decide_eq_false (by omega)
  simp only [h1,cond_false,Int.toNat_natCast]
  have h2:min l IntKind.i64.bits=l:=Nat.min_eq_left (by show l≤64; omega)
  rw [h2,Nat.shiftRight_eq_div_pow]
  congr 2
  have:((2:Int) ^ l)=((2 ^ l:Nat):Int):=by simp
  rw [this,Int.fdiv_eq_ediv_of_nonneg _ (Int.natCast_nonneg _),Int.natCast_ediv])
theorem zB7 {n:Nat} (hn:n < 256):ym (n:Int) 1=((n % 2:Nat):Int):=by
 have h:=uc (u:=n) (v:=1) hn (by omega)
 rw [Nat.and_one_is_mod] at h
 exact h
theorem kw (n l:Nat):decide ((((n >>> l) % 2:Nat):Int)=1)=n.testBit l:=by
 have h:n.testBit l=decide ((n >>> l) % 2=1):=by
  rw [Nat.testBit,Nat.and_comm,Nat.and_one_is_mod]
  have h2:(n >>> l) % 2 < 2:=Nat.mod_lt _ (by omega)
  generalize (n >>> l) % 2=q at h2
  have:q=0∨q=1:=by omega
  rcases this with rfl | rfl <;> rfl
 rw [h]
 by_cases e:(n >>> l) % 2=1
 ·rw [e]; rfl
 ·rw [decide_eq_false e,decide_eq_false (by omega)]
section
variable [Drw] (hT:TabOk tab Tryz.prog)
include hT
theorem hasP (n l:Nat) (hn:n < 256) (hl:l < 64):Pure Tryz.prog 41 [.int .i64 (n:Int),.int .i64 (l:Int)] (.ob (n.testBit l)):=by
 refine VC.code hT 11 rfl rfl rfl rfl fun F w S0=>?_
 refine gz hT rfl ?_;conv=>whnf
 refine zB rfl (g_shrN hl rfl rfl rfl) ?_
 generalize hq:n >>> l=q
 have hq2:q < 256:=by rw [← hq,Nat.shiftRight_eq_div_pow]; exact Nat.lt_of_le_of_lt (Nat.div_le_self _ _) hn
 refine gz hT rfl ?_;conv=>whnf
 refine zP rfl rfl rfl ?_
 have:ym (q:Int) 1=((q % 2:Nat):Int):=zB7 hq2
 unfold ym at this
 rw [← kw,hq,← this]
end
end Go.Vw
namespace Go.Vw
open Go.RowKit Go.Am Go.Proofs Go.Ord
attribute [local irreducible] yE zv zq VD VDn VDq Ret
def stpV (s:Stp):List V:=opV s.1++[.int .i64 s.2.1,.int .i64 s.2.2]
structure Lens (m:MModule) (vs:List (List (List Int))):Prop where
 t:vs.length < 2000000
 f:∀ r∈vs,r.length < 2000000
 n:∀ r∈vs,∀ x∈r,x.length < 2000000
theorem zCo {α:Type} {g:Nat→List α} {a b:Nat} (h:a≤b):((List.range a).flatMap g).length≤((List.range b).flatMap g).length:=by
 induction b with
 | zero=>rw [Nat.le_zero.1 h]; exact Nat.le_refl _
 | succ b ih =>
   rcases Nat.lt_or_ge a (b+1) with k | k
   ·rw [wL,List.length_append]
    have:=ih (by omega)
    omega
   ·have:a=b+1:=by omega
    subst this
    exact Nat.le_refl _
theorem op_nat2 (f:MFunc) (k:Nat) (h:k < f.code.length):f.op (k:Int)=f.code[k]:=by
 unfold MFunc.op
 rw [Int.toNat_natCast,List.getElem?_eq_getElem h]
 rfl
section
variable [Drw] (hT:TabOk tab Tryz.prog)
include hT
set_option maxRecDepth 100000 in
set_option maxHeartbeats 2000000 in
theorem stops1 (l:Nat) (m:MModule) (us vs:List (List (List Int))) (tk:TabsOk m us vs) (hl:Lens m vs) (J:List Stp→Hp→Prop)
  (hY:∀ pre s S,J pre S→s∈zZ m us vs→(pre++[s]).length≤(zZ m us vs).length→VY Tryz.prog l [.agg (stpV s)] S fun v S'=>v = .bool true∧J (pre++[s]) S') (S:Hp) (h0:J [] S) :
  VC Tryz.prog 89 [.yield l,.pin (yY us vs) 0,.pin (ze m) 0] S fun _ S'=>J (zZ m us vs) S':=by
 refine VC.code hT 76 rfl rfl rfl rfl fun F w S0=>?_
 refine gz hT rfl ?_;conv=>whnf
 refine zB rfl (zK hT rfl rfl rfl rfl rfl rfl (List.length_map _)) ?_
 refine gz hT rfl ?_;conv=>whnf
 refine zW (fun x:Nat×Hp=>([(0,.yield l),(1,.pin (yY us vs) 0),(2,.pin (ze m) 0),(12,.slice .no (vs.map yy)),(13,.int .i64 vs.length),(14,.int .i64 x.1)],x.2))
  (fun x=>x.1≤vs.length∧J (yd m us vs x.1) x.2) (fun x=>vs.length - x.1) (0,S) ⟨Nat.zero_le _,h0⟩ ⟨⟨lk rfl,lk rfl,lk rfl,lk rfl,lk rfl,lk rfl,trivial⟩,.refl _⟩ ?_
 rintro ⟨t,S1⟩ ⟨ht,hj⟩
 dsimp only at ht hj
 refine gz hT rfl ?_;conv=>whnf
 refine zC rfl (fun hlt=>?_) (fun hlt=>?_)
 ·simp only [decide_eq_true_eq,Int.ofNat_lt] at hlt
  have hlu:t < us.length:=by rw [tk.len]; exact hlt
  refine gz hT rfl ?_;conv=>whnf
  refine zB rfl (zJ (xs:=vs) hT rfl rfl rfl rfl rfl hlt rfl) ?_
  refine gz hT rfl ?_;conv=>whnf
  refine zB rfl (zK hT rfl rfl rfl rfl rfl rfl (List.length_map _)) ?_
  refine gz hT rfl ?_;conv=>whnf
  have hmem:vs[t]∈vs:=List.getElem_mem hlt
  have hf:=hl.f _ hmem
  refine zW (fun x:Nat×Hp=>([(0,.yield l),(1,.pin (yY us vs) 0),(2,.pin (ze m) 0),(12,.slice .no (vs.map yy)),(13,.int .i64 vs.length),(14,.int .i64 t),(4,.int .i64 t),(5,.slice .no (vs[t].map xZ)),(19,.slice .no (vs[t].map xZ)),(20,.int .i64 vs[t].length),(21,.int .i64 x.1)],x.2))
   (fun x=>x.1≤vs[t].length∧J (yd m us vs t++yv m us[t] vs[t] x.1) x.2) (fun x=>vs[t].length - x.1) (0,S1) ⟨Nat.zero_le _,by simpa [yv] using hj⟩ ⟨⟨lk rfl,lk rfl,lk rfl,lk rfl,lk rfl,lk rfl,lk rfl,lk rfl,lk rfl,lk rfl,lk rfl,trivial⟩,.refl _⟩ ?_
  rintro ⟨f,S2⟩ ⟨hfle,hj2⟩
  dsimp only at hfle hj2
  refine gz hT rfl ?_;conv=>whnf
  refine zC rfl (fun hltf=>?_) (fun hltf=>?_)
  ·simp only [decide_eq_true_eq,Int.ofNat_lt] at hltf
   obtain ⟨hfn1,hfn2⟩:=tk.fn t hlu hlt
   have hlfu:f < us[t].length:=by omega
   obtain ⟨ho1,ho2⟩:=tk.op t f hlu hlt hlfu hltf
   refine gz hT rfl ?_;conv=>whnf
   refine zB rfl (zJ (xs:=vs[t]) hT rfl rfl rfl rfl rfl hltf rfl) ?_
   refine gz hT rfl ?_;conv=>whnf
   refine zB rfl (zK hT rfl rfl rfl rfl rfl rfl (List.length_map _)) ?_
   refine gz hT rfl ?_;conv=>whnf
   have hmem2:vs[t][f]∈vs[t]:=List.getElem_mem hltf
   have hn:=hl.n _ hmem _ hmem2
   refine zW (fun x:Nat×Hp=>([(0,.yield l),(1,.pin (yY us vs) 0),(2,.pin (ze m) 0),(12,.slice .no (vs.map yy)),(13,.int .i64 vs.length),(14,.int .i64 t),(4,.int .i64 t),(5,.slice .no (vs[t].map xZ)),(19,.slice .no (vs[t].map xZ)),(20,.int .i64 vs[t].length),(21,.int .i64 f),(6,.int .i64 f),(26,.slice .no (vs[t][f].map zt)),(27,.int .i64 vs[t][f].length),(28,.int .i64 x.1)],x.2))
    (fun x=>x.1≤vs[t][f].length∧J (yd m us vs t++yv m us[t] vs[t] f++xP m f us[t][f] vs[t][f] x.1) x.2) (fun x=>vs[t][f].length - x.1) (0,S2) ⟨Nat.zero_le _,by simpa [xP] using hj2⟩ ⟨⟨lk rfl,lk rfl,lk rfl,lk rfl,lk rfl,lk rfl,lk rfl,lk rfl,lk rfl,lk rfl,lk rfl,lk rfl,lk rfl,lk rfl,lk rfl,trivial⟩,.refl _⟩ ?_
   rintro ⟨n,S3⟩ ⟨hnle,hj3⟩
   dsimp only at hnle hj3
   refine gz hT rfl ?_;conv=>whnf
   refine zC rfl (fun hltn=>?_) (fun hltn=>?_)
   ·simp only [decide_eq_true_eq,Int.ofNat_lt] at hltn
    have hlnu:n < us[t][f].length:=by omega
    have hfl:f < m.funcs.length:=by omega
    have hnl:n < m.funcs[f].code.length:=by
     have:m.fn (f:Int)=m.funcs[f]:=by unfold MModule.fn; rw [Int.toNat_natCast,List.getElem?_eq_getElem hfl]; rfl
     rw [this] at ho2; omega
    have hop:qx m f n=m.funcs[f].code[n]:=by
     unfold qx MModule.fn
     rw [Int.toNat_natCast,List.getElem?_eq_getElem hfl]
     exact op_nat2 _ _ hnl
    have hin:vk (qx m f n) vs[t][f][n]=true→(m.funcs[f].code[n],us[t][f][n],vs[t][f][n])∈zZ m us vs:=fun hst =>
     stops_mem.2 ⟨t,f,n,us[t],vs[t],us[t][f][n],vs[t][f][n],List.getElem?_eq_getElem hlu,List.getElem?_eq_getElem hlt,us[t][f],vs[t][f],List.getElem?_eq_getElem hlfu,List.getElem?_eq_getElem hltf,List.getElem?_eq_getElem hlnu,List.getElem?_eq_getElem hltn,hst,by rw [hop]⟩
    have hlen:vk (qx m f n) vs[t][f][n]=true→(yd m us vs t++yv m us[t] vs[t] f++xP m f us[t][f] vs[t][f] n++[(m.funcs[f].code[n],us[t][f][n],vs[t][f][n])]).length≤(zZ m us vs).length:=fun hst=>by
     have e1:=zCo (g:=stopR m f us[t][f] vs[t][f]) (a:=n+1) (b:=vs[t][f].length) hltn
     have e2:=zCo (g:=zBN m us[t] vs[t]) (a:=f+1) (b:=vs[t].length) hltf
     have e3:=zCo (g:=kr m us vs) (a:=t+1) (b:=vs.length) hlt
     have f1:=congrArg List.length (vM m f us[t][f] vs[t][f] n hlnu hltn)
     have f2:=congrArg List.length (ue m us[t] vs[t] f hlfu hltf)
     have f3:=congrArg List.length (uf m us vs t hlu hlt)
     rw [if_pos hst] at f1
     simp only [List.length_append,List.length_singleton] at f1 f2 f3 ⊢
     unfold zZ
     unfold xP at *
     unfold yv at *
     unfold yd at *
     omega
    refine gz hT rfl ?_;conv=>whnf
    refine zB rfl (zJ (xs:=vs[t][f]) hT rfl rfl rfl rfl rfl hltn rfl) ?_
    refine gz hT rfl ?_;conv=>whnf
    refine zB rfl (zJ (xs:=m.funcs) hT rfl rfl rfl rfl rfl hfl rfl) ?_
    refine gz hT rfl ?_;conv=>whnf
    refine zB rfl (zJ (xs:=m.funcs[f].code) hT rfl rfl rfl rfl rfl hnl rfl) ?_
    refine gz hT rfl ?_;conv=>whnf
    refine zA rfl (zX hT rfl rfl rfl fun b10=>?_)
    refine gz hT rfl ?_;conv=>whnf
    refine zA rfl (zI (cs':=opV m.funcs[f].code[n]) hT rfl rfl rfl .here rfl ?_)
    refine gz hT rfl ?_;conv=>whnf
    intro id
    refine zBD (t:=10) rfl .here ?_
    refine wJ (.drop (.refl _)) ?_
    refine zd hT rfl rfl ?_ id
    repeat' (first
     | (refine god hT 1 rfl ?_;conv=>whnf)
     | refine zV rfl ?_
     | refine q_g rfl (fun S'=>(zK hT rfl rfl rfl rfl rfl rfl (List.length_map _)).qs) ?_
     | refine zk rfl rfl rfl rfl (fun h=>?_) (fun h=>?_)
     | refine q_g rfl (fun S'=>(zJ (xs:=us) hT rfl rfl rfl rfl rfl hlu rfl).qs) ?_
     | refine q_g rfl (fun S'=>(zJ (xs:=us[t]) hT rfl rfl rfl rfl rfl hlfu rfl).qs) ?_
     | refine q_g rfl (fun S'=>(zJ (xs:=us[t][f]) hT rfl rfl rfl rfl rfl hlnu rfl).qs) ?_)
    ·rename_i h1
     have hst:vk (qx m f n) vs[t][f][n]=true:=by
      rw [hop]; unfold vk; rw [h1,h]; rfl
     refine zS rfl (eff rfl rfl (s_yield rfl rfl rfl rfl ((hY _ (m.funcs[f].code[n],us[t][f][n],vs[t][f][n]) S3 hj3 (hin hst) (hlen hst)).mono ?_)))
     rintro _ S4 ⟨rfl,hj4⟩
     refine And.intro trivial ?_
     refine god hT 1 rfl ?_;conv=>whnf
     refine zV rfl ?_
     refine gz hT rfl ?_;conv=>whnf
     refine zB rfl (zU rfl rfl rfl (by omega)) ?_
     refine gz hT rfl ?_;conv=>whnf
     refine ⟨(n+1,S4),⟨hltn,?_⟩,by dsimp only; omega,⟨lk rfl,lk rfl,lk rfl,lk rfl,lk rfl,lk rfl,lk rfl,lk rfl,lk rfl,lk rfl,lk rfl,lk rfl,lk rfl,lk rfl,lk rfl,trivial⟩,.refl _⟩
     rw [vM _ _ _ _ _ hlnu hltn,if_pos hst,hop,← List.append_assoc]
     exact hj4
    ·rename_i h1 h2
     have hst:vk (qx m f n) vs[t][f][n]=true:=by
      rw [hop]; unfold vk; rw [h1,h2,h]; rfl
     refine zS rfl (eff rfl rfl (s_yield rfl rfl rfl rfl ((hY _ (m.funcs[f].code[n],us[t][f][n],vs[t][f][n]) S3 hj3 (hin hst) (hlen hst)).mono ?_)))
     rintro _ S4 ⟨rfl,hj4⟩
     refine And.intro trivial ?_
     refine god hT 1 rfl ?_;conv=>whnf
     refine zV rfl ?_
     refine gz hT rfl ?_;conv=>whnf
     refine zB rfl (zU rfl rfl rfl (by omega)) ?_
     refine gz hT rfl ?_;conv=>whnf
     refine ⟨(n+1,S4),⟨hltn,?_⟩,by dsimp only; omega,⟨lk rfl,lk rfl,lk rfl,lk rfl,lk rfl,lk rfl,lk rfl,lk rfl,lk rfl,lk rfl,lk rfl,lk rfl,lk rfl,lk rfl,lk rfl,trivial⟩,.refl _⟩
     rw [vM _ _ _ _ _ hlnu hltn,if_pos hst,hop,← List.append_assoc]
     exact hj4
    ·rename_i h1 h2
     have hst:¬ vk (qx m f n) vs[t][f][n]=true:=by
      rw [hop]; unfold vk; rw [h1,h2,h]; decide
     refine gz hT rfl ?_;conv=>whnf
     refine zB rfl (zU rfl rfl rfl (by omega)) ?_
     refine gz hT rfl ?_;conv=>whnf
     refine ⟨(n+1,S3),⟨hltn,?_⟩,by dsimp only; omega,⟨lk rfl,lk rfl,lk rfl,lk rfl,lk rfl,lk rfl,lk rfl,lk rfl,lk rfl,lk rfl,lk rfl,lk rfl,lk rfl,lk rfl,lk rfl,trivial⟩,.refl _⟩
     rw [vM _ _ _ _ _ hlnu hltn,if_neg hst,List.append_nil]
     exact hj3
    ·have hst:¬ vk (qx m f n) vs[t][f][n]=true:=by
      rw [hop]; unfold vk; rw [h,Bool.false_and]; decide
     refine gz hT rfl ?_;conv=>whnf
     refine zB rfl (zU rfl rfl rfl (by omega)) ?_
     refine gz hT rfl ?_;conv=>whnf
     refine ⟨(n+1,S3),⟨hltn,?_⟩,by dsimp only; omega,⟨lk rfl,lk rfl,lk rfl,lk rfl,lk rfl,lk rfl,lk rfl,lk rfl,lk rfl,lk rfl,lk rfl,lk rfl,lk rfl,lk rfl,lk rfl,trivial⟩,.refl _⟩
     rw [vM _ _ _ _ _ hlnu hltn,if_neg hst,List.append_nil]
     exact hj3
   ·simp only [decide_eq_false_iff_not,Int.ofNat_lt] at hltn
    have:n=vs[t][f].length:=by omega
    subst this
    refine gz hT rfl ?_;conv=>whnf
    refine zB rfl (zU rfl rfl rfl (by omega)) ?_
    refine gz hT rfl ?_;conv=>whnf
    refine ⟨(f+1,S3),⟨hltf,?_⟩,by dsimp only; omega,⟨lk rfl,lk rfl,lk rfl,lk rfl,lk rfl,lk rfl,lk rfl,lk rfl,lk rfl,lk rfl,lk rfl,trivial⟩,.refl _⟩
    rw [ue _ _ _ _ hlfu hltf,← List.append_assoc]
    exact hj3
  ·simp only [decide_eq_false_iff_not,Int.ofNat_lt] at hltf
   have:f=vs[t].length:=by omega
   subst this
   refine gz hT rfl ?_;conv=>whnf
   have:=hl.t
   refine zB rfl (zU rfl rfl rfl (by omega)) ?_
   refine gz hT rfl ?_;conv=>whnf
   refine ⟨(t+1,S2),⟨hlt,?_⟩,by dsimp only; omega,⟨lk rfl,lk rfl,lk rfl,lk rfl,lk rfl,lk rfl,trivial⟩,.refl _⟩
   rw [uf _ _ _ _ hlu hlt]
   exact hj2
 ·simp only [decide_eq_false_iff_not,Int.ofNat_lt] at hlt
  refine gz hT rfl ?_;conv=>whnf
  refine zQ .nil ?_
  have:t=vs.length:=by omega
  subst this
  exact hj
end
end Go.Vw
namespace Go.Vw
open Go.RowKit Go.Am Go.Proofs Go.Ord
attribute [local irreducible] yE zv zq VD VDn VDq Ret
theorem At.end:∀ (S:Hp) (h:HE),At (S++[h]) h (fun x=>S++[x])
 | [],_=>.here
 | _::S,h=>.there (At.end S h)
theorem rot_perm {α:Type} (a m:α) (l:List α):List.Perm (a::(l++[m])) (l++[m,a]):=by
 have:=List.perm_append_comm (l₁:=[a]) (l₂:=l++[m])
 simpa using this
theorem rot_perm2 {α:Type} (a m:α) (l:List α):List.Perm (l++[m,a]) (a::(l++[m])):=(rot_perm a m l).symm
def prs (p:Int×Int):List V:=[.int .i64 p.1,.int .i64 p.2]
def prV (p:Int×Int):V:=.agg (prs p)
def prB (e:Nat×Int×Int):Nat×V×V:=(e.1,prV e.2,.agg [])
section
variable [Drw] (hT:TabOk tab Tryz.prog)
include hT
theorem keysOf (b:Nat):Pure Tryz.prog 84 [.map b] (.func 149 [] [.pin [.map b] 0]):=by
 refine VC.code hT 4 rfl rfl rfl rfl fun F w S0=>?_
 refine gz hT rfl ?_;conv=>whnf
 refine zA rfl (zN rfl rfl rfl ?_)
 refine gz hT rfl ?_;conv=>whnf
 exact zQ (.tmp rfl .nil) rfl
theorem keysP (l b cl:Nat) (es:List (Nat×Int×Int)) (J:List (Int×Int)→Hp→Prop)
  (hY:∀ pre p S,J pre S→pre.length < es.length→VY Tryz.prog l [prV p] S fun v S'=>v = .bool true∧J (pre++[p]) S') (S:Hp) (h0:J [] S) :
  VC Tryz.prog 149 [.yield l,.pin [.map b] 0] (S++[.mapB b (es.map prB) cl]) fun _ S'=>∃ ks S1,List.Perm ks (es.map (·.2))∧J ks S1∧S'=S1++[.mapB b (es.map prB) cl]:=by
 refine VC.code hT 14 rfl rfl rfl rfl fun F w S0=>?_
 refine gz hT rfl ?_;conv=>whnf
 refine zA rfl (s_rangeB hT rfl rfl rfl (At.end S _) fun r e2=>?_)
 have e2':(es.map (·.1)).Nodup:=by rw [List.map_map] at e2; exact e2
 refine gz hT rfl ?_;conv=>whnf
 refine zW (fun x:List (Nat×Int×Int)×List (Nat×Int×Int)×Hp=>([(0,.yield l),(5,.ptr r 0)],.iter r b cl (x.1.map (·.1))::(x.2.2++[.mapB b (es.map prB) cl])))
  (fun x=>List.Perm (x.1++x.2.1) es∧J (x.1.map (·.2)) x.2.2) (fun x=>x.2.1.length) ([],es,S) ⟨.refl _,h0⟩ ⟨⟨lk rfl,lk rfl,trivial⟩,.refl _⟩ ?_
 rintro ⟨ds,left,Sx⟩ ⟨hp,hj⟩
 dsimp only at hp hj
 have hnd:((ds++left).map (·.1)).Nodup:=(hp.map (·.1)).nodup_iff.2 e2'
 refine gz hT rfl ?_;conv=>whnf
 refine zA rfl (s_next rfl rfl rfl .here (es:=es.map prB) (by simp) (fun hall=>?_) fun e he hne=>?_)
 ·have hleft:left=[]:=by
   cases left with
   | nil=>rfl
   | cons x left =>
     exfalso
     have hx:x∈es:=hp.mem_iff.1 (by simp)
     have hs:=hall _ (List.mem_map.2 ⟨x,hx,rfl⟩)
     rw [List.map_append,List.nodup_append] at hnd
     exact hnd.2.2 x.1 hs x.1 (by simp) rfl
  subst hleft
  refine yC (.drop (.refl _)) ?_
  refine gz hT rfl ?_;conv=>whnf
  exact zQ .nil ⟨ds.map (·.2),Sx,by have:=hp.map (·.2); rwa [List.append_nil] at this,hj,rfl⟩
 ·obtain ⟨x,hx,rfl⟩:=List.mem_map.1 he
  have hxl:x∈left:=by
   rcases List.mem_append.1 (hp.mem_iff.2 hx) with h | h
   ·exact absurd (List.mem_map.2 ⟨x,h,rfl⟩) hne
   ·exact h
  obtain ⟨l1,l2,rfl⟩:=List.append_of_mem hxl
  obtain ⟨n,p⟩:=x
  have hlen:(ds.map (·.2)).length < es.length:=by
   rw [← hp.length_eq]; simp
   omega
  refine gz hT rfl ?_;conv=>whnf
  refine zA rfl (s_entry (b:=b) (cl:=cl) rfl rfl rfl (seen:=ds.map (·.1)) (List.mem_cons_self ..) (by simp) he (by rw [List.map_map]; exact e2') ?_)
  refine gz hT rfl ?_;conv=>whnf
  refine zA rfl (zX hT rfl rfl rfl fun b3=>?_)
  refine gz hT rfl ?_;conv=>whnf
  refine zA rfl (zI (cs':=prs p) hT rfl rfl rfl .here rfl ?_)
  refine gz hT rfl ?_;conv=>whnf
  refine zB rfl (zT hT rfl rfl .here rfl) ?_
  refine gz hT rfl ?_;conv=>whnf
  refine yC (.drop (.refl _)) ?_
  refine vj (S':=Sx++[.mapB b (es.map prB) cl,.iter r b cl (ds.map (·.1)++[n])]) ?_ ?_
  ·exact rot_perm _ _ _
  refine zA rfl (s_yield rfl rfl rfl rfl (((hY _ p Sx hj hlen).frame [.mapB b (es.map prB) cl,.iter r b cl (ds.map (·.1)++[n])]).mono ?_))
  rintro v S' ⟨S1,rfl,rfl,hj1⟩
  refine vj (S':=.iter r b cl (ds.map (·.1)++[n])::(S1++[.mapB b (es.map prB) cl])) ?_ ?_
  ·exact rot_perm2 _ _ _
  refine gz hT rfl ?_;conv=>whnf
  refine ⟨(ds++[(n,p)],l1++l2,S1),⟨?_,by simpa using hj1⟩,by simp,⟨lk rfl,lk rfl,trivial⟩,by simp only [List.map_append]; exact Sub.refl _⟩
  refine List.Perm.trans ?_ hp
  simp only [List.append_assoc]
  refine List.Perm.append_left _ ?_
  exact (List.perm_middle (l₁:=l1)).symm
end
end Go.Vw
namespace Go.Vw
open Go.RowKit Go.Am Go.Proofs Go.Ord
attribute [local irreducible] yE zv zq VD VDn VDq Ret
def ColP (ks:List (Int×Int)) (v:V) (R:Hp):Prop:=(ks=[]∧v = .slice .zero []∧R=[])∨(ks≠[]∧∃ b' c r,v = .ref b' 0 ks.length c∧c * 2=ks.length * 2+r∧R=[.cells b' ((ks.map prs).flatten++List.replicate r .any) 44])
theorem rot3 {α:Type} (a b c:α):List.Perm [a,b,c] [b,c,a]:=List.perm_append_comm (l₁:=[a]) (l₂:=[b,c])
section
variable [Drw] (hT:TabOk tab Tryz.prog)
include hT
theorem appendP (b cl:Nat) (es:List (Nat×Int×Int)) (hl:es.length < 60000000) :
  VC Tryz.prog 199 [.slice .zero [],.func 149 [] [.pin [.map b] 0]] [.mapB b (es.map prB) cl] fun v S'=>∃ ks R,List.Perm ks (es.map (·.2))∧ColP ks v R∧S'=R++[.mapB b (es.map prB) cl]:=by
 refine VC.code hT 13 rfl rfl rfl rfl fun F w S0=>?_
 refine gz hT rfl ?_;conv=>whnf
 refine zA rfl (s_box rfl rfl rfl fun bs=>?_)
 refine gz hT rfl ?_;conv=>whnf
 refine zBJ hT rfl rfl rfl rfl rfl fun l L hL=>?_
 refine (keysP hT l b cl es (fun pre S=>∃ v R,ColP pre v R∧S=[.loop false l L,.cells bs [v] 31]++R) ?_ [.loop false l L,.cells bs [.slice .zero []] 31] ⟨_,[],.inl ⟨rfl,rfl,rfl⟩,rfl⟩).mono ?_
 ·rintro pre p S1 ⟨v,R,hc,rfl⟩ hle
  subst hL
  refine VY.of .here rfl rfl fun m F w S0=>?_
  refine gz hT rfl ?_;conv=>whnf
  refine zA rfl (zX hT rfl rfl rfl fun b5=>?_)
  refine gz hT rfl ?_;conv=>whnf
  refine zA rfl (zI (cs':=prs p) hT rfl rfl rfl .here rfl ?_)
  refine gz hT rfl ?_;conv=>whnf
  refine ⟨rfl,_,.there .here,fun F w S0 ds=>?_⟩
  rcases hc with ⟨rfl,rfl,rfl⟩ | ⟨hne,b',c,r,rfl,hcr,rfl⟩
  ·refine gz hT rfl ?_;conv=>whnf
   refine zB rfl (zT hT rfl rfl (.there (.there .here)) rfl) ?_
   refine gz hT rfl ?_;conv=>whnf
   refine zB rfl (zT hT rfl rfl .here rfl) ?_
   refine gz hT rfl ?_;conv=>whnf
   refine zA rfl (zH hT rfl rfl rfl rfl rfl rfl rfl rfl ?_)
   refine gz hT rfl ?_;conv=>whnf
   refine yC (.no (.drop (.refl _))) ?_
   refine zA rfl (qQ hT rfl rfl rfl rfl rfl rfl rfl rfl rfl rfl .here (fun r hr=>by rw [List.mem_singleton.1 hr]; rfl) Nat.zero_lt_one (by show 1 < _; omega) fun b' c' r' hcr=>?_)
   refine gz hT rfl ?_;conv=>whnf
   refine zA rfl (zI (cs':=[.ref b' 0 1 c']) hT rfl rfl rfl (.there (.there .here)) rfl ?_)
   refine vj (rot3 _ _ _) ?_
   refine gz hT rfl ?_;conv=>whnf
   refine ⟨rfl,_,.here,rfl,.ref b' 0 1 c',_,.inr ⟨by simp,b',c',r',rfl,hcr,rfl⟩,?_⟩
   simp [prs]
  ·refine gz hT rfl ?_;conv=>whnf
   refine zB rfl (zT hT rfl rfl (.there (.there .here)) rfl) ?_
   refine gz hT rfl ?_;conv=>whnf
   refine zB rfl (zT hT rfl rfl .here rfl) ?_
   refine gz hT rfl ?_;conv=>whnf
   refine zA rfl (zH hT rfl rfl rfl rfl rfl rfl rfl rfl ?_)
   refine gz hT rfl ?_;conv=>whnf
   refine yC (.drop (.refl _)) ?_
   have hcl:((pre.map prs).flatten).length=pre.length * 2:=by
    have:=(yT (pre.map prs) (sz:=2) fun r hr=>by obtain ⟨x,_,rfl⟩:=List.mem_map.1 hr; rfl).1
    rwa [List.length_map] at this
   refine zA rfl (qR hT rfl rfl rfl rfl rfl rfl rfl rfl rfl rfl (.there (.there .here)) hcl hcr (fun r hr=>by rw [List.mem_singleton.1 hr]; rfl) (fun r hr=>by rw [List.mem_singleton.1 hr]; rfl) (by show pre.length+1 < _; omega) fun b' c' r' hcr=>?_)
   refine gz hT rfl ?_;conv=>whnf
   refine zA rfl (zI (cs':=[.ref b' 0 (pre.length+1) c']) hT rfl rfl rfl (.there .here) rfl ?_)
   refine gz hT rfl ?_;conv=>whnf
   refine ⟨rfl,_,.here,rfl,.ref b' 0 (pre.length+1) c',_,.inr ⟨by simp,b',c',r',by simp,by rw [List.length_append]; exact hcr,rfl⟩,?_⟩
   simp [prs]
 ·rintro _ S' ⟨ks,S1,hperm,hj,rfl⟩
  obtain ⟨v,R,hc,rfl⟩:=hj
  refine ⟨_,rfl,fun σ' h1 h2=>?_⟩
  obtain ⟨r',m',n',F',w',S0',ds'⟩:=σ'
  dsimp only at h1 h2
  subst h1 h2
  rcases hc with ⟨rfl,rfl,rfl⟩ | ⟨hne,b',c,r,rfl,hcr,rfl⟩
  ·refine gz hT rfl ?_;conv=>whnf
   refine zB rfl (zT hT rfl rfl .here rfl) ?_
   refine yC (.drop (.refl _)) ?_
   refine gz hT rfl ?_;conv=>whnf
   exact zQ (.tmp rfl .nil) ⟨[],[],hperm,.inl ⟨rfl,rfl,rfl⟩,rfl⟩
  ·refine gz hT rfl ?_;conv=>whnf
   refine zB rfl (zT hT rfl rfl .here rfl) ?_
   refine yC (.drop (.refl _)) ?_
   refine gz hT rfl ?_;conv=>whnf
   exact zQ (.tmp rfl .nil) ⟨ks,_,hperm,.inr ⟨hne,b',c,r,rfl,hcr,rfl⟩,rfl⟩
end
end Go.Vw
namespace Go.Vw
open Go.RowKit Go.Am Go.Proofs Go.Ord
attribute [local irreducible] yE zv zq VD VDn VDq Ret
def qE (x y:Int):Int:=if x < y then -1 else if y < x then 1 else 0
def cmpS (x y:ByteArray):Int:=if lessS x y=true then -1 else if x=y then 0 else 1
def cmpL:List Int→List Int→Int
 | [],[]=>0
 | [],_::_=>-1
 | _::_,[]=>1
 | x::xs,y::ys=>if qE x y=0 then cmpL xs ys else qE x y
def orL:List Int→Int
 | []=>0
 | x::xs=>if x=0 then orL xs else x
section
variable [Drw] (hT:TabOk tab Tryz.prog)
include hT
theorem nanInt (x:Int):Pure Tryz.prog 92 [.int .i64 x] (.ob false):=by
 refine VC.code hT 6 rfl rfl rfl rfl fun F w S0=>?_
 refine gz hT rfl ?_;conv=>whnf
 refine zP rfl rfl rfl ?_
 simp
theorem nanErr (x:Int):Pure Tryz.prog 93 [.int .i64 x] (.ob false):=by
 refine VC.code hT 6 rfl rfl rfl rfl fun F w S0=>?_
 refine gz hT rfl ?_;conv=>whnf
 refine zP rfl rfl rfl ?_
 simp
theorem nanStr (x:ByteArray):Pure Tryz.prog 94 [.str x] (.ob false):=by
 refine VC.code hT 6 rfl rfl rfl rfl fun F w S0=>?_
 refine gz hT rfl ?_;conv=>whnf
 refine zP rfl rfl rfl ?_
 simp
theorem zE1 (x y:Int):Pure Tryz.prog 45 [.int .i64 x,.int .i64 y] (.int .i64 (qE x y)):=by
 refine VC.code hT 20 rfl rfl rfl rfl fun F w S0=>?_
 refine gz hT rfl ?_;conv=>whnf
 refine zA rfl (zR hT rfl rfl rfl rfl rfl rfl (nanInt hT x) ?_)
 refine gz hT rfl ?_;conv=>whnf
 refine zA rfl (zR hT rfl rfl rfl rfl rfl rfl (nanInt hT y) ?_)
 refine gz hT rfl ?_;conv=>whnf
 refine run_f rfl rfl ?_
 refine gz hT rfl ?_;conv=>whnf
 refine run_f rfl rfl ?_
 refine gz hT rfl ?_;conv=>whnf
 refine zC rfl (fun h=>?_) (fun h=>?_)
 ·simp only [decide_eq_true_eq] at h
  refine gz hT rfl ?_;conv=>whnf
  refine zQ (.tmp rfl .nil) ?_
  unfold qE; rw [if_pos h]; rfl
 ·simp only [decide_eq_false_iff_not] at h
  refine gz hT rfl ?_;conv=>whnf
  refine zC rfl (fun h2=>?_) (fun h2=>?_)
  ·simp only [decide_eq_true_eq] at h2
   refine gz hT rfl ?_;conv=>whnf
   refine zQ (.tmp rfl .nil) ?_
   unfold qE; rw [if_neg h,if_pos h2]; rfl
  ·simp only [decide_eq_false_iff_not] at h2
   refine gz hT rfl ?_;conv=>whnf
   refine zQ (.tmp rfl .nil) ?_
   unfold qE; rw [if_neg h,if_neg h2]; rfl
theorem compareErr (x y:Int):Pure Tryz.prog 46 [.int .i64 x,.int .i64 y] (.int .i64 (qE x y)):=by
 refine VC.code hT 20 rfl rfl rfl rfl fun F w S0=>?_
 refine gz hT rfl ?_;conv=>whnf
 refine zA rfl (zR hT rfl rfl rfl rfl rfl rfl (nanErr hT x) ?_)
 refine gz hT rfl ?_;conv=>whnf
 refine zA rfl (zR hT rfl rfl rfl rfl rfl rfl (nanErr hT y) ?_)
 refine gz hT rfl ?_;conv=>whnf
 refine run_f rfl rfl ?_
 refine gz hT rfl ?_;conv=>whnf
 refine run_f rfl rfl ?_
 refine gz hT rfl ?_;conv=>whnf
 refine zC rfl (fun h=>?_) (fun h=>?_)
 ·simp only [decide_eq_true_eq] at h
  refine gz hT rfl ?_;conv=>whnf
  refine zQ (.tmp rfl .nil) ?_
  unfold qE; rw [if_pos h]; rfl
 ·simp only [decide_eq_false_iff_not] at h
  refine gz hT rfl ?_;conv=>whnf
  refine zC rfl (fun h2=>?_) (fun h2=>?_)
  ·simp only [decide_eq_true_eq] at h2
   refine gz hT rfl ?_;conv=>whnf
   refine zQ (.tmp rfl .nil) ?_
   unfold qE; rw [if_neg h,if_pos h2]; rfl
  ·simp only [decide_eq_false_iff_not] at h2
   refine gz hT rfl ?_;conv=>whnf
   refine zQ (.tmp rfl .nil) ?_
   unfold qE; rw [if_neg h,if_neg h2]; rfl
theorem compareStr (x y:ByteArray):Pure Tryz.prog 47 [.str x,.str y] (.int .i64 (cmpS x y)):=by
 refine VC.code hT 20 rfl rfl rfl rfl fun F w S0=>?_
 refine gz hT rfl ?_;conv=>whnf
 refine zA rfl (zR hT rfl rfl rfl rfl rfl rfl (nanStr hT x) ?_)
 refine gz hT rfl ?_;conv=>whnf
 refine zA rfl (zR hT rfl rfl rfl rfl rfl rfl (nanStr hT y) ?_)
 refine gz hT rfl ?_;conv=>whnf
 refine run_f rfl rfl ?_
 refine gz hT rfl ?_;conv=>whnf
 refine run_f rfl rfl ?_
 refine gz hT rfl ?_;conv=>whnf
 refine zC rfl (fun h=>?_) (fun h=>?_)
 ·have h:lessS x y=true:=h
  refine gz hT rfl ?_;conv=>whnf
  refine zQ (.tmp rfl .nil) ?_
  unfold cmpS; rw [if_pos h]; rfl
 ·have h:lessS x y=false:=h
  refine gz hT rfl ?_;conv=>whnf
  refine zC rfl (fun h2=>?_) (fun h2=>?_)
  ·have h2:(!(lessS x y || eqB (Am.bytes x) (Am.bytes y)))=true:=h2
   rw [uM,zBk,h] at h2
   refine gz hT rfl ?_;conv=>whnf
   refine zQ (.tmp rfl .nil) ?_
   unfold cmpS; rw [if_neg (by rw [h]; decide),if_neg (by simpa using h2)]; rfl
  ·have h2:(!(lessS x y || eqB (Am.bytes x) (Am.bytes y)))=false:=h2
   rw [uM,zBk,h] at h2
   refine gz hT rfl ?_;conv=>whnf
   refine zQ (.tmp rfl .nil) ?_
   unfold cmpS; rw [if_neg (by rw [h]; decide),if_pos (by simpa using h2)]; rfl
theorem orInt {t:Tok} (xs:List Int) (hl:xs.length < 2000000):Pure Tryz.prog 44 [.slice t (xs.map zt)] (.int .i64 (orL xs)):=by
 refine VC.code hT 18 rfl rfl rfl rfl fun F w S0=>?_
 refine gz hT rfl ?_;conv=>whnf
 refine zB rfl (zK hT rfl rfl rfl rfl rfl rfl (List.length_map _)) ?_
 refine gz hT rfl ?_;conv=>whnf
 refine zW (fun i:Nat=>([(3,.int .i64 0),(6,.slice t (xs.map zt)),(7,.int .i64 xs.length),(8,.int .i64 i)],[])) (fun i=>i≤xs.length∧orL xs=orL (xs.drop i)) (fun i=>xs.length - i) 0 ⟨Nat.zero_le _,rfl⟩ ⟨⟨lk rfl,lk rfl,lk rfl,lk rfl,trivial⟩,.nil⟩ ?_
 rintro i ⟨hi,ho⟩
 refine gz hT rfl ?_;conv=>whnf
 refine zC rfl (fun hlt=>?_) (fun hlt=>?_)
 ·simp only [decide_eq_true_eq,Int.ofNat_lt] at hlt
  rw [List.drop_eq_getElem_cons hlt] at ho
  refine gz hT rfl ?_;conv=>whnf
  refine zB rfl (zJ (xs:=xs) hT rfl rfl rfl rfl rfl hlt rfl) ?_
  refine gz hT rfl ?_;conv=>whnf
  refine zC rfl (fun h=>?_) (fun h=>?_)
  ·simp only [Bool.not_eq_true',decide_eq_false_iff_not] at h
   refine gz hT rfl ?_;conv=>whnf
   refine zQ (.tmp rfl .nil) ?_
   rw [ho,orL,if_neg h]; rfl
  ·simp only [Bool.not_eq_false',decide_eq_true_eq] at h
   refine gz hT rfl ?_;conv=>whnf
   refine zB rfl (zU rfl rfl rfl (by omega)) ?_
   refine gz hT rfl ?_;conv=>whnf
   exact ⟨i+1,⟨hlt,by rw [ho,orL,if_pos h]⟩,by omega,⟨lk rfl,lk rfl,lk rfl,lk rfl,trivial⟩,.nil⟩
 ·simp only [decide_eq_false_iff_not,Int.ofNat_lt] at hlt
  refine gz hT rfl ?_;conv=>whnf
  refine zQ (.tmp rfl .nil) ?_
  rw [ho,List.drop_of_length_le (by omega)]; rfl
theorem compareInts {t1 t2:Tok} (xs ys:List Int) (hl:xs.length < 2000000):Pure Tryz.prog 86 [.slice t1 (xs.map zt),.slice t2 (ys.map zt)] (.int .i64 (cmpL xs ys)):=by
 refine VC.code hT 36 rfl rfl rfl rfl fun F w S0=>?_
 refine gz hT rfl ?_;conv=>whnf
 refine zB rfl (zK hT rfl rfl rfl rfl rfl rfl (List.length_map _)) ?_
 refine gz hT rfl ?_;conv=>whnf
 refine zW (fun i:Nat=>([(0,.slice t1 (xs.map zt)),(1,.slice t2 (ys.map zt)),(9,.slice t1 (xs.map zt)),(10,.int .i64 xs.length),(11,.int .i64 i)],[])) (fun i=>i≤xs.length∧i≤ys.length∧cmpL xs ys=cmpL (xs.drop i) (ys.drop i)) (fun i=>xs.length - i) 0 ⟨Nat.zero_le _,Nat.zero_le _,rfl⟩ ⟨⟨lk rfl,lk rfl,lk rfl,lk rfl,lk rfl,trivial⟩,.nil⟩ ?_
 rintro i ⟨hi,hi2,ho⟩
 refine gz hT rfl ?_;conv=>whnf
 refine zC rfl (fun hlt=>?_) (fun hlt=>?_)
 ·simp only [decide_eq_true_eq,Int.ofNat_lt] at hlt
  rw [List.drop_eq_getElem_cons hlt] at ho
  refine gz hT rfl ?_;conv=>whnf
  refine zB rfl (zJ (xs:=xs) hT rfl rfl rfl rfl rfl hlt rfl) ?_
  refine gz hT rfl ?_;conv=>whnf
  refine zB rfl (zK hT rfl rfl rfl rfl rfl rfl (List.length_map _)) ?_
  refine gz hT rfl ?_;conv=>whnf
  refine zC rfl (fun h=>?_) (fun h=>?_)
  ·simp only [decide_eq_true_eq,Int.ofNat_le] at h
   refine gz hT rfl ?_;conv=>whnf
   refine zQ (.tmp rfl .nil) ?_
   rw [ho,List.drop_of_length_le h]; rfl
  ·simp only [decide_eq_false_iff_not,Int.ofNat_le] at h
   have hly:i < ys.length:=by omega
   rw [List.drop_eq_getElem_cons hly,cmpL] at ho
   refine gz hT rfl ?_;conv=>whnf
   refine zB rfl (zJ (xs:=ys) hT rfl rfl rfl rfl rfl hly rfl) ?_
   refine gz hT rfl ?_;conv=>whnf
   refine zA rfl (zR hT rfl rfl rfl rfl rfl rfl (zE1 hT xs[i] ys[i]) ?_)
   refine gz hT rfl ?_;conv=>whnf
   refine zC rfl (fun h=>?_) (fun h=>?_)
   ·simp only [Bool.not_eq_true',decide_eq_false_iff_not] at h
    refine gz hT rfl ?_;conv=>whnf
    refine zQ (.tmp rfl .nil) ?_
    rw [ho,if_neg h]; rfl
   ·simp only [Bool.not_eq_false',decide_eq_true_eq] at h
    refine gz hT rfl ?_;conv=>whnf
    refine zB rfl (zU rfl rfl rfl (by omega)) ?_
    refine gz hT rfl ?_;conv=>whnf
    exact ⟨i+1,⟨hlt,hly,by rw [ho,if_pos h]⟩,by omega,⟨lk rfl,lk rfl,lk rfl,lk rfl,lk rfl,trivial⟩,.nil⟩
 ·simp only [decide_eq_false_iff_not,Int.ofNat_lt] at hlt
  refine gz hT rfl ?_;conv=>whnf
  refine zB rfl (zK hT rfl rfl rfl rfl rfl rfl (List.length_map _)) ?_
  refine gz hT rfl ?_;conv=>whnf
  refine zB rfl (zK hT rfl rfl rfl rfl rfl rfl (List.length_map _)) ?_
  refine gz hT rfl ?_;conv=>whnf
  rw [List.drop_of_length_le (by omega:xs.length≤i)] at ho
  refine zC rfl (fun h=>?_) (fun h=>?_)
  ·simp only [decide_eq_true_eq,Int.ofNat_lt] at h
   refine gz hT rfl ?_;conv=>whnf
   refine zQ (.tmp rfl .nil) ?_
   rw [ho,List.drop_eq_getElem_cons (by omega:i < ys.length)]; rfl
  ·simp only [decide_eq_false_iff_not,Int.ofNat_lt] at h
   refine gz hT rfl ?_;conv=>whnf
   refine zQ (.tmp rfl .nil) ?_
   rw [ho,List.drop_of_length_le (by omega)]; rfl
theorem lessPairs (p q:Int×Int):Pure Tryz.prog 85 [.agg (prs p),.agg (prs q)] (.int .i64 (cmpL [p.1,p.2] [q.1,q.2])):=by
 refine VC.code hT 8 rfl rfl rfl rfl fun F w S0=>?_
 repeat' (first
  | (refine gz hT rfl ?_;conv=>whnf)
  | refine zA rfl (zN rfl rfl rfl ?_)
  | refine zA rfl (zH hT rfl rfl rfl rfl rfl rfl rfl rfl ?_)
  | refine zB rfl (zK hT rfl rfl rfl rfl rfl rfl (List.length_map _)) ?_
  | refine zG rfl rfl rfl rfl (fun h=>?_) (fun h=>?_))
 intro id
 refine zd hT rfl rfl ?_ id
 repeat' (first
  | (refine god hT 1 rfl ?_;conv=>whnf)
  | refine zV rfl ?_
  | refine q_g rfl (fun S'=>(zK hT rfl rfl rfl rfl rfl rfl (List.length_map _)).qs) ?_
  | refine zk rfl rfl rfl rfl (fun h=>?_) (fun h=>?_)
  | refine q_g rfl (fun S'=>(g_sliceArr hT rfl rfl rfl rfl rfl).qs) ?_)
 refine zS rfl (eff rfl rfl (zR hT rfl rfl rfl rfl rfl rfl (compareInts hT [p.1,p.2] [q.1,q.2] (by show 2 < _; omega)) (And.intro trivial ?_)))
 refine god hT 1 rfl ?_;conv=>whnf
 refine zV rfl ?_
 refine gz hT rfl ?_;conv=>whnf
 exact zQ (.tmp rfl .nil) rfl
end
end Go.Vw
namespace Go.Vw
open Go.RowKit Go.Am Go.Proofs Go.Ord Go.Sort
attribute [local irreducible] yE zv zq VD VDn VDq Ret
def cfP (p q:Int×Int):Int:=cmpL [p.1,p.2] [q.1,q.2]
theorem ltOf_cfP:ltOf cfP=ltP:=by
 funext p q
 obtain ⟨a,b⟩:=p
 obtain ⟨c,d⟩:=q
 simp only [ltOf,cfP,ltP,cmpL,qE]
 by_cases h1:a < c
 ·simp [h1]
 ·by_cases h2:c < a
  ·have:a≠c:=by omega
   simp [h1,h2,this]
  ·have:a=c:=by omega
   subst this
   by_cases h3:b < d
   ·simp [h3]
   ·by_cases h4:d < b <;> simp [h3,h4]
theorem swoP:SWO (ltOf cfP):=by rw [ltOf_cfP]; exact swo_of tot_ltP.irr tot_ltP.tr tot_ltP.tot
def prE' (p:Int×Int):List Value:=[.int .i64 p.1,.int .i64 p.2]
theorem prs_det (F:Fz) (w:World) (x:Int×Int) (us:List Value) (h:Iss F w (prs x) us):us=prE' x:=by
 cases h with
 | cons h1 h2 =>
   cases h2 with
   | cons h2 h3 =>
     cases h3
     rw [int_inv h1,int_inv h2]; rfl
theorem prs_of (F:Fz) (w:World) (x:Int×Int):Iss F w (prs x) (prE' x):=.cons (.int _ _) (.cons (.int _ _) .nil)
theorem cell1:∀ (x:Int×Int),∀ v∈prE' x,v.oneCell'=true:=by
 intro x v hv
 simp only [prE',List.mem_cons,List.not_mem_nil,or_false] at hv
 rcases hv with rfl | rfl <;> rfl
section
variable [Drw] (hT:TabOk tab Tryz.prog)
include hT
theorem collectP (b cl:Nat) (es:List (Nat×Int×Int)) (hl:es.length < 60000000) :
  VC Tryz.prog 147 [.func 149 [] [.pin [.map b] 0]] [.mapB b (es.map prB) cl] fun v S'=>∃ ks R,List.Perm ks (es.map (·.2))∧ColP ks v R∧S'=R++[.mapB b (es.map prB) cl]:=by
 refine VC.code hT 5 rfl rfl rfl rfl fun F w S0=>?_
 refine gz hT rfl ?_;conv=>whnf
 refine zA rfl (yQ hT rfl rfl rfl rfl rfl rfl ((appendP hT b cl es hl).mono ?_))
 rintro v S' ⟨ks,R,hp,hc,rfl⟩
 rcases hc with ⟨rfl,rfl,rfl⟩ | ⟨hne,b',c,r,rfl,hcr,rfl⟩
 ·refine gz hT rfl ?_;conv=>whnf
  exact zQ (.tmp rfl .nil) ⟨[],[],hp,.inl ⟨rfl,rfl,rfl⟩,rfl⟩
 ·refine gz hT rfl ?_;conv=>whnf
  exact zQ (.tmp rfl .nil) ⟨ks,_,hp,.inr ⟨hne,b',c,r,rfl,hcr,rfl⟩,rfl⟩
theorem sortPairsP (b n c r:Nat) (xs:List (Int×Int)) (hn:xs.length=n) (hl:n < 60000000) :
  VC Tryz.prog 148 [.ref b 0 n c,.func 85 [] []] [.cells b ((xs.map prs).flatten++List.replicate r .any) 44] fun v S'=>v = .tup []∧S'=[.cells b (((xs.mergeSort fun x y=>!(ltOf cfP) y x).map prs).flatten++List.replicate r .any) 44] :=
 zDP (en:=prs) (enc:=prE') Tryz.sortPairs 2 (fun w=>xq hT (t:=44) (b:=true) rfl w) (fun w=>Am.run_size hT (t:=44) (n:=2) rfl w) prs_det prs_of (fun _=>rfl) cell1 cfP swoP (by rw [ltOf_cfP]; exact tot_ltP.tot) _ (fun args w=>xf hT rfl rfl args w) (fun {_} x y=>lessPairs hT x y) b n c r _ xs hn (by omega)
theorem sortedP (b cl:Nat) (es:List (Nat×Int×Int)) (hl:es.length < 60000000) :
  VC Tryz.prog 83 [.func 149 [] [.pin [.map b] 0],.func 85 [] []] [.mapB b (es.map prB) cl] fun v S'=>∃ ys R,List.Perm ys (es.map (·.2))∧(ys.Pairwise fun x y=>ltP y x=false)∧ColP ys v R∧S'=R++[.mapB b (es.map prB) cl]:=by
 refine VC.code hT 12 rfl rfl rfl rfl fun F w S0=>?_
 refine gz hT rfl ?_;conv=>whnf
 refine zA rfl (yQ hT rfl rfl rfl rfl rfl rfl ((collectP hT b cl es hl).mono ?_))
 rintro v S' ⟨ks,R,hp,hc,rfl⟩
 have hlen:ks.length=es.length:=by rw [hp.length_eq,List.length_map]
 rcases hc with ⟨rfl,rfl,rfl⟩ | ⟨hne,b',c,r,rfl,hcr,rfl⟩
 ·refine gz hT rfl ?_;conv=>whnf
  refine zA rfl (yQ hT rfl rfl rfl rfl rfl rfl ((zDQ Tryz.sortPairs _ _).mono ?_))
  rintro _ S' ⟨rfl,rfl⟩
  refine gz hT rfl ?_;conv=>whnf
  exact zQ (.tmp rfl .nil) ⟨[],[],hp,.nil,.inl ⟨rfl,rfl,rfl⟩,rfl⟩
 ·refine gz hT rfl ?_;conv=>whnf
  refine zA rfl (yQ hT rfl rfl rfl rfl rfl rfl (((sortPairsP hT b' ks.length c r ks rfl (by omega)).frame [.mapB b (es.map prB) cl]).mono ?_))
  rintro _ S' ⟨S1,rfl,rfl,rfl⟩
  rw [ltOf_cfP]
  have hsort:((ks.mergeSort fun x y=>!ltP y x).Pairwise fun x y=>ltP y x=false):=by
   have:=List.pairwise_mergeSort (le:=fun x y=>!ltP y x) (fun a b c h1 h2=>by
    simp only [Bool.not_eq_true'] at h1 h2 ⊢
    exact (swo_of tot_ltP.irr tot_ltP.tr tot_ltP.tot).ntrans _ _ _ h2 h1) (fun a b=>by
    cases e:ltP b a
    ·rfl
    ·rw [tot_ltP.asym e]; rfl) ks
   exact this.imp fun h=>by simpa using h
  have hperm:=List.mergeSort_perm ks fun x y=>!ltP y x
  have hl2:(ks.mergeSort fun x y=>!ltP y x).length=ks.length:=hperm.length_eq
  generalize (ks.mergeSort fun x y=>!ltP y x)=ys at hsort hperm hl2
  refine gz hT rfl ?_;conv=>whnf
  refine zQ (.tmp rfl .nil) ⟨ys,_,hperm.trans hp,hsort,.inr ⟨fun e=>hne (by subst e; exact hperm.symm.eq_nil),b',c,r,by rw [hl2]; rfl,by rw [hl2]; exact hcr,rfl⟩,rfl⟩
theorem sortedF (b cl:Nat) (es:List (Nat×Int×Int)) (hl:es.length < 60000000) :
  VC Tryz.prog 83 [.func 149 [] [.pin [.map b] 0],.func 85 [] []] [.mapB b (es.map prB) cl] fun v S'=>∃ ys,List.Perm ys (es.map (·.2))∧(ys.Pairwise fun x y=>ltP y x=false)∧v = .slice .no (ys.map prs)∧S'=[.mapB b (es.map prB) cl]:=by
 refine ((sortedP hT b cl es hl).freeze (Q':=fun v S'=>∃ ys t,List.Perm ys (es.map (·.2))∧(ys.Pairwise fun x y=>ltP y x=false)∧v = .slice t (ys.map prs)∧S'=[.mapB b (es.map prB) cl]) ?_).less ?_
 ·rintro v S' ⟨ys,R,hp,hs,hc,rfl⟩
  rcases hc with ⟨rfl,rfl,rfl⟩ | ⟨hne,b',c,r,rfl,hcr,rfl⟩
  ·exact .inl ⟨[],.zero,hp,hs,rfl,rfl⟩
  ·exact .inr ⟨b',_,c,2,ys.map prs,_,_,_,rfl,rfl,fun r hr=>by obtain ⟨x,_,rfl⟩:=List.mem_map.1 hr; rfl,List.length_map _,by omega,ys,.no,hp,hs,rfl,rfl⟩
 ·rintro v S' ⟨ys,t,hp,hs,rfl,rfl⟩
  exact ⟨_,_,V.Le.slice _ _,.refl _,ys,hp,hs,rfl,rfl⟩
end
end Go.Vw
