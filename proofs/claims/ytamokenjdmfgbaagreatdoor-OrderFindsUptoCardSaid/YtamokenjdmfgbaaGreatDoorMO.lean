/- What the document finds to be held, and whether code is right; no condition beyond bounds on lengths. -/
import Derived.Test.YtamokenjdmfgbaaGreatDoorME
import Derived.Test.YtamokenjdmfgbaaGreatDoorMD
import Derived.Test.YtamokenjdmfgbaaGreatDoorMG
namespace Go.Vw
open Go.RowKit Go.Am Go.Proofs
attribute [local irreducible] yE zv zq VD VDn VDq Ret
def xw (A:AtM) (sel:P2→Int) (f n:Nat):Int:=match zL A ((f:Int),(n:Int)) with | some l=>sel l | none=>-1
def zs (A:AtM) (sel:P2→Int) (n f:Nat):List V:=(List.range n).map fun k=>.int .i64 (xw A sel f k)
structure Geo where
 b:Nat→Nat
 c:Nat→Nat
 r:Nat→Nat
def ya (b n c:Nat):V:=if n=0 then .slice .zero [] else .ref b 0 n c
def u0 (b n r:Nat) (cs:List V):HE:=if n=0 then .tl .no else .cells b (cs++List.replicate r .any) 3
def zb (g:Geo) (L:Nat→Nat) (N:Nat):List (List V):=(List.range N).map fun f=>[ya (g.b f) (L f) (g.c f)]
def yn (g:Geo) (L:Nat→Nat) (sel:P2→Int) (N:Nat) (A:AtM):Hp:=(List.range N).map fun f=>u0 (g.b f) (L f) (g.r f) (zs A sel (L f) f)
def qF (m:MModule) (bx:Nat) (t1 t2:Tok) (g1 g2:Geo) (L:Nat→Nat) (A:AtM) (more:Bool):Hp :=
 .cells bx (ze m++[.slice t1 (zb g1 L m.funcs.length),.slice t2 (zb g2 L m.funcs.length),.ob more]) 165::(yn g1 L (·.1) m.funcs.length A++yn g2 L (·.2) m.funcs.length A)
theorem At.idx {l:Hp}:∀ {i:Nat} {h:HE},l[i]?=some h→At l h (fun x=>l.set i x):=by
 induction l with
 | nil=>intro i h e; simp at e
 | cons y l ih =>
   intro i h e
   cases i with
   | zero =>
     simp only [List.getElem?_cons_zero,Option.some.injEq] at e
     subst e
     exact .here
   | succ i =>
     simp only [List.getElem?_cons_succ] at e
     exact .there (ih e)
theorem At.left {l r:Hp} {h:HE} {f:HE→Hp} (k:At l h f):At (l++r) h (fun x=>f x++r):=by
 induction k with
 | here=>exact .here
 | there _ ih=>exact .there ih
theorem At.right {r:Hp} {h:HE} {f:HE→Hp} (k:At r h f):∀ l:Hp,At (l++r) h (fun x=>l++f x)
 | []=>k
 | _::l=>.there (At.right k l)
theorem uR {g:Geo} {L:Nat→Nat} {N f:Nat} (h:f < N):(zb g L N)[f]?=some [ya (g.b f) (L f) (g.c f)]:=by
 unfold zb
 rw [List.getElem?_map,List.getElem?_range h]; rfl
theorem yA {g:Geo} {L:Nat→Nat} {sel:P2→Int} {N f:Nat} {A:AtM} (h:f < N) (hL:0 < L f):(yn g L sel N A)[f]?=some (.cells (g.b f) (zs A sel (L f) f++List.replicate (g.r f) .any) 3):=by
 unfold yn
 rw [List.getElem?_map,List.getElem?_range h]
 show some (u0 _ _ _ _)=_
 unfold u0
 rw [if_neg (by omega)]
theorem zAW {A:AtM} {sel:P2→Int} {n f k r:Nat} (h:k < n):(zs A sel n f++List.replicate r V.any)[k]?=some (.int .i64 (xw A sel f k)):=by
 rw [List.getElem?_append_left (by simpa [zs] using h)]
 unfold zs
 rw [List.getElem?_map,List.getElem?_range h]; rfl
theorem cellA_put (A:AtM) (sel:P2→Int) (p l:P2) (f n:Nat):xw (ul A p l) sel f n=if ((f:Int),(n:Int))=p then sel l else xw A sel f n:=by
 unfold xw
 rw [yW]
 by_cases h:((f:Int),(n:Int))=p
 ·rw [if_pos h,if_pos h]
 ·rw [if_neg h,if_neg h]
theorem row_set {A:AtM} {sel:P2→Int} {n F K r:Nat} (h:K < n) (l:P2):(zs A sel n F++List.replicate r V.any).set K (.int .i64 (sel l))=zs (ul A ((F:Int),(K:Int)) l) sel n F++List.replicate r V.any:=by
 rw [List.set_append_left _ _ (by simpa [zs] using h)]
 congr 1
 refine List.ext_getElem (by simp [zs]) fun i h1 h2=>?_
 rw [List.getElem_set]
 simp only [zs,List.getElem_map,List.getElem_range,cellA_put]
 by_cases e:K=i
 ·subst e; simp
 ·have hne:¬ (((F:Int),(i:Int))=((F:Int),(K:Int))):=fun h=>by simp at h; omega
  rw [if_neg e,if_neg hne]
theorem row_same {A:AtM} {sel:P2→Int} {n f:Nat} {p l:P2} (h:(f:Int)≠p.1):zs (ul A p l) sel n f=zs A sel n f:=by
 unfold zs
 refine List.map_congr_left fun k _=>?_
 rw [cellA_put,if_neg fun e=>h (by rw [← e])]
theorem rows_set {g:Geo} {L:Nat→Nat} {sel:P2→Int} {N F K:Nat} {A:AtM} (h:F < N) (hL:K < L F) (l:P2):(yn g L sel N A).set F (.cells (g.b F) (zs (ul A ((F:Int),(K:Int)) l) sel (L F) F++List.replicate (g.r F) .any) 3)=yn g L sel N (ul A ((F:Int),(K:Int)) l):=by
 refine List.ext_getElem (by simp [yn]) fun i h1 h2=>?_
 rw [List.getElem_set]
 simp only [yn,List.getElem_map,List.getElem_range]
 by_cases e:F=i
 ·subst e
  rw [if_pos rfl]
  unfold u0
  rw [if_neg (by omega)]
 ·rw [if_neg e,row_same fun h=>e (by simp at h; omega)]
def u9 (A:AtM) (p l:P2):AtM:=ul A p (meet A p l)
def xQ (A:AtM) (p l:P2):Bool:=!decide (zL A p=some (meet A p l))
theorem qW {A:AtM} {sel:P2→Int} {f n:Nat} (h:zL A ((f:Int),(n:Int))=none):xw A sel f n = -1:=by unfold xw; rw [h]
theorem uS {A:AtM} {sel:P2→Int} {f n:Nat} {l:P2} (h:zL A ((f:Int),(n:Int))=some l):xw A sel f n=sel l:=by unfold xw; rw [h]
theorem VsLe.pre {c d:List V} (h:VsLe c d):∀ l:List V,VsLe (l++c) (l++d)
 | []=>h
 | v::l=>.cons (.refl v) (VsLe.pre h l)
section
variable [Drw] (hT:TabOk tab Tryz.prog)
include hT
set_option maxHeartbeats 2000000 in
theorem comeRef (m:MModule) (bx:Nat) (t1 t2:Tok) (g1 g2:Geo) (L:Nat→Nat) (A:AtM) (more:Bool) (F K:Nat) (l:P2) (hF:F < m.funcs.length) (hK:K < L F) (hl:0≤l.1) (hA:∀ o,zL A ((F:Int),(K:Int))=some o→0≤o.1) :
  VC Tryz.prog 87 [.ptr bx 0,.int .i64 F,.int .i64 K,.int .i64 l.1,.int .i64 l.2] (qF m bx t1 t2 g1 g2 L A more) fun _ S'=>S'=qF m bx t1 t2 g1 g2 L (u9 A ((F:Int),(K:Int)) l) (more || xQ A ((F:Int),(K:Int)) l):=by
 have v1:ya (g1.b F) (L F) (g1.c F) = .ref (g1.b F) 0 (L F) (g1.c F):=by unfold ya; rw [if_neg (by omega)]
 have v2:ya (g2.b F) (L F) (g2.c F) = .ref (g2.b F) 0 (L F) (g2.c F):=by unfold ya; rw [if_neg (by omega)]
 have o1:(zb g1 L m.funcs.length)[(F:Int).toNat]?=some [.ref (g1.b F) 0 (L F) (g1.c F)]:=by rw [Int.toNat_natCast,uR hF,v1]
 have o2:(zb g2 L m.funcs.length)[(F:Int).toNat]?=some [.ref (g2.b F) 0 (L F) (g2.c F)]:=by rw [Int.toNat_natCast,uR hF,v2]
 have a1:At (qF m bx t1 t2 g1 g2 L A more) _ _:=.there (At.left (At.idx (yA (g:=g1) (sel:=(·.1)) (A:=A) hF (by omega))))
 have a2:At (qF m bx t1 t2 g1 g2 L A more) _ _:=.there (At.right (At.idx (yA (g:=g2) (sel:=(·.2)) (A:=A) hF (by omega))) _)
 have hK0:0 < L F:=by omega
 have gl1:(zs A (·.1) (L F) F++List.replicate (g1.r F) V.any)[0+(K:Int).toNat * 1]?=some (.int .i64 (xw A (·.1) F K)):=by
  rw [Int.toNat_natCast,Nat.zero_add,Nat.mul_one]; exact zAW hK
 have gl2:(zs A (·.2) (L F) F++List.replicate (g2.r F) V.any)[0+(K:Int).toNat * 1]?=some (.int .i64 (xw A (·.2) F K)):=by
  rw [Int.toNat_natCast,Nat.zero_add,Nat.mul_one]; exact zAW hK
 have hlen1:(zs A (·.1) (L F) F++List.replicate (g1.r F) V.any).length=L F+g1.r F:=by simp [zs]
 have hlen2:(zs A (·.2) (L F) F++List.replicate (g2.r F) V.any).length=L F+g2.r F:=by simp [zs]
 have hoff1:0+(K:Int).toNat * 1 < (zs A (·.1) (L F) F++List.replicate (g1.r F) V.any).length:=by rw [hlen1,Int.toNat_natCast]; omega
 have hoff2:0+(K:Int).toNat * 1 < (zs A (·.2) (L F) F++List.replicate (g2.r F) V.any).length:=by rw [hlen2,Int.toNat_natCast]; omega
 have fin:∀ x1 x2,x1=(meet A ((F:Int),(K:Int)) l).1→x2=(meet A ((F:Int),(K:Int)) l).2→(HE.cells bx (ze m++[.slice t1 (zb g1 L m.funcs.length),.slice t2 (zb g2 L m.funcs.length),.ob (more || xQ A ((F:Int),(K:Int)) l)]) 165::((yn g1 L (·.1) m.funcs.length A).set F (.cells (g1.b F) ((zs A (·.1) (L F) F++List.replicate (g1.r F) V.any).set (0+(K:Int).toNat * 1) (.int .i64 x1)) 3)++(yn g2 L (·.2) m.funcs.length A).set F (.cells (g2.b F) ((zs A (·.2) (L F) F++List.replicate (g2.r F) V.any).set (0+(K:Int).toNat * 1) (.int .i64 x2)) 3)))=qF m bx t1 t2 g1 g2 L (u9 A ((F:Int),(K:Int)) l) (more || xQ A ((F:Int),(K:Int)) l):=by
  rintro _ _ rfl rfl
  unfold qF u9
  rw [Int.toNat_natCast,Nat.zero_add,Nat.mul_one,row_set (sel:=(·.1)) hK,row_set (sel:=(·.2)) hK,rows_set (sel:=(·.1)) hF hK,rows_set (sel:=(·.2)) hF hK]
 refine VC.code hT 100 rfl rfl rfl rfl fun FF W S0=>?_
 cases hf:zL A ((F:Int),(K:Int)) with
 | none =>
   have c1:=qW (sel:=(·.1)) hf
   have c2:=qW (sel:=(·.2)) hf
   have em:meet A ((F:Int),(K:Int)) l=l:=by unfold meet; rw [hf]
   have e1:l.1=(meet A ((F:Int),(K:Int)) l).1:=by rw [em]
   have e2:l.2=(meet A ((F:Int),(K:Int)) l).2:=by rw [em]
   have hm:xQ A ((F:Int),(K:Int)) l=true:=by unfold xQ; rw [hf]; rfl
   rw [c1] at gl1
   rw [c2] at gl2
   repeat' (first
    | (refine gz hT rfl ?_;conv=>whnf)
    | refine zA rfl (zN rfl rfl rfl ?_)
    | refine zA rfl (zH hT rfl rfl rfl rfl rfl rfl rfl rfl ?_)
    | refine zB rfl (zK hT rfl rfl rfl rfl rfl rfl (List.length_map _)) ?_
    | refine zG rfl rfl rfl rfl (fun h=>?_) (fun h=>?_)
    | refine zB rfl (zT hT rfl rfl .here rfl) ?_
    | refine zB rfl (zr hT rfl rfl rfl rfl rfl (by omega) o1 rfl) ?_
    | refine zB rfl (zr hT rfl rfl rfl rfl rfl (by omega) o2 rfl) ?_
    | refine zB rfl (za hT rfl rfl rfl rfl rfl (by omega) (by omega)) ?_
    | refine zB rfl (zT hT rfl rfl (.there (At.left (At.idx (yA hF hK0)))) (yK rfl gl1)) ?_
    | refine zB rfl (zT hT rfl rfl (.there (At.right (At.idx (yA hF hK0)) _)) (yK rfl gl2)) ?_)
   refine zC rfl (fun h=>by simp at h) (fun _=>?_)
   repeat' (first
    | (refine gz hT rfl ?_;conv=>whnf)
    | refine zA rfl (zN rfl rfl rfl ?_)
    | refine zA rfl (zH hT rfl rfl rfl rfl rfl rfl rfl rfl ?_)
    | refine zB rfl (zK hT rfl rfl rfl rfl rfl rfl (List.length_map _)) ?_
    | refine zG rfl rfl rfl rfl (fun h=>?_) (fun h=>?_)
    | refine zB rfl (zT hT rfl rfl .here rfl) ?_
    | refine zB rfl (zr hT rfl rfl rfl rfl rfl (by omega) o1 rfl) ?_
    | refine zB rfl (zr hT rfl rfl rfl rfl rfl (by omega) o2 rfl) ?_
    | refine zB rfl (za hT rfl rfl rfl rfl rfl (by omega) (by omega)) ?_
    | refine zB rfl (zT hT rfl rfl (.there (At.left (At.idx (yA hF hK0)))) (yK rfl gl1)) ?_
    | refine zB rfl (zT hT rfl rfl (.there (At.right (At.idx (yA hF hK0)) _)) (yK rfl gl2)) ?_)
   ·have hb:some true=some (more || xQ A ((F:Int),(K:Int)) l):=by rw [hm,Bool.or_true]
    refine zA rfl (zI (cs':=ze m++[.slice t1 (zb g1 L m.funcs.length),.slice t2 (zb g2 L m.funcs.length),.bool true]) hT rfl rfl rfl .here rfl ?_)
    refine yC (S':=.cells bx (ze m++[.slice t1 (zb g1 L m.funcs.length),.slice t2 (zb g2 L m.funcs.length),.ob (more || xQ A ((F:Int),(K:Int)) l)]) 165::(yn g1 L (·.1) m.funcs.length A++yn g2 L (·.2) m.funcs.length A)) (.cells (VsLe.pre (.cons (.refl _) (.cons (.refl _) (.cons (wZ (v:=.bool true) hb) .nil))) (ze m)) (.refl _)) ?_
    repeat' (first
     | (refine gz hT rfl ?_;conv=>whnf)
     | refine zA rfl (zN rfl rfl rfl ?_)
     | refine zA rfl (zH hT rfl rfl rfl rfl rfl rfl rfl rfl ?_)
     | refine zB rfl (zK hT rfl rfl rfl rfl rfl rfl (List.length_map _)) ?_
     | refine zG rfl rfl rfl rfl (fun h=>?_) (fun h=>?_)
     | refine zB rfl (zT hT rfl rfl .here rfl) ?_
     | refine zB rfl (zr hT rfl rfl rfl rfl rfl (by omega) o1 rfl) ?_
     | refine zB rfl (zr hT rfl rfl rfl rfl rfl (by omega) o2 rfl) ?_
     | refine zB rfl (za hT rfl rfl rfl rfl rfl (by omega) (by omega)) ?_
     | refine zA rfl (zI hT rfl rfl rfl (.there (At.left (At.idx (yA hF hK0)))) (yu rfl rfl rfl hoff1) ?_)
     | refine zA rfl (zI hT rfl rfl rfl (.there (At.right (At.idx (yA hF hK0)) _)) (yu rfl rfl rfl hoff2) ?_))
    refine zQ .nil ?_
    exact fin _ _ e1 e2
   ·have hb:some true=some (more || xQ A ((F:Int),(K:Int)) l):=by rw [hm,Bool.or_true]
    refine zA rfl (zI (cs':=ze m++[.slice t1 (zb g1 L m.funcs.length),.slice t2 (zb g2 L m.funcs.length),.bool true]) hT rfl rfl rfl .here rfl ?_)
    refine yC (S':=.cells bx (ze m++[.slice t1 (zb g1 L m.funcs.length),.slice t2 (zb g2 L m.funcs.length),.ob (more || xQ A ((F:Int),(K:Int)) l)]) 165::(yn g1 L (·.1) m.funcs.length A++yn g2 L (·.2) m.funcs.length A)) (.cells (VsLe.pre (.cons (.refl _) (.cons (.refl _) (.cons (wZ (v:=.bool true) hb) .nil))) (ze m)) (.refl _)) ?_
    repeat' (first
     | (refine gz hT rfl ?_;conv=>whnf)
     | refine zA rfl (zN rfl rfl rfl ?_)
     | refine zA rfl (zH hT rfl rfl rfl rfl rfl rfl rfl rfl ?_)
     | refine zB rfl (zK hT rfl rfl rfl rfl rfl rfl (List.length_map _)) ?_
     | refine zG rfl rfl rfl rfl (fun h=>?_) (fun h=>?_)
     | refine zB rfl (zT hT rfl rfl .here rfl) ?_
     | refine zB rfl (zr hT rfl rfl rfl rfl rfl (by omega) o1 rfl) ?_
     | refine zB rfl (zr hT rfl rfl rfl rfl rfl (by omega) o2 rfl) ?_
     | refine zB rfl (za hT rfl rfl rfl rfl rfl (by omega) (by omega)) ?_
     | refine zA rfl (zI hT rfl rfl rfl (.there (At.left (At.idx (yA hF hK0)))) (yu rfl rfl rfl hoff1) ?_)
     | refine zA rfl (zI hT rfl rfl rfl (.there (At.right (At.idx (yA hF hK0)) _)) (yu rfl rfl rfl hoff2) ?_))
    refine zQ .nil ?_
    exact fin _ _ e1 e2
   ·simp only [Bool.not_eq_false',decide_eq_true_eq] at h
    omega
 | some o =>
   have c1:=uS (sel:=(·.1)) hf
   have c2:=uS (sel:=(·.2)) hf
   have em:meet A ((F:Int),(K:Int)) l=(ym l.1 o.1,orI l.2 o.2):=by unfold meet; rw [hf]
   have e1:ym l.1 o.1=(meet A ((F:Int),(K:Int)) l).1:=by rw [em]
   have e2:orI l.2 o.2=(meet A ((F:Int),(K:Int)) l).2:=by rw [em]
   have ho:=hA o hf
   rw [c1] at gl1
   rw [c2] at gl2
   repeat' (first
    | (refine gz hT rfl ?_;conv=>whnf)
    | refine zA rfl (zN rfl rfl rfl ?_)
    | refine zA rfl (zH hT rfl rfl rfl rfl rfl rfl rfl rfl ?_)
    | refine zB rfl (zK hT rfl rfl rfl rfl rfl rfl (List.length_map _)) ?_
    | refine zG rfl rfl rfl rfl (fun h=>?_) (fun h=>?_)
    | refine zB rfl (zT hT rfl rfl .here rfl) ?_
    | refine zB rfl (zr hT rfl rfl rfl rfl rfl (by omega) o1 rfl) ?_
    | refine zB rfl (zr hT rfl rfl rfl rfl rfl (by omega) o2 rfl) ?_
    | refine zB rfl (za hT rfl rfl rfl rfl rfl (by omega) (by omega)) ?_
    | refine zB rfl (zT hT rfl rfl (.there (At.left (At.idx (yA hF hK0)))) (yK rfl gl1)) ?_
    | refine zB rfl (zT hT rfl rfl (.there (At.right (At.idx (yA hF hK0)) _)) (yK rfl gl2)) ?_)
   refine zC rfl (fun _=>?_) (fun h=>absurd (of_decide_eq_false h) (by omega))
   repeat' (first
    | (refine gz hT rfl ?_;conv=>whnf)
    | refine zA rfl (zN rfl rfl rfl ?_)
    | refine zA rfl (zH hT rfl rfl rfl rfl rfl rfl rfl rfl ?_)
    | refine zB rfl (zK hT rfl rfl rfl rfl rfl rfl (List.length_map _)) ?_
    | refine zG rfl rfl rfl rfl (fun h=>?_) (fun h=>?_)
    | refine zB rfl (zT hT rfl rfl .here rfl) ?_
    | refine zB rfl (zr hT rfl rfl rfl rfl rfl (by omega) o1 rfl) ?_
    | refine zB rfl (zr hT rfl rfl rfl rfl rfl (by omega) o2 rfl) ?_
    | refine zB rfl (za hT rfl rfl rfl rfl rfl (by omega) (by omega)) ?_
    | refine zB rfl (zT hT rfl rfl (.there (At.left (At.idx (yA hF hK0)))) (yK rfl gl1)) ?_
    | refine zB rfl (zT hT rfl rfl (.there (At.right (At.idx (yA hF hK0)) _)) (yK rfl gl2)) ?_)
   ·have hb:some true=some (more || xQ A ((F:Int),(K:Int)) l):=by rw [h,Bool.true_or]
    refine zA rfl (zI (cs':=ze m++[.slice t1 (zb g1 L m.funcs.length),.slice t2 (zb g2 L m.funcs.length),.bool true]) hT rfl rfl rfl .here rfl ?_)
    refine yC (S':=.cells bx (ze m++[.slice t1 (zb g1 L m.funcs.length),.slice t2 (zb g2 L m.funcs.length),.ob (more || xQ A ((F:Int),(K:Int)) l)]) 165::(yn g1 L (·.1) m.funcs.length A++yn g2 L (·.2) m.funcs.length A)) (.cells (VsLe.pre (.cons (.refl _) (.cons (.refl _) (.cons (wZ (v:=.bool true) hb) .nil))) (ze m)) (.refl _)) ?_
    repeat' (first
     | (refine gz hT rfl ?_;conv=>whnf)
     | refine zA rfl (zN rfl rfl rfl ?_)
     | refine zA rfl (zH hT rfl rfl rfl rfl rfl rfl rfl rfl ?_)
     | refine zB rfl (zK hT rfl rfl rfl rfl rfl rfl (List.length_map _)) ?_
     | refine zG rfl rfl rfl rfl (fun h=>?_) (fun h=>?_)
     | refine zB rfl (zT hT rfl rfl .here rfl) ?_
     | refine zB rfl (zr hT rfl rfl rfl rfl rfl (by omega) o1 rfl) ?_
     | refine zB rfl (zr hT rfl rfl rfl rfl rfl (by omega) o2 rfl) ?_
     | refine zB rfl (za hT rfl rfl rfl rfl rfl (by omega) (by omega)) ?_
     | refine zA rfl (zI hT rfl rfl rfl (.there (At.left (At.idx (yA hF hK0)))) (yu rfl rfl rfl hoff1) ?_)
     | refine zA rfl (zI hT rfl rfl rfl (.there (At.right (At.idx (yA hF hK0)) _)) (yu rfl rfl rfl hoff2) ?_))
    refine zQ .nil ?_
    exact fin _ _ e1 e2
   ·have hb:some true=some (more || xQ A ((F:Int),(K:Int)) l):=by
     have hne:¬ ym l.1 o.1=o.1:=by
      have:=h
      simp only [Bool.not_eq_true',decide_eq_false_iff_not] at this
      exact this
     have hm:xQ A ((F:Int),(K:Int)) l=true:=by
      unfold xQ
      rw [hf,em,decide_eq_false fun e=>hne (congrArg Prod.fst (Option.some.inj e)).symm]
      rfl
     rw [hm,Bool.or_true]
    refine zA rfl (zI (cs':=ze m++[.slice t1 (zb g1 L m.funcs.length),.slice t2 (zb g2 L m.funcs.length),.bool true]) hT rfl rfl rfl .here rfl ?_)
    refine yC (S':=.cells bx (ze m++[.slice t1 (zb g1 L m.funcs.length),.slice t2 (zb g2 L m.funcs.length),.ob (more || xQ A ((F:Int),(K:Int)) l)]) 165::(yn g1 L (·.1) m.funcs.length A++yn g2 L (·.2) m.funcs.length A)) (.cells (VsLe.pre (.cons (.refl _) (.cons (.refl _) (.cons (wZ (v:=.bool true) hb) .nil))) (ze m)) (.refl _)) ?_
    repeat' (first
     | (refine gz hT rfl ?_;conv=>whnf)
     | refine zA rfl (zN rfl rfl rfl ?_)
     | refine zA rfl (zH hT rfl rfl rfl rfl rfl rfl rfl rfl ?_)
     | refine zB rfl (zK hT rfl rfl rfl rfl rfl rfl (List.length_map _)) ?_
     | refine zG rfl rfl rfl rfl (fun h=>?_) (fun h=>?_)
     | refine zB rfl (zT hT rfl rfl .here rfl) ?_
     | refine zB rfl (zr hT rfl rfl rfl rfl rfl (by omega) o1 rfl) ?_
     | refine zB rfl (zr hT rfl rfl rfl rfl rfl (by omega) o2 rfl) ?_
     | refine zB rfl (za hT rfl rfl rfl rfl rfl (by omega) (by omega)) ?_
     | refine zA rfl (zI hT rfl rfl rfl (.there (At.left (At.idx (yA hF hK0)))) (yu rfl rfl rfl hoff1) ?_)
     | refine zA rfl (zI hT rfl rfl rfl (.there (At.right (At.idx (yA hF hK0)) _)) (yu rfl rfl rfl hoff2) ?_))
    refine zQ .nil ?_
    exact fin _ _ e1 e2
   ·rename_i h0
    have hb:some (!decide (orI l.2 o.2=o.2))=some (more || xQ A ((F:Int),(K:Int)) l):=by
     have he:ym l.1 o.1=o.1:=by
      have:=h
      simp only [Bool.not_eq_false',decide_eq_true_eq] at this
      exact this
     rw [h0,Bool.false_or]
     unfold xQ
     rw [hf,em]
     congr 2
     refine decide_eq_decide.2 ⟨fun e=>by rw [he,e],fun e=>(congrArg Prod.snd (Option.some.inj e)).symm⟩
    refine zA rfl (zI (cs':=ze m++[.slice t1 (zb g1 L m.funcs.length),.slice t2 (zb g2 L m.funcs.length),.ob (!decide (orI l.2 o.2=o.2))]) hT rfl rfl rfl .here rfl ?_)
    refine yC (S':=.cells bx (ze m++[.slice t1 (zb g1 L m.funcs.length),.slice t2 (zb g2 L m.funcs.length),.ob (more || xQ A ((F:Int),(K:Int)) l)]) 165::(yn g1 L (·.1) m.funcs.length A++yn g2 L (·.2) m.funcs.length A)) (.cells (VsLe.pre (.cons (.refl _) (.cons (.refl _) (.cons (wZ (v:=.ob (!decide (orI l.2 o.2=o.2))) hb) .nil))) (ze m)) (.refl _)) ?_
    repeat' (first
     | (refine gz hT rfl ?_;conv=>whnf)
     | refine zA rfl (zN rfl rfl rfl ?_)
     | refine zA rfl (zH hT rfl rfl rfl rfl rfl rfl rfl rfl ?_)
     | refine zB rfl (zK hT rfl rfl rfl rfl rfl rfl (List.length_map _)) ?_
     | refine zG rfl rfl rfl rfl (fun h=>?_) (fun h=>?_)
     | refine zB rfl (zT hT rfl rfl .here rfl) ?_
     | refine zB rfl (zr hT rfl rfl rfl rfl rfl (by omega) o1 rfl) ?_
     | refine zB rfl (zr hT rfl rfl rfl rfl rfl (by omega) o2 rfl) ?_
     | refine zB rfl (za hT rfl rfl rfl rfl rfl (by omega) (by omega)) ?_
     | refine zA rfl (zI hT rfl rfl rfl (.there (At.left (At.idx (yA hF hK0)))) (yu rfl rfl rfl hoff1) ?_)
     | refine zA rfl (zI hT rfl rfl rfl (.there (At.right (At.idx (yA hF hK0)) _)) (yu rfl rfl rfl hoff2) ?_))
    refine zQ .nil ?_
    exact fin _ _ e1 e2
end
end Go.Vw
namespace Go.Vw
open Go.RowKit Go.Am Go.Proofs
attribute [local irreducible] yE zv zq VD VDn VDq Ret
def cR (x:AtM×Bool) (p l:P2):AtM×Bool:=(u9 x.1 p l,x.2 || xQ x.1 p l)
def ky (x:AtM×Bool) (a:Int) (back:P2):Nat→List MOp→AtM×Bool
 | _,[]=>x
 | i,o::r=>ky (match zL x.1 (a,(i:Int)) with | some e=>if o.kind=23 then cR x back e else x | none=>x) a back (i+1) r
theorem we (x:AtM×Bool) (a:Int) (b:P2) (i:Nat) (o:MOp) (r:List MOp):ky x a b i (o::r)=ky (match zL x.1 (a,(i:Int)) with | some e=>if o.kind=23 then cR x b e else x | none=>x) a b (i+1) r:=rfl
theorem retR_nil (x:AtM×Bool) (a:Int) (b:P2) (i:Nat):ky x a b i []=x:=rfl
def xo (m:MModule) (x:AtM×Bool) (p:P2):AtM×Bool :=
 match zL x.1 p with
 | none=>x
 | some l =>
   if ((m.fn p.1).op p.2).kind=23 then x
   else if ((m.fn p.1).op p.2).kind=22 then ky (cR x (((m.fn p.1).op p.2).a,0) l) ((m.fn p.1).op p.2).a (p.1,((m.fn p.1).op p.2).next) 0 (m.fn ((m.fn p.1).op p.2).a).code
   else cR (if ((m.fn p.1).op p.2).kind=21 then cR x (p.1,((m.fn p.1).op p.2).els) l else x) (p.1,((m.fn p.1).op p.2).next) (xK ((m.fn p.1).op p.2) l)
def Ln (m:MModule) (rs:List Int) (f:Nat):Nat:=if (f:Int)∈rs then (m.fn (f:Int)).code.length else 0
def InR (m:MModule) (rs:List Int) (p:P2):Prop:=xA m p∧p.1∈rs
def yq (m:MModule) (rs:List Int) (Lk:Nat) (A:AtM):Prop:=∀ p l,zL A p=some l→InR m rs p∧LockOk Lk l
theorem InR.nat {m:MModule} {rs:List Int} {p:P2} (h:InR m rs p):∃ F K:Nat,p=((F:Int),(K:Int))∧F < m.funcs.length∧K < Ln m rs F:=by
 obtain ⟨⟨h1,h2,h3⟩,h4⟩:=h
 have hb:=belowB_one.1 h1
 have e1:((p.1.toNat:Nat):Int)=p.1:=Int.toNat_of_nonneg hb.1
 have e2:((p.2.toNat:Nat):Int)=p.2:=Int.toNat_of_nonneg h2
 refine ⟨p.1.toNat,p.2.toNat,by rw [e1,e2],by omega,?_⟩
 unfold Ln
 rw [e1,if_pos h4]
 omega
theorem meet_ok {Lk:Nat} (hL:Lk≤8) {A:AtM} {p l:P2} (hA:∀ o,zL A p=some o→LockOk Lk o) (hl:LockOk Lk l):LockOk Lk (meet A p l):=by
 unfold meet
 cases hf:zL A p with
 | none=>exact hl
 | some o=>exact (hl.meet hL (hA o hf)).1
theorem yB {m:MModule} {rs:List Int} {Lk:Nat} (hL:Lk≤8) {A:AtM} (h:yq m rs Lk A) {p l:P2} (hp:InR m rs p) (hl:LockOk Lk l):yq m rs Lk (u9 A p l):=fun q k hq=>by
 unfold u9 at hq
 rw [yW] at hq
 split at hq
 ·next e =>
  subst e; cases hq
  exact ⟨hp,meet_ok hL (fun o ho=>(h _ o ho).2) hl⟩
 ·exact h q k hq
theorem zE8 {m:MModule} {rs:List Int} {Lk:Nat} (hL:Lk≤8) {a:Int} {back:P2} (hb:InR m rs back):∀ (c:List MOp) (i:Nat) {x:AtM×Bool},yq m rs Lk x.1→yq m rs Lk (ky x a back i c).1
 | [],_,_,h=>h
 | o::c,i,x,h=>by
   unfold ky
   refine zE8 hL hb c (i+1) ?_
   cases hf:zL x.1 (a,(i:Int)) with
   | none=>exact h
   | some e =>
     dsimp only
     split
     ·exact yB hL h hb (h _ e hf).2
     ·exact h
theorem zDY {m:MModule} {rs:List Int} {Lk:Nat} (hL:Lk≤8) {x:AtM×Bool} (h:yq m rs Lk x.1) {p:P2} (ho:OpFacts m Lk p ((m.fn p.1).op p.2)) (hp:p.1∈rs) (hcl:((m.fn p.1).op p.2).kind=22→((m.fn p.1).op p.2).a∈rs):yq m rs Lk (xo m x p).1:=by
 unfold xo
 cases hf:zL x.1 p with
 | none=>exact h
 | some l =>
   have hl:=(h p l hf).2
   dsimp only
   generalize (m.fn p.1).op p.2=o at ho hcl
   split
   ·exact h
   ·next h23 =>
    have hn:InR m rs (p.1,o.next):=⟨ho.next h23,hp⟩
    split
    ·next h22=>exact zE8 hL hn _ _ (yB hL h ⟨(ho.call h22).2,hcl h22⟩ hl)
    ·refine yB hL ?_ hn (hl.leave hL ho.lock)
     split
     ·next h21=>exact yB hL h ⟨ho.els h21,hp⟩ hl
     ·exact h
theorem andMask {u:Int} (hu:0≤u∧u≤255) {a:Int} (ha:0≤a∧a < 8):ym u (255 - wg a)=vX u (wg a):=by
 obtain ⟨n,rfl⟩:∃ n:Nat,u=n:=⟨u.toNat,by omega⟩
 have hn:n < 256:=by omega
 have:a=0∨a=1∨a=2∨a=3∨a=4∨a=5∨a=6∨a=7:=by omega
 have key:∀ k:Nat,k < 8→∀ n:Nat,n < 256→ym (n:Int) (255 - wg (k:Int))=vX (n:Int) (wg (k:Int)):=by decide +kernel
 rcases this with rfl | rfl | rfl | rfl | rfl | rfl | rfl | rfl
 ·exact key 0 (by omega) n hn
 ·exact key 1 (by omega) n hn
 ·exact key 2 (by omega) n hn
 ·exact key 3 (by omega) n hn
 ·exact key 4 (by omega) n hn
 ·exact key 5 (by omega) n hn
 ·exact key 6 (by omega) n hn
 ·exact key 7 (by omega) n hn
theorem bit_range {a:Int} (h:0≤a∧a < 8):1≤wg a∧wg a≤128:=by
 have:a=0∨a=1∨a=2∨a=3∨a=4∨a=5∨a=6∨a=7:=by omega
 rcases this with rfl | rfl | rfl | rfl | rfl | rfl | rfl | rfl <;> exact ⟨by decide,by decide⟩
section
variable [Drw] (hT:TabOk tab Tryz.prog)
include hT
theorem vm (m:MModule) (bx:Nat) (t1 t2:Tok) (g1 g2:Geo) (rs:List Int) (Lk:Nat) (hL:Lk≤8) (x:AtM×Bool) (hx:yq m rs Lk x.1) (p l:P2) (hp:InR m rs p) (hl:LockOk Lk l) :
  VC Tryz.prog 87 [.ptr bx 0,.int .i64 p.1,.int .i64 p.2,.int .i64 l.1,.int .i64 l.2] (qF m bx t1 t2 g1 g2 (Ln m rs) x.1 x.2) fun _ S'=>S'=qF m bx t1 t2 g1 g2 (Ln m rs) (cR x p l).1 (cR x p l).2:=by
 obtain ⟨F,K,rfl,hF,hK⟩:=hp.nat
 exact comeRef hT m bx t1 t2 g1 g2 (Ln m rs) x.1 x.2 F K l hF hK (wB hL hl).1 fun o ho=>(wB hL (hx _ o ho).2).1
set_option maxRecDepth 100000 in
set_option maxHeartbeats 4000000 in
theorem fromRef (m:MModule) (hs:Small m) (bx:Nat) (t1 t2:Tok) (g1 g2:Geo) (rs:List Int) (Lk:Nat) (hL:Lk≤8) (x:AtM×Bool) (hx:yq m rs Lk x.1) (F K:Nat) (hF:F < m.funcs.length) (hrs:(F:Int)∈rs) (hK:K < (m.fn (F:Int)).code.length) (ho:OpFacts m Lk ((F:Int),(K:Int)) ((m.fn (F:Int)).op (K:Int))) (hcl:((m.fn (F:Int)).op (K:Int)).kind=22→((m.fn (F:Int)).op (K:Int)).a∈rs) :
  VC Tryz.prog 88 [.ptr bx 0,.int .i64 F,.int .i64 K] (qF m bx t1 t2 g1 g2 (Ln m rs) x.1 x.2) fun _ S'=>S'=qF m bx t1 t2 g1 g2 (Ln m rs) (xo m x ((F:Int),(K:Int))).1 (xo m x ((F:Int),(K:Int))).2:=by
 have hLn:Ln m rs F=(m.fn (F:Int)).code.length:=by unfold Ln; rw [if_pos hrs]
 have hK1:K < Ln m rs F:=by omega
 have hK0:0 < Ln m rs F:=by omega
 have v1:ya (g1.b F) (Ln m rs F) (g1.c F) = .ref (g1.b F) 0 (Ln m rs F) (g1.c F):=by unfold ya; rw [if_neg (by omega)]
 have v2:ya (g2.b F) (Ln m rs F) (g2.c F) = .ref (g2.b F) 0 (Ln m rs F) (g2.c F):=by unfold ya; rw [if_neg (by omega)]
 have o1:(zb g1 (Ln m rs) m.funcs.length)[(F:Int).toNat]?=some [.ref (g1.b F) 0 (Ln m rs F) (g1.c F)]:=by rw [Int.toNat_natCast,uR hF,v1]
 have o2:(zb g2 (Ln m rs) m.funcs.length)[(F:Int).toNat]?=some [.ref (g2.b F) 0 (Ln m rs F) (g2.c F)]:=by rw [Int.toNat_natCast,uR hF,v2]
 have gl1:(zs x.1 (·.1) (Ln m rs F) F++List.replicate (g1.r F) V.any)[0+(K:Int).toNat * 1]?=some (.int .i64 (xw x.1 (·.1) F K)):=by
  rw [Int.toNat_natCast,Nat.zero_add,Nat.mul_one]; exact zAW hK1
 have gl2:(zs x.1 (·.2) (Ln m rs F) F++List.replicate (g2.r F) V.any)[0+(K:Int).toNat * 1]?=some (.int .i64 (xw x.1 (·.2) F K)):=by
  rw [Int.toNat_natCast,Nat.zero_add,Nat.mul_one]; exact zAW hK1
 have hbF:zM m.funcs.length [(F:Int)]=true:=belowB_one.2 ⟨by omega,by omega⟩
 have hop:((m.fn (F:Int)).code.map opV)[(K:Int).toNat]?=some (opV ((m.fn (F:Int)).op (K:Int))):=by
  unfold MFunc.op
  rw [List.getElem?_map,Int.toNat_natCast,List.getElem?_eq_getElem hK]; rfl
 refine VC.code hT 166 rfl rfl rfl rfl fun FF W S0=>?_
 cases hf:zL x.1 ((F:Int),(K:Int)) with
 | none =>
   have c1:=qW (sel:=(·.1)) hf
   have c2:=qW (sel:=(·.2)) hf
   have efr:xo m x ((F:Int),(K:Int))=x:=by unfold xo; rw [hf]
   rw [c1] at gl1
   rw [c2] at gl2
   repeat' (first
    | (refine gz hT rfl ?_;conv=>whnf)
    | refine zA rfl (zN rfl rfl rfl ?_)
    | refine zA rfl (zH hT rfl rfl rfl rfl rfl rfl rfl rfl ?_)
    | refine zB rfl (zK hT rfl rfl rfl rfl rfl rfl (List.length_map _)) ?_
    | refine zG rfl rfl rfl rfl (fun h=>?_) (fun h=>?_)
    | refine zB rfl (zT hT rfl rfl .here rfl) ?_
    | refine zB rfl (zr hT rfl rfl rfl rfl rfl (by omega) o1 rfl) ?_
    | refine zB rfl (zr hT rfl rfl rfl rfl rfl (by omega) o2 rfl) ?_
    | refine zB rfl (za hT rfl rfl rfl rfl rfl (by omega) (by omega)) ?_
    | refine zB rfl (zT hT rfl rfl (.there (At.left (At.idx (yA hF hK0)))) (yK rfl gl1)) ?_
    | refine zB rfl (zT hT rfl rfl (.there (At.right (At.idx (yA hF hK0)) _)) (yK rfl gl2)) ?_)
   refine zC rfl (fun _=>?_) (fun h=>by simp at h)
   refine gz hT rfl ?_;conv=>whnf
   refine zQ .nil ?_
   rw [efr]
 | some l =>
   have c1:=uS (sel:=(·.1)) hf
   have c2:=uS (sel:=(·.2)) hf
   have hl:=(hx _ l hf).2
   have hlr:=wB hL hl
   rw [c1] at gl1
   rw [c2] at gl2
   repeat' (first
    | (refine gz hT rfl ?_;conv=>whnf)
    | refine zA rfl (zN rfl rfl rfl ?_)
    | refine zA rfl (zH hT rfl rfl rfl rfl rfl rfl rfl rfl ?_)
    | refine zB rfl (zK hT rfl rfl rfl rfl rfl rfl (List.length_map _)) ?_
    | refine zG rfl rfl rfl rfl (fun h=>?_) (fun h=>?_)
    | refine zB rfl (zT hT rfl rfl .here rfl) ?_
    | refine zB rfl (zr hT rfl rfl rfl rfl rfl (by omega) o1 rfl) ?_
    | refine zB rfl (zr hT rfl rfl rfl rfl rfl (by omega) o2 rfl) ?_
    | refine zB rfl (za hT rfl rfl rfl rfl rfl (by omega) (by omega)) ?_
    | refine zB rfl (zT hT rfl rfl (.there (At.left (At.idx (yA hF hK0)))) (yK rfl gl1)) ?_
    | refine zB rfl (zT hT rfl rfl (.there (At.right (At.idx (yA hF hK0)) _)) (yK rfl gl2)) ?_)
   refine zC rfl (fun h=>absurd (of_decide_eq_true h) (by omega)) (fun _=>?_)
   repeat' (first
    | (refine gz hT rfl ?_;conv=>whnf)
    | refine zA rfl (zN rfl rfl rfl ?_)
    | refine zA rfl (zH hT rfl rfl rfl rfl rfl rfl rfl rfl ?_)
    | refine zB rfl (zK hT rfl rfl rfl rfl rfl rfl (List.length_map _)) ?_
    | refine zG rfl rfl rfl rfl (fun h=>?_) (fun h=>?_)
    | refine zB rfl (zT hT rfl rfl .here rfl) ?_
    | refine zB rfl (xh hT rfl rfl rfl hbF) ?_
    | refine zB rfl (zr hT rfl rfl rfl rfl rfl (by omega) hop rfl) ?_)
   have efr:xo m x ((F:Int),(K:Int))=if ((m.fn (F:Int)).op (K:Int)).kind=23 then x else if ((m.fn (F:Int)).op (K:Int)).kind=22 then ky (cR x (((m.fn (F:Int)).op (K:Int)).a,0) l) ((m.fn (F:Int)).op (K:Int)).a ((F:Int),((m.fn (F:Int)).op (K:Int)).next) 0 (m.fn ((m.fn (F:Int)).op (K:Int)).a).code else cR (if ((m.fn (F:Int)).op (K:Int)).kind=21 then cR x ((F:Int),((m.fn (F:Int)).op (K:Int)).els) l else x) ((F:Int),((m.fn (F:Int)).op (K:Int)).next) (xK ((m.fn (F:Int)).op (K:Int)) l):=by unfold xo; rw [hf]
   rw [efr]
   generalize hoe:(m.fn (F:Int)).op (K:Int)=o at ho hcl
   refine zA rfl (zX hT rfl rfl rfl fun b8=>?_)
   refine gz hT rfl ?_;conv=>whnf
   refine zA rfl (zI (cs':=opV o) hT rfl rfl rfl .here rfl ?_)
   refine zo (t:=8) rfl ?_
   refine gz hT rfl ?_;conv=>whnf
   refine zC rfl (fun h23=>?_) (fun h23=>?_)
   ·have h23:=of_decide_eq_true h23
    rw [if_pos h23]
    refine gz hT rfl ?_;conv=>whnf
    exact zQ .nil rfl
   have h23:=of_decide_eq_false h23
   rw [if_neg h23]
   have hn:InR m rs ((F:Int),o.next):=⟨ho.next h23,hrs⟩
   refine gz hT rfl ?_;conv=>whnf
   refine zC rfl (fun h22=>?_) (fun h22=>?_)
   ·have h22:=of_decide_eq_true h22
    rw [if_pos h22]
    have hin:InR m rs (o.a,0):=⟨(ho.call h22).2,hcl h22⟩
    have ha:=(ho.call h22).1
    have hab:=belowB_one.1 ha
    obtain ⟨G,K0,hGe,hGN,hGK⟩:=hin.nat
    have ea:o.a=(G:Int):=congrArg Prod.fst hGe
    have hGL:Ln m rs G=(m.fn o.a).code.length:=by unfold Ln; rw [← ea,if_pos hin.2]
    have hcl2:(m.fn o.a).code.length < 2000000:=by
     have hi:o.a.toNat < m.funcs.length:=by omega
     unfold MModule.fn
     rw [List.getElem?_eq_getElem hi]
     exact hs.code _ (List.getElem_mem hi)
    have hG0:0 < Ln m rs G:=by omega
    have w1:ya (g1.b G) (Ln m rs G) (g1.c G) = .ref (g1.b G) 0 (Ln m rs G) (g1.c G):=by unfold ya; rw [if_neg (by omega)]
    have w2:ya (g2.b G) (Ln m rs G) (g2.c G) = .ref (g2.b G) 0 (Ln m rs G) (g2.c G):=by unfold ya; rw [if_neg (by omega)]
    have oG1:(zb g1 (Ln m rs) m.funcs.length)[o.a.toNat]?=some [.ref (g1.b G) 0 (Ln m rs G) (g1.c G)]:=by rw [ea,Int.toNat_natCast,uR hGN,w1]
    have oG2:(zb g2 (Ln m rs) m.funcs.length)[o.a.toNat]?=some [.ref (g2.b G) 0 (Ln m rs G) (g2.c G)]:=by rw [ea,Int.toNat_natCast,uR hGN,w2]
    refine gz hT rfl ?_;conv=>whnf
    refine zA rfl (yQ hT rfl rfl rfl rfl rfl rfl ((vm hT m bx t1 t2 g1 g2 rs Lk hL x hx (o.a,0) l hin hl).mono ?_))
    rintro _ _ rfl
    have hx1:yq m rs Lk (cR x (o.a,0) l).1:=yB hL hx hin hl
    refine gz hT rfl ?_;conv=>whnf
    intro id
    refine zd hT rfl rfl ?_ id
    repeat' (first
     | (refine god hT 2 rfl ?_;conv=>whnf)
     | refine zV rfl ?_
     | refine q_g rfl (fun S'=>(zK hT rfl rfl rfl rfl rfl rfl (List.length_map _)).qs) ?_
     | refine zk rfl rfl rfl rfl (fun h=>?_) (fun h=>?_)
     | refine yD hT rfl rfl rfl .here rfl ?_
     | refine q_g rfl (fun S'=>(xh hT rfl rfl rfl ha).qs) ?_)
    refine gz hT rfl ?_;conv=>whnf
    refine zW (fun w:Nat×(AtM×Bool)=>([(0,.ptr bx 0),(1,.int .i64 F),(6,.int .i64 l.1),(7,.int .i64 l.2),(8,.pin (opV o) 0),(9,.slice .no ((m.fn o.a).code.map opV)),(10,.int .i64 w.1)],qF m bx t1 t2 g1 g2 (Ln m rs) w.2.1 w.2.2)) (fun w=>w.1≤(m.fn o.a).code.length∧yq m rs Lk w.2.1∧ky w.2 o.a ((F:Int),o.next) w.1 ((m.fn o.a).code.drop w.1)=ky (cR x (o.a,0) l) o.a ((F:Int),o.next) 0 (m.fn o.a).code) (fun w=>(m.fn o.a).code.length - w.1) (0,cR x (o.a,0) l) ⟨Nat.zero_le _,hx1,rfl⟩ ⟨⟨lk rfl,lk rfl,lk rfl,lk rfl,lk rfl,lk rfl,lk rfl,trivial⟩,.refl _⟩ ?_
    rintro ⟨k,y⟩ ⟨hk,hy,ey⟩
    dsimp only at hk hy ey
    repeat' (first
     | (refine gz hT rfl ?_;conv=>whnf)
     | refine zA rfl (zN rfl rfl rfl ?_)
     | refine zA rfl (zH hT rfl rfl rfl rfl rfl rfl rfl rfl ?_)
     | refine zB rfl (zK hT rfl rfl rfl rfl rfl rfl (List.length_map _)) ?_
     | refine zG rfl rfl rfl rfl (fun h=>?_) (fun h=>?_))
    refine zC rfl (fun hlt=>?_) (fun hlt=>?_)
    ·simp only [decide_eq_true_eq,Int.ofNat_lt] at hlt
     rw [List.drop_eq_getElem_cons hlt,we] at ey
     have hkG:k < Ln m rs G:=by omega
     have gG1:(zs y.1 (·.1) (Ln m rs G) G++List.replicate (g1.r G) V.any)[0+(k:Int).toNat * 1]?=some (.int .i64 (xw y.1 (·.1) G k)):=by
      rw [Int.toNat_natCast,Nat.zero_add,Nat.mul_one]; exact zAW hkG
     have gG2:(zs y.1 (·.2) (Ln m rs G) G++List.replicate (g2.r G) V.any)[0+(k:Int).toNat * 1]?=some (.int .i64 (xw y.1 (·.2) G k)):=by
      rw [Int.toNat_natCast,Nat.zero_add,Nat.mul_one]; exact zAW hkG
     refine gz hT rfl ?_;conv=>whnf
     intro id
     refine zd hT rfl rfl ?_ id
     repeat' (first
      | (refine god hT 2 rfl ?_;conv=>whnf)
      | refine zV rfl ?_
      | refine q_g rfl (fun S'=>(zK hT rfl rfl rfl rfl rfl rfl (List.length_map _)).qs) ?_
      | refine zk rfl rfl rfl rfl (fun h=>?_) (fun h=>?_)
      | refine q_g rfl (fun S'=>(zJ (xs:=(m.fn o.a).code) hT rfl rfl rfl rfl rfl hlt rfl).qs) ?_
      | refine yD hT rfl rfl rfl .here rfl ?_
      | refine q_g rfl (fun S'=>(zr hT rfl rfl rfl rfl rfl hab.1 oG1 rfl).qs) ?_
      | refine q_g rfl (fun S'=>(za hT rfl rfl rfl rfl rfl (by omega) (by omega)).qs) ?_
      | refine yD hT rfl rfl rfl (.there (At.left (At.idx (yA hGN hG0)))) (yK rfl gG1) ?_)
     ·have hk23:=h
      have hk23:=of_decide_eq_true hk23
      refine gz hT rfl ?_;conv=>whnf
      cases hfe:zL y.1 ((G:Int),(k:Int)) with
      | none =>
        rw [show (o.a,(k:Int))=((G:Int),(k:Int)) by rw [ea],hfe] at ey
        refine zC rfl (fun h=>?_) (fun _=>?_)
        ·rw [qW hfe] at h
         simp at h
        ·refine gz hT rfl ?_;conv=>whnf
         refine zB rfl (zU rfl rfl rfl (by omega)) ?_
         refine gz hT rfl ?_;conv=>whnf
         exact ⟨(k+1,y),⟨hlt,hy,ey⟩,by dsimp only; omega,⟨⟨lk rfl,lk rfl,lk rfl,lk rfl,lk rfl,lk rfl,lk rfl,trivial⟩,.refl _⟩⟩
      | some e =>
        rw [show (o.a,(k:Int))=((G:Int),(k:Int)) by rw [ea],hfe] at ey
        dsimp only at ey
        rw [if_pos hk23] at ey
        have he:=(hy _ e hfe).2
        have her:=wB hL he
        rw [uS hfe] at gG1 gG2
        refine zC rfl (fun _=>?_) (fun h=>?_)
        ·refine gz hT rfl ?_;conv=>whnf
         intro id
         refine zd hT rfl rfl ?_ id
         repeat' (first
          | (refine god hT 1 rfl ?_;conv=>whnf)
          | refine zV rfl ?_
          | refine q_g rfl (fun S'=>(zK hT rfl rfl rfl rfl rfl rfl (List.length_map _)).qs) ?_
          | refine zk rfl rfl rfl rfl (fun h=>?_) (fun h=>?_)
          | refine yD hT rfl rfl rfl .here rfl ?_
          | refine q_g rfl (fun S'=>(zr hT rfl rfl rfl rfl rfl hab.1 oG1 rfl).qs) ?_
          | refine q_g rfl (fun S'=>(zr hT rfl rfl rfl rfl rfl hab.1 oG2 rfl).qs) ?_
          | refine q_g rfl (fun S'=>(za hT rfl rfl rfl rfl rfl (by omega) (by omega)).qs) ?_
          | refine yD hT rfl rfl rfl (.there (At.left (At.idx (yA hGN hG0)))) (yK rfl gG1) ?_
          | refine yD hT rfl rfl rfl (.there (At.right (At.idx (yA hGN hG0)) _)) (yK rfl gG2) ?_)
         refine zS rfl (eff rfl rfl (yQ hT rfl rfl rfl rfl rfl rfl ((vm hT m bx t1 t2 g1 g2 rs Lk hL y hy ((F:Int),o.next) e hn he).mono ?_)))
         rintro _ _ rfl
         refine And.intro trivial ?_
         refine god hT 1 rfl ?_;conv=>whnf
         refine zV rfl ?_
         refine gz hT rfl ?_;conv=>whnf
         refine zB rfl (zU rfl rfl rfl (by omega)) ?_
         refine gz hT rfl ?_;conv=>whnf
         exact ⟨(k+1,cR y ((F:Int),o.next) e),⟨hlt,yB hL hy hn he,ey⟩,by dsimp only; omega,⟨⟨lk rfl,lk rfl,lk rfl,lk rfl,lk rfl,lk rfl,lk rfl,trivial⟩,.refl _⟩⟩
        ·rw [uS hfe] at h
         exact absurd (of_decide_eq_false h) (by omega)
     ·have hk23:=h
      have hk23:=of_decide_eq_false hk23
      refine gz hT rfl ?_;conv=>whnf
      refine zB rfl (zU rfl rfl rfl (by omega)) ?_
      refine gz hT rfl ?_;conv=>whnf
      refine ⟨(k+1,y),⟨hlt,hy,?_⟩,by dsimp only; omega,⟨⟨lk rfl,lk rfl,lk rfl,lk rfl,lk rfl,lk rfl,lk rfl,trivial⟩,.refl _⟩⟩
      rw [← ey]
      dsimp only
      congr 1
      cases zL y.1 (o.a,(k:Int)) with
      | none=>rfl
      | some e=>dsimp only; rw [if_neg hk23]
    ·simp only [decide_eq_false_iff_not,Int.ofNat_lt] at hlt
     have hke:k=(m.fn o.a).code.length:=by omega
     subst hke
     rw [List.drop_length,retR_nil] at ey
     refine gz hT rfl ?_;conv=>whnf
     refine zQ .nil ?_
     rw [← ey]
   have h22:=of_decide_eq_false h22
   rw [if_neg h22]
   have hlk:=hl.leave hL ho.lock
   refine gz hT rfl ?_;conv=>whnf
   refine zC rfl (fun h16=>?_) (fun h16=>?_)
   ·have h16:=of_decide_eq_true h16
    have el:xK o l=(orI l.1 (wg o.a),orI l.2 (wg o.a)):=by unfold xK; rw [if_pos h16]
    rw [if_neg (by omega)]
    rw [el] at hlk ⊢
    repeat' (first
     | (refine gz hT rfl ?_;conv=>whnf)
     | refine zA rfl (zN rfl rfl rfl ?_)
     | refine zA rfl (zH hT rfl rfl rfl rfl rfl rfl rfl rfl ?_)
     | refine zB rfl (zK hT rfl rfl rfl rfl rfl rfl (List.length_map _)) ?_
     | refine zG rfl rfl rfl rfl (fun h=>?_) (fun h=>?_)
     | refine zB rfl (zBL rfl rfl rfl) ?_)
    refine zA rfl (yQ hT rfl rfl rfl rfl rfl rfl ((vm hT m bx t1 t2 g1 g2 rs Lk hL x hx ((F:Int),o.next) (orI l.1 (wg o.a),orI l.2 (wg o.a)) hn hlk).mono ?_))
    rintro _ _ rfl
    refine gz hT rfl ?_;conv=>whnf
    exact zQ .nil rfl
   have h16:=of_decide_eq_false h16
   refine gz hT rfl ?_;conv=>whnf
   refine zC rfl (fun h17=>?_) (fun h17=>?_)
   ·have h17:=of_decide_eq_true h17
    have hb:=ho.lock (.inr h17)
    have hb8:0≤o.a∧o.a < 8:=by omega
    have hbr:=bit_range hb8
    have el:xK o l=(ym l.1 (255 - wg o.a),ym l.2 (255 - wg o.a)):=by
     unfold xK
     rw [if_neg h16,if_pos h17,andMask (by omega) hb8,andMask (by omega) hb8]
    rw [if_neg (by omega)]
    rw [el] at hlk ⊢
    repeat' (first
     | (refine gz hT rfl ?_;conv=>whnf)
     | refine zA rfl (zN rfl rfl rfl ?_)
     | refine zA rfl (zH hT rfl rfl rfl rfl rfl rfl rfl rfl ?_)
     | refine zB rfl (zK hT rfl rfl rfl rfl rfl rfl (List.length_map _)) ?_
     | refine zG rfl rfl rfl rfl (fun h=>?_) (fun h=>?_)
     | refine zB rfl (zBL rfl rfl rfl) ?_
     | refine zB rfl (g_sub rfl rfl rfl (by omega)) ?_)
    refine zA rfl (yQ hT rfl rfl rfl rfl rfl rfl ((vm hT m bx t1 t2 g1 g2 rs Lk hL x hx ((F:Int),o.next) (ym l.1 (255 - wg o.a),ym l.2 (255 - wg o.a)) hn hlk).mono ?_))
    rintro _ _ rfl
    refine gz hT rfl ?_;conv=>whnf
    exact zQ .nil rfl
   have h17:=of_decide_eq_false h17
   have el:xK o l=l:=by unfold xK; rw [if_neg h16,if_neg h17]
   rw [el] at hlk ⊢
   refine gz hT rfl ?_;conv=>whnf
   refine zC rfl (fun h21=>?_) (fun h21=>?_)
   ·have h21:=of_decide_eq_true h21
    rw [if_pos h21]
    have he:InR m rs ((F:Int),o.els):=⟨ho.els h21,hrs⟩
    refine gz hT rfl ?_;conv=>whnf
    refine zA rfl (yQ hT rfl rfl rfl rfl rfl rfl ((vm hT m bx t1 t2 g1 g2 rs Lk hL x hx ((F:Int),o.els) l he hl).mono ?_))
    rintro _ _ rfl
    refine gz hT rfl ?_;conv=>whnf
    refine zA rfl (yQ hT rfl rfl rfl rfl rfl rfl ((vm hT m bx t1 t2 g1 g2 rs Lk hL (cR x ((F:Int),o.els) l) (yB hL hx he hl) ((F:Int),o.next) l hn hlk).mono ?_))
    rintro _ _ rfl
    refine gz hT rfl ?_;conv=>whnf
    exact zQ .nil rfl
   ·have h21:=of_decide_eq_false h21
    rw [if_neg h21]
    refine gz hT rfl ?_;conv=>whnf
    refine zA rfl (yQ hT rfl rfl rfl rfl rfl rfl ((vm hT m bx t1 t2 g1 g2 rs Lk hL x hx ((F:Int),o.next) l hn hlk).mono ?_))
    rintro _ _ rfl
    refine gz hT rfl ?_;conv=>whnf
    exact zQ .nil rfl
end
end Go.Vw
namespace Go.Vw
open Go.RowKit Go.Am Go.Proofs
attribute [local irreducible] yE zv zq VD VDn VDq Ret
inductive Rch (m:MModule) (f0:Int):Int→Prop
 | base:Rch m f0 f0
 | step {f:Int} {o:MOp} (h:Rch m f0 f) (ho:o∈(m.fn f).code) (hk:o.kind=22):Rch m f0 o.a
theorem nodup_below {n:Nat} {l:List Int} (hn:l.Nodup) (h:∀ x∈l,0≤x∧x < n):l.length≤n:=by
 have key:∀ (k:List Int) (l:List Int),l.Nodup→(∀ x∈l,x∈k)→l.length≤k.length:=fun k l=>by
  induction l generalizing k with
  | nil=>intro _ _; exact Nat.zero_le _
  | cons x l ih =>
    intro hn h
    rw [List.nodup_cons] at hn
    have hx:=h x (List.mem_cons_self ..)
    have:=ih (k.erase x) hn.2 fun y hy=>by
     have hne:y≠x:=fun e=>hn.1 (e ▸ hy)
     exact (List.mem_erase_of_ne hne).2 (h y (List.mem_cons_of_mem _ hy))
    rw [List.length_erase_of_mem hx] at this
    have:0 < k.length:=List.length_pos_of_mem hx
    rw [List.length_cons]; omega
 have:=key ((List.range n).map fun (i:Nat)=>(i:Int)) l hn fun x hx=>by
  have:=h x hx
  exact List.mem_map.2 ⟨x.toNat,List.mem_range.2 (by omega),Int.toNat_of_nonneg this.1⟩
 simpa using this
structure Rows (m:MModule) (f0:Int) (out:List Int):Prop where
 nodup:out.Nodup
 below:∀ f∈out,zM m.funcs.length [f]=true
 rch:∀ f∈out,Rch m f0 f
 first:f0∈out
def Past (m:MModule) (out:List Int) (fs:List Int):Prop:=∀ f∈fs,∀ o∈(m.fn f).code,o.kind=22→o.a∈out
theorem Rows.len {m:MModule} {f0:Int} {out:List Int} (h:Rows m f0 out):out.length≤m.funcs.length:=nodup_below h.nodup fun x hx=>by
 have:=belowB_one.1 (h.below x hx)
 omega
def ReachR (m:MModule) (f0:Int) (v:V):Prop:=∃ rs:List Int,v = .slice .no (rs.map zt)∧(∀ f,f∈rs↔Rch m f0 f)∧rs.length≤m.funcs.length
section
variable [Drw] (hT:TabOk tab Tryz.prog)
include hT
theorem hasRef {t1:Tok} (xs:List Int) (v:Int) (hl:xs.length < 2000000):Pure Tryz.prog 28 [.slice t1 (xs.map zt),.int .i64 v] (.ob (decide (v∈xs))):=by
 refine VC.code hT 18 rfl rfl rfl rfl fun F W S0=>?_
 refine gz hT rfl ?_;conv=>whnf
 refine zW (fun i:Nat=>([(0,.slice t1 (xs.map zt)),(1,.int .i64 v),(5,.int .i64 i)],[])) (fun i=>i≤xs.length∧¬ v∈xs.take i) (fun i=>xs.length - i) 0 ⟨Nat.zero_le _,by simp⟩ ⟨⟨lk rfl,lk rfl,lk rfl,trivial⟩,.nil⟩ ?_
 rintro i ⟨hi,hn⟩
 repeat' (first
  | (refine gz hT rfl ?_;conv=>whnf)
  | refine zA rfl (zN rfl rfl rfl ?_)
  | refine zA rfl (zH hT rfl rfl rfl rfl rfl rfl rfl rfl ?_)
  | refine zB rfl (zK hT rfl rfl rfl rfl rfl rfl (List.length_map _)) ?_
  | refine zG rfl rfl rfl rfl (fun h=>?_) (fun h=>?_))
 refine zC rfl (fun hlt=>?_) (fun hlt=>?_)
 ·simp only [decide_eq_true_eq,Int.ofNat_lt] at hlt
  repeat' (first
   | (refine gz hT rfl ?_;conv=>whnf)
   | refine zA rfl (zN rfl rfl rfl ?_)
   | refine zA rfl (zH hT rfl rfl rfl rfl rfl rfl rfl rfl ?_)
   | refine zB rfl (zK hT rfl rfl rfl rfl rfl rfl (List.length_map _)) ?_
   | refine zG rfl rfl rfl rfl (fun h=>?_) (fun h=>?_)
   | refine zB rfl (zJ (xs:=xs) hT rfl rfl rfl rfl rfl hlt rfl) ?_)
  refine zC rfl (fun he=>?_) (fun he=>?_)
  ·have he:=of_decide_eq_true he
   refine gz hT rfl ?_;conv=>whnf
   refine zP rfl rfl rfl ?_
   rw [decide_eq_true (he ▸ List.getElem_mem hlt)]
  ·have he:=of_decide_eq_false he
   refine gz hT rfl ?_;conv=>whnf
   refine zB rfl (zU rfl rfl rfl (by omega)) ?_
   refine gz hT rfl ?_;conv=>whnf
   refine ⟨i+1,⟨hlt,fun hm=>?_⟩,by omega,⟨lk rfl,lk rfl,lk rfl,trivial⟩,.nil⟩
   rw [List.take_succ_eq_append_getElem hlt,List.mem_append,List.mem_singleton] at hm
   rcases hm with hm | hm
   ·exact hn hm
   ·exact he hm.symm
 ·simp only [decide_eq_false_iff_not,Int.ofNat_lt] at hlt
  rw [List.take_of_length_le (by omega)] at hn
  refine gz hT rfl ?_;conv=>whnf
  refine zP rfl rfl rfl ?_
  rw [decide_eq_false hn]
set_option maxHeartbeats 2000000 in
theorem reachRef (m:MModule) (hs:Small m) (T:Nat) (hTl:T < m.threads.length) (h0:zM m.funcs.length [m.threads[T]]=true) (hcall:∀ f∈m.funcs,∀ o∈f.code,o.kind=22→zM m.funcs.length [o.a]=true) :
  PureR Tryz.prog 68 [.agg (ze m),.int .i64 T] (ReachR m m.threads[T]):=by
 have hfs:=hs.funcs
 have hcd:∀ f,zM m.funcs.length [f]=true→(m.fn f).code.length < 2000000∧m.fn f∈m.funcs:=fun f hf=>by
  have hb:=belowB_one.1 hf
  have hi:f.toNat < m.funcs.length:=by omega
  unfold MModule.fn
  rw [List.getElem?_eq_getElem hi]
  exact ⟨hs.code _ (List.getElem_mem hi),List.getElem_mem hi⟩
 refine VC.code hT 78 rfl rfl rfl rfl fun F W S0=>?_
 refine gz hT rfl ?_;conv=>whnf
 refine zA rfl (zN rfl rfl rfl ?_)
 refine gz hT rfl ?_;conv=>whnf
 refine zB rfl (zJ (xs:=m.threads) hT rfl rfl rfl rfl rfl hTl rfl) ?_
 refine gz hT rfl ?_;conv=>whnf
 refine zA rfl (yZ (rows:=[m.threads[T]].map zt) hT rfl rfl rfl rfl rfl rfl rfl rfl fun tk htk=>?_)
 refine gz hT rfl ?_;conv=>whnf
 refine zW (fun w:Nat×List Int×Tok=>([(2,.pin (ze m) 0),(5,.slice w.2.2 (w.2.1.map zt)),(6,.int .i64 w.1)],[.tl w.2.2])) (fun w=>w.1≤w.2.1.length∧Rows m m.threads[T] w.2.1∧Past m w.2.1 (w.2.1.take w.1)∧xg 1 w.2.2=true) (fun w=>m.funcs.length - w.1) (0,[m.threads[T]],tk) ⟨Nat.zero_le _,⟨by simp,fun f hf=>by rw [List.mem_singleton.1 hf]; exact h0,fun f hf=>by rw [List.mem_singleton.1 hf]; exact .base,by simp⟩,(fun f hf=>by simp at hf),htk⟩ ⟨⟨lk rfl,lk rfl,lk rfl,trivial⟩,.refl _⟩ ?_
 rintro ⟨i,out,tk⟩ ⟨hi,hR,hP,htk⟩
 dsimp only at hi hR hP htk
 have hlen:=hR.len
 repeat' (first
  | (refine gz hT rfl ?_;conv=>whnf)
  | refine zA rfl (zN rfl rfl rfl ?_)
  | refine zA rfl (zH hT rfl rfl rfl rfl rfl rfl rfl rfl ?_)
  | refine zB rfl (zK hT rfl rfl rfl rfl rfl rfl (List.length_map _)) ?_
  | refine zG rfl rfl rfl rfl (fun h=>?_) (fun h=>?_))
 refine zC rfl (fun hlt=>?_) (fun hlt=>?_)
 ·simp only [decide_eq_true_eq,Int.ofNat_lt] at hlt
  have hbi:=hR.below _ (List.getElem_mem hlt)
  obtain ⟨hcl,hmem⟩:=hcd _ hbi
  refine gz hT rfl ?_;conv=>whnf
  intro id
  refine zd hT rfl rfl ?_ id
  repeat' (first
   | (refine god hT 2 rfl ?_;conv=>whnf)
   | refine zV rfl ?_
   | refine q_g rfl (fun S'=>(zK hT rfl rfl rfl rfl rfl rfl (List.length_map _)).qs) ?_
   | refine zk rfl rfl rfl rfl (fun h=>?_) (fun h=>?_)
   | refine q_g rfl (fun S'=>(zJ (xs:=out) hT rfl rfl rfl rfl rfl hlt rfl).qs) ?_
   | refine q_g rfl (fun S'=>(xh hT rfl rfl rfl hbi).qs) ?_)
  refine gz hT rfl ?_;conv=>whnf
  refine zW (fun w:Nat×List Int×Tok=>([(2,.pin (ze m) 0),(5,.slice w.2.2 ((out++w.2.1).map zt)),(6,.int .i64 i),(7,.slice .no ((m.fn out[i]).code.map opV)),(8,.int .i64 w.1)],[.tl w.2.2])) (fun w=>w.1≤(m.fn out[i]).code.length∧Rows m m.threads[T] (out++w.2.1)∧(∀ o∈(m.fn out[i]).code.take w.1,o.kind=22→o.a∈out++w.2.1)∧xg 1 w.2.2=true) (fun w=>(m.fn out[i]).code.length - w.1) (0,[],tk) ⟨Nat.zero_le _,by rw [List.append_nil]; exact hR,(fun o ho=>by simp at ho),htk⟩ ⟨⟨lk rfl,⟨_,rfl,by rw [List.append_nil]; exact .refl _⟩,lk rfl,lk rfl,lk rfl,trivial⟩,.refl _⟩ ?_
  rintro ⟨k,ext,tk'⟩ ⟨hk,hR',hP',htk'⟩
  dsimp only at hk hR' hP' htk'
  have hlen':=hR'.len
  repeat' (first
   | (refine gz hT rfl ?_;conv=>whnf)
   | refine zA rfl (zN rfl rfl rfl ?_)
   | refine zA rfl (zH hT rfl rfl rfl rfl rfl rfl rfl rfl ?_)
   | refine zB rfl (zK hT rfl rfl rfl rfl rfl rfl (List.length_map _)) ?_
   | refine zG rfl rfl rfl rfl (fun h=>?_) (fun h=>?_))
  refine zC rfl (fun hlk=>?_) (fun hlk=>?_)
  ·simp only [decide_eq_true_eq,Int.ofNat_lt] at hlk
   have step:∀ ext',(∀ x,x∈out++ext→x∈out++ext')→((m.fn out[i]).code[k].kind=22→(m.fn out[i]).code[k].a∈out++ext')→∀ o∈(m.fn out[i]).code.take (k+1),o.kind=22→o.a∈out++ext':=fun ext' hsub hlast o ho hk22=>by
    rw [List.take_succ_eq_append_getElem hlk,List.mem_append,List.mem_singleton] at ho
    rcases ho with ho | rfl
    ·exact hsub _ (hP' o ho hk22)
    ·exact hlast hk22
   repeat' (first
    | (refine gz hT rfl ?_;conv=>whnf)
    | refine zA rfl (zN rfl rfl rfl ?_)
    | refine zA rfl (zH hT rfl rfl rfl rfl rfl rfl rfl rfl ?_)
    | refine zB rfl (zK hT rfl rfl rfl rfl rfl rfl (List.length_map _)) ?_
    | refine zG rfl rfl rfl rfl (fun h=>?_) (fun h=>?_)
    | refine zB rfl (zJ (xs:=(m.fn out[i]).code) hT rfl rfl rfl rfl rfl hlk rfl) ?_)
   ·have hk22:=of_decide_eq_true h
    refine zA rfl (zR hT rfl rfl rfl rfl rfl rfl (hasRef hT (out++ext) _ (by omega)) ?_)
    refine gz hT rfl ?_;conv=>whnf
    refine zC rfl (fun hnew=>?_) (fun hold=>?_)
    ·simp only [Bool.not_eq_true',decide_eq_false_iff_not] at hnew
     refine gz hT rfl ?_;conv=>whnf
     refine zB rfl (zJ (xs:=(m.fn out[i]).code) hT rfl rfl rfl rfl rfl hlk rfl) ?_
     refine gz hT rfl ?_;conv=>whnf
     refine zA rfl (zH (rows:=[(m.fn out[i]).code[k].a].map zt) hT rfl rfl rfl rfl rfl rfl rfl rfl ?_)
     refine gz hT rfl ?_;conv=>whnf
     refine zA rfl (zx (rows:=(out++ext).map zt) hT rfl rfl rfl rfl rfl rfl rfl rfl rfl rfl htk' .here (yc _) (yc [_]) (wK [_]) (by simp only [List.length_cons,List.length_nil,List.length_map]; omega) fun tk2 htk2=>?_)
     refine gz hT rfl ?_;conv=>whnf
     refine zB rfl (zU rfl rfl rfl (by omega)) ?_
     refine gz hT rfl ?_;conv=>whnf
     have hba:zM m.funcs.length [(m.fn out[i]).code[k].a]=true:=hcall _ hmem _ (List.getElem_mem hlk) hk22
     refine ⟨(k+1,ext++[(m.fn out[i]).code[k].a],tk2),⟨hlk,⟨?_,fun f hf=>?_,fun f hf=>?_,?_⟩,step _ (fun x hx=>by rw [← List.append_assoc]; exact List.mem_append_left _ hx) (fun _=>by simp),htk2⟩,by dsimp only; omega,⟨lk rfl,⟨_,rfl,by dsimp only; rw [← List.append_assoc,List.map_append (l₁:=out++ext)]; exact .refl _⟩,lk rfl,lk rfl,lk rfl,trivial⟩,.refl _⟩
     ·rw [← List.append_assoc,List.nodup_append]
      exact ⟨hR'.nodup,by simp,fun a ha b hb e=>by rw [List.mem_singleton.1 hb] at e; subst e; exact hnew ha⟩
     ·rw [← List.append_assoc,List.mem_append,List.mem_singleton] at hf
      rcases hf with hf | rfl
      ·exact hR'.below f hf
      ·exact hba
     ·rw [← List.append_assoc,List.mem_append,List.mem_singleton] at hf
      rcases hf with hf | rfl
      ·exact hR'.rch f hf
      ·exact .step (hR.rch _ (List.getElem_mem hlt)) (List.getElem_mem hlk) hk22
     ·exact List.mem_append_left _ hR.first
    ·simp only [Bool.not_eq_false',decide_eq_true_eq] at hold
     refine gz hT rfl ?_;conv=>whnf
     refine zB rfl (zU rfl rfl rfl (by omega)) ?_
     refine gz hT rfl ?_;conv=>whnf
     exact ⟨(k+1,ext,tk'),⟨hlk,hR',step _ (fun x hx=>hx) (fun _=>hold),htk'⟩,by dsimp only; omega,⟨lk rfl,lk rfl,lk rfl,lk rfl,lk rfl,trivial⟩,.refl _⟩
   ·have hk22:=of_decide_eq_false h
    refine zB rfl (zU rfl rfl rfl (by omega)) ?_
    refine gz hT rfl ?_;conv=>whnf
    exact ⟨(k+1,ext,tk'),⟨hlk,hR',step _ (fun x hx=>hx) (fun h=>absurd h hk22),htk'⟩,by dsimp only; omega,⟨lk rfl,lk rfl,lk rfl,lk rfl,lk rfl,trivial⟩,.refl _⟩
  ·simp only [decide_eq_false_iff_not,Int.ofNat_lt] at hlk
   rw [List.take_of_length_le (by omega)] at hP'
   refine gz hT rfl ?_;conv=>whnf
   refine zB rfl (zU rfl rfl rfl (by omega)) ?_
   refine gz hT rfl ?_;conv=>whnf
   refine ⟨(i+1,out++ext,tk'),⟨by rw [List.length_append]; omega,hR',fun f hf=>?_,htk'⟩,by dsimp only; omega,⟨lk rfl,lk rfl,lk rfl,trivial⟩,.refl _⟩
   rw [List.take_append_of_le_length (by omega),List.take_succ_eq_append_getElem hlt,List.mem_append,List.mem_singleton] at hf
   rcases hf with hf | rfl
   ·exact fun o ho hk=>List.mem_append_left _ (hP f hf o ho hk)
   ·exact hP'
 ·simp only [decide_eq_false_iff_not,Int.ofNat_lt] at hlt
  rw [List.take_of_length_le (by omega)] at hP
  have hall:∀ f,Rch m m.threads[T] f→f∈out:=fun f hf=>by
   induction hf with
   | base=>exact hR.first
   | step _ ho hk ih=>exact hP _ ih _ ho hk
  refine gz hT rfl ?_;conv=>whnf
  refine zA rfl (yZ (rows:=([]:List Int).map zt) hT rfl rfl rfl rfl rfl rfl rfl rfl fun tk3 htk3=>?_)
  refine gz hT rfl ?_;conv=>whnf
  refine zW (fun w:Nat×Tok=>([(2,.pin (ze m) 0),(5,.slice tk (out.map zt)),(9,.slice w.2 ((((List.range w.1).map fun (f:Nat)=>(f:Int)).filter fun f=>decide (f∈out)).map zt)),(10,.int .i64 w.1)],[.tl w.2])) (fun w=>w.1≤m.funcs.length∧xg 1 w.2=true) (fun w=>m.funcs.length - w.1) (0,tk3) ⟨Nat.zero_le _,htk3⟩ ⟨⟨lk rfl,lk rfl,lk rfl,lk rfl,trivial⟩,.keep .nil⟩ ?_
  rintro ⟨f,tk4⟩ ⟨hf,htk4⟩
  dsimp only at hf htk4
  repeat' (first
   | (refine gz hT rfl ?_;conv=>whnf)
   | refine zA rfl (zN rfl rfl rfl ?_)
   | refine zA rfl (zH hT rfl rfl rfl rfl rfl rfl rfl rfl ?_)
   | refine zB rfl (zK hT rfl rfl rfl rfl rfl rfl (List.length_map _)) ?_
   | refine zG rfl rfl rfl rfl (fun h=>?_) (fun h=>?_))
  refine zC rfl (fun hlf=>?_) (fun hlf=>?_)
  ·simp only [decide_eq_true_eq,Int.ofNat_lt] at hlf
   refine gz hT rfl ?_;conv=>whnf
   refine zA rfl (zR hT rfl rfl rfl rfl rfl rfl (hasRef hT out _ (by omega)) ?_)
   refine gz hT rfl ?_;conv=>whnf
   have hfl:((((List.range f).map fun (f:Nat)=>(f:Int)).filter fun f=>decide (f∈out))).length≤f:=Nat.le_trans (List.length_filter_le _ _) (by simp)
   refine zC rfl (fun hin=>?_) (fun hin=>?_)
   ·have hin:=of_decide_eq_true hin
    refine gz hT rfl ?_;conv=>whnf
    refine zA rfl (zH (rows:=[(f:Int)].map zt) hT rfl rfl rfl rfl rfl rfl rfl rfl ?_)
    refine gz hT rfl ?_;conv=>whnf
    refine zA rfl (zx (rows:=(((List.range f).map fun (f:Nat)=>(f:Int)).filter fun f=>decide (f∈out)).map zt) hT rfl rfl rfl rfl rfl rfl rfl rfl rfl rfl htk4 .here (yc _) (yc [_]) (wK [_]) (by simp only [List.length_cons,List.length_nil,List.length_map]; omega) fun tk5 htk5=>?_)
    refine gz hT rfl ?_;conv=>whnf
    refine zB rfl (zU rfl rfl rfl (by omega)) ?_
    refine gz hT rfl ?_;conv=>whnf
    refine ⟨(f+1,tk5),⟨hlf,htk5⟩,by dsimp only; omega,⟨lk rfl,lk rfl,⟨_,rfl,?_⟩,lk rfl,trivial⟩,.refl _⟩
    dsimp only
    rw [List.range_succ,List.map_append,List.filter_append,List.map_append]
    simp only [List.map_cons,List.map_nil]
    rw [List.filter_cons_of_pos (by simpa using hin)]
    exact .refl _
   ·have hin:=of_decide_eq_false hin
    refine gz hT rfl ?_;conv=>whnf
    refine zB rfl (zU rfl rfl rfl (by omega)) ?_
    refine gz hT rfl ?_;conv=>whnf
    refine ⟨(f+1,tk4),⟨hlf,htk4⟩,by dsimp only; omega,⟨lk rfl,lk rfl,⟨_,rfl,?_⟩,lk rfl,trivial⟩,.refl _⟩
    dsimp only
    rw [List.range_succ,List.map_append,List.filter_append,List.map_append]
    simp only [List.map_cons,List.map_nil]
    rw [List.filter_cons_of_neg (by simpa using hin)]
    simp only [List.filter_nil,List.map_nil,List.append_nil]
    exact .refl _
  ·simp only [decide_eq_false_iff_not,Int.ofNat_lt] at hlf
   have hfe:f=m.funcs.length:=by omega
   subst hfe
   refine gz hT rfl ?_;conv=>whnf
   refine zQ (.tmpL rfl (V.Le.slice _ _) .nil) ⟨_,rfl,fun g=>⟨fun hg=>?_,fun hg=>?_⟩,?_⟩
   ·exact hR.rch g (of_decide_eq_true (List.mem_filter.1 hg).2)
   ·have hgo:=hall g hg
    have:=belowB_one.1 (hR.below g hgo)
    exact List.mem_filter.2 ⟨List.mem_map.2 ⟨g.toNat,List.mem_range.2 (by omega),Int.toNat_of_nonneg this.1⟩,decide_eq_true hgo⟩
   ·exact Nat.le_trans (List.length_filter_le _ _) (by simp)
end
end Go.Vw
namespace Go.Vw
open Go.RowKit Go.Am Go.Proofs
def vv (L:Nat→Nat) (A:AtM) (sel:P2→Int) (N:Nat):List (List Int):=(List.range N).map fun f=>(List.range (L f)).map fun k=>xw A sel f k
theorem refRow_int (A:AtM) (sel:P2→Int) (n f:Nat):((((List.range n).map fun k=>xw A sel f k).map zt).flatten)=zs A sel n f:=by
 unfold zs
 rw [List.map_map]
 generalize List.range n=l
 induction l with
 | nil=>rfl
 | cons k l ih=>rw [List.map_cons,List.map_cons,List.flatten_cons,ih]; rfl
theorem Iss.turn {F:Fz} {w:World} {v v':V} {post:List V} (h:∀ u,Is F w v u→Is F w v' u):∀ (pre:List V) {us:List Value},Iss F w (pre++v::post) us→Iss F w (pre++v'::post) us
 | [],_,.cons a b=>.cons (h _ a) b
 | _::pre,_,.cons a b=>.cons a (Iss.turn h pre b)
theorem cold_ref {F:Fz} {w:World} {A:AtM} {sel:P2→Int} {b n c r f:Nat} {u:Value} (hc:n≤c) (h:Is F w (.ref b 0 n c) u) (hk:Cold F w (.cells b (zs A sel n f++List.replicate r .any) 3)):Is F w (.slice .no (((List.range n).map fun k=>xw A sel f k).map zt)) u:=by
 cases h
 obtain ⟨h1,C,h2,h3⟩:=hk
 have hl:(((List.range n).map fun k=>xw A sel f k).map zt).length=n:=by simp
 have hlen:=h3.length
 simp only [List.length_append,List.length_replicate,zs,List.length_map,List.length_range,Array.length_toList] at hlen
 have:=vJ (F:=F) (w:=w) (t:=.no) (b:=b) (x:=0) (c:=c) (sz:=1) (rows:=((List.range n).map fun k=>xw A sel f k).map zt) (us:=C.toList.take n) (yc _) (by rw [hl]; exact hc) trivial
  (by
   rw [refRow_int]
   refine All2.of_get (by simp [zs]; omega) fun i x y=>?_
   have hi:i < n:=by simpa [zs] using x
   obtain ⟨u,e2,r2⟩:=h3.get i (zs A sel n f)[i] (by rw [List.getElem?_append_left x]; simp [x])
   have e3:(C.toList.take n)[i]=u:=by
    rw [List.getElem_take]
    exact (List.getElem?_eq_some_iff.1 e2).2
   rw [e3]; exact r2)
  fun j v hj=>by
   obtain ⟨hj1,hj2⟩:=List.getElem?_eq_some_iff.1 hj
   rw [List.getElem_take] at hj2
   rw [List.length_take] at hj1
   have hjn:j < n:=by omega
   have hj3:j < C.size:=by simpa using (by omega:j < C.toList.length)
   rw [Nat.zero_add]
   refine ⟨h1 j (by simp [zs]; omega),?_⟩
   unfold World.cell?
   rw [h2]
   simp only [Option.isSome_none,Bool.false_eq_true,if_false]
   rw [Array.getElem?_eq_getElem hj3]
   simpa using hj2
 rw [hl] at this
 exact this
theorem zE9 {F:Fz} {w:World} {t:Tok} {g:Geo} {L:Nat→Nat} {N:Nat} {A:AtM} {sel:P2→Int} {u:Value} (hg:∀ f,L f≤g.c f) (hk:∀ x∈yn g L sel N A,Cold F w x) (h:Is F w (.slice t (zb g L N)) u):Is F w (.slice .no ((vv L A sel N).map xZ)) u:=by
 have hl2:((vv L A sel N).map xZ).length=N:=by simp [vv]
 have hlN:(zb g L N).length=N:=by simp [zb]
 have hget:∀ i (hi:i < (zb g L N).length),(zb g L N)[i]=[ya (g.b i) (L i) (g.c i)]:=fun i hi=>by simp [zb]
 generalize zb g L N=rows at h hlN hget
 cases h with
 | nilSlice _ x =>
   have:N=0:=by simpa using hlN.symm
   subst this
   exact .nilSlice _ _
 | slice g' hl hc hv hn hx ht =>
   rename_i b off c x sz
   have e:rows.length=((vv L A sel N).map xZ).length:=by rw [hl2,hlN]
   rw [e]
   refine Is.slice (off:=off) (sz:=sz) g' (fun i hi=>?_) (fun i hi=>hc i (by omega)) (fun i hi k hk'=>?_) (by omega) hx trivial
   ·have hi2:i < rows.length:=by omega
    rw [← hl i hi2,hget i hi2]
    simp [xZ]
   ·have hi2:i < rows.length:=by omega
    have hiN:i < N:=by omega
    have k0:k=0:=by simpa [xZ] using hk'
    subst k0
    have h1:=hv i hi2 0 (by rw [hget i hi2]; simp)
    have e1:rows[i][0]'(by rw [hget i hi2]; simp)=ya (g.b i) (L i) (g.c i):=by simp [hget i hi2]
    rw [e1] at h1
    have e2:((vv L A sel N).map xZ)[i][0] = .slice .no (((List.range (L i)).map fun k=>xw A sel i k).map zt):=by simp [vv,xZ]
    rw [e2]
    by_cases h0:L i=0
    ·unfold ya at h1
     rw [if_pos h0] at h1
     rw [h0]
     exact V.Le.slice _ _ _ _ _ h1
    ·unfold ya at h1
     rw [if_neg h0] at h1
     refine cold_ref (r:=g.r i) (hg i) h1 (hk _ (List.mem_of_getElem? (yA (A:=A) (sel:=sel) hiN (by omega))))
theorem zFA {g:Geo} {L:Nat→Nat} {sel:P2→Int} {N:Nat} {A:AtM}:∀ x∈yn g L sel N A,(∃ b cs e,x = .cells b cs e)∨x = .tl .no:=fun x hx=>by
 obtain ⟨f,_,rfl⟩:=List.mem_map.1 hx
 unfold u0
 split
 ·exact .inr rfl
 ·exact .inl ⟨_,_,_,rfl⟩
theorem freeze_refS [Drw] (m:MModule) (bx:Nat) (t1 t2:Tok) (g1 g2:Geo) (L:Nat→Nat) (A:AtM) (more:Bool) (h1:∀ f,L f≤g1.c f) (h2:∀ f,L f≤g2.c f) :
  Turn (qF m bx t1 t2 g1 g2 L A more) [.cells bx (ze m++[.slice .no ((vv L A (·.1) m.funcs.length).map xZ),.slice .no ((vv L A (·.2) m.funcs.length).map xZ),.ob more]) 165]:=fun F w s=>by
 have e:qF m bx t1 t2 g1 g2 L A more=[HE.cells bx (ze m++[.slice t1 (zb g1 L m.funcs.length),.slice t2 (zb g2 L m.funcs.length),.ob more]) 165]++((yn g1 L (·.1) m.funcs.length A++yn g2 L (·.2) m.funcs.length A)++[]):=by simp [qF]
 rw [e] at s ⊢
 obtain ⟨F',s',k',cold⟩:=zBF (yn g1 L (·.1) m.funcs.length A++yn g2 L (·.2) m.funcs.length A) _ [] (fun x hx=>by
  rcases List.mem_append.1 hx with hx | hx
  ·exact zFA x hx
  ·exact zFA x hx) s
 have s2:=(Sub.keep (.nil:Sub _ [])).sat s'
 have k2:=(Sub.keep (.nil:Sub _ [])).keep' k'
 obtain ⟨⟨C,c1,c2⟩,c3⟩:=s2.ok _ (List.mem_cons_self ..)
 refine ⟨F',⟨s2.fz,s2.nodup,fun x hx=>?_⟩,k2.less fun b hb=>hb⟩
 rw [List.mem_singleton.1 hx]
 refine ⟨⟨C,c1,?_⟩,c3⟩
 have q1:=Iss.turn (fun u=>zE9 h1 fun x hx=>cold x (List.mem_append_left _ hx)) (ze m) c2
 have e3:∀ (a b c:V),ze m++[a,b,c]=(ze m++[a])++b::[c]:=fun a b c=>by simp
 rw [e3] at q1 ⊢
 exact Iss.turn (fun u=>zE9 h2 fun x hx=>cold x (List.mem_append_right _ hx)) _ q1
end Go.Vw
namespace Go.Vw
open Go.RowKit Go.Am Go.Proofs
attribute [local irreducible] yE zv zq VD VDn VDq Ret
def Geo.upd (g:Geo) (f b c r:Nat):Geo:=⟨fun i=>if i=f then b else g.b i,fun i=>if i=f then c else g.c i,fun i=>if i=f then r else g.r i⟩
theorem outer_upd (g:Geo) (L:Nat→Nat) (f b c r:Nat):zb (g.upd f b c r) L (f+1)=zb g L f++[[ya b (L f) c]]:=by
 unfold zb
 rw [List.range_succ,List.map_append]
 congr 1
 ·refine List.map_congr_left fun i hi=>?_
  have:i≠f:=by have:=List.mem_range.1 hi; omega
  simp [Geo.upd,this]
 ·simp [Geo.upd]
theorem rows_upd (g:Geo) (L:Nat→Nat) (sel:P2→Int) (A:AtM) (f b c r:Nat):yn (g.upd f b c r) L sel (f+1) A=yn g L sel f A++[u0 b (L f) r (zs A sel (L f) f)]:=by
 unfold yn
 rw [List.range_succ,List.map_append]
 congr 1
 ·refine List.map_congr_left fun i hi=>?_
  have:i≠f:=by have:=List.mem_range.1 hi; omega
  simp [Geo.upd,this]
 ·simp [Geo.upd]
theorem zAX (g:Geo) (L:Nat→Nat) (N:Nat):∀ r∈zb g L N,r.length=1:=fun r hr=>by
 obtain ⟨f,_,rfl⟩:=List.mem_map.1 hr
 rfl
theorem zDZ (A:AtM) (sel:P2→Int) (n f:Nat):zs A sel (n+1) f=zs A sel n f++[.int .i64 (xw A sel f n)]:=by
 unfold zs
 rw [List.range_succ,List.map_append]; rfl
def bldS (m:MModule) (bx:Nat) (L:Nat→Nat) (f:Nat) (g1 g2:Geo) (k1 k2:Tok) (R:Hp):Hp:=.cells bx (ze m++[.slice k1 (zb g1 L f),.slice k2 (zb g2 L f),.bool false]) 165::((yn g1 L (·.1) f []++yn g2 L (·.2) f [])++(.tl k1::.tl k2::R))
theorem bld_perm (m:MModule) (bx:Nat) (L:Nat→Nat) (f:Nat) (g1 g2:Geo) (k1 k2:Tok) (R:Hp) (b1 c1 r1 b2 c2 r2:Nat) :
  List.Perm (u0 b1 (L f) r1 (zs [] (·.1) (L f) f)::u0 b2 (L f) r2 (zs [] (·.2) (L f) f)::.cells bx (ze m++[.slice k1 (zb g1 L f++[[ya b1 (L f) c1]]),.slice k2 (zb g2 L f++[[ya b2 (L f) c2]]),.bool false]) 165::((yn g1 L (·.1) f []++yn g2 L (·.2) f [])++(.tl k1::.tl k2::R)))
   (bldS m bx L (f+1) (g1.upd f b1 c1 r1) (g2.upd f b2 c2 r2) k1 k2 R):=by
 unfold bldS
 rw [outer_upd,outer_upd,rows_upd,rows_upd]
 generalize u0 b1 (L f) r1 (zs [] (·.1) (L f) f)=x1
 generalize u0 b2 (L f) r2 (zs [] (·.2) (L f) f)=x2
 generalize HE.cells bx _ 165=y
 generalize yn g1 L (·.1) f []=l1
 generalize yn g2 L (·.2) f []=l2
 generalize HE.tl k1::HE.tl k2::R=T
 have p1:List.Perm (x1::x2::y::(l1++l2++T)) (y::x1::x2::(l1++l2++T)):=(List.Perm.cons x1 (List.Perm.swap y x2 _)).trans (List.Perm.swap y x1 _)
 refine p1.trans (List.Perm.cons y ?_)
 have e:l1++[x1]++(l2++[x2])++T=l1++x1::(l2++x2::T):=by simp
 have e2:l1++l2++T=l1++(l2++T):=by simp
 rw [e,e2]
 refine List.Perm.trans ?_ List.perm_middle.symm
 refine List.Perm.cons x1 ?_
 have q:List.Perm (x2::(l1++(l2++T))) (l1++x2::(l2++T)):=List.perm_middle.symm
 refine q.trans (List.Perm.append_left l1 List.perm_middle.symm)
inductive RSt (m:MModule) (rs:List Int) (f0:Int):AtM→Prop
 | start:RSt m rs f0 (u9 [] (f0,0) (0,0))
 | step {A:AtM} {b:Bool} {p:P2} (h:RSt m rs f0 A) (hp:InR m rs p):RSt m rs f0 (xo m (A,b) p).1
def zAn (m:MModule) (A:AtM) (p:P2):Prop:=(xo m (A,false) p).2=false
def RThread (m:MModule) (f:Int) (a b:List (List Int)):Prop:=∃ (A:AtM) (rs:List Int),RSt m rs f A∧(∀ g,g∈rs↔Rch m f g)∧(∀ p,InR m rs p→zAn m A p)∧a=vv (Ln m rs) A (·.1) m.funcs.length∧b=vv (Ln m rs) A (·.2) m.funcs.length
inductive RThreads (m:MModule):List Int→List (List (List Int))→List (List (List Int))→Prop
 | nil:RThreads m [] [] []
 | cons {f:Int} {fs:List Int} {a b:List (List Int)} {us vs:List (List (List Int))} (h:RThread m f a b) (k:RThreads m fs us vs):RThreads m (f::fs) (a::us) (b::vs)
theorem RThreads.snoc {m:MModule} {f:Int} {a b:List (List Int)} (h:RThread m f a b):∀ {fs us vs},RThreads m fs us vs→RThreads m (fs++[f]) (us++[a]) (vs++[b])
 | _,_,_,.nil=>.cons h .nil
 | _,_,_,.cons h1 k=>.cons h1 (RThreads.snoc h k)
theorem RThreads.lens {m:MModule}:∀ {fs us vs},RThreads m fs us vs→us.length=fs.length∧vs.length=fs.length
 | _,_,_,.nil=>⟨rfl,rfl⟩
 | _,_,_,.cons _ k=>⟨by simp [k.lens.1],by simp [k.lens.2]⟩
def FindRR (m:MModule) (v:V):Prop:=∃ must may e,v = .tup [.agg (yY must may),.int .i64 e]∧((zO m=true∧RThreads m m.threads must may∧e=0)∨(zO m=false∧must=[]∧may=[]∧e=70))
theorem same_put {A:AtM} {p l:P2} (h:xQ A p l=false) (q:P2):zL (u9 A p l) q=zL A q:=by
 unfold xQ at h
 rw [Bool.not_eq_false',decide_eq_true_eq] at h
 unfold u9
 rw [yW]
 split
 ·next e=>rw [e,h]
 ·rfl
theorem meet_same {A A':AtM} (h:∀ q,zL A q=zL A' q) (p l:P2):meet A p l=meet A' p l:=by unfold meet; rw [h]
theorem come_same {A A':AtM} (h:∀ q,zL A q=zL A' q) (p l q:P2):zL (u9 A p l) q=zL (u9 A' p l) q:=by
 unfold u9
 rw [yW,yW,meet_same h,h]
theorem more_same {A A':AtM} (h:∀ q,zL A q=zL A' q) (p l:P2):xQ A p l=xQ A' p l:=by
 unfold xQ
 rw [meet_same h,h]
structure Calm (x y:AtM×Bool):Prop where
 keep:x.2=true→y.2=true
 same:y.2=false→∀ q,zL y.1 q=zL x.1 q
theorem Calm.refl (x:AtM×Bool):Calm x x:=⟨id,fun _ _=>rfl⟩
theorem Calm.trans {x y z:AtM×Bool} (h:Calm x y) (k:Calm y z):Calm x z:=⟨fun e=>k.keep (h.keep e),fun e q=>by
 have hy:y.2=false:=by
  cases hy:y.2
  ·rfl
  ·rw [k.keep hy] at e; cases e
 rw [k.same e q,h.same hy q]⟩
theorem vN (x:AtM×Bool) (p l:P2):Calm x (cR x p l):=⟨fun e=>by unfold cR; rw [e]; rfl,fun e q=>by
 unfold cR at e ⊢
 dsimp only at e ⊢
 rw [Bool.or_eq_false_iff] at e
 exact same_put e.2 q⟩
theorem zCB (a:Int) (back:P2):∀ (c:List MOp) (i:Nat) (x:AtM×Bool),Calm x (ky x a back i c)
 | [],_,x=>.refl x
 | o::c,i,x=>by
   rw [we]
   refine Calm.trans ?_ (zCB a back c (i+1) _)
   split
   ·split
    ·exact vN _ _ _
    ·exact .refl _
   ·exact .refl _
theorem calm_from (m:MModule) (x:AtM×Bool) (p:P2):Calm x (xo m x p):=by
 unfold xo
 split
 ·exact .refl _
 ·split
  ·exact .refl _
  ·split
   ·exact (vN _ _ _).trans (zCB _ _ _ _ _)
   ·refine Calm.trans ?_ (vN _ _ _)
    split
    ·exact vN _ _ _
    ·exact .refl _
structure Alike (x y:AtM×Bool):Prop where
 at_:∀ q,zL x.1 q=zL y.1 q
 more:x.2=y.2
theorem kC {x y:AtM×Bool} (h:Alike x y) (p l:P2):Alike (cR x p l) (cR y p l):=⟨fun q=>come_same h.at_ p l q,by unfold cR; dsimp only; rw [h.more,more_same h.at_]⟩
theorem alike_ret (a:Int) (back:P2):∀ (c:List MOp) (i:Nat) {x y:AtM×Bool},Alike x y→Alike (ky x a back i c) (ky y a back i c)
 | [],_,_,_,h=>h
 | o::c,i,x,y,h=>by
   rw [we,we]
   refine alike_ret a back c (i+1) ?_
   rw [h.at_]
   split
   ·split
    ·exact kC h _ _
    ·exact h
   ·exact h
theorem zFB (m:MModule) {x y:AtM×Bool} (h:Alike x y) (p:P2):Alike (xo m x p) (xo m y p):=by
 unfold xo
 rw [h.at_]
 split
 ·exact h
 ·split
  ·exact h
  ·split
   ·exact alike_ret _ _ _ _ (kC h _ _)
   ·refine kC ?_ _ _
    split
    ·exact kC h _ _
    ·exact h
def Falls (m:MModule) (x y:AtM×Bool):Prop:=pot m y.1≤pot m x.1∧(y.2=true→x.2=true∨pot m y.1 < pot m x.1)
theorem Falls.refl (m:MModule) (x:AtM×Bool):Falls m x x:=⟨Nat.le_refl _,.inl⟩
theorem Falls.trans {m:MModule} {x y z:AtM×Bool} (h:Falls m x y) (k:Falls m y z):Falls m x z:=⟨Nat.le_trans k.1 h.1,fun e=>by
 rcases k.2 e with e | e
 ·rcases h.2 e with e | e
  ·exact .inl e
  ·exact .inr (Nat.lt_of_le_of_lt k.1 e)
 ·exact .inr (Nat.lt_of_lt_of_le e h.1)⟩
theorem pot_same {m:MModule} {A A':AtM} (h:∀ q,zL A q=zL A' q):pot m A=pot m A':=by
 unfold pot
 congr 1
 exact List.map_congr_left fun q _=>by rw [h]
theorem uh {m:MModule} {rs:List Int} {Lk:Nat} (hL:Lk≤8) {x:AtM×Bool} (hx:yq m rs Lk x.1) {p l:P2} (hp:InR m rs p) (hl:LockOk Lk l):Falls m x (cR x p l):=by
 unfold cR
 cases hm:xQ x.1 p l with
 | false =>
   rw [Bool.or_false]
   refine ⟨?_,fun e=>.inl e⟩
   dsimp only
   rw [pot_same (same_put hm)]
   exact Nat.le_refl _
 | true =>
   have hlt:pot m (u9 x.1 p l) < pot m x.1:=by
    unfold u9
    refine pot_put hp.1 ?_
    unfold xQ at hm
    rw [Bool.not_eq_true',decide_eq_false_iff_not] at hm
    cases hf:zL x.1 p with
    | none =>
      have e:meet x.1 p l=l:=by unfold meet; rw [hf]
      rw [e]
      have:=wB hL hl
      show (l.1+255 - l.2).toNat < 512
      omega
    | some o =>
      have e:meet x.1 p l=(ym l.1 o.1,orI l.2 o.2):=by unfold meet; rw [hf]
      obtain ⟨k1,k2,_⟩:=hl.meet hL (hx p o hf).2
      rw [e]
      have r1:=wB hL k1
      rcases k2 with k2 | k2
      ·rw [hf,e,k2] at hm; exact absurd rfl hm
      ·show (ym l.1 o.1+255 - orI l.2 o.2).toNat < (o.1+255 - o.2).toNat
       dsimp only at r1
       omega
   exact ⟨Nat.le_of_lt hlt,fun _=>.inr hlt⟩
theorem zAY {m:MModule} {rs:List Int} {Lk:Nat} (hL:Lk≤8) {a:Int} {back:P2} (hb:InR m rs back):∀ (c:List MOp) (i:Nat) {x:AtM×Bool},yq m rs Lk x.1→Falls m x (ky x a back i c)
 | [],_,x,_=>.refl m x
 | o::c,i,x,h=>by
   rw [we]
   cases hf:zL x.1 (a,(i:Int)) with
   | none=>exact zAY hL hb c (i+1) h
   | some e =>
     dsimp only
     split
     ·exact (uh hL h hb (h _ e hf).2).trans (zAY hL hb c (i+1) (yB hL h hb (h _ e hf).2))
     ·exact zAY hL hb c (i+1) h
theorem falls_from {m:MModule} {rs:List Int} {Lk:Nat} (hL:Lk≤8) {x:AtM×Bool} (h:yq m rs Lk x.1) {p:P2} (ho:OpFacts m Lk p ((m.fn p.1).op p.2)) (hp:p.1∈rs) (hcl:((m.fn p.1).op p.2).kind=22→((m.fn p.1).op p.2).a∈rs):Falls m x (xo m x p):=by
 unfold xo
 cases hf:zL x.1 p with
 | none=>exact .refl m x
 | some l =>
   have hl:=(h p l hf).2
   dsimp only
   generalize (m.fn p.1).op p.2=o at ho hcl
   split
   ·exact .refl m x
   ·next h23 =>
    have hn:InR m rs (p.1,o.next):=⟨ho.next h23,hp⟩
    split
    ·next h22 =>
     have hin:InR m rs (o.a,0):=⟨(ho.call h22).2,hcl h22⟩
     exact (uh hL h hin hl).trans (zAY hL hn _ _ (yB hL h hin hl))
    ·split
     ·next h21 =>
      have he:InR m rs (p.1,o.els):=⟨ho.els h21,hp⟩
      exact (uh hL h he hl).trans (uh hL (yB hL h he hl) hn (hl.leave hL ho.lock))
     ·exact uh hL h hn (hl.leave hL ho.lock)
end Go.Vw
namespace Go.Vw
open Go.RowKit Go.Am Go.Proofs
attribute [local irreducible] yE zv zq VD VDn VDq Ret
theorem rch_below {m:MModule} {f0:Int} (h0:zM m.funcs.length [f0]=true) (hcalls:∀ f∈m.funcs,∀ o∈f.code,o.kind=22→zM m.funcs.length [o.a]=true) {g:Int} (h:Rch m f0 g):zM m.funcs.length [g]=true:=by
 induction h with
 | base=>exact h0
 | @step f o _ ho hk ih =>
   have hb:=belowB_one.1 ih
   have hif:f.toNat < m.funcs.length:=by omega
   refine hcalls _ ?_ _ ho hk
   unfold MModule.fn
   rw [List.getElem?_eq_getElem hif]
   exact List.getElem_mem hif
theorem Sub.pre {a b:Hp} (h:Sub a b):∀ l:Hp,Sub (l++a) (l++b)
 | []=>h
 | _::l=>.keep (Sub.pre h l)
section
variable [Drw] (hT:TabOk tab Tryz.prog)
include hT
theorem fromRef' (m:MModule) (hs:Small m) (bx:Nat) (t1 t2:Tok) (g1 g2:Geo) (rs:List Int) (Lk:Nat) (hL:Lk≤8) (x:AtM×Bool) (hx:yq m rs Lk x.1) (p:P2) (hp:InR m rs p) (ho:OpFacts m Lk p ((m.fn p.1).op p.2)) (hcl:((m.fn p.1).op p.2).kind=22→((m.fn p.1).op p.2).a∈rs) :
  VC Tryz.prog 88 [.ptr bx 0,.int .i64 p.1,.int .i64 p.2] (qF m bx t1 t2 g1 g2 (Ln m rs) x.1 x.2) fun _ S'=>S'=qF m bx t1 t2 g1 g2 (Ln m rs) (xo m x p).1 (xo m x p).2:=by
 obtain ⟨F,K,e,hF,hK⟩:=hp.nat
 subst e
 have hLn:Ln m rs F=(m.fn (F:Int)).code.length:=by unfold Ln; rw [if_pos hp.2]
 exact fromRef hT m hs bx t1 t2 g1 g2 rs Lk hL x hx F K hF hp.2 (by omega) ho hcl
set_option maxRecDepth 100000 in
set_option maxHeartbeats 4000000 in
theorem findRef (m:MModule) (hs:Small m) (hright:Pure Tryz.prog 66 [.agg (ze m)] (.ob (zO m))):PureR Tryz.prog 38 [.agg (ze m)] (FindRR m):=by
 refine VC.code hT 143 rfl rfl rfl rfl fun F W S0=>?_
 refine gz hT rfl ?_;conv=>whnf
 refine zA rfl (zN rfl rfl rfl ?_)
 refine gz hT rfl ?_;conv=>whnf
 refine zA rfl (zX hT rfl rfl rfl fun b2=>?_)
 refine gz hT rfl ?_;conv=>whnf
 refine zA rfl (zR hT rfl rfl rfl rfl rfl rfl hright ?_)
 refine gz hT rfl ?_;conv=>whnf
 refine zC rfl (fun hr=>?_) (fun hr=>?_)
 ·rw [Bool.not_eq_true'] at hr
  refine gz hT rfl ?_;conv=>whnf
  refine zA rfl (zI (cs':=[.slice .zero [],.slice .zero []]) hT rfl rfl rfl .here rfl ?_)
  refine yC (.cells (vs':=yY [] []) (.cons (V.Le.slice _ _) (.cons (V.Le.slice _ _) .nil)) .nil) ?_
  refine gz hT rfl ?_;conv=>whnf
  refine zQ (.cell rfl .here rfl (.tmp rfl .nil)) ?_
  exact ⟨[],[],70,rfl,.inr ⟨hr,rfl,rfl,rfl⟩⟩
 have hr:=nf hr
 have hfr:xt m=true:=by
  simp only [zO,Bool.and_eq_true] at hr
  exact hr.1
 obtain ⟨hm,_⟩:=qT hfr
 obtain ⟨hL,hpl⟩:=xB hfr
 have hof:=qV hr
 have hcalls:=zB4 hr
 have hth:=hs.threads
 have hfs:=hs.funcs
 refine gz hT rfl ?_;conv=>whnf
 refine zA rfl (zX hT rfl rfl rfl fun b4=>?_)
 refine gz hT rfl ?_;conv=>whnf
 refine zA rfl (zI (cs':=[.slice .zero [],.slice .zero []]) hT rfl rfl rfl .here rfl ?_)
 refine gz hT rfl ?_;conv=>whnf
 refine zW (fun w:Nat×List (List (List Int))×List (List (List Int))×Tok×Tok=>([(1,.pin (ze m) 0),(2,.ptr b2 0),(4,.ptr b4 0),(5,.int .i64 w.1)],[.cells b4 [.slice w.2.2.2.1 (w.2.1.map yy),.slice w.2.2.2.2 (w.2.2.1.map yy)] 81,.cells b2 [.slice .zero [],.slice .zero []] 81,.tl w.2.2.2.1,.tl w.2.2.2.2])) (fun w=>w.1≤m.threads.length∧RThreads m (m.threads.take w.1) w.2.1 w.2.2.1∧xg 1 w.2.2.2.1=true∧xg 1 w.2.2.2.2=true) (fun w=>m.threads.length - w.1) (0,[],[],.zero,.zero) ⟨Nat.zero_le _,.nil,rfl,rfl⟩ ⟨⟨lk rfl,lk rfl,lk rfl,lk rfl,trivial⟩,.keep (.keep (.zero (.zero .nil)))⟩ ?_
 rintro ⟨i,must,may,tm,ta⟩ ⟨hi,hts,htm,hta⟩
 dsimp only at hi hts htm hta
 refine gz hT rfl ?_;conv=>whnf
 refine zB rfl (zK hT rfl rfl rfl rfl rfl rfl (List.length_map _)) ?_
 refine gz hT rfl ?_;conv=>whnf
 refine zC rfl (fun hlt=>?_) (fun hlt=>?_)
 ·simp only [decide_eq_true_eq,Int.ofNat_lt] at hlt
  have hfirst:=zAU hr (List.getElem_mem hlt)
  have hfb:=belowB_one.1 hfirst
  refine gz hT rfl ?_;conv=>whnf
  refine zA rfl (yl hT rfl rfl rfl rfl rfl rfl (reachRef hT m hs i hlt hfirst hcalls) ?_)
  rintro _ ⟨rs,rfl,hrs,hrl⟩
  have hrb:∀ g∈rs,zM m.funcs.length [g]=true:=fun g hg=>rch_below hfirst hcalls ((hrs g).1 hg)
  have hclose:∀ f∈rs,∀ o∈(m.fn f).code,o.kind=22→o.a∈rs:=fun f hf o ho hk=>(hrs _).2 (.step ((hrs f).1 hf) ho hk)
  refine gz hT rfl ?_;conv=>whnf
  refine zA rfl (s_box rfl rfl rfl fun bx=>?_)
  generalize hR:[HE.cells b4 [.slice tm (must.map yy),.slice ta (may.map yy)] 81,.cells b2 [.slice .zero [],.slice .zero []] 81,.tl tm,.tl ta]=R
  refine gz hT rfl ?_;conv=>whnf
  refine zW (fun w:Nat×Geo×Geo×Tok×Tok=>([(1,.pin (ze m) 0),(2,.ptr b2 0),(4,.ptr b4 0),(5,.int .i64 i),(6,.slice .no (rs.map zt)),(7,.ptr bx 0),(8,.int .i64 w.1)],bldS m bx (Ln m rs) w.1 w.2.1 w.2.2.1 w.2.2.2.1 w.2.2.2.2 R)) (fun w=>w.1≤m.funcs.length∧(∀ f,f < w.1→Ln m rs f≤w.2.1.c f)∧(∀ f,f < w.1→Ln m rs f≤w.2.2.1.c f)∧xg 1 w.2.2.2.1=true∧xg 1 w.2.2.2.2=true) (fun w=>m.funcs.length - w.1) (0,⟨fun _=>0,fun _=>0,fun _=>0⟩,⟨fun _=>0,fun _=>0,fun _=>0⟩,.zero,.zero) ⟨Nat.zero_le _,(fun f hf=>absurd hf (Nat.not_lt_zero _)),(fun f hf=>absurd hf (Nat.not_lt_zero _)),rfl,rfl⟩ ⟨⟨lk rfl,lk rfl,lk rfl,lk rfl,lk rfl,lk rfl,lk rfl,trivial⟩,.keep (.zero (.zero (.refl _)))⟩ ?_
  rintro ⟨f,g1,g2,k1,k2⟩ ⟨hf,hg1,hg2,hk1,hk2⟩
  dsimp only at hf hg1 hg2 hk1 hk2
  repeat' (first
   | (refine gz hT rfl ?_;conv=>whnf)
   | refine zA rfl (zN rfl rfl rfl ?_)
   | refine zA rfl (zH hT rfl rfl rfl rfl rfl rfl rfl rfl ?_)
   | refine zB rfl (zK hT rfl rfl rfl rfl rfl rfl (List.length_map _)) ?_
   | refine zG rfl rfl rfl rfl (fun h=>?_) (fun h=>?_))
  refine zC rfl (fun hlf=>?_) (fun hlf=>?_)
  ·simp only [decide_eq_true_eq,Int.ofNat_lt] at hlf
   have hbf:zM m.funcs.length [(f:Int)]=true:=belowB_one.2 ⟨by omega,by omega⟩
   have hcl:(m.fn (f:Int)).code.length < 2000000:=by
    unfold MModule.fn
    rw [Int.toNat_natCast,List.getElem?_eq_getElem hlf]
    exact hs.code _ (List.getElem_mem hlf)
   have hcp:0 < (m.fn (f:Int)).code.length:=(MModule.fn_ok hm hbf).code.1
   refine gz hT rfl ?_;conv=>whnf
   refine zA rfl (kg hT rfl rfl rfl ?_)
   refine gz hT rfl ?_;conv=>whnf
   refine zA rfl (kg hT rfl rfl rfl ?_)
   refine gz hT rfl ?_;conv=>whnf
   by_cases hin:(f:Int)∈rs
   ·have hLf0:Ln m rs f=(m.fn (f:Int)).code.length:=by unfold Ln; rw [if_pos hin]
    refine zW (fun w:Nat×Nat×Nat×Nat×Nat×Nat×Nat=>([(1,.pin (ze m) 0),(2,.ptr b2 0),(4,.ptr b4 0),(5,.int .i64 i),(6,.slice .no (rs.map zt)),(7,.ptr bx 0),(8,.int .i64 f),(9,ya w.2.1 w.1 w.2.2.1),(10,ya w.2.2.2.2.1 w.1 w.2.2.2.2.2.1),(11,.int .i64 w.1)],u0 w.2.1 w.1 w.2.2.2.1 (zs [] (·.1) w.1 f)::u0 w.2.2.2.2.1 w.1 w.2.2.2.2.2.2 (zs [] (·.2) w.1 f)::bldS m bx (Ln m rs) f g1 g2 k1 k2 R)) (fun w=>w.1≤(m.fn (f:Int)).code.length∧(w.1=0∨w.2.2.1=w.1+w.2.2.2.1)∧(w.1=0∨w.2.2.2.2.2.1=w.1+w.2.2.2.2.2.2)) (fun w=>(m.fn (f:Int)).code.length - w.1) (0,0,0,0,0,0,0) ⟨Nat.zero_le _,.inl rfl,.inl rfl⟩ ⟨⟨lk rfl,lk rfl,lk rfl,lk rfl,lk rfl,lk rfl,lk rfl,lk rfl,lk rfl,lk rfl,trivial⟩,.no (.no (.refl _))⟩ ?_
    rintro ⟨n,b1,c1,r1,b2,c2,r2⟩ ⟨hn,hc1,hc2⟩
    dsimp only at hn hc1 hc2
    repeat' (first
     | (refine gz hT rfl ?_;conv=>whnf)
     | refine zA rfl (zN rfl rfl rfl ?_)
     | refine zA rfl (zH hT rfl rfl rfl rfl rfl rfl rfl rfl ?_)
     | refine zB rfl (zK hT rfl rfl rfl rfl rfl rfl (List.length_map _)) ?_
     | refine zG rfl rfl rfl rfl (fun h=>?_) (fun h=>?_)
     | refine zB rfl (xh hT rfl rfl rfl hbf) ?_)
    ·simp only [decide_eq_true_eq,Int.ofNat_lt] at h
     refine zA rfl (zR hT rfl rfl rfl rfl rfl rfl (hasRef hT rs _ (by omega)) ?_)
     refine gz hT rfl ?_;conv=>whnf
     refine zC rfl (fun _=>?_) (fun hno=>absurd hin (of_decide_eq_false hno))
     refine gz hT rfl ?_;conv=>whnf
     cases n with
     | zero =>
       refine zA rfl (zH (rows:=[zt (-1)]) hT rfl rfl rfl rfl rfl rfl rfl rfl ?_)
       refine gz hT rfl ?_;conv=>whnf
       refine zA rfl (qQ (sz:=1) (news:=[zt (-1)]) hT rfl rfl rfl rfl rfl rfl rfl rfl rfl rfl .here (yc [-1]) (by decide) (by decide) fun b1' c1' r1' e1=>?_)
       refine gz hT rfl ?_;conv=>whnf
       refine zA rfl (zH (rows:=[zt (-1)]) hT rfl rfl rfl rfl rfl rfl rfl rfl ?_)
       refine gz hT rfl ?_;conv=>whnf
       refine zA rfl (qQ (sz:=1) (news:=[zt (-1)]) hT rfl rfl rfl rfl rfl rfl rfl rfl rfl rfl (.there .here) (yc [-1]) (by decide) (by decide) fun b2' c2' r2' e2=>?_)
       refine gz hT rfl ?_;conv=>whnf
       refine zB rfl (zU rfl rfl rfl (by omega)) ?_
       refine gz hT rfl ?_;conv=>whnf
       exact ⟨(1,b1',c1',r1',b2',c2',r2'),⟨by dsimp only; omega,.inr (by dsimp only; simp at e1; omega),.inr (by dsimp only; simp at e2; omega)⟩,by dsimp only; omega,⟨lk rfl,lk rfl,lk rfl,lk rfl,lk rfl,lk rfl,lk rfl,lk rfl,lk rfl,lk rfl,trivial⟩,.refl _⟩
     | succ q =>
       have d1:c1=q+1+r1:=by omega
       have d2:c2=q+1+r2:=by omega
       refine zA rfl (zH (rows:=[zt (-1)]) hT rfl rfl rfl rfl rfl rfl rfl rfl ?_)
       refine gz hT rfl ?_;conv=>whnf
       refine zA rfl (qR (sz:=1) (news:=[zt (-1)]) (vs:=zs [] (·.1) (q+1) f) hT rfl rfl rfl rfl rfl rfl rfl rfl rfl rfl .here (by simp [zs]) (show c1 * 1=(q+1) * 1+r1 by omega) (yc [-1]) (wK [-1]) (by simp only [List.length_cons,List.length_nil]; omega) fun b1' c1' r1' e1=>?_)
       refine gz hT rfl ?_;conv=>whnf
       refine zA rfl (zH (rows:=[zt (-1)]) hT rfl rfl rfl rfl rfl rfl rfl rfl ?_)
       refine gz hT rfl ?_;conv=>whnf
       refine zA rfl (qR (sz:=1) (news:=[zt (-1)]) (vs:=zs [] (·.2) (q+1) f) hT rfl rfl rfl rfl rfl rfl rfl rfl rfl rfl (.there .here) (by simp [zs]) (show c2 * 1=(q+1) * 1+r2 by omega) (yc [-1]) (wK [-1]) (by simp only [List.length_cons,List.length_nil]; omega) fun b2' c2' r2' e2=>?_)
       refine gz hT rfl ?_;conv=>whnf
       refine zB rfl (zU rfl rfl rfl (by omega)) ?_
       refine gz hT rfl ?_;conv=>whnf
       refine ⟨(q+2,b1',c1',r1',b2',c2',r2'),⟨by dsimp only; omega,.inr (by dsimp only; simp at e1; omega),.inr (by dsimp only; simp at e2; omega)⟩,by dsimp only; omega,⟨lk rfl,lk rfl,lk rfl,lk rfl,lk rfl,lk rfl,lk rfl,lk rfl,lk rfl,lk rfl,trivial⟩,?_⟩
       dsimp only
       rw [zDZ [] (·.1) (q+1),zDZ [] (·.2) (q+1)]
       exact .refl _
    ·simp only [decide_eq_false_iff_not,Int.ofNat_lt] at h
     have hne:n=(m.fn (f:Int)).code.length:=by omega
     have hLf:Ln m rs f=n:=by omega
     have hv1:ya b1 n c1 = .ref b1 0 n c1:=by unfold ya; rw [if_neg (by omega)]
     have hv2:ya b2 n c2 = .ref b2 0 n c2:=by unfold ya; rw [if_neg (by omega)]
     rw [hv1,hv2]
     refine zB rfl (zT hT rfl rfl (.there (.there .here)) rfl) ?_
     refine gz hT rfl ?_;conv=>whnf
     refine zA rfl (zH (rows:=[[(.ref b1 0 n c1)]]) hT rfl rfl rfl rfl rfl rfl rfl rfl ?_)
     refine gz hT rfl ?_;conv=>whnf
     refine zA rfl (zx (rows:=zb g1 (Ln m rs) f) (news:=[[(.ref b1 0 n c1)]]) hT rfl rfl rfl rfl rfl rfl rfl rfl rfl rfl hk1 (.there (.there (.there (At.right .here _)))) (zAX _ _ _) (fun r hr=>by rw [List.mem_singleton.1 hr]; rfl) (fun r hr=>by rw [List.mem_singleton.1 hr]; rfl) (by simp only [List.length_cons,List.length_nil,zb,List.length_map,List.length_range]; omega) fun k1' hk1'=>?_)
     refine gz hT rfl ?_;conv=>whnf
     refine zA rfl (zI (cs':=ze m++[.slice k1' (zb g1 (Ln m rs) f++[[(.ref b1 0 n c1)]]),.slice k2 (zb g2 (Ln m rs) f),.bool false]) hT rfl rfl rfl (.there (.there .here)) rfl ?_)
     refine gz hT rfl ?_;conv=>whnf
     refine zB rfl (zT hT rfl rfl (.there (.there .here)) rfl) ?_
     refine gz hT rfl ?_;conv=>whnf
     refine zA rfl (zH (rows:=[[(.ref b2 0 n c2)]]) hT rfl rfl rfl rfl rfl rfl rfl rfl ?_)
     refine gz hT rfl ?_;conv=>whnf
     refine zA rfl (zx (rows:=zb g2 (Ln m rs) f) (news:=[[(.ref b2 0 n c2)]]) hT rfl rfl rfl rfl rfl rfl rfl rfl rfl rfl hk2 (.there (.there (.there (At.right (.there .here) _)))) (zAX _ _ _) (fun r hr=>by rw [List.mem_singleton.1 hr]; rfl) (fun r hr=>by rw [List.mem_singleton.1 hr]; rfl) (by simp only [List.length_cons,List.length_nil,zb,List.length_map,List.length_range]; omega) fun k2' hk2'=>?_)
     refine gz hT rfl ?_;conv=>whnf
     refine zA rfl (zI (cs':=ze m++[.slice k1' (zb g1 (Ln m rs) f++[[(.ref b1 0 n c1)]]),.slice k2' (zb g2 (Ln m rs) f++[[(.ref b2 0 n c2)]]),.bool false]) hT rfl rfl rfl (.there (.there .here)) rfl ?_)
     refine gz hT rfl ?_;conv=>whnf
     have hperm:=bld_perm m bx (Ln m rs) f g1 g2 k1' k2' R b1 c1 r1 b2 c2 r2
     rw [hLf,hv1,hv2] at hperm
     refine ops_turn (Turn.perm hperm) ?_
     refine zB rfl (zU rfl rfl rfl (by omega)) ?_
     refine gz hT rfl ?_;conv=>whnf
     refine ⟨(f+1,g1.upd f b1 c1 r1,g2.upd f b2 c2 r2,k1',k2'),⟨hlf,fun a ha=>?_,fun a ha=>?_,hk1',hk2'⟩,by dsimp only; omega,⟨lk rfl,lk rfl,lk rfl,lk rfl,lk rfl,lk rfl,lk rfl,trivial⟩,.refl _⟩
     ·dsimp only [Geo.upd]
      split
      ·next e=>subst e; omega
      ·exact hg1 a (by omega)
     ·dsimp only [Geo.upd]
      split
      ·next e=>subst e; omega
      ·exact hg2 a (by omega)
   ·have hLf:Ln m rs f=0:=by unfold Ln; rw [if_neg hin]
    have hv1:ya 0 0 0 = .slice .zero []:=rfl
    have hv2:ya 0 0 0 = .slice .zero []:=rfl
    refine zW (fun w:Nat=>([(1,.pin (ze m) 0),(2,.ptr b2 0),(4,.ptr b4 0),(5,.int .i64 i),(6,.slice .no (rs.map zt)),(7,.ptr bx 0),(8,.int .i64 f),(9,.slice .zero []),(10,.slice .zero []),(11,.int .i64 0)],u0 0 0 0 (zs [] (·.1) 0 f)::u0 0 0 0 (zs [] (·.2) 0 f)::bldS m bx (Ln m rs) f g1 g2 k1 k2 R)) (fun w=>w=0) (fun w=>w) 0 rfl ⟨⟨lk rfl,lk rfl,lk rfl,lk rfl,lk rfl,lk rfl,lk rfl,lk rfl,lk rfl,lk rfl,trivial⟩,.no (.no (.refl _))⟩ ?_
    rintro _ rfl
    repeat' (first
     | (refine gz hT rfl ?_;conv=>whnf)
     | refine zA rfl (zN rfl rfl rfl ?_)
     | refine zA rfl (zH hT rfl rfl rfl rfl rfl rfl rfl rfl ?_)
     | refine zB rfl (zK hT rfl rfl rfl rfl rfl rfl (List.length_map _)) ?_
     | refine zG rfl rfl rfl rfl (fun h=>?_) (fun h=>?_)
     | refine zB rfl (xh hT rfl rfl rfl hbf) ?_)
    ·refine zA rfl (zR hT rfl rfl rfl rfl rfl rfl (hasRef hT rs _ (by omega)) ?_)
     refine gz hT rfl ?_;conv=>whnf
     refine zC rfl (fun hyes=>absurd (of_decide_eq_true hyes) hin) (fun _=>?_)
     refine gz hT rfl ?_;conv=>whnf
     refine zB rfl (zT hT rfl rfl (.there (.there .here)) rfl) ?_
     refine gz hT rfl ?_;conv=>whnf
     refine zA rfl (zH (rows:=[[(.slice .zero [])]]) hT rfl rfl rfl rfl rfl rfl rfl rfl ?_)
     refine gz hT rfl ?_;conv=>whnf
     refine zA rfl (zx (rows:=zb g1 (Ln m rs) f) (news:=[[(.slice .zero [])]]) hT rfl rfl rfl rfl rfl rfl rfl rfl rfl rfl hk1 (.there (.there (.there (At.right .here _)))) (zAX _ _ _) (fun r hr=>by rw [List.mem_singleton.1 hr]; rfl) (fun r hr=>by rw [List.mem_singleton.1 hr]; rfl) (by simp only [List.length_cons,List.length_nil,zb,List.length_map,List.length_range]; omega) fun k1' hk1'=>?_)
     refine gz hT rfl ?_;conv=>whnf
     refine zA rfl (zI (cs':=ze m++[.slice k1' (zb g1 (Ln m rs) f++[[(.slice .zero [])]]),.slice k2 (zb g2 (Ln m rs) f),.bool false]) hT rfl rfl rfl (.there (.there .here)) rfl ?_)
     refine gz hT rfl ?_;conv=>whnf
     refine zB rfl (zT hT rfl rfl (.there (.there .here)) rfl) ?_
     refine gz hT rfl ?_;conv=>whnf
     refine zA rfl (zH (rows:=[[(.slice .zero [])]]) hT rfl rfl rfl rfl rfl rfl rfl rfl ?_)
     refine gz hT rfl ?_;conv=>whnf
     refine zA rfl (zx (rows:=zb g2 (Ln m rs) f) (news:=[[(.slice .zero [])]]) hT rfl rfl rfl rfl rfl rfl rfl rfl rfl rfl hk2 (.there (.there (.there (At.right (.there .here) _)))) (zAX _ _ _) (fun r hr=>by rw [List.mem_singleton.1 hr]; rfl) (fun r hr=>by rw [List.mem_singleton.1 hr]; rfl) (by simp only [List.length_cons,List.length_nil,zb,List.length_map,List.length_range]; omega) fun k2' hk2'=>?_)
     refine gz hT rfl ?_;conv=>whnf
     refine zA rfl (zI (cs':=ze m++[.slice k1' (zb g1 (Ln m rs) f++[[(.slice .zero [])]]),.slice k2' (zb g2 (Ln m rs) f++[[(.slice .zero [])]]),.bool false]) hT rfl rfl rfl (.there (.there .here)) rfl ?_)
     refine gz hT rfl ?_;conv=>whnf
     have hperm:=bld_perm m bx (Ln m rs) f g1 g2 k1' k2' R 0 0 0 0 0 0
     rw [hLf,hv1] at hperm
     refine ops_turn (Turn.perm hperm) ?_
     refine zB rfl (zU rfl rfl rfl (by omega)) ?_
     refine gz hT rfl ?_;conv=>whnf
     refine ⟨(f+1,g1.upd f 0 0 0,g2.upd f 0 0 0,k1',k2'),⟨hlf,fun a ha=>?_,fun a ha=>?_,hk1',hk2'⟩,by dsimp only; omega,⟨lk rfl,lk rfl,lk rfl,lk rfl,lk rfl,lk rfl,lk rfl,trivial⟩,.refl _⟩
     ·dsimp only [Geo.upd]
      split
      ·next e=>subst e; omega
      ·exact hg1 a (by omega)
     ·dsimp only [Geo.upd]
      split
      ·next e=>subst e; omega
      ·exact hg2 a (by omega)
    ·simp only [decide_eq_false_iff_not,Int.ofNat_lt] at h
     omega
  ·simp only [decide_eq_false_iff_not,Int.ofNat_lt] at hlf
   have hfe:f=m.funcs.length:=by omega
   subst hfe
   have hLo:∀ a,¬ a < m.funcs.length→Ln m rs a=0:=fun a ha=>by
    unfold Ln
    rw [if_neg fun hm=>ha (by have:=belowB_one.1 (hrb _ hm); omega)]
   have hgs1:∀ a,Ln m rs a≤g1.c a:=fun a=>by
    by_cases ha:a < m.funcs.length
    ·exact hg1 a ha
    ·rw [hLo a ha]; exact Nat.zero_le _
   have hgs2:∀ a,Ln m rs a≤g2.c a:=fun a=>by
    by_cases ha:a < m.funcs.length
    ·exact hg2 a ha
    ·rw [hLo a ha]; exact Nat.zero_le _
   refine wJ (S':=qF m bx k1 k2 g1 g2 (Ln m rs) [] false++R) (.cells (VsLe.pre (.cons (.refl _) (.cons (.refl _) (.cons (wZ (v:=.bool false) (b:=false) rfl) .nil))) (ze m)) (Sub.pre (.drop (.drop (.refl _))) _)) ?_
   have hfrs:m.threads[i]∈rs:=(hrs _).2 .base
   have hin0:InR m rs (m.threads[i],0):=⟨⟨hfirst,by show (0:Int)≤0; omega,by have:=(MModule.fn_ok hm hfirst).code.1; show (0:Int) < _; dsimp only; omega⟩,hfrs⟩
   have hl0:LockOk m.locks.length (0,0):=⟨0,0,rfl,fun i h=>h,fun i h=>by simp at h⟩
   have hx0:yq m rs m.locks.length ([]:AtM):=fun p l h=>by cases h
   refine gz hT rfl ?_;conv=>whnf
   refine zB rfl (zJ (xs:=m.threads) hT rfl rfl rfl rfl rfl hlt rfl) ?_
   refine gz hT rfl ?_;conv=>whnf
   refine zA rfl (yQ hT rfl rfl rfl rfl rfl rfl (((vm hT m bx k1 k2 g1 g2 rs m.locks.length hL ([],false) hx0 (m.threads[i],0) (0,0) hin0 hl0).frame R).mono ?_))
   rintro _ _ ⟨_,rfl,rfl⟩
   refine gz hT rfl ?_;conv=>whnf
   refine zW (fun y:AtM×Bool=>([(1,.pin (ze m) 0),(2,.ptr b2 0),(4,.ptr b4 0),(5,.int .i64 i),(6,.slice .no (rs.map zt)),(7,.ptr bx 0)],qF m bx k1 k2 g1 g2 (Ln m rs) y.1 y.2++R)) (fun y=>yq m rs m.locks.length y.1∧RSt m rs m.threads[i] y.1∧(y.2=false→∀ p,InR m rs p→zAn m y.1 p)) (fun y=>2 * pot m y.1+(if y.2=true then 1 else 0)) (cR ([],false) (m.threads[i],0) (0,0)) ⟨yB hL hx0 hin0 hl0,.start,fun h=>by cases h⟩ ⟨⟨lk rfl,lk rfl,lk rfl,lk rfl,lk rfl,lk rfl,trivial⟩,.refl _⟩ ?_
   rintro y ⟨hy,hst,hq⟩
   refine gz hT rfl ?_;conv=>whnf
   refine zB rfl (zT hT rfl rfl .here rfl) ?_
   refine gz hT rfl ?_;conv=>whnf
   refine zC rfl (fun hmore=>?_) (fun hmore=>?_)
   ·refine gz hT rfl ?_;conv=>whnf
    refine zA rfl (zI (cs':=ze m++[.slice k1 (zb g1 (Ln m rs) m.funcs.length),.slice k2 (zb g2 (Ln m rs) m.funcs.length),.bool false]) hT rfl rfl rfl .here rfl ?_)
    refine yC (S':=qF m bx k1 k2 g1 g2 (Ln m rs) y.1 false++R) (.cells (VsLe.pre (.cons (.refl _) (.cons (.refl _) (.cons (wZ (v:=.bool false) (b:=false) rfl) .nil))) (ze m)) (.refl _)) ?_
    refine gz hT rfl ?_;conv=>whnf
    refine zW (fun w:Nat×(AtM×Bool)=>([(1,.pin (ze m) 0),(2,.ptr b2 0),(4,.ptr b4 0),(5,.int .i64 i),(6,.slice .no (rs.map zt)),(7,.ptr bx 0),(12,.int .i64 w.1)],qF m bx k1 k2 g1 g2 (Ln m rs) w.2.1 w.2.2++R)) (fun w=>w.1≤rs.length∧yq m rs m.locks.length w.2.1∧RSt m rs m.threads[i] w.2.1∧Calm (y.1,false) w.2∧Falls m (y.1,false) w.2∧(w.2.2=false→∀ f∈rs.take w.1,∀ k:Nat,k < (m.fn f).code.length→zAn m y.1 (f,(k:Int)))) (fun w=>rs.length - w.1) (0,(y.1,false)) ⟨Nat.zero_le _,hy,hst,.refl _,.refl _ _,fun _ f hf=>by simp at hf⟩ ⟨⟨lk rfl,lk rfl,lk rfl,lk rfl,lk rfl,lk rfl,lk rfl,trivial⟩,.refl _⟩ ?_
    rintro ⟨j,z⟩ ⟨hj,hz,hzs,hzc,hzf,hzq⟩
    dsimp only at hj hz hzs hzc hzf hzq
    repeat' (first
     | (refine gz hT rfl ?_;conv=>whnf)
     | refine zA rfl (zN rfl rfl rfl ?_)
     | refine zA rfl (zH hT rfl rfl rfl rfl rfl rfl rfl rfl ?_)
     | refine zB rfl (zK hT rfl rfl rfl rfl rfl rfl (List.length_map _)) ?_
     | refine zG rfl rfl rfl rfl (fun h=>?_) (fun h=>?_))
    refine zC rfl (fun hjl=>?_) (fun hjl=>?_)
    ·simp only [decide_eq_true_eq,Int.ofNat_lt] at hjl
     have hfm:=List.getElem_mem hjl
     have hbj:=hrb _ hfm
     have hclj:(m.fn rs[j]).code.length < 2000000:=by
      have hb:=belowB_one.1 hbj
      have hi2:(rs[j]).toNat < m.funcs.length:=by omega
      unfold MModule.fn
      rw [List.getElem?_eq_getElem hi2]
      exact hs.code _ (List.getElem_mem hi2)
     refine gz hT rfl ?_;conv=>whnf
     refine zW (fun w:Nat×(AtM×Bool)=>([(1,.pin (ze m) 0),(2,.ptr b2 0),(4,.ptr b4 0),(5,.int .i64 i),(6,.slice .no (rs.map zt)),(7,.ptr bx 0),(12,.int .i64 j),(13,.int .i64 w.1)],qF m bx k1 k2 g1 g2 (Ln m rs) w.2.1 w.2.2++R)) (fun w=>w.1≤(m.fn rs[j]).code.length∧yq m rs m.locks.length w.2.1∧RSt m rs m.threads[i] w.2.1∧Calm (y.1,false) w.2∧Falls m (y.1,false) w.2∧(w.2.2=false→(∀ f∈rs.take j,∀ k:Nat,k < (m.fn f).code.length→zAn m y.1 (f,(k:Int)))∧∀ k:Nat,k < w.1→zAn m y.1 (rs[j],(k:Int)))) (fun w=>(m.fn rs[j]).code.length - w.1) (0,z) ⟨Nat.zero_le _,hz,hzs,hzc,hzf,fun e=>⟨hzq e,fun k hk=>absurd hk (Nat.not_lt_zero _)⟩⟩ ⟨⟨lk rfl,lk rfl,lk rfl,lk rfl,lk rfl,lk rfl,lk rfl,lk rfl,trivial⟩,.refl _⟩ ?_
     rintro ⟨n,u⟩ ⟨hn,hu,hus,huc,huf,huq⟩
     dsimp only at hn hu hus huc huf huq
     refine gz hT rfl ?_;conv=>whnf
     intro id
     refine zd hT rfl rfl ?_ id
     repeat' (first
      | (refine god hT 2 rfl ?_;conv=>whnf)
      | refine zV rfl ?_
      | refine q_g rfl (fun S'=>(zK hT rfl rfl rfl rfl rfl rfl (List.length_map _)).qs) ?_
      | refine zk rfl rfl rfl rfl (fun h=>?_) (fun h=>?_)
      | refine q_g rfl (fun S'=>(zJ (xs:=rs) hT rfl rfl rfl rfl rfl hjl rfl).qs) ?_
      | refine q_g rfl (fun S'=>(xh hT rfl rfl rfl hbj).qs) ?_)
     refine gz hT rfl ?_;conv=>whnf
     refine zC rfl (fun hnl=>?_) (fun hnl=>?_)
     ·simp only [decide_eq_true_eq,Int.ofNat_lt] at hnl
      have hp:InR m rs (rs[j],(n:Int)):=⟨⟨hbj,by show (0:Int)≤_; omega,by show (n:Int) < ((m.fn rs[j]).code.length:Int); omega⟩,hfm⟩
      have hfo:=hof _ hp.1
      have hclo:((m.fn rs[j]).op (n:Int)).kind=22→((m.fn rs[j]).op (n:Int)).a∈rs:=fun hk=>by
       refine hclose _ hfm _ ?_ hk
       unfold MFunc.op
       rw [Int.toNat_natCast,List.getElem?_eq_getElem hnl]
       exact List.getElem_mem hnl
      refine gz hT rfl ?_;conv=>whnf
      refine zB rfl (zJ (xs:=rs) hT rfl rfl rfl rfl rfl hjl rfl) ?_
      refine gz hT rfl ?_;conv=>whnf
      refine zA rfl (yQ hT rfl rfl rfl rfl rfl rfl (((fromRef' hT m hs bx k1 k2 g1 g2 rs m.locks.length hL u hu (rs[j],(n:Int)) hp hfo hclo).frame R).mono ?_))
      rintro _ _ ⟨_,rfl,rfl⟩
      refine gz hT rfl ?_;conv=>whnf
      refine zB rfl (zU rfl rfl rfl (by omega)) ?_
      refine gz hT rfl ?_;conv=>whnf
      have hcf:=calm_from m u (rs[j],(n:Int))
      refine ⟨(n+1,xo m u (rs[j],(n:Int))),⟨hnl,zDY hL hu hfo hfm hclo,.step (b:=u.2) hus hp,huc.trans hcf,huf.trans (falls_from hL hu hfo hfm hclo),fun e=>?_⟩,by dsimp only; omega,⟨lk rfl,lk rfl,lk rfl,lk rfl,lk rfl,lk rfl,lk rfl,lk rfl,trivial⟩,.refl _⟩
      dsimp only at e
      have hu2:u.2=false:=by
       cases hb:u.2
       ·rfl
       ·rw [hcf.keep hb] at e; cases e
      obtain ⟨q1,q2⟩:=huq hu2
      refine ⟨q1,fun k hk=>?_⟩
      by_cases hkn:k=n
      ·subst hkn
       have al:Alike (y.1,false) u:=⟨fun q=>(huc.same hu2 q).symm,hu2.symm⟩
       unfold zAn
       rw [(zFB m al _).more]; exact e
      ·exact q2 k (by dsimp only at hk; omega)
     ·simp only [decide_eq_false_iff_not,Int.ofNat_lt] at hnl
      have hne:n=(m.fn rs[j]).code.length:=by omega
      subst hne
      refine gz hT rfl ?_;conv=>whnf
      refine zB rfl (zU rfl rfl rfl (by omega)) ?_
      refine gz hT rfl ?_;conv=>whnf
      refine ⟨(j+1,u),⟨hjl,hu,hus,huc,huf,fun e f hf=>?_⟩,by dsimp only; omega,⟨lk rfl,lk rfl,lk rfl,lk rfl,lk rfl,lk rfl,lk rfl,trivial⟩,.refl _⟩
      obtain ⟨q1,q2⟩:=huq e
      rw [List.take_succ_eq_append_getElem hjl,List.mem_append,List.mem_singleton] at hf
      rcases hf with hf | rfl
      ·exact q1 f hf
      ·exact q2
    ·simp only [decide_eq_false_iff_not,Int.ofNat_lt] at hjl
     rw [List.take_of_length_le (by omega)] at hzq
     refine gz hT rfl ?_;conv=>whnf
     refine ⟨z,⟨hz,hzs,fun e p hp=>?_⟩,?_,⟨lk rfl,lk rfl,lk rfl,lk rfl,lk rfl,lk rfl,trivial⟩,.refl _⟩
     ·have al:Alike (z.1,false) (y.1,false):=⟨hzc.same e,rfl⟩
      unfold zAn
      rw [(zFB m al p).more]
      obtain ⟨p1,p2⟩:=p
      obtain ⟨⟨v1,v2,v3⟩,v4⟩:=hp
      dsimp only at v1 v2 v3 v4
      have hk:=hzq e p1 v4 p2.toNat (by omega)
      rw [Int.toNat_of_nonneg v2] at hk
      exact hk
     ·rw [if_pos hmore]
      rcases hb:z.2 with _ | _
      ·have:=hzf.1
       dsimp only at this
       rw [if_neg (by decide)]
       omega
      ·rcases hzf.2 hb with h | h
       ·cases h
       ·dsimp only at h
        rw [if_pos rfl]
        omega
   ·have hq:=hq hmore
    refine run_turn ((freeze_refS m bx k1 k2 g1 g2 (Ln m rs) y.1 y.2 hgs1 hgs2).frame R) ?_
    subst hR
    refine gz hT rfl ?_;conv=>whnf
    have hl12:=hts.lens
    rw [List.length_take] at hl12
    have hl1:must.length < 2000000:=by omega
    have hl2:may.length < 2000000:=by omega
    intro id
    refine zd hT rfl rfl ?_ id
    repeat' (first
     | (refine god hT 2 rfl ?_;conv=>whnf)
     | refine zV rfl ?_
     | refine q_g rfl (fun S'=>(zK hT rfl rfl rfl rfl rfl rfl (List.length_map _)).qs) ?_
     | refine zk rfl rfl rfl rfl (fun h=>?_) (fun h=>?_)
     | refine yD hT rfl rfl rfl (.there .here) rfl ?_
     | refine yD hT rfl rfl rfl .here rfl ?_
     | refine q_g rfl (fun S'=>zH (rows:=[yy (vv (Ln m rs) y.1 (·.1) m.funcs.length)]) hT rfl rfl rfl rfl rfl rfl rfl rfl ⟨rfl,rfl⟩) ?_)
    refine zS rfl (eff rfl rfl (zx (news:=[yy (vv (Ln m rs) y.1 (·.1) m.funcs.length)]) hT rfl rfl rfl rfl rfl rfl rfl rfl rfl rfl htm (.there (.there (.there .here))) (yO (g:=yy) (n:=1) (fun _=>rfl) _) (yO (g:=yy) (n:=1) (fun _=>rfl) [(vv (Ln m rs) y.1 (·.1) m.funcs.length)]) (xr (g:=yy) (fun _=>rfl) [(vv (Ln m rs) y.1 (·.1) m.funcs.length)]) (by simp only [List.length_cons,List.length_nil,List.length_map]; omega) fun u1 hu1=>And.intro trivial ?_))
    refine god hT 2 rfl ?_;conv=>whnf
    refine zS rfl (eff rfl rfl (zI (cs':=[.slice u1 (must.map yy++[yy (vv (Ln m rs) y.1 (·.1) m.funcs.length)]),.slice ta (may.map yy)]) hT rfl rfl rfl (.there .here) rfl (And.intro trivial ?_)))
    refine god hT 2 rfl ?_;conv=>whnf
    refine zV rfl ?_
    refine gz hT rfl ?_;conv=>whnf
    intro id2
    refine zd hT rfl rfl ?_ id2
    repeat' (first
     | (refine god hT 2 rfl ?_;conv=>whnf)
     | refine zV rfl ?_
     | refine q_g rfl (fun S'=>(zK hT rfl rfl rfl rfl rfl rfl (List.length_map _)).qs) ?_
     | refine zk rfl rfl rfl rfl (fun h=>?_) (fun h=>?_)
     | refine yD hT rfl rfl rfl (.there .here) rfl ?_
     | refine yD hT rfl rfl rfl .here rfl ?_
     | refine q_g rfl (fun S'=>zH (rows:=[yy (vv (Ln m rs) y.1 (·.2) m.funcs.length)]) hT rfl rfl rfl rfl rfl rfl rfl rfl ⟨rfl,rfl⟩) ?_)
    refine zS rfl (eff rfl rfl (zx (news:=[yy (vv (Ln m rs) y.1 (·.2) m.funcs.length)]) hT rfl rfl rfl rfl rfl rfl rfl rfl rfl rfl hta (.there (.there (.there (.there .here)))) (yO (g:=yy) (n:=1) (fun _=>rfl) _) (yO (g:=yy) (n:=1) (fun _=>rfl) [(vv (Ln m rs) y.1 (·.2) m.funcs.length)]) (xr (g:=yy) (fun _=>rfl) [(vv (Ln m rs) y.1 (·.2) m.funcs.length)]) (by simp only [List.length_cons,List.length_nil,List.length_map]; omega) fun u2 hu2=>And.intro trivial ?_))
    refine god hT 2 rfl ?_;conv=>whnf
    refine zS rfl (eff rfl rfl (zI (cs':=[.slice u1 (must.map yy++[yy (vv (Ln m rs) y.1 (·.1) m.funcs.length)]),.slice u2 (may.map yy++[yy (vv (Ln m rs) y.1 (·.2) m.funcs.length)])]) hT rfl rfl rfl (.there .here) rfl (And.intro trivial ?_)))
    refine god hT 2 rfl ?_;conv=>whnf
    refine zV rfl ?_
    refine gz hT rfl ?_;conv=>whnf
    refine zB rfl (zU rfl rfl rfl (by omega)) ?_
    refine gz hT rfl ?_;conv=>whnf
    refine ⟨(i+1,must++[(vv (Ln m rs) y.1 (·.1) m.funcs.length)],may++[(vv (Ln m rs) y.1 (·.2) m.funcs.length)],u1,u2),⟨hlt,?_,hu1,hu2⟩,by dsimp only; omega,⟨lk rfl,lk rfl,lk rfl,lk rfl,trivial⟩,by dsimp only; rw [List.map_append,List.map_append]; exact .drop (.refl _)⟩
    dsimp only
    rw [List.take_succ_eq_append_getElem hlt]
    exact hts.snoc ⟨y.1,rs,hst,hrs,hq,rfl,rfl⟩
 ·simp only [decide_eq_false_iff_not,Int.ofNat_lt] at hlt
  have e:m.threads.take i=m.threads:=List.take_of_length_le (by omega)
  rw [e] at hts
  refine wJ (S':=[.cells b4 (yY must may) 81,.cells b2 [.slice .zero [],.slice .zero []] 81]) (.cells (.cons (V.Le.slice _ _) (.cons (V.Le.slice _ _) .nil)) (.keep .nil)) ?_
  refine gz hT rfl ?_;conv=>whnf
  refine zB rfl (zT hT rfl rfl .here rfl) ?_
  refine gz hT rfl ?_;conv=>whnf
  refine zA rfl (zI (cs':=yY must may) hT rfl rfl rfl (.there .here) rfl ?_)
  refine gz hT rfl ?_;conv=>whnf
  refine zQ (.cell rfl (.there .here) rfl (.tmp rfl .nil)) ?_
  exact ⟨must,may,0,rfl,.inl ⟨hr,hts,rfl⟩⟩
end
end Go.Vw
namespace Go.Vw
open Go.RowKit Go.Am Go.Proofs
def Lq (l o:P2):Prop:=(∀ i,o.1.toNat.testBit i=true→l.1.toNat.testBit i=true)∧(∀ i,l.2.toNat.testBit i=true→o.2.toNat.testBit i=true)
theorem Lq.refl (l:P2):Lq l l:=⟨fun _ h=>h,fun _ h=>h⟩
theorem Lq.trans {l o k:P2} (h:Lq l o) (g:Lq o k):Lq l k:=⟨fun i e=>h.1 i (g.1 i e),fun i e=>g.2 i (h.2 i e)⟩
theorem zAZ {L:Nat} (hL:L≤8) {u v:Nat} (a1:∀ i,u.testBit i=true→v.testBit i=true) (a2:∀ i,v.testBit i=true→i < L):u < 256∧v < 256 :=
 ⟨yi fun i hi=>by have:=a2 i (a1 i hi); omega,yi fun i hi=>by have:=a2 i hi; omega⟩
theorem Lq.antisymm {L:Nat} {l o:P2} (hl:LockOk L l) (ho:LockOk L o) (h:Lq l o) (g:Lq o l):l=o:=by
 obtain ⟨u,v,rfl,_,_⟩:=hl.ex
 obtain ⟨u',v',rfl,_,_⟩:=ho.ex
 have e1:u=u':=Nat.eq_of_testBit_eq fun i=>by
  have h1:=h.1 i
  have g1:=g.1 i
  dsimp only [Int.toNat_natCast] at h1 g1
  cases hb:u.testBit i <;> cases hb':u'.testBit i <;> simp_all
 have e2:v=v':=Nat.eq_of_testBit_eq fun i=>by
  have h1:=h.2 i
  have g1:=g.2 i
  dsimp only [Int.toNat_natCast] at h1 g1
  cases hb:v.testBit i <;> cases hb':v'.testBit i <;> simp_all
 rw [e1,e2]
theorem Lq.meet {L:Nat} (hL:L≤8) {l o:P2} (hl:LockOk L l) (ho:LockOk L o):Lq l (ym l.1 o.1,orI l.2 o.2)∧Lq o (ym l.1 o.1,orI l.2 o.2)∧∀ b,Lq l b→Lq o b→Lq (ym l.1 o.1,orI l.2 o.2) b:=by
 obtain ⟨u,v,rfl,a1,a2⟩:=hl.ex
 obtain ⟨u',v',rfl,b1,b2⟩:=ho.ex
 obtain ⟨hu,hv⟩:=zAZ hL a1 a2
 obtain ⟨hu',hv'⟩:=zAZ hL b1 b2
 dsimp only
 rw [uc hu hu',uH hv hv']
 refine ⟨⟨fun i h=>?_,fun i h=>?_⟩,⟨fun i h=>?_,fun i h=>?_⟩,fun b h g=>⟨fun i e=>?_,fun i e=>?_⟩⟩
 all_goals simp only [Int.toNat_natCast,Nat.testBit_and,Nat.testBit_or,Bool.and_eq_true,Bool.or_eq_true] at *
 ·exact h.1
 ·exact .inl h
 ·exact h.2
 ·exact .inr h
 ·have h1:=h.1 i e
  have g1:=g.1 i e
  simp only [Int.toNat_natCast] at h1 g1
  exact ⟨h1,g1⟩
 ·rcases e with e | e
  ·exact h.2 i (by simpa using e)
  ·exact g.2 i (by simpa using e)
theorem Lq.leave {L:Nat} (hL:L≤8) {l o:P2} {p:MOp} (hl:LockOk L l) (ho:LockOk L o) (ha:p.kind=16∨p.kind=17→0≤p.a∧p.a < L) (h:Lq l o):Lq (xK p l) (xK p o):=by
 obtain ⟨u,v,rfl,a1,a2⟩:=hl.ex
 obtain ⟨u',v',rfl,b1,b2⟩:=ho.ex
 obtain ⟨hu,hv⟩:=zAZ hL a1 a2
 obtain ⟨hu',hv'⟩:=zAZ hL b1 b2
 have h1:=h.1
 have h2:=h.2
 simp only [Int.toNat_natCast] at h1 h2
 have hp:∀ {a:Int},0≤a∧a < L→(2 ^ a.toNat:Nat) < 256:=fun {a} h=>by
  have:(2:Nat) ^ a.toNat < 2 ^ 8:=Nat.pow_lt_pow_right (by omega) (by omega)
  exact this
 unfold xK
 by_cases h16:p.kind=16
 ·have hb:=ha (.inl h16)
  rw [if_pos h16,if_pos h16]
  dsimp only
  rw [kn (by omega),uH hu (hp hb),uH hv (hp hb),uH hu' (hp hb),uH hv' (hp hb)]
  refine ⟨fun i e=>?_,fun i e=>?_⟩
  ·simp only [Int.toNat_natCast,Nat.testBit_or,Bool.or_eq_true] at e ⊢
   exact e.imp (h1 i) id
  ·simp only [Int.toNat_natCast,Nat.testBit_or,Bool.or_eq_true] at e ⊢
   exact e.imp (h2 i) id
 ·rw [if_neg h16,if_neg h16]
  by_cases h17:p.kind=17
  ·have hb:=ha (.inr h17)
   rw [if_pos h17,if_pos h17]
   dsimp only
   rw [kn (by omega)]
   obtain ⟨w1,e1,q1⟩:=wc hu (hp hb)
   obtain ⟨w2,e2,q2⟩:=wc hv (hp hb)
   obtain ⟨w3,e3,q3⟩:=wc hu' (hp hb)
   obtain ⟨w4,e4,q4⟩:=wc hv' (hp hb)
   rw [e1,e2,e3,e4]
   refine ⟨fun i e=>?_,fun i e=>?_⟩
   ·simp only [Int.toNat_natCast] at e ⊢
    rw [q3,Bool.and_eq_true] at e
    rw [q1,h1 i e.1,e.2]; rfl
   ·simp only [Int.toNat_natCast] at e ⊢
    rw [q2,Bool.and_eq_true] at e
    rw [q4,h2 i e.1,e.2]; rfl
  ·rw [if_neg h17,if_neg h17]
   exact h
def Cov (B:P2→Option P2) (p l:P2):Prop:=∃ o,B p=some o∧Lq l o
theorem Cov.less {B:P2→Option P2} {p l k:P2} (h:Cov B p l) (g:Lq k l):Cov B p k:=by
 obtain ⟨o,e,q⟩:=h
 exact ⟨o,e,g.trans q⟩
structure Flow (m:MModule) (B:P2→Option P2) (p l:P2):Prop where
 call:((m.fn p.1).op p.2).kind=22→Cov B (((m.fn p.1).op p.2).a,0) l
 back:((m.fn p.1).op p.2).kind=22→∀ (k:Nat) (h:k < (m.fn ((m.fn p.1).op p.2).a).code.length) (e:P2),(m.fn ((m.fn p.1).op p.2).a).code[k].kind=23→B (((m.fn p.1).op p.2).a,(k:Int))=some e→Cov B (p.1,((m.fn p.1).op p.2).next) e
 els:((m.fn p.1).op p.2).kind≠22→((m.fn p.1).op p.2).kind≠23→((m.fn p.1).op p.2).kind=21→Cov B (p.1,((m.fn p.1).op p.2).els) l
 next:((m.fn p.1).op p.2).kind≠22→((m.fn p.1).op p.2).kind≠23→Cov B (p.1,((m.fn p.1).op p.2).next) (xK ((m.fn p.1).op p.2) l)
structure Closed (m:MModule) (Lk:Nat) (f0:Int) (B:P2→Option P2):Prop where
 ok:∀ p l,B p=some l→LockOk Lk l
 start:Cov B (f0,0) (0,0)
 step:∀ p l,B p=some l→Flow m B p l
theorem ok0 (L:Nat):LockOk L (0,0):=⟨0,0,rfl,fun i h=>h,fun i h=>by simp at h⟩
structure Mn (x y:Fp):Prop where
 cov:∀ p l,Cov (zL x.at_) p l→Cov (zL y.at_) p l
 callers:y.callers=x.callers
 old:∀ p l,zL y.at_ p=some l→p∈y.row∨zL x.at_ p=some l
 row:∀ p∈x.row,p∈y.row
theorem Mn.refl (x:Fp):Mn x x:=⟨fun _ _ h=>h,rfl,fun _ _ h=>.inr h,fun _ h=>h⟩
theorem Mn.trans {x y z:Fp} (h:Mn x y) (k:Mn y z):Mn x z:=⟨fun p l c=>k.cov p l (h.cov p l c),k.callers.trans h.callers,fun p l e=>by
 rcases k.old p l e with e | e
 ·exact .inl e
 ·rcases h.old p l e with e | e
  ·exact .inl (k.row p e)
  ·exact .inr e,fun p hp=>k.row p (h.row p hp)⟩
def OkA (Lk:Nat) (A:AtM):Prop:=∀ p l,zL A p=some l→LockOk Lk l
theorem put_cov {Lk:Nat} (hL:Lk≤8) {A:AtM} (hA:OkA Lk A) {q k:P2} (hk:LockOk Lk k):(∀ p l,Cov (zL A) p l→Cov (zL (ul A q (meet A q k))) p l)∧Cov (zL (ul A q (meet A q k))) q k∧OkA Lk (ul A q (meet A q k)):=by
 refine ⟨fun p l ⟨o,e,h⟩=>?_,⟨meet A q k,by rw [yW,if_pos rfl],?_⟩,fun p l e=>?_⟩
 ·by_cases hp:p=q
  ·subst hp
   refine ⟨meet A p k,by rw [yW,if_pos rfl],?_⟩
   have em:meet A p k=(ym k.1 o.1,orI k.2 o.2):=by unfold meet; rw [e]
   rw [em]
   exact h.trans (Lq.meet hL hk (hA p o e)).2.1
  ·exact ⟨o,by rw [yW,if_neg hp]; exact e,h⟩
 ·unfold meet
  cases hf:zL A q with
  | none=>exact .refl _
  | some o=>exact (Lq.meet hL hk (hA q o hf)).1
 ·rw [yW] at e
  split at e
  ·cases e
   exact meet_ok hL (fun o ho=>hA q o ho) hk
  ·exact hA p l e
theorem uJ {Lk:Nat} (hL:Lk≤8) {x:Fp} (hx:OkA Lk x.at_) {q k:P2} (hk:LockOk Lk k):Mn x (yP x q k)∧Cov (zL (yP x q k).at_) q k∧OkA Lk (yP x q k).at_:=by
 obtain ⟨h1,h2,h3⟩:=put_cov hL hx (q:=q) hk
 unfold yP
 by_cases hc:zL x.at_ q=some (meet x.at_ q k)
 ·rw [if_pos hc]
  refine ⟨.refl x,⟨_,hc,?_⟩,hx⟩
  obtain ⟨o,e,h⟩:=h2
  rw [yW,if_pos rfl] at e
  cases e
  exact h
 ·rw [if_neg hc]
  refine ⟨⟨h1,rfl,fun p l e=>?_,fun p hp=>List.mem_append_left _ hp⟩,h2,h3⟩
  dsimp only at e ⊢
  rw [yW] at e
  split at e
  ·next hp=>subst hp; exact .inl (by simp)
  ·exact .inr e
theorem mn_fold {Lk:Nat} (hL:Lk≤8) {k:P2} (hk:LockOk Lk k):∀ (bs:List P2) {x:Fp},OkA Lk x.at_→Mn x (bs.foldl (fun x b=>yP x b k) x)∧(∀ b∈bs,Cov (zL (bs.foldl (fun x b=>yP x b k) x).at_) b k)∧OkA Lk (bs.foldl (fun x b=>yP x b k) x).at_
 | [],x,hx=>⟨.refl x,(fun b hb=>by cases hb),hx⟩
 | b::bs,x,hx=>by
   obtain ⟨h1,h2,h3⟩:=uJ hL hx (q:=b) hk
   obtain ⟨g1,g2,g3⟩:=mn_fold hL hk bs h3
   refine ⟨h1.trans g1,fun c hc=>?_,g3⟩
   rcases List.mem_cons.1 hc with rfl | hc
   ·exact g1.cov _ _ h2
   ·exact g2 c hc
theorem mn_ret {Lk:Nat} (hL:Lk≤8) {a:Int} {b:P2}:∀ (c:List MOp) (i:Nat) {x:Fp},OkA Lk x.at_→Mn x (yI x a b i c)∧OkA Lk (yI x a b i c).at_∧∀ (j:Nat) (h:j < c.length) (e:P2),c[j].kind=23→zL (yI x a b i c).at_ (a,((i+j:Nat):Int))=some e→(a,((i+j:Nat):Int))∈(yI x a b i c).row∨Cov (zL (yI x a b i c).at_) b e
 | [],i,x,hx=>⟨.refl x,hx,fun j h=>by cases h⟩
 | o::c,i,x,hx=>by
   unfold yI
   have step:∀ x',Mn x x'→OkA Lk x'.at_→(∀ e,o.kind=23→zL x.at_ (a,(i:Int))=some e→Cov (zL x'.at_) b e) →
     Mn x (yI x' a b (i+1) c)∧OkA Lk (yI x' a b (i+1) c).at_∧∀ (j:Nat) (h:j < (o::c).length) (e:P2),(o::c)[j].kind=23→zL (yI x' a b (i+1) c).at_ (a,((i+j:Nat):Int))=some e→(a,((i+j:Nat):Int))∈(yI x' a b (i+1) c).row∨Cov (zL (yI x' a b (i+1) c).at_) b e:=fun x' m1 ok1 hc=>by
    obtain ⟨g1,g2,g3⟩:=mn_ret hL (a:=a) (b:=b) c (i+1) ok1
    refine ⟨m1.trans g1,g2,fun j h e hk he=>?_⟩
    cases j with
    | zero =>
      rw [Nat.add_zero] at he ⊢
      rcases (m1.trans g1).old _ _ he with h1 | h1
      ·exact .inl h1
      ·exact .inr (g1.cov _ _ (hc e hk h1))
    | succ j =>
      have e2:i+(j+1)=i+1+j:=by omega
      rw [e2] at he ⊢
      exact g3 j (by simpa using h) e hk he
   cases hf:zL x.at_ (a,(i:Int)) with
   | none=>exact step x (.refl x) hx fun e _ he=>by rw [hf] at he; cases he
   | some e0 =>
     dsimp only
     by_cases hk:o.kind=23
     ·rw [if_pos hk]
      obtain ⟨h1,h2,h3⟩:=uJ hL hx (q:=b) (hx _ e0 hf)
      exact step _ h1 h3 fun e _ he=>by rw [hf] at he; cases he; exact h2
     ·rw [if_neg hk]
      exact step x (.refl x) hx fun e hk2 _=>absurd hk2 hk
structure Flow1 (m:MModule) (PB:P2→P2→Prop) (x:Fp) (p l:P2):Prop where
 ret:((m.fn p.1).op p.2).kind=23→∀ b∈(y9 x.callers p.1).getD [],PB p b∨Cov (zL x.at_) b l
 call:((m.fn p.1).op p.2).kind=22→Cov (zL x.at_) (((m.fn p.1).op p.2).a,0) l∧(p.1,((m.fn p.1).op p.2).next)∈(y9 x.callers ((m.fn p.1).op p.2).a).getD []
 els:((m.fn p.1).op p.2).kind≠22→((m.fn p.1).op p.2).kind≠23→((m.fn p.1).op p.2).kind=21→Cov (zL x.at_) (p.1,((m.fn p.1).op p.2).els) l
 next:((m.fn p.1).op p.2).kind≠22→((m.fn p.1).op p.2).kind≠23→Cov (zL x.at_) (p.1,((m.fn p.1).op p.2).next) (xK ((m.fn p.1).op p.2) l)
theorem Flow1.mono {m:MModule} {PB:P2→P2→Prop} {x y:Fp} (k:Mn x y) {p l:P2} (h:Flow1 m PB x p l):Flow1 m PB y p l :=
 ⟨fun e b hb=>(h.ret e b (by rw [k.callers] at hb; exact hb)).imp id (k.cov _ _),fun e=>⟨k.cov _ _ (h.call e).1,by rw [k.callers]; exact (h.call e).2⟩,fun a b c=>k.cov _ _ (h.els a b c),fun a b=>k.cov _ _ (h.next a b)⟩
structure Wi (m:MModule) (f0:Int) (E:P2→Prop) (PB:P2→P2→Prop) (x:Fp):Prop where
 start:Cov (zL x.at_) (f0,0) (0,0)
 all:∀ p l,zL x.at_ p=some l→p∈x.row∨E p∨Flow1 m PB x p l
theorem Wi.mono {m:MModule} {f0:Int} {E:P2→Prop} {PB:P2→P2→Prop} {x y:Fp} (h:Wi m f0 E PB x) (k:Mn x y):Wi m f0 E PB y:=⟨k.cov _ _ h.start,fun p l e=>by
 rcases k.old p l e with e | e
 ·exact .inl e
 ·rcases h.all p l e with e | e | e
  ·exact .inl (k.row p e)
  ·exact .inr (.inl e)
  ·exact .inr (.inr (e.mono k))⟩
def No (_:P2):Prop:=False
def NoB (_ _:P2):Prop:=False
theorem wi_leave {m:MModule} {f0:Int} {Lk:Nat} (hL:Lk≤8) {x:Fp} (hi:Inv m Lk x) {p:P2} (hp:xA m p) (ho:OpFacts m Lk p ((m.fn p.1).op p.2)) (h:Wi m f0 (fun q=>q=p) NoB x) (hs:∃ l,zL x.at_ p=some l):Wi m f0 No NoB (xU m x p):=by
 have hx:OkA Lk x.at_:=fun q l e=>(hi.at_ q l e).2
 have hiy:=(qU hL hi ho).1
 obtain ⟨l,hl⟩:=hs
 have hlk:=hx p l hl
 have eg:(zL x.at_ p).getD (0,0)=l:=by rw [hl]; rfl
 unfold xU at hiy ⊢
 rw [eg] at hiy ⊢
 dsimp only at hiy ⊢
 have fin:∀ y,Mn x y→Flow1 m NoB y p l→Wi m f0 No NoB y:=fun y k fl=>by
  have w:=h.mono k
  refine ⟨w.start,fun q k2 e=>?_⟩
  rcases w.all q k2 e with e1 | e1 | e1
  ·exact .inl e1
  ·subst e1
   rcases k.old _ _ e with e2 | e2
   ·exact .inl e2
   ·rw [hl] at e2; cases e2
    exact .inr (.inr fl)
  ·exact .inr (.inr e1)
 by_cases h23:((m.fn p.1).op p.2).kind=23
 ·rw [if_pos h23] at hiy ⊢
  obtain ⟨k1,k2,k3⟩:=mn_fold hL hlk ((y9 x.callers p.1).getD []) hx
  refine fin _ k1 ⟨fun _ b hb=>.inr (k2 b (by rw [k1.callers] at hb; exact hb)),fun e=>?_,fun _ e=>absurd h23 e,fun _ e=>absurd h23 e⟩
  rw [h23] at e; cases e
 ·rw [if_neg h23] at hiy ⊢
  by_cases h22:((m.fn p.1).op p.2).kind=22
  ·rw [if_pos h22] at hiy ⊢
   unfold callP at hiy ⊢
   generalize ha:((m.fn p.1).op p.2).a=a at hiy ⊢
   generalize hb:(p.1,((m.fn p.1).op p.2).next)=b at hiy ⊢
   have hin:b∈(y9 (yJ x a b).callers a).getD []:=by
    unfold yJ
    split
    ·next hany =>
     rw [List.any_eq_true] at hany
     obtain ⟨q,hq,e⟩:=hany
     have:=of_decide_eq_true e
     subst this; exact hq
    ·dsimp only
     rw [ko,if_pos rfl]
     simp
   have hold:∀ a' c,c∈(y9 (yJ x a b).callers a').getD []→c∈(y9 x.callers a').getD []∨(a'=a∧c=b):=fun a' c hc=>by
    unfold yJ at hc
    split at hc
    ·exact .inl hc
    ·dsimp only at hc
     rw [ko] at hc
     split at hc
     ·next e =>
      subst e
      simp only [Option.getD_some,List.mem_append,List.mem_singleton] at hc
      exact hc.imp id fun e=>⟨rfl,e⟩
     ·exact .inl hc
   have hnew:∀ a' c,c∈(y9 x.callers a').getD []→c∈(y9 (yJ x a b).callers a').getD []:=fun a' c hc=>by
    unfold yJ
    split
    ·exact hc
    ·dsimp only
     rw [ko]
     split
     ·next e=>subst e; simp [hc]
     ·exact hc
   have eat:(yJ x a b).at_=x.at_:=by unfold yJ; split <;> rfl
   have erow:(yJ x a b).row=x.row:=by unfold yJ; split <;> rfl
   have w1:Wi m f0 (fun q=>q=p) (fun r c=>r.1=a∧c=b) (yJ x a b):=⟨by rw [eat]; exact h.start,fun q k e=>by
    rw [eat] at e
    rcases h.all q k e with e1 | e1 | e1
    ·exact .inl (by rw [erow]; exact e1)
    ·exact .inr (.inl e1)
    ·refine .inr (.inr ⟨fun hk c hc=>?_,fun hk=>?_,fun a b c=>?_,fun a b=>?_⟩)
     ·rw [eat]
      rcases hold _ _ hc with hc | hc
      ·exact .inr ((e1.ret hk c hc).resolve_left id)
      ·exact .inl hc
     ·rw [eat]; exact ⟨(e1.call hk).1,hnew _ _ (e1.call hk).2⟩
     ·rw [eat]; exact e1.els a b c
     ·rw [eat]; exact e1.next a b⟩
   have ok1:OkA Lk (yJ x a b).at_:=by rw [eat]; exact hx
   obtain ⟨k1,k2,k3⟩:=uJ hL ok1 (q:=(a,0)) hlk
   obtain ⟨g1,g2,g3⟩:=mn_ret hL (a:=a) (b:=b) (m.fn a).code 0 k3
   have w2:=(w1.mono k1).mono g1
   have k12:=k1.trans g1
   refine ⟨w2.start,fun q k e=>?_⟩
   by_cases hrow:q∈(yI (yP (yJ x a b) (a,0) l) a b 0 (m.fn a).code).row
   ·exact .inl hrow
   ·refine .inr (.inr ?_)
    rcases w2.all q k e with e1 | e1 | e1
    ·exact absurd e1 hrow
    ·subst e1
     have e2:zL x.at_ q=some k:=by
      rcases k12.old _ _ e with e2 | e2
      ·exact absurd e2 hrow
      ·rw [eat] at e2; exact e2
     rw [hl] at e2; cases e2
     refine ⟨fun e=>absurd e h23,fun _=>⟨by rw [ha]; exact g1.cov _ _ k2,?_⟩,fun e=>absurd h22 e,fun e=>absurd h22 e⟩
     rw [ha,hb,k12.callers]; exact hin
    ·refine ⟨fun hk c hc=>?_,e1.call,e1.els,e1.next⟩
     rcases e1.ret hk c hc with ⟨e2,e3⟩ | e2
     ·subst e3
      have hq:=(hiy.at_ q k e).1
      obtain ⟨q1,q2⟩:=q
      dsimp only at e2
      subst e2
      have hq2:0≤q2∧q2 < (m.fn q1).code.length:=hq.2
      have hqn:((0+q2.toNat:Nat):Int)=q2:=by omega
      have hop:(m.fn q1).code[q2.toNat].kind=23:=by
       have:(m.fn q1).op q2=(m.fn q1).code[q2.toNat]'(by omega):=by
        unfold MFunc.op
        rw [List.getElem?_eq_getElem (by omega)]; rfl
       rw [← this]; exact hk
      have:=g3 q2.toNat (by omega) k hop (by rw [hqn]; exact e)
      rw [hqn] at this
      exact .inr (this.resolve_left hrow)
     ·exact .inr e2
  ·rw [if_neg h22] at hiy ⊢
   by_cases h21:((m.fn p.1).op p.2).kind=21
   ·rw [if_pos h21] at hiy ⊢
    obtain ⟨k1,k2,k3⟩:=uJ hL hx (q:=(p.1,((m.fn p.1).op p.2).els)) hlk
    obtain ⟨g1,g2,g3⟩:=uJ hL k3 (q:=(p.1,((m.fn p.1).op p.2).next)) (hlk.leave hL ho.lock)
    exact fin _ (k1.trans g1) ⟨fun e=>absurd e h23,fun e=>absurd e h22,fun _ _ _=>g1.cov _ _ k2,fun _ _=>g2⟩
   ·rw [if_neg h21] at hiy ⊢
    obtain ⟨g1,g2,g3⟩:=uJ hL hx (q:=(p.1,((m.fn p.1).op p.2).next)) (hlk.leave hL ho.lock)
    exact fin _ g1 ⟨fun e=>absurd e h23,fun e=>absurd e h22,fun _ _ e=>absurd e h21,fun _ _=>g2⟩
end Go.Vw
namespace Go.Vw
open Go.RowKit Go.Am Go.Proofs
theorem op_nat (f:MFunc) (k:Nat) (h:k < f.code.length):f.op (k:Int)=f.code[k]:=by
 unfold MFunc.op
 rw [Int.toNat_natCast,List.getElem?_eq_getElem h]; rfl
theorem wi_done {m:MModule} {f0:Int} {Lk:Nat} (hL:Lk≤8) (ho:∀ p,xA m p→OpFacts m Lk p ((m.fn p.1).op p.2)) {x y:Fp} (h:Done m x y):Inv m Lk x→(∀ p∈x.row,∃ l,zL x.at_ p=some l)→Wi m f0 No NoB x→Closed m Lk f0 (zL y.at_):=by
 induction h with
 | @stop x hrow =>
   intro hi _ hw
   refine ⟨fun p l e=>(hi.at_ p l e).2,hw.start,fun p l e=>?_⟩
   rcases hw.all p l e with e1 | e1 | e1
   ·rw [hrow] at e1; cases e1
   ·exact e1.elim
   ·refine ⟨fun hk=>(e1.call hk).1,fun hk k hkl e2 hk2 he2=>?_,e1.els,e1.next⟩
    have hv:xA m (((m.fn p.1).op p.2).a,(k:Int)):=(hi.at_ _ _ he2).1
    rcases hw.all _ _ he2 with e3 | e3 | e3
    ·rw [hrow] at e3; cases e3
    ·exact e3.elim
    ·have hop:((m.fn (((m.fn p.1).op p.2).a)).op (k:Int))=(m.fn ((m.fn p.1).op p.2).a).code[k]:=op_nat _ _ hkl
     exact (e3.ret (by rw [hop]; exact hk2) _ (e1.call hk).2).resolve_left id
 | @step x y p r hrow _ ih =>
   intro hi hin hw
   have hp:=hi.row p (by rw [hrow]; exact List.mem_cons_self ..)
   have hi':Inv m Lk { x with row:=r }:=⟨hi.at_,fun q hq=>hi.row q (by rw [hrow]; exact List.mem_cons_of_mem _ hq),hi.callers⟩
   have hok:OkA Lk x.at_:=fun q l e=>(hi.at_ q l e).2
   have hs:=hin p (by rw [hrow]; exact List.mem_cons_self ..)
   have hw':Wi m f0 (fun q=>q=p) NoB { x with row:=r }:=⟨hw.start,fun q k e=>by
    rcases hw.all q k e with e1 | e1 | e1
    ·rw [hrow] at e1
     rcases List.mem_cons.1 e1 with e1 | e1
     ·exact .inr (.inl e1)
     ·exact .inl e1
    ·exact e1.elim
    ·exact .inr (.inr ⟨e1.ret,e1.call,e1.els,e1.next⟩)⟩
   refine ih (qU hL hi' (ho p hp)).1 ?_ (wi_leave hL hi' hp (ho p hp) hw' hs)
   have rowOk:∀ z:Fp,(∀ q∈z.row,∃ l,zL z.at_ q=some l)→∀ q k,∀ q'∈(yP z q k).row,∃ l,zL (yP z q k).at_ q'=some l:=fun z hz q k q' hq'=>by
    unfold yP at hq' ⊢
    split at hq'
    ·next hc=>rw [if_pos hc]; exact hz q' hq'
    ·next hc =>
     rw [if_neg hc]
     dsimp only at hq' ⊢
     rw [yW]
     by_cases e:q'=q
     ·rw [if_pos e]; exact ⟨_,rfl⟩
     ·rw [if_neg e]
      rcases List.mem_append.1 hq' with h | h
      ·exact hz q' h
      ·exact absurd (List.mem_singleton.1 h) e
   have rowBack:∀ z:Fp,(∀ q∈z.row,∃ l,zL z.at_ q=some l)→∀ a b,∀ q'∈(yJ z a b).row,∃ l,zL (yJ z a b).at_ q'=some l:=fun z hz a b=>by
    unfold yJ
    split <;> exact hz
   have rowRet:∀ (c:List MOp) (a:Int) (b:P2) (i:Nat) (z:Fp),(∀ q∈z.row,∃ l,zL z.at_ q=some l)→∀ q'∈(yI z a b i c).row,∃ l,zL (yI z a b i c).at_ q'=some l:=fun c=>by
    induction c with
    | nil=>intro a b i z hz; exact hz
    | cons o c ih2 =>
      intro a b i z hz
      unfold yI
      refine ih2 a b (i+1) _ ?_
      cases zL z.at_ (a,(i:Int)) with
      | none=>exact hz
      | some e =>
        dsimp only
        split
        ·exact rowOk z hz _ _
        ·exact hz
   have rowFold:∀ (bs:List P2) (k:P2) (z:Fp),(∀ q∈z.row,∃ l,zL z.at_ q=some l)→∀ q'∈(bs.foldl (fun z b=>yP z b k) z).row,∃ l,zL (bs.foldl (fun z b=>yP z b k) z).at_ q'=some l:=fun bs=>by
    induction bs with
    | nil=>intro k z hz; exact hz
    | cons b bs ih2=>intro k z hz; exact ih2 k _ (rowOk z hz _ _)
   have hz:∀ q∈r,∃ l,zL x.at_ q=some l:=fun q hq=>hin q (by rw [hrow]; exact List.mem_cons_of_mem _ hq)
   unfold xU
   dsimp only
   split
   ·exact rowFold _ _ { x with row:=r } hz
   ·split
    ·exact rowRet _ _ _ _ _ (rowOk _ (rowBack { x with row:=r } hz _ _) _ _)
    ·refine rowOk _ ?_ _ _
     split
     ·exact rowOk { x with row:=r } hz _ _
     ·exact hz
def Bel (B:P2→Option P2) (A:AtM):Prop:=∀ p l,zL A p=some l→Cov B p l
theorem put_bel {Lk:Nat} (hL:Lk≤8) {B:P2→Option P2} (hB:∀ p l,B p=some l→LockOk Lk l) {A:AtM} (hA:OkA Lk A) (h:Bel B A) {q k:P2} (hk:LockOk Lk k) (hc:Cov B q k):Bel B (ul A q (meet A q k)):=fun p l e=>by
 rw [yW] at e
 split at e
 ·next hp =>
  subst hp; cases e
  obtain ⟨o,e1,e2⟩:=hc
  refine ⟨o,e1,?_⟩
  unfold meet
  cases hf:zL A p with
  | none=>exact e2
  | some k2 =>
    obtain ⟨o',e3,e4⟩:=h p k2 hf
    rw [e1] at e3; cases e3
    exact (Lq.meet hL hk (hA p k2 hf)).2.2 o e2 e4
 ·exact h p l e
theorem comeP_bel {Lk:Nat} (hL:Lk≤8) {B:P2→Option P2} (hB:∀ p l,B p=some l→LockOk Lk l) {x:Fp} (hA:OkA Lk x.at_) (h:Bel B x.at_) {q k:P2} (hk:LockOk Lk k) (hc:Cov B q k):Bel B (yP x q k).at_∧OkA Lk (yP x q k).at_∧(yP x q k).callers=x.callers:=by
 refine ⟨?_,(uJ hL hA hk).2.2,(uJ hL hA hk).1.callers⟩
 unfold yP
 split
 ·exact h
 ·exact put_bel hL hB hA h hk hc
structure BlP (m:MModule) (Lk:Nat) (B:P2→Option P2) (x:Fp):Prop where
 bel:Bel B x.at_
 ok:OkA Lk x.at_
 callers:∀ a b,b∈(y9 x.callers a).getD []→∀ (k:Nat) (h:k < (m.fn a).code.length) (e:P2),(m.fn a).code[k].kind=23→B (a,(k:Int))=some e→Cov B b e
theorem BlP.come {m:MModule} {Lk:Nat} (hL:Lk≤8) {B:P2→Option P2} (hB:∀ p l,B p=some l→LockOk Lk l) {x:Fp} (h:BlP m Lk B x) {q k:P2} (hk:LockOk Lk k) (hc:Cov B q k):BlP m Lk B (yP x q k):=by
 obtain ⟨h1,h2,h3⟩:=comeP_bel hL hB h.ok h.bel hk hc
 exact ⟨h1,h2,fun a b hb=>h.callers a b (by rw [h3] at hb; exact hb)⟩
theorem op_at {m:MModule} {p:P2} (hp:xA m p):∃ k:Nat,∃ h:k < (m.fn p.1).code.length,p=(p.1,(k:Int))∧(m.fn p.1).op p.2=(m.fn p.1).code[k]:=by
 obtain ⟨_,h2,h3⟩:=hp
 refine ⟨p.2.toNat,by omega,by rw [Int.toNat_of_nonneg h2],?_⟩
 unfold MFunc.op
 rw [List.getElem?_eq_getElem (by omega)]; rfl
theorem blp_leave {m:MModule} {f0:Int} {Lk:Nat} (hL:Lk≤8) {B:P2→Option P2} (hB:Closed m Lk f0 B) {x:Fp} (h:BlP m Lk B x) {p:P2} (hp:xA m p) (ho:OpFacts m Lk p ((m.fn p.1).op p.2)) (hs:∃ l,zL x.at_ p=some l):BlP m Lk B (xU m x p):=by
 obtain ⟨l,hl⟩:=hs
 have hlk:=h.ok p l hl
 obtain ⟨l',hl',hq⟩:=h.bel p l hl
 have fl:=hB.step p l' hl'
 have hlk':=hB.ok p l' hl'
 have eg:(zL x.at_ p).getD (0,0)=l:=by rw [hl]; rfl
 unfold xU
 rw [eg]
 dsimp only
 by_cases h23:((m.fn p.1).op p.2).kind=23
 ·rw [if_pos h23]
  obtain ⟨k,hk,ep,eo⟩:=op_at hp
  have key:∀ b∈(y9 x.callers p.1).getD [],Cov B b l:=fun b hb=>(h.callers p.1 b hb k hk l' (by rw [← eo]; exact h23) (by rw [← ep]; exact hl')).less hq
  have fold:∀ (bs:List P2) (z:Fp),BlP m Lk B z→(∀ b∈bs,Cov B b l)→BlP m Lk B (bs.foldl (fun z b=>yP z b l) z):=fun bs=>by
   induction bs with
   | nil=>intro z hz _; exact hz
   | cons b bs ih=>intro z hz hb; exact ih _ (hz.come hL hB.ok hlk (hb b (List.mem_cons_self ..))) fun c hc=>hb c (List.mem_cons_of_mem _ hc)
  exact fold _ x h key
 ·rw [if_neg h23]
  by_cases h22:((m.fn p.1).op p.2).kind=22
  ·rw [if_pos h22]
   unfold callP
   have hback:BlP m Lk B (yJ x ((m.fn p.1).op p.2).a (p.1,((m.fn p.1).op p.2).next)):=by
    unfold yJ
    split
    ·exact h
    ·refine ⟨h.bel,h.ok,fun a b hb k hk e hk2 he=>?_⟩
     dsimp only at hb
     rw [ko] at hb
     split at hb
     ·next e2 =>
      subst e2
      simp only [Option.getD_some,List.mem_append,List.mem_singleton] at hb
      rcases hb with hb | rfl
      ·exact h.callers _ b hb k hk e hk2 he
      ·exact fl.back h22 k hk e hk2 he
     ·exact h.callers a b hb k hk e hk2 he
   have h2:=hback.come hL hB.ok hlk ((fl.call h22).less hq)
   have ret:∀ (c:List MOp) (i:Nat) (z:Fp),BlP m Lk B z→(∀ (j:Nat) (h:j < c.length) (e:P2),c[j].kind=23→B (((m.fn p.1).op p.2).a,((i+j:Nat):Int))=some e→Cov B (p.1,((m.fn p.1).op p.2).next) e)→BlP m Lk B (yI z ((m.fn p.1).op p.2).a (p.1,((m.fn p.1).op p.2).next) i c):=fun c=>by
    induction c with
    | nil=>intro i z hz _; exact hz
    | cons o c ih =>
      intro i z hz hc
      unfold yI
      refine ih (i+1) _ ?_ fun j hj e hk he=>hc (j+1) (by simpa using hj) e hk (by rw [show i+(j+1)=i+1+j by omega]; exact he)
      cases hf:zL z.at_ (((m.fn p.1).op p.2).a,(i:Int)) with
      | none=>exact hz
      | some e =>
        dsimp only
        split
        ·next hk =>
         obtain ⟨e',he',hqe⟩:=hz.bel _ e hf
         exact hz.come hL hB.ok (hz.ok _ e hf) ((hc 0 (by simp) e' hk (by rw [Nat.add_zero]; exact he')).less hqe)
        ·exact hz
   refine ret _ 0 _ h2 fun j hj e hk he=>fl.back h22 j hj e hk (by rw [Nat.zero_add] at he; exact he)
  ·rw [if_neg h22]
   have hn:Cov B (p.1,((m.fn p.1).op p.2).next) (xK ((m.fn p.1).op p.2) l):=(fl.next h22 h23).less (hq.leave hL hlk hlk' ho.lock)
   refine BlP.come hL hB.ok ?_ (hlk.leave hL ho.lock) hn
   split
   ·next h21=>exact h.come hL hB.ok hlk ((fl.els h22 h23 h21).less hq)
   ·exact h
end Go.Vw
namespace Go.Vw
open Go.RowKit Go.Am Go.Proofs
def kz (z:Fp):Prop:=∀ q∈z.row,∃ l,zL z.at_ q=some l
theorem vO {z:Fp} (hz:kz z) (q k:P2):kz (yP z q k):=fun q' hq'=>by
 unfold yP at hq' ⊢
 split at hq'
 ·next hc=>rw [if_pos hc]; exact hz q' hq'
 ·next hc =>
  rw [if_neg hc]
  dsimp only at hq' ⊢
  rw [yW]
  by_cases e:q'=q
  ·rw [if_pos e]; exact ⟨_,rfl⟩
  ·rw [if_neg e]
   rcases List.mem_append.1 hq' with h | h
   ·exact hz q' h
   ·exact absurd (List.mem_singleton.1 h) e
theorem found_ret {a:Int} {b:P2}:∀ (c:List MOp) (i:Nat) {z:Fp},kz z→kz (yI z a b i c)
 | [],_,_,h=>h
 | o::c,i,z,h=>by
   unfold yI
   refine found_ret c (i+1) ?_
   cases zL z.at_ (a,(i:Int)) with
   | none=>exact h
   | some e =>
     dsimp only
     split
     ·exact vO h _ _
     ·exact h
theorem zFC {k:P2}:∀ (bs:List P2) {z:Fp},kz z→kz (bs.foldl (fun z b=>yP z b k) z)
 | [],_,h=>h
 | b::bs,_,h=>zFC bs (vO h _ _)
theorem found_leave {m:MModule} {z:Fp} (h:kz z) (p:P2):kz (xU m z p):=by
 unfold xU
 dsimp only
 split
 ·exact zFC _ h
 ·split
  ·refine found_ret _ _ (vO ?_ _ _)
   unfold yJ
   split <;> exact h
  ·refine vO ?_ _ _
   split
   ·exact vO h _ _
   ·exact h
theorem blp_done {m:MModule} {f0:Int} {Lk:Nat} (hL:Lk≤8) (ho:∀ p,xA m p→OpFacts m Lk p ((m.fn p.1).op p.2)) {B:P2→Option P2} (hB:Closed m Lk f0 B) {x y:Fp} (h:Done m x y):Inv m Lk x→kz x→BlP m Lk B x→BlP m Lk B y:=by
 induction h with
 | stop _=>exact fun _ _ hb=>hb
 | @step x y p r hrow _ ih =>
   intro hi hin hb
   have hp:=hi.row p (by rw [hrow]; exact List.mem_cons_self ..)
   have hi':Inv m Lk { x with row:=r }:=⟨hi.at_,fun q hq=>hi.row q (by rw [hrow]; exact List.mem_cons_of_mem _ hq),hi.callers⟩
   have hf':kz { x with row:=r }:=fun q hq=>hin q (by rw [hrow]; exact List.mem_cons_of_mem _ hq)
   have hs:=hin p (by rw [hrow]; exact List.mem_cons_self ..)
   have hb':BlP m Lk B { x with row:=r }:=⟨hb.bel,hb.ok,hb.callers⟩
   exact ih (qU hL hi' (ho p hp)).1 (found_leave hf' p) (blp_leave hL hB hb' hp (ho p hp) hs)
theorem cR_bel {m:MModule} {rs:List Int} {Lk:Nat} (hL:Lk≤8) {B:P2→Option P2} (hB:∀ p l,B p=some l→LockOk Lk l) {x:AtM×Bool} (hx:yq m rs Lk x.1) (h:Bel B x.1) {q k:P2} (hk:LockOk Lk k) (hc:Cov B q k):Bel B (cR x q k).1 :=
 put_bel hL hB (fun p l e=>(hx p l e).2) h hk hc
theorem zCC {m:MModule} {rs:List Int} {Lk:Nat} (hL:Lk≤8) {B:P2→Option P2} (hB:∀ p l,B p=some l→LockOk Lk l) {a:Int} {b:P2} (hbr:InR m rs b):∀ (c:List MOp) (i:Nat) {x:AtM×Bool},yq m rs Lk x.1→Bel B x.1→(∀ (j:Nat) (h:j < c.length) (e:P2),c[j].kind=23→B (a,((i+j:Nat):Int))=some e→Cov B b e)→Bel B (ky x a b i c).1
 | [],_,_,_,h,_=>h
 | o::c,i,x,hx,h,hc=>by
   rw [we]
   have hc':∀ (j:Nat) (h:j < c.length) (e:P2),c[j].kind=23→B (a,((i+1+j:Nat):Int))=some e→Cov B b e:=fun j hj e hk he=>hc (j+1) (by simpa using hj) e hk (by rw [show i+(j+1)=i+1+j by omega]; exact he)
   cases hf:zL x.1 (a,(i:Int)) with
   | none=>exact zCC hL hB hbr c (i+1) hx h hc'
   | some e =>
     dsimp only
     split
     ·next hk =>
      obtain ⟨e',he',hq⟩:=h _ e hf
      have hcov:Cov B b e:=(hc 0 (by simp) e' hk (by rw [Nat.add_zero]; exact he')).less hq
      exact zCC hL hB hbr c (i+1) (yB hL hx hbr (hx _ e hf).2) (cR_bel hL hB hx h (hx _ e hf).2 hcov) hc'
     ·exact zCC hL hB hbr c (i+1) hx h hc'
theorem fromR_bel {m:MModule} {rs:List Int} {f0:Int} {Lk:Nat} (hL:Lk≤8) {B:P2→Option P2} (hB:Closed m Lk f0 B) {x:AtM×Bool} (hx:yq m rs Lk x.1) (h:Bel B x.1) {p:P2} (ho:OpFacts m Lk p ((m.fn p.1).op p.2)) (hp:p.1∈rs) (hcl:((m.fn p.1).op p.2).kind=22→((m.fn p.1).op p.2).a∈rs):Bel B (xo m x p).1:=by
 unfold xo
 cases hf:zL x.1 p with
 | none=>exact h
 | some l =>
   have hl:=(hx p l hf).2
   obtain ⟨l',hl',hq⟩:=h p l hf
   have fl:=hB.step p l' hl'
   have hlk':=hB.ok p l' hl'
   dsimp only
   split
   ·exact h
   ·next h23 =>
    have hn:InR m rs (p.1,((m.fn p.1).op p.2).next):=⟨ho.next h23,hp⟩
    split
    ·next h22 =>
     have hin:InR m rs (((m.fn p.1).op p.2).a,0):=⟨(ho.call h22).2,hcl h22⟩
     exact zCC hL hB.ok hn _ _ (yB hL hx hin hl) (cR_bel hL hB.ok hx h hl ((fl.call h22).less hq)) fun j hj e hk he=>fl.back h22 j hj e hk (by rw [Nat.zero_add] at he; exact he)
    ·next h22 =>
     have hcn:Cov B (p.1,((m.fn p.1).op p.2).next) (xK ((m.fn p.1).op p.2) l):=(fl.next h22 h23).less (hq.leave hL hl hlk' ho.lock)
     split
     ·next h21 =>
      have he:InR m rs (p.1,((m.fn p.1).op p.2).els):=⟨ho.els h21,hp⟩
      exact cR_bel hL hB.ok (yB hL hx he hl) (cR_bel hL hB.ok hx h hl ((fl.els h22 h23 h21).less hq)) (hl.leave hL ho.lock) hcn
     ·exact cR_bel hL hB.ok hx h (hl.leave hL ho.lock) hcn
structure RsOk (m:MModule) (rs:List Int) (f0:Int):Prop where
 mem:∀ g,g∈rs↔Rch m f0 g
 first:InR m rs (f0,0)
theorem RsOk.close {m:MModule} {rs:List Int} {f0:Int} (h:RsOk m rs f0) {p:P2} (hp:InR m rs p) (hk:((m.fn p.1).op p.2).kind=22):((m.fn p.1).op p.2).a∈rs:=by
 obtain ⟨k,hkl,_,eo⟩:=op_at hp.1
 rw [eo] at hk ⊢
 exact (h.mem _).2 (.step ((h.mem _).1 hp.2) (List.getElem_mem hkl) hk)
theorem rst_inv {m:MModule} {rs:List Int} {f0:Int} {Lk:Nat} (hL:Lk≤8) (ho:∀ p,xA m p→OpFacts m Lk p ((m.fn p.1).op p.2)) (hrs:RsOk m rs f0) {A:AtM} (h:RSt m rs f0 A):yq m rs Lk A:=by
 induction h with
 | start=>exact yB hL (fun p l h=>by cases h) hrs.first (ok0 Lk)
 | step _ hp ih=>exact zDY hL (x:=(_,_)) ih (ho _ hp.1) hp.2 fun hk=>hrs.close hp hk
theorem rst_bel {m:MModule} {rs:List Int} {f0:Int} {Lk:Nat} (hL:Lk≤8) (ho:∀ p,xA m p→OpFacts m Lk p ((m.fn p.1).op p.2)) (hrs:RsOk m rs f0) {B:P2→Option P2} (hB:Closed m Lk f0 B) {A:AtM} (h:RSt m rs f0 A):Bel B A:=by
 induction h with
 | start=>exact put_bel hL hB.ok (fun p l h=>by cases h) (fun p l h=>by cases h) (ok0 Lk) hB.start
 | step h hp ih=>exact fromR_bel hL hB (x:=(_,_)) (rst_inv hL ho hrs h) ih (ho _ hp.1) hp.2 fun hk=>hrs.close hp hk
theorem k7 {Lk:Nat} (hL:Lk≤8) {A:AtM} (hA:OkA Lk A) {q k:P2} (hk:LockOk Lk k) (h:xQ A q k=false):Cov (zL A) q k:=by
 unfold xQ at h
 rw [Bool.not_eq_false',decide_eq_true_eq] at h
 obtain ⟨o,e,hq⟩:=(put_cov hL hA (q:=q) hk).2.1
 rw [yW,if_pos rfl] at e
 cases e
 exact ⟨_,h,hq⟩
theorem cov_same {A A':AtM} (h:∀ q,zL A q=zL A' q) {p l:P2} (k:Cov (zL A) p l):Cov (zL A') p l:=by
 obtain ⟨o,e,hq⟩:=k
 exact ⟨o,by rw [← h]; exact e,hq⟩
theorem k8 {x:AtM×Bool} {q k:P2} (h:(cR x q k).2=false):x.2=false∧xQ x.1 q k=false:=by
 unfold cR at h
 exact Bool.or_eq_false_iff.1 h
theorem calm_back {x y:AtM×Bool} (h:Calm x y) (e:y.2=false):x.2=false:=by
 cases hx:x.2
 ·rfl
 ·rw [h.keep hx] at e; cases e
theorem kD {Lk:Nat} (hL:Lk≤8) {A:AtM} (hA:OkA Lk A) {a:Int} {b:P2}:∀ (c:List MOp) (i:Nat) (x:AtM×Bool),(∀ q,zL x.1 q=zL A q)→(ky x a b i c).2=false→∀ (j:Nat) (h:j < c.length) (e:P2),c[j].kind=23→zL A (a,((i+j:Nat):Int))=some e→Cov (zL A) b e
 | [],_,_,_,_,j,h,_,_,_=>by cases h
 | o::c,i,x,hx,h,j,hj,e,hk,he=>by
   rw [we] at h
   cases hf:zL x.1 (a,(i:Int)) with
   | none =>
     rw [hf] at h
     cases j with
     | zero=>rw [Nat.add_zero,← hx,hf] at he; cases he
     | succ j=>exact kD hL hA c (i+1) x hx h j (by simpa using hj) e hk (by rw [show i+1+j=i+(j+1) by omega]; exact he)
   | some e0 =>
     rw [hf] at h
     dsimp only at h
     by_cases ho:o.kind=23
     ·rw [if_pos ho] at h
      have h1:=calm_back (zCB a b c (i+1) _) h
      obtain ⟨h2,h3⟩:=k8 h1
      have hsame:∀ q,zL (cR x b e0).1 q=zL A q:=fun q=>by rw [(vN x b e0).same h1 q,hx]
      cases j with
      | zero =>
        rw [Nat.add_zero,← hx,hf] at he
        cases he
        have:OkA Lk x.1:=fun p l e=>hA p l (by rw [← hx]; exact e)
        exact cov_same hx (k7 hL this (this _ _ hf) h3)
      | succ j=>exact kD hL hA c (i+1) _ hsame h j (by simpa using hj) e hk (by rw [show i+1+j=i+(j+1) by omega]; exact he)
     ·rw [if_neg ho] at h
      cases j with
      | zero=>exact absurd hk ho
      | succ j=>exact kD hL hA c (i+1) x hx h j (by simpa using hj) e hk (by rw [show i+1+j=i+(j+1) by omega]; exact he)
theorem quiet_flow {m:MModule} {Lk:Nat} (hL:Lk≤8) {A:AtM} (hA:OkA Lk A) {p l:P2} (ho:OpFacts m Lk p ((m.fn p.1).op p.2)) (hl:zL A p=some l) (h:zAn m A p):Flow m (zL A) p l:=by
 have hlk:=hA p l hl
 unfold zAn xo at h
 rw [hl] at h
 dsimp only at h
 by_cases h23:((m.fn p.1).op p.2).kind=23
 ·exact ⟨(fun e=>by rw [h23] at e; cases e),(fun e=>by rw [h23] at e; cases e),fun _ e=>absurd h23 e,fun _ e=>absurd h23 e⟩
 rw [if_neg h23] at h
 by_cases h22:((m.fn p.1).op p.2).kind=22
 ·rw [if_pos h22] at h
  have h1:=calm_back (zCB _ _ _ _ _) h
  obtain ⟨_,h3⟩:=k8 h1
  have hsame:∀ q,zL (cR (A,false) (((m.fn p.1).op p.2).a,0) l).1 q=zL A q:=fun q=>(vN (A,false) _ l).same h1 q
  refine ⟨fun _=>k7 hL hA hlk h3,fun _ k hk e hk2 he=>?_,fun e=>absurd h22 e,fun e=>absurd h22 e⟩
  exact kD hL hA _ 0 _ hsame h k hk e hk2 (by rw [Nat.zero_add]; exact he)
 rw [if_neg h22] at h
 by_cases h21:((m.fn p.1).op p.2).kind=21
 ·rw [if_pos h21] at h
  obtain ⟨h1,h2⟩:=k8 h
  obtain ⟨_,h3⟩:=k8 h1
  have hsame:∀ q,zL (cR (A,false) (p.1,((m.fn p.1).op p.2).els) l).1 q=zL A q:=fun q=>(vN (A,false) _ l).same h1 q
  refine ⟨fun e=>absurd e h22,fun e=>absurd e h22,fun _ _ _=>k7 hL hA hlk h3,fun _ _=>?_⟩
  have hA2:OkA Lk (cR (A,false) (p.1,((m.fn p.1).op p.2).els) l).1:=fun q l e=>hA q l (by rw [← hsame]; exact e)
  exact cov_same hsame (k7 hL hA2 (hlk.leave hL ho.lock) h2)
 ·rw [if_neg h21] at h
  obtain ⟨_,h2⟩:=k8 h
  exact ⟨fun e=>absurd e h22,fun e=>absurd e h22,fun _ _ e=>absurd e h21,fun _ _=>k7 hL hA (hlk.leave hL ho.lock) h2⟩
theorem from_cov {m:MModule} {rs:List Int} {Lk:Nat} (hL:Lk≤8):∀ {x:AtM×Bool},yq m rs Lk x.1→∀ {p q k:P2},OpFacts m Lk p ((m.fn p.1).op p.2)→p.1∈rs→(((m.fn p.1).op p.2).kind=22→((m.fn p.1).op p.2).a∈rs)→Cov (zL x.1) q k→Cov (zL (xo m x p).1) q k:=fun {x} hx {p q k} ho hp hcl hc=>by
 have come:∀ (y:AtM×Bool),yq m rs Lk y.1→∀ q' k',LockOk Lk k'→Cov (zL y.1) q k→Cov (zL (cR y q' k').1) q k:=fun y hy q' k' hk' h=>(put_cov hL (fun p l e=>(hy p l e).2) hk').1 q k h
 have ret:∀ (c:List MOp) (a:Int) (b:P2) (i:Nat) (y:AtM×Bool),InR m rs b→yq m rs Lk y.1→Cov (zL y.1) q k→Cov (zL (ky y a b i c).1) q k:=fun c=>by
  induction c with
  | nil=>intro a b i y _ _ h; exact h
  | cons o c ih =>
    intro a b i y hb hy h
    rw [we]
    cases hf:zL y.1 (a,(i:Int)) with
    | none=>exact ih a b _ _ hb hy h
    | some e =>
      dsimp only
      split
      ·exact ih a b _ _ hb (yB hL hy hb (hy _ e hf).2) (come y hy _ _ (hy _ e hf).2 h)
      ·exact ih a b _ _ hb hy h
 unfold xo
 cases hf:zL x.1 p with
 | none=>exact hc
 | some l =>
   have hl:=(hx p l hf).2
   dsimp only
   split
   ·exact hc
   ·next h23 =>
    have hn:InR m rs (p.1,((m.fn p.1).op p.2).next):=⟨ho.next h23,hp⟩
    split
    ·next h22 =>
     have hin:InR m rs (((m.fn p.1).op p.2).a,0):=⟨(ho.call h22).2,hcl h22⟩
     exact ret _ _ _ _ _ hn (yB hL hx hin hl) (come x hx _ _ hl hc)
    ·split
     ·next h21 =>
      have he:InR m rs (p.1,((m.fn p.1).op p.2).els):=⟨ho.els h21,hp⟩
      exact come _ (yB hL hx he hl) _ _ (hl.leave hL ho.lock) (come x hx _ _ hl hc)
     ·exact come x hx _ _ (hl.leave hL ho.lock) hc
theorem rst_start {m:MModule} {rs:List Int} {f0:Int} {Lk:Nat} (hL:Lk≤8) (ho:∀ p,xA m p→OpFacts m Lk p ((m.fn p.1).op p.2)) (hrs:RsOk m rs f0) {A:AtM} (h:RSt m rs f0 A):Cov (zL A) (f0,0) (0,0):=by
 induction h with
 | start=>exact (put_cov hL (A:=[]) (fun p l h=>by cases h) (ok0 Lk)).2.1
 | step h hp ih=>exact from_cov hL (x:=(_,_)) (rst_inv hL ho hrs h) (ho _ hp.1) hp.2 (fun hk=>hrs.close hp hk) ih
theorem rst_closed {m:MModule} {rs:List Int} {f0:Int} {Lk:Nat} (hL:Lk≤8) (ho:∀ p,xA m p→OpFacts m Lk p ((m.fn p.1).op p.2)) (hrs:RsOk m rs f0) {A:AtM} (h:RSt m rs f0 A) (hq:∀ p,InR m rs p→zAn m A p):Closed m Lk f0 (zL A):=by
 have hi:=rst_inv hL ho hrs h
 exact ⟨fun p l e=>(hi p l e).2,rst_start hL ho hrs h,fun p l e=>quiet_flow hL (fun p l e=>(hi p l e).2) (ho p (hi p l e).1.1) e (hq p (hi p l e).1)⟩
theorem Rch.trans {m:MModule} {a b c:Int} (h:Rch m a b) (k:Rch m b c):Rch m a c:=by
 induction k with
 | base=>exact h
 | step _ ho hk ih=>exact .step ih ho hk
theorem zCD (m:MModule):∀ (k:Nat) (f:Int) (s:List Int),∀ x∈yR m k f s,x∈s∨Rch m f x
 | 0,_,_,x,h=>.inl h
 | k+1,f,s,x,h=>by
   unfold yR at h
   split at h
   ·exact .inl h
   ·have key:∀ (c:List MOp) (t:List Int),(∀ o∈c,o∈(m.fn f).code)→(∀ y∈t,y∈s∨Rch m f y)→∀ y∈c.foldl (fun s o=>if o.kind=22 then yR m k o.a s else s) t,y∈s∨Rch m f y:=fun c=>by
     induction c with
     | nil=>intro t _ ht; exact ht
     | cons o c ih =>
       intro t hc ht
       refine ih _ (fun o' ho'=>hc o' (List.mem_cons_of_mem _ ho')) fun y hy=>?_
       dsimp only at hy
       split at hy
       ·next hk =>
        rcases zCD m k o.a t y hy with h1 | h1
        ·exact ht y h1
        ·exact .inr ((Rch.step .base (hc o (List.mem_cons_self ..)) hk).trans h1)
       ·exact ht y hy
    refine key _ _ (fun o ho=>ho) (fun y hy=>?_) x h
    rcases List.mem_append.1 hy with hy | hy
    ·exact .inl hy
    ·rw [List.mem_singleton.1 hy]; exact .inr .base
def ClosedIn (m:MModule) (s t:List Int):Prop:=∀ g∈t,g ∉ s→∀ o∈(m.fn g).code,o.kind=22→o.a∈t
theorem zDa (m:MModule) (hcall:∀ f∈m.funcs,∀ o∈f.code,o.kind=22→zM m.funcs.length [o.a]=true):∀ (k:Nat) (f:Int) (s:List Int),zM m.funcs.length [f]=true→qt m s < k→f∈yR m k f s∧ClosedIn m s (yR m k f s)
 | 0,_,_,_,h=>by omega
 | k+1,f,s,hf,hk=>by
   by_cases hs:f∈s
   ·have e:yR m (k+1) f s=s:=by unfold yR; rw [if_pos hs]
    rw [e]
    exact ⟨hs,fun g hg hn=>absurd hg hn⟩
   ·have e:yR m (k+1) f s=(m.fn f).code.foldl (fun s o=>if o.kind=22 then yR m k o.a s else s) (s++[f]):=by
     rw [yR]; rw [if_neg hs]
    rw [e]
    have hmem:m.fn f∈m.funcs:=by
     have hb:=belowB_one.1 hf
     have hi:f.toNat < m.funcs.length:=by omega
     unfold MModule.fn
     rw [List.getElem?_eq_getElem hi]
     exact List.getElem_mem hi
    have hun:=zEx hf hs
    have key:∀ (c:List MOp) (t:List Int),(∀ o∈c,o∈(m.fn f).code)→(∀ x∈s++[f],x∈t)→(∀ g∈t,g ∉ s++[f]→∀ o∈(m.fn g).code,o.kind=22→o.a∈t) →
      let R:=c.foldl (fun s o=>if o.kind=22 then yR m k o.a s else s) t
      (∀ x∈t,x∈R)∧(∀ g∈R,g ∉ s++[f]→∀ o∈(m.fn g).code,o.kind=22→o.a∈R)∧∀ o∈c,o.kind=22→o.a∈R:=fun c=>by
     induction c with
     | nil=>intro t _ _ ht; exact ⟨fun x hx=>hx,ht,fun o ho=>by cases ho⟩
     | cons o c ih =>
       intro t hc hst ht
       by_cases hk22:o.kind=22
       ·have hut:qt m t < k:=Nat.lt_of_le_of_lt (zDT hst) (by omega)
        obtain ⟨h1,h2⟩:=zDa m hcall k o.a t (hcall _ hmem o (hc o (List.mem_cons_self ..)) hk22) hut
        have hsub:=qu m k o.a t
        obtain ⟨g1,g2,g3⟩:=ih (yR m k o.a t) (fun o' ho'=>hc o' (List.mem_cons_of_mem _ ho')) (fun x hx=>hsub x (hst x hx)) (fun g hg hn o' ho' hk'=>by
         by_cases hgt:g∈t
         ·exact hsub _ (ht g hgt hn o' ho' hk')
         ·exact h2 g hg hgt o' ho' hk')
        simp only [List.foldl_cons,if_pos hk22]
        refine ⟨fun x hx=>g1 x (hsub x hx),g2,fun o' ho' hk'=>?_⟩
        rcases List.mem_cons.1 ho' with rfl | ho'
        ·exact g1 _ h1
        ·exact g3 o' ho' hk'
       ·obtain ⟨g1,g2,g3⟩:=ih t (fun o' ho'=>hc o' (List.mem_cons_of_mem _ ho')) hst ht
        simp only [List.foldl_cons,if_neg hk22]
        refine ⟨g1,g2,fun o' ho' hk'=>?_⟩
        rcases List.mem_cons.1 ho' with rfl | ho'
        ·exact absurd hk' hk22
        ·exact g3 o' ho' hk'
    obtain ⟨g1,g2,g3⟩:=key (m.fn f).code (s++[f]) (fun o ho=>ho) (fun x hx=>hx) (fun g hg hn=>absurd hg hn)
    refine ⟨g1 f (by simp),fun g hg hn=>?_⟩
    by_cases hgf:g=f
    ·subst hgf; exact g3
    ·exact g2 g hg (by simp [hn,hgf])
theorem seen_iff {m:MModule} (hcall:∀ f∈m.funcs,∀ o∈f.code,o.kind=22→zM m.funcs.length [o.a]=true) {f:Int} (hf:zM m.funcs.length [f]=true) (g:Int):g∈wd m f↔Rch m f g:=by
 obtain ⟨h1,h2⟩:=zDa m hcall (m.funcs.length+1) f [] hf (zEy m)
 refine ⟨fun h=>?_,fun h=>?_⟩
 ·rcases zCD m _ f [] g h with h | h
  ·cases h
  ·exact h
 ·induction h with
  | base=>exact h1
  | step _ ho hk ih=>exact h2 _ ih (by simp) _ ho hk
theorem thread_same {m:MModule} (hr:zO m=true) {f:Int} (hf:f∈m.threads) {a b a' b':List (List Int)} (h:Thread m f a b) (k:RThread m f a' b'):a=a'∧b=b':=by
 obtain ⟨y,hd,rfl,rfl⟩:=h
 obtain ⟨A,rs,hst,hrs,hq,rfl,rfl⟩:=k
 have hfr:xt m=true:=by
  simp only [zO,Bool.and_eq_true] at hr
  exact hr.1
 obtain ⟨hm,_⟩:=qT hfr
 obtain ⟨hL,_⟩:=xB hfr
 have hb:=zAU hr hf
 have ho:=qV hr
 have hv0:xA m (f,0):=⟨hb,by show (0:Int)≤0; omega,by have:=(MModule.fn_ok hm hb).code.1; show (0:Int) < _; dsimp only; omega⟩
 have hin0:InR m rs (f,0):=⟨hv0,(hrs f).2 .base⟩
 have hro:RsOk m rs f:=⟨hrs,hin0⟩
 have e0:Inv m m.locks.length ⟨[],[],[]⟩:=⟨fun p l h=>(by cases h),fun p h=>(by cases h),fun c h=>(by cases h)⟩
 have inv0:Inv m m.locks.length (qv f):=(ww hL e0 hv0 (l:=(0,0)) (ok0 _)).1
 have fnd0:kz (qv f):=vO (fun q hq=>by cases hq) _ _
 have oke:OkA m.locks.length ([]:AtM):=fun p l h=>by cases h
 obtain ⟨m1,m2,m3⟩:=uJ (x:=⟨[],[],[]⟩) hL oke (q:=(f,0)) (ok0 m.locks.length)
 have wi0:Wi m f No NoB (qv f):=⟨m2,fun p l e=>by
  rcases m1.old p l e with h | h
  ·exact .inl h
  ·cases h⟩
 have cy:Closed m m.locks.length f (zL y.at_):=wi_done hL ho hd inv0 fnd0 wi0
 have cA:Closed m m.locks.length f (zL A):=rst_closed hL ho hro hst hq
 have by0:BlP m m.locks.length (zL A) (qv f):=BlP.come hL cA.ok ⟨fun p l h=>(by cases h),oke,fun a b hb=>(by cases hb)⟩ (ok0 _) cA.start
 have b1:=(blp_done hL ho cA hd inv0 fnd0 by0).bel
 have b2:Bel (zL y.at_) A:=rst_bel hL ho hro cy hst
 have same:∀ p,zL y.at_ p=zL A p:=fun p=>by
  cases hy:zL y.at_ p with
  | none =>
    cases hA:zL A p with
    | none=>rfl
    | some l =>
      obtain ⟨o,e,_⟩:=b2 p l hA
      rw [hy] at e; cases e
  | some l =>
    obtain ⟨o,e,q1⟩:=b1 p l hy
    obtain ⟨o',e',q2⟩:=b2 p o e
    rw [hy] at e'; cases e'
    rw [e,Lq.antisymm (cy.ok p l hy) (cA.ok p o e) q1 q2]
 have hcell:∀ sel g n,xE y sel g n=xw A sel g n:=fun sel g n=>by
  unfold xE xw
  rw [same]
  cases zL A ((g:Int),(n:Int)) <;> rfl
 have htab:∀ sel,yU m y (wd m f) sel=vv (Ln m rs) A sel m.funcs.length:=fun sel=>by
  unfold yU vv
  refine List.map_congr_left fun g _=>?_
  unfold wx Ln
  have hiff:((g:Int)∈wd m f)↔((g:Int)∈rs):=(seen_iff (zB4 hr) hb _).trans (hrs _).symm
  by_cases hg:(g:Int)∈rs
  ·rw [if_pos (hiff.2 hg),if_pos hg]
   exact List.map_congr_left fun n _=>hcell sel g n
  ·rw [if_neg fun h=>hg (hiff.1 h),if_neg hg]
   rfl
 exact ⟨htab _,htab _⟩
theorem zCE {m:MModule} (hr:zO m=true):∀ {fs:List Int} {us vs us' vs':List (List (List Int))},(∀ f∈fs,f∈m.threads)→Threads m fs us vs→RThreads m fs us' vs'→us=us'∧vs=vs'
 | _,_,_,_,_,_,.nil,.nil=>⟨rfl,rfl⟩
 | _,_,_,_,_,hf,.cons h1 k1,.cons h2 k2=>by
   obtain ⟨e1,e2⟩:=thread_same hr (hf _ (List.mem_cons_self ..)) h1 h2
   obtain ⟨e3,e4⟩:=zCE hr (fun f h=>hf f (List.mem_cons_of_mem _ h)) k1 k2
   rw [e1,e2,e3,e4]
   exact ⟨rfl,rfl⟩
end Go.Vw
namespace Go.Vw
open Go.RowKit Go.Am Go.Proofs
attribute [local irreducible] yE zv zq VD VDn VDq Ret
section
variable [Drw] (hT:TabOk tab Tryz.prog)
include hT
theorem ui {t1 t2:Tok} (xs:List MSized) (hl:xs.length < 2000000):Pure Tryz.prog 51 [.slice t1 (xs.map yX),.slice t2 (xs.map yX)] (.ob true):=by
 refine VC.code hT 26 rfl rfl rfl rfl fun F W S0=>?_
 repeat' (first
  | (refine gz hT rfl ?_;conv=>whnf)
  | refine zA rfl (zN rfl rfl rfl ?_)
  | refine zA rfl (zH hT rfl rfl rfl rfl rfl rfl rfl rfl ?_)
  | refine zB rfl (zK hT rfl rfl rfl rfl rfl rfl (List.length_map _)) ?_
  | refine zG rfl rfl rfl rfl (fun h=>?_) (fun h=>?_))
 refine zC rfl (fun h=>by simp at h) (fun _=>?_)
 refine gz hT rfl ?_;conv=>whnf
 refine zW (fun i:Nat=>([(0,.slice t1 (xs.map yX)),(1,.slice t2 (xs.map yX)),(5,.int .i64 i)],[])) (fun i=>i≤xs.length) (fun i=>xs.length - i) 0 (Nat.zero_le _) ⟨⟨lk rfl,lk rfl,lk rfl,trivial⟩,.nil⟩ ?_
 intro i hi
 repeat' (first
  | (refine gz hT rfl ?_;conv=>whnf)
  | refine zA rfl (zN rfl rfl rfl ?_)
  | refine zA rfl (zH hT rfl rfl rfl rfl rfl rfl rfl rfl ?_)
  | refine zB rfl (zK hT rfl rfl rfl rfl rfl rfl (List.length_map _)) ?_
  | refine zG rfl rfl rfl rfl (fun h=>?_) (fun h=>?_))
 refine zC rfl (fun hlt=>?_) (fun hlt=>?_)
 ·simp only [decide_eq_true_eq,Int.ofNat_lt] at hlt
  refine gz hT rfl ?_;conv=>whnf
  intro id
  refine zd hT rfl rfl ?_ id
  repeat' (first
   | (refine god hT 2 rfl ?_;conv=>whnf)
   | refine zV rfl ?_
   | refine q_g rfl (fun S'=>(zK hT rfl rfl rfl rfl rfl rfl (List.length_map _)).qs) ?_
   | refine zk rfl rfl rfl rfl (fun h=>?_) (fun h=>?_)
   | refine q_g rfl (fun S'=>(zJ (xs:=xs) hT rfl rfl rfl rfl rfl hlt rfl).qs) ?_)
  refine gz hT rfl ?_;conv=>whnf
  refine zC rfl (fun hne=>by simp at hne) (fun _=>?_)
  refine gz hT rfl ?_;conv=>whnf
  refine zB rfl (zU rfl rfl rfl (by omega)) ?_
  refine gz hT rfl ?_;conv=>whnf
  exact ⟨i+1,hlt,by omega,⟨lk rfl,lk rfl,lk rfl,trivial⟩,.nil⟩
 ·refine gz hT rfl ?_;conv=>whnf
  exact zP rfl rfl rfl rfl
theorem w6 {t1 t2:Tok} (xs:List ByteArray) (hl:xs.length < 2000000):Pure Tryz.prog 52 [.slice t1 (xs.map vi),.slice t2 (xs.map vi)] (.ob true):=by
 refine VC.code hT 26 rfl rfl rfl rfl fun F W S0=>?_
 repeat' (first
  | (refine gz hT rfl ?_;conv=>whnf)
  | refine zA rfl (zN rfl rfl rfl ?_)
  | refine zA rfl (zH hT rfl rfl rfl rfl rfl rfl rfl rfl ?_)
  | refine zB rfl (zK hT rfl rfl rfl rfl rfl rfl (List.length_map _)) ?_
  | refine zG rfl rfl rfl rfl (fun h=>?_) (fun h=>?_))
 refine zC rfl (fun h=>by simp at h) (fun _=>?_)
 refine gz hT rfl ?_;conv=>whnf
 refine zW (fun i:Nat=>([(0,.slice t1 (xs.map vi)),(1,.slice t2 (xs.map vi)),(5,.int .i64 i)],[])) (fun i=>i≤xs.length) (fun i=>xs.length - i) 0 (Nat.zero_le _) ⟨⟨lk rfl,lk rfl,lk rfl,trivial⟩,.nil⟩ ?_
 intro i hi
 repeat' (first
  | (refine gz hT rfl ?_;conv=>whnf)
  | refine zA rfl (zN rfl rfl rfl ?_)
  | refine zA rfl (zH hT rfl rfl rfl rfl rfl rfl rfl rfl ?_)
  | refine zB rfl (zK hT rfl rfl rfl rfl rfl rfl (List.length_map _)) ?_
  | refine zG rfl rfl rfl rfl (fun h=>?_) (fun h=>?_))
 refine zC rfl (fun hlt=>?_) (fun hlt=>?_)
 ·simp only [decide_eq_true_eq,Int.ofNat_lt] at hlt
  refine gz hT rfl ?_;conv=>whnf
  intro id
  refine zd hT rfl rfl ?_ id
  repeat' (first
   | (refine god hT 2 rfl ?_;conv=>whnf)
   | refine zV rfl ?_
   | refine q_g rfl (fun S'=>(zK hT rfl rfl rfl rfl rfl rfl (List.length_map _)).qs) ?_
   | refine zk rfl rfl rfl rfl (fun h=>?_) (fun h=>?_)
   | refine q_g rfl (fun S'=>(zJ (xs:=xs) hT rfl rfl rfl rfl rfl hlt rfl).qs) ?_)
  refine gz hT rfl ?_;conv=>whnf
  refine zC rfl (fun hne=>by simp at hne) (fun _=>?_)
  refine gz hT rfl ?_;conv=>whnf
  refine zB rfl (zU rfl rfl rfl (by omega)) ?_
  refine gz hT rfl ?_;conv=>whnf
  exact ⟨i+1,hlt,by omega,⟨lk rfl,lk rfl,lk rfl,trivial⟩,.nil⟩
 ·refine gz hT rfl ?_;conv=>whnf
  exact zP rfl rfl rfl rfl
theorem zAo {t1 t2:Tok} (xs:List Int) (hl:xs.length < 2000000):Pure Tryz.prog 22 [.slice t1 (xs.map zt),.slice t2 (xs.map zt)] (.ob true):=by
 have:=sameInts hT (t1:=t1) (t2:=t2) xs xs hl
 rw [decide_eq_true rfl] at this
 exact this
set_option maxRecDepth 100000 in
theorem sameOp_self (o:MOp) (hl:o.args.length < 2000000):Pure Tryz.prog 53 [.agg (opV o),.agg (opV o)] (.ob true):=by
 refine VC.code hT 87 rfl rfl rfl rfl fun F W S0=>?_
 repeat' (first
  | (exfalso; simp at h; done)
  | (refine gz hT rfl ?_;conv=>whnf)
  | refine zA rfl (zN rfl rfl rfl ?_)
  | refine zG rfl rfl rfl rfl (fun h=>?_) (fun h=>?_)
  | refine zA rfl (zR hT rfl rfl rfl rfl rfl rfl (zAo hT o.args hl) ?_))
 refine zP rfl rfl rfl ?_
 rw [decide_eq_true rfl]
set_option maxRecDepth 100000 in
set_option maxHeartbeats 2000000 in
theorem zDg (m:MModule) (hs:Small m):Pure Tryz.prog 19 [.agg (ze m),.agg (ze m)] (.ob true):=by
 have hfs:=hs.funcs
 refine VC.code hT 151 rfl rfl rfl rfl fun F W S0=>?_
 repeat' (first
  | (exfalso; simp at h; done)
  | (refine gz hT rfl ?_;conv=>whnf)
  | refine zA rfl (zN rfl rfl rfl ?_)
  | refine zB rfl (zK hT rfl rfl rfl rfl rfl rfl (List.length_map _)) ?_
  | refine zG rfl rfl rfl rfl (fun h=>?_) (fun h=>?_)
  | refine zA rfl (zR hT rfl rfl rfl rfl rfl rfl (ui hT m.globals hs.globals) ?_)
  | refine zA rfl (zR hT rfl rfl rfl rfl rfl rfl (ui hT m.structs hs.structs) ?_)
  | refine zA rfl (zR hT rfl rfl rfl rfl rfl rfl (ui hT m.chans hs.chans) ?_)
  | refine zA rfl (zR hT rfl rfl rfl rfl rfl rfl (w6 hT m.locks hs.locks) ?_)
  | refine zA rfl (zR hT rfl rfl rfl rfl rfl rfl (w6 hT m.inputs hs.inputs) ?_)
  | refine zA rfl (zR hT rfl rfl rfl rfl rfl rfl (w6 hT m.sinks hs.sinks) ?_)
  | refine zA rfl (zR hT rfl rfl rfl rfl rfl rfl (w6 hT m.hatches hs.hatches) ?_)
  | refine zA rfl (zR hT rfl rfl rfl rfl rfl rfl (zAo hT m.threads hs.threads) ?_))
 refine zC rfl (fun h=>by simp at h) (fun _=>?_)
 refine gz hT rfl ?_;conv=>whnf
 refine zW (fun i:Nat=>([(2,.pin (ze m) 0),(3,.pin (ze m) 0),(5,.int .i64 i)],[])) (fun i=>i≤m.funcs.length) (fun i=>m.funcs.length - i) 0 (Nat.zero_le _) ⟨⟨lk rfl,lk rfl,lk rfl,trivial⟩,.nil⟩ ?_
 intro i hi
 repeat' (first
  | (refine gz hT rfl ?_;conv=>whnf)
  | refine zA rfl (zN rfl rfl rfl ?_)
  | refine zA rfl (zH hT rfl rfl rfl rfl rfl rfl rfl rfl ?_)
  | refine zB rfl (zK hT rfl rfl rfl rfl rfl rfl (List.length_map _)) ?_
  | refine zG rfl rfl rfl rfl (fun h=>?_) (fun h=>?_))
 refine zC rfl (fun hlt=>?_) (fun hlt=>?_)
 ·simp only [decide_eq_true_eq,Int.ofNat_lt] at hlt
  have hin:=List.getElem_mem hlt
  have hcl:=hs.code _ hin
  refine gz hT rfl ?_;conv=>whnf
  refine zB rfl (zJ (xs:=m.funcs) hT rfl rfl rfl rfl rfl hlt rfl) ?_
  refine gz hT rfl ?_;conv=>whnf
  refine zA rfl (zX hT rfl rfl rfl fun b6=>?_)
  refine gz hT rfl ?_;conv=>whnf
  refine zA rfl (zI (cs':=yt m.funcs[i]) hT rfl rfl rfl .here rfl ?_)
  refine zo (t:=6) rfl ?_
  refine gz hT rfl ?_;conv=>whnf
  refine zB rfl (zJ (xs:=m.funcs) hT rfl rfl rfl rfl rfl hlt rfl) ?_
  refine gz hT rfl ?_;conv=>whnf
  refine zA rfl (zX hT rfl rfl rfl fun b7=>?_)
  refine gz hT rfl ?_;conv=>whnf
  refine zA rfl (zI (cs':=yt m.funcs[i]) hT rfl rfl rfl .here rfl ?_)
  refine zo (t:=7) rfl ?_
  repeat' (first
   | (exfalso; simp at h; done)
   | (refine gz hT rfl ?_;conv=>whnf)
   | refine zB rfl (zK hT rfl rfl rfl rfl rfl rfl (List.length_map _)) ?_
   | refine zG rfl rfl rfl rfl (fun h=>?_) (fun h=>?_))
  refine zC rfl (fun h=>by simp at h) (fun _=>?_)
  refine gz hT rfl ?_;conv=>whnf
  refine zW (fun k:Nat=>([(2,.pin (ze m) 0),(3,.pin (ze m) 0),(5,.int .i64 i),(6,.pin (yt m.funcs[i]) 0),(7,.pin (yt m.funcs[i]) 0),(8,.int .i64 k)],[])) (fun k=>k≤m.funcs[i].code.length) (fun k=>m.funcs[i].code.length - k) 0 (Nat.zero_le _) ⟨⟨lk rfl,lk rfl,lk rfl,lk rfl,lk rfl,lk rfl,trivial⟩,.nil⟩ ?_
  intro k hk
  repeat' (first
   | (refine gz hT rfl ?_;conv=>whnf)
   | refine zA rfl (zN rfl rfl rfl ?_)
   | refine zA rfl (zH hT rfl rfl rfl rfl rfl rfl rfl rfl ?_)
   | refine zB rfl (zK hT rfl rfl rfl rfl rfl rfl (List.length_map _)) ?_
   | refine zG rfl rfl rfl rfl (fun h=>?_) (fun h=>?_))
  refine zC rfl (fun hlk=>?_) (fun hlk=>?_)
  ·simp only [decide_eq_true_eq,Int.ofNat_lt] at hlk
   refine gz hT rfl ?_;conv=>whnf
   intro id
   refine zd hT rfl rfl ?_ id
   repeat' (first
    | (refine god hT 1 rfl ?_;conv=>whnf)
    | refine zV rfl ?_
    | refine q_g rfl (fun S'=>(zK hT rfl rfl rfl rfl rfl rfl (List.length_map _)).qs) ?_
    | refine zk rfl rfl rfl rfl (fun h=>?_) (fun h=>?_)
    | refine q_g rfl (fun S'=>(zJ (xs:=m.funcs[i].code) hT rfl rfl rfl rfl rfl hlk rfl).qs) ?_)
   refine zS rfl (eff rfl rfl (zR hT rfl rfl rfl rfl rfl rfl (sameOp_self hT m.funcs[i].code[k] (hs.args _ hin _ (List.getElem_mem hlk))) (And.intro trivial ?_)))
   refine god hT 1 rfl ?_;conv=>whnf
   refine zV rfl ?_
   refine gz hT rfl ?_;conv=>whnf
   refine zC rfl (fun h=>by simp at h) (fun _=>?_)
   refine gz hT rfl ?_;conv=>whnf
   refine zB rfl (zU rfl rfl rfl (by omega)) ?_
   refine gz hT rfl ?_;conv=>whnf
   exact ⟨k+1,hlk,by omega,⟨lk rfl,lk rfl,lk rfl,lk rfl,lk rfl,lk rfl,trivial⟩,.nil⟩
  ·refine gz hT rfl ?_;conv=>whnf
   refine zB rfl (zU rfl rfl rfl (by omega)) ?_
   refine gz hT rfl ?_;conv=>whnf
   exact ⟨i+1,hlt,by omega,⟨lk rfl,lk rfl,lk rfl,trivial⟩,.nil⟩
 ·refine gz hT rfl ?_;conv=>whnf
  exact zP rfl rfl rfl rfl
end
end Go.Vw
namespace Go.Vw
open Go.RowKit Go.Am Go.Proofs
attribute [local irreducible] yE zv zq VD VDn VDq Ret
def shapes:List ByteArray:=[⟨#[]⟩,⟨#[114,46,46,46,46,46,110]⟩,⟨#[114,105,46,46,46,46,46]⟩,⟨#[114,104,46,46,46,46,46]⟩,⟨#[114,114,46,46,46,46,46]⟩,⟨#[114,114,46,46,46,46,117]⟩,⟨#[114,114,114,46,46,46,98]⟩,⟨#[114,119,46,46,46,46,107]⟩,⟨#[119,114,46,46,46,46,107]⟩,⟨#[114,115,46,46,46,46,46]⟩,⟨#[114,114,114,46,46,46,46]⟩,⟨#[114,114,103,46,46,46,107]⟩,⟨#[114,103,114,46,46,46,107]⟩,⟨#[114,114,114,114,46,46,46]⟩,⟨#[114,114,114,114,46,46,46]⟩,⟨#[114,114,114,114,114,114,46]⟩,⟨#[108,46,46,46,46,46,46]⟩,⟨#[108,46,46,46,46,46,46]⟩,⟨#[99,114,46,46,46,46,46]⟩,⟨#[114,99,46,46,46,46,46]⟩,⟨#[111,114,46,46,46,46,46]⟩,⟨#[114,46,46,46,46,46,46]⟩,⟨#[102,100,46,46,46,46,100]⟩,⟨#[46,46,46,46,46,46,46]⟩]
def zD (k:Int):ByteArray:=if 1≤k∧k≤23 then shapes.getD k.toNat ⟨#[]⟩ else ⟨#[]⟩
section
variable [Drw] (hT:TabOk tab Tryz.prog)
include hT
theorem sizedRef {t1:Tok} (l:List MSized) (count least most:Int) (hl:l.length < 2000000):Pure Tryz.prog 108 [.slice t1 (l.map yX),.int .i64 count,.int .i64 least,.int .i64 most] (.ob (wv l count least most)):=by
 refine VC.code hT 36 rfl rfl rfl rfl fun F W S0=>?_
 refine gz hT rfl ?_;conv=>whnf
 refine zW (fun i:Nat=>([(0,.slice t1 (l.map yX)),(1,.int .i64 count),(2,.int .i64 least),(3,.int .i64 most),(9,.int .i64 i)],[])) (fun i=>i≤l.length∧∀ s∈l.take i,¬ s.size < least∧¬ most < s.size) (fun i=>l.length - i) 0 ⟨Nat.zero_le _,fun s hs=>by simp at hs⟩ ⟨⟨lk rfl,lk rfl,lk rfl,lk rfl,lk rfl,trivial⟩,.nil⟩ ?_
 rintro i ⟨hi,hg⟩
 repeat' (first
  | (refine gz hT rfl ?_;conv=>whnf)
  | refine zA rfl (zN rfl rfl rfl ?_)
  | refine zA rfl (zH hT rfl rfl rfl rfl rfl rfl rfl rfl ?_)
  | refine zB rfl (zK hT rfl rfl rfl rfl rfl rfl (List.length_map _)) ?_
  | refine zG rfl rfl rfl rfl (fun h=>?_) (fun h=>?_))
 refine zC rfl (fun hlt=>?_) (fun hlt=>?_)
 ·simp only [decide_eq_true_eq,Int.ofNat_lt] at hlt
  have bad:l[i].size < least∨most < l[i].size→wv l count least most=false:=fun hb=>by
   unfold wv
   have:(l.any fun s=>decide (s.size < least) || decide (most < s.size))=true:=List.any_eq_true.2 ⟨_,List.getElem_mem hlt,by simpa using hb⟩
   rw [this]; simp
  repeat' (first
   | (refine gz hT rfl ?_;conv=>whnf)
   | refine zA rfl (zN rfl rfl rfl ?_)
   | refine zA rfl (zH hT rfl rfl rfl rfl rfl rfl rfl rfl ?_)
   | refine zB rfl (zK hT rfl rfl rfl rfl rfl rfl (List.length_map _)) ?_
   | refine zG rfl rfl rfl rfl (fun h=>?_) (fun h=>?_)
   | refine zB rfl (zJ (xs:=l) hT rfl rfl rfl rfl rfl hlt rfl) ?_)
  ·have h:=of_decide_eq_true h
   refine zP rfl rfl rfl ?_
   rw [bad (.inl h)]
  ·have h:=of_decide_eq_false h
   refine zC rfl (fun h2=>?_) (fun h2=>?_)
   ·have h2:=of_decide_eq_true h2
    refine gz hT rfl ?_;conv=>whnf
    refine zP rfl rfl rfl ?_
    rw [bad (.inr h2)]
   ·have h2:=of_decide_eq_false h2
    refine gz hT rfl ?_;conv=>whnf
    refine zB rfl (zU rfl rfl rfl (by omega)) ?_
    refine gz hT rfl ?_;conv=>whnf
    refine ⟨i+1,⟨hlt,fun s hs=>?_⟩,by omega,⟨lk rfl,lk rfl,lk rfl,lk rfl,lk rfl,trivial⟩,.nil⟩
    rw [List.take_succ_eq_append_getElem hlt,List.mem_append,List.mem_singleton] at hs
    rcases hs with hs | rfl
    ·exact hg s hs
    ·exact ⟨h,h2⟩
 ·simp only [decide_eq_false_iff_not,Int.ofNat_lt] at hlt
  rw [List.take_of_length_le (by omega)] at hg
  repeat' (first
   | (refine gz hT rfl ?_;conv=>whnf)
   | refine zA rfl (zN rfl rfl rfl ?_)
   | refine zA rfl (zH hT rfl rfl rfl rfl rfl rfl rfl rfl ?_)
   | refine zB rfl (zK hT rfl rfl rfl rfl rfl rfl (List.length_map _)) ?_
   | refine zG rfl rfl rfl rfl (fun h=>?_) (fun h=>?_))
  refine zP rfl rfl rfl ?_
  unfold wv
  have:(l.any fun s=>decide (s.size < least) || decide (most < s.size))=false:=by
   rw [List.any_eq_false]
   intro s hs
   have:=hg s hs
   simp [this.1,this.2]
  rw [this,Bool.not_false,Bool.and_true]
theorem wordsRef (m:MModule) (hl:m.globals.length < 2000000) (hg:∀ s∈m.globals,0≤s.size∧s.size≤1000):Pure Tryz.prog 110 [.agg (ze m)] (.int .i64 (wO m.globals)):=by
 have hb:∀ i,i≤m.globals.length→0≤wO (m.globals.take i)∧wO (m.globals.take i)≤i * 1000:=fun i=>by
  induction i with
  | zero=>intro _; simp [wO]
  | succ i ih =>
    intro h
    have:=ih (by omega)
    rw [zCg m.globals i (by omega)]
    have:=hg _ (List.getElem_mem (show i < m.globals.length by omega))
    push_cast
    omega
 refine VC.code hT 21 rfl rfl rfl rfl fun F W S0=>?_
 refine gz hT rfl ?_;conv=>whnf
 refine zA rfl (zN rfl rfl rfl ?_)
 refine gz hT rfl ?_;conv=>whnf
 refine zW (fun i:Nat=>([(1,.pin (ze m) 0),(3,.int .i64 (wO (m.globals.take i))),(4,.int .i64 i)],[])) (fun i=>i≤m.globals.length) (fun i=>m.globals.length - i) 0 (Nat.zero_le _) ⟨⟨lk rfl,lk rfl,lk rfl,trivial⟩,.nil⟩ ?_
 intro i hi
 repeat' (first
  | (refine gz hT rfl ?_;conv=>whnf)
  | refine zA rfl (zN rfl rfl rfl ?_)
  | refine zA rfl (zH hT rfl rfl rfl rfl rfl rfl rfl rfl ?_)
  | refine zB rfl (zK hT rfl rfl rfl rfl rfl rfl (List.length_map _)) ?_
  | refine zG rfl rfl rfl rfl (fun h=>?_) (fun h=>?_))
 refine zC rfl (fun hlt=>?_) (fun hlt=>?_)
 ·simp only [decide_eq_true_eq,Int.ofNat_lt] at hlt
  have h1:=hb i hi
  have h2:=hg _ (List.getElem_mem hlt)
  repeat' (first
   | (refine gz hT rfl ?_;conv=>whnf)
   | refine zA rfl (zN rfl rfl rfl ?_)
   | refine zA rfl (zH hT rfl rfl rfl rfl rfl rfl rfl rfl ?_)
   | refine zB rfl (zK hT rfl rfl rfl rfl rfl rfl (List.length_map _)) ?_
   | refine zG rfl rfl rfl rfl (fun h=>?_) (fun h=>?_)
   | refine zB rfl (zJ (xs:=m.globals) hT rfl rfl rfl rfl rfl hlt rfl) ?_
   | refine zB rfl (zU rfl rfl rfl (by omega)) ?_)
  refine ⟨i+1,hlt,by omega,⟨lk rfl,⟨_,rfl,?_⟩,lk rfl,trivial⟩,.nil⟩
  rw [zCg m.globals i hlt]
  exact .refl _
 ·simp only [decide_eq_false_iff_not,Int.ofNat_lt] at hlt
  refine gz hT rfl ?_;conv=>whnf
  refine zQ (.tmp rfl .nil) ?_
  rw [List.take_of_length_le (by omega)]
  rfl
theorem shapeRef (k:Int):Pure Tryz.prog 173 [.int .i64 k] (.str (zD k)):=by
 refine VC.code hT 14 rfl rfl rfl rfl fun F W S0=>?_
 refine gz hT rfl ?_;conv=>whnf
 refine zA rfl (zX hT rfl rfl rfl fun b3=>?_)
 refine gz hT rfl ?_;conv=>whnf
 refine zA rfl (zI (cs':=shapes.map .str) hT rfl rfl rfl .here rfl ?_)
 repeat' (first
  | (refine gz hT rfl ?_;conv=>whnf)
  | refine zA rfl (zN rfl rfl rfl ?_)
  | refine zA rfl (zH hT rfl rfl rfl rfl rfl rfl rfl rfl ?_)
  | refine zB rfl (zK hT rfl rfl rfl rfl rfl rfl (List.length_map _)) ?_
  | refine zG rfl rfl rfl rfl (fun h=>?_) (fun h=>?_))
 ·have h:=of_decide_eq_true h
  refine zQ (.tmp rfl .nil) ?_
  unfold zD
  rw [if_neg (by omega)]
  rfl
 ·have h:=of_decide_eq_false h
  refine zC rfl (fun h2=>?_) (fun h2=>?_)
  ·have h2:=of_decide_eq_true h2
   refine gz hT rfl ?_;conv=>whnf
   refine zQ (.tmp rfl .nil) ?_
   unfold zD
   rw [if_neg (by omega)]
   rfl
  ·have h2:=of_decide_eq_false h2
   have hget:(shapes.map V.str)[0+k.toNat * 1]?=some (.str (zD k)):=by
    have hk:k.toNat < shapes.length:=by show k.toNat < 24; omega
    rw [Nat.zero_add,Nat.mul_one,List.getElem?_map,List.getElem?_eq_getElem hk]
    unfold zD
    rw [if_pos (by omega),List.getD_eq_getElem?_getD,List.getElem?_eq_getElem hk]
    rfl
   refine gz hT rfl ?_;conv=>whnf
   refine zB rfl (ql hT rfl rfl rfl rfl rfl (by omega) (by omega)) ?_
   refine gz hT rfl ?_;conv=>whnf
   refine zB rfl (zT hT rfl rfl .here (yK rfl hget)) ?_
   refine gz hT rfl ?_;conv=>whnf
   exact zQ (.tmp rfl .nil) rfl
end
end Go.Vw
namespace Go.Vw
open Go.RowKit Go.Am Go.Proofs
attribute [local irreducible] yE zv zq VD VDn VDq Ret
def vn (m:MModule) (f:MFunc) (c:Int):Int :=
 if c=46 then 1 else if c=114 then f.regs else if c=105 then m.inputs.length else if c=104 then m.hatches.length else if c=119 then wO m.globals else if c=115 then m.structs.length else if c=108 then m.locks.length else if c=99 then m.chans.length else if c=111 then m.sinks.length else if c=102 then m.funcs.length else if c=107 then 2 else if c=117 then 3 else if c=98 then 12 else if c=103 then 16 else 0
def xV (c:Int):Int:=if c=117∨c=98 then 1 else 0
def yL (m:MModule) (f:MFunc) (c v:Int):Prop:=c=100∨c=110∨(xV c≤v∧v < vn m f c)
def ch (s:ByteArray) (i:Nat):Int:=if h:i < s.size then (s[i].toNat:Int) else 0
def kH (o:MOp):List Int:=[o.a,o.b,o.c,o.d,o.e,o.f,o.k]
def fieldAt (m:MModule) (f:MFunc) (o:MOp) (i:Nat):Prop:=yL m f (ch (zD o.kind) i) ((kH o).getD i 0)
theorem shape_none {k:Int}:zD k=⟨#[]⟩↔¬ (1≤k∧k≤23):=by
 constructor
 ·rintro h ⟨h1,h2⟩
  have:k=1∨k=2∨k=3∨k=4∨k=5∨k=6∨k=7∨k=8∨k=9∨k=10∨k=11∨k=12∨k=13∨k=14∨k=15∨k=16∨k=17∨k=18∨k=19∨k=20∨k=21∨k=22∨k=23:=by omega
  rcases this with rfl | rfl | rfl | rfl | rfl | rfl | rfl | rfl | rfl | rfl | rfl | rfl | rfl | rfl | rfl | rfl | rfl | rfl | rfl | rfl | rfl | rfl | rfl <;> exact absurd h (by decide)
 ·intro h
  unfold zD
  rw [if_neg h]
theorem shape_size {k:Int} (h:1≤k∧k≤23):(zD k).size=7:=by
 have:k=1∨k=2∨k=3∨k=4∨k=5∨k=6∨k=7∨k=8∨k=9∨k=10∨k=11∨k=12∨k=13∨k=14∨k=15∨k=16∨k=17∨k=18∨k=19∨k=20∨k=21∨k=22∨k=23:=by omega
 rcases this with rfl | rfl | rfl | rfl | rfl | rfl | rfl | rfl | rfl | rfl | rfl | rfl | rfl | rfl | rfl | rfl | rfl | rfl | rfl | rfl | rfl | rfl | rfl <;> rfl
theorem not_kind {m:MModule} {f:MFunc} {w:Int} {o:MOp} (h:¬ (1≤o.kind∧o.kind≤23)):xJ m f w o=false:=by
 have:xv m f w o=false:=by
  unfold xv uG
  rw [if_neg (by omega),if_neg (by omega),if_neg (by omega),if_neg (by omega),if_neg (by omega),if_neg (by omega),if_neg (by omega),if_neg (by omega),if_neg (by omega),if_neg (by omega),if_neg (by omega),if_neg (by omega),if_neg (by omega),if_neg (by omega),if_neg (by omega),if_neg (by omega),if_neg (by omega),if_neg (by omega),if_neg (by omega),if_neg (by omega),if_neg (by omega)]
 unfold xJ
 rw [this]; rfl
theorem all7 {P:Nat→Prop}:(∀ i,i < 7→P i)↔P 0∧P 1∧P 2∧P 3∧P 4∧P 5∧P 6:=by
 constructor
 ·intro h
  exact ⟨h 0 (by omega),h 1 (by omega),h 2 (by omega),h 3 (by omega),h 4 (by omega),h 5 (by omega),h 6 (by omega)⟩
 ·rintro ⟨h0,h1,h2,h3,h4,h5,h6⟩ i hi
  have:i=0∨i=1∨i=2∨i=3∨i=4∨i=5∨i=6:=by omega
  rcases this with rfl | rfl | rfl | rfl | rfl | rfl | rfl <;> assumption
theorem uj (m:MModule) (f:MFunc) (v:Int):yL m f 46 v↔0≤v∧v < 1:=by simp [yL,vn,xV]
theorem w7 (m:MModule) (f:MFunc) (v:Int):yL m f 114 v↔0≤v∧v < f.regs:=by simp [yL,vn,xV]
theorem fr105 (m:MModule) (f:MFunc) (v:Int):yL m f 105 v↔0≤v∧v < (m.inputs.length:Int):=by simp [yL,vn,xV]
theorem fr104 (m:MModule) (f:MFunc) (v:Int):yL m f 104 v↔0≤v∧v < (m.hatches.length:Int):=by simp [yL,vn,xV]
theorem fr119 (m:MModule) (f:MFunc) (v:Int):yL m f 119 v↔0≤v∧v < wO m.globals:=by simp [yL,vn,xV]
theorem fr115 (m:MModule) (f:MFunc) (v:Int):yL m f 115 v↔0≤v∧v < (m.structs.length:Int):=by simp [yL,vn,xV]
theorem fr108 (m:MModule) (f:MFunc) (v:Int):yL m f 108 v↔0≤v∧v < (m.locks.length:Int):=by simp [yL,vn,xV]
theorem fr99 (m:MModule) (f:MFunc) (v:Int):yL m f 99 v↔0≤v∧v < (m.chans.length:Int):=by simp [yL,vn,xV]
theorem fr111 (m:MModule) (f:MFunc) (v:Int):yL m f 111 v↔0≤v∧v < (m.sinks.length:Int):=by simp [yL,vn,xV]
theorem fr102 (m:MModule) (f:MFunc) (v:Int):yL m f 102 v↔0≤v∧v < (m.funcs.length:Int):=by simp [yL,vn,xV]
theorem fr107 (m:MModule) (f:MFunc) (v:Int):yL m f 107 v↔0≤v∧v < 2:=by simp [yL,vn,xV]
theorem fr117 (m:MModule) (f:MFunc) (v:Int):yL m f 117 v↔1≤v∧v < 3:=by simp [yL,vn,xV]
theorem fr98 (m:MModule) (f:MFunc) (v:Int):yL m f 98 v↔1≤v∧v < 12:=by simp [yL,vn,xV]
theorem fr103 (m:MModule) (f:MFunc) (v:Int):yL m f 103 v↔0≤v∧v < 16:=by simp [yL,vn,xV]
theorem fr100 (m:MModule) (f:MFunc) (v:Int):yL m f 100 v↔True:=by simp [yL]
theorem fr110 (m:MModule) (f:MFunc) (v:Int):yL m f 110 v↔True:=by simp [yL]
theorem zi {n:Int} {a:Int} {l:List Int}:zM n (a::l)=true↔(0≤a∧a < n)∧zM n l=true:=by
 simp [zM]
theorem zu {n:Int}:zM n []=true↔True:=by simp [zM]
def callOk (m:MModule) (f:MFunc) (o:MOp):Prop:=(o.k=0∧o.b = -1)∨(o.k≠0∧o.k=(m.fn o.a).result∧0≤o.b∧o.b < f.regs∧o.b≤f.regs - o.k)
def zCr (m:MModule) (f:MFunc) (o:MOp):Prop:=(o.kind=10∨o.kind=15→o.a≠o.b)∧(o.kind=22→callOk m f o)
theorem zBP {m:MModule} {f:MFunc} {o:MOp} (hk:1≤o.kind∧o.kind≤23):xv m f (wO m.globals) o=true↔(∀ i,i < 7→fieldAt m f o i)∧zCr m f o:=by
 rw [all7]
 unfold fieldAt kH zCr callOk xv uG
 simp only [List.getD_cons_zero,List.getD_cons_succ]
 have:o.kind=1∨o.kind=2∨o.kind=3∨o.kind=4∨o.kind=5∨o.kind=6∨o.kind=7∨o.kind=8∨o.kind=9∨o.kind=10∨o.kind=11∨o.kind=12∨o.kind=13∨o.kind=14∨o.kind=15∨o.kind=16∨o.kind=17∨o.kind=18∨o.kind=19∨o.kind=20∨o.kind=21∨o.kind=22∨o.kind=23:=by omega
 rcases this with e | e | e | e | e | e | e | e | e | e | e | e | e | e | e | e | e | e | e | e | e | e | e
 ·rw [e,show ch (zD 1) 0=114 from rfl,show ch (zD 1) 1=46 from rfl,show ch (zD 1) 2=46 from rfl,show ch (zD 1) 3=46 from rfl,show ch (zD 1) 4=46 from rfl,show ch (zD 1) 5=46 from rfl,show ch (zD 1) 6=110 from rfl]
  simp only [fr110,w7,uj]
  simp [zi,zu]
  try omega
 ·rw [e,show ch (zD 2) 0=114 from rfl,show ch (zD 2) 1=105 from rfl,show ch (zD 2) 2=46 from rfl,show ch (zD 2) 3=46 from rfl,show ch (zD 2) 4=46 from rfl,show ch (zD 2) 5=46 from rfl,show ch (zD 2) 6=46 from rfl]
  simp only [fr105,w7,uj]
  simp [zi,zu]
  try omega
 ·rw [e,show ch (zD 3) 0=114 from rfl,show ch (zD 3) 1=104 from rfl,show ch (zD 3) 2=46 from rfl,show ch (zD 3) 3=46 from rfl,show ch (zD 3) 4=46 from rfl,show ch (zD 3) 5=46 from rfl,show ch (zD 3) 6=46 from rfl]
  simp only [fr104,w7,uj]
  simp [zi,zu]
  try omega
 ·rw [e,show ch (zD 4) 0=114 from rfl,show ch (zD 4) 1=114 from rfl,show ch (zD 4) 2=46 from rfl,show ch (zD 4) 3=46 from rfl,show ch (zD 4) 4=46 from rfl,show ch (zD 4) 5=46 from rfl,show ch (zD 4) 6=46 from rfl]
  simp only [w7,uj]
  simp [zi,zu]
  try omega
 ·rw [e,show ch (zD 5) 0=114 from rfl,show ch (zD 5) 1=114 from rfl,show ch (zD 5) 2=46 from rfl,show ch (zD 5) 3=46 from rfl,show ch (zD 5) 4=46 from rfl,show ch (zD 5) 5=46 from rfl,show ch (zD 5) 6=117 from rfl]
  simp only [w7,fr117,uj]
  simp [zi,zu]
  try omega
 ·rw [e,show ch (zD 6) 0=114 from rfl,show ch (zD 6) 1=114 from rfl,show ch (zD 6) 2=114 from rfl,show ch (zD 6) 3=46 from rfl,show ch (zD 6) 4=46 from rfl,show ch (zD 6) 5=46 from rfl,show ch (zD 6) 6=98 from rfl]
  simp only [w7,uj,fr98]
  simp [zi,zu]
  try omega
 ·rw [e,show ch (zD 7) 0=114 from rfl,show ch (zD 7) 1=119 from rfl,show ch (zD 7) 2=46 from rfl,show ch (zD 7) 3=46 from rfl,show ch (zD 7) 4=46 from rfl,show ch (zD 7) 5=46 from rfl,show ch (zD 7) 6=107 from rfl]
  simp only [fr107,w7,fr119,uj]
  simp [zi,zu]
  try omega
 ·rw [e,show ch (zD 8) 0=119 from rfl,show ch (zD 8) 1=114 from rfl,show ch (zD 8) 2=46 from rfl,show ch (zD 8) 3=46 from rfl,show ch (zD 8) 4=46 from rfl,show ch (zD 8) 5=46 from rfl,show ch (zD 8) 6=107 from rfl]
  simp only [fr107,w7,fr119,uj]
  simp [zi,zu]
  try omega
 ·rw [e,show ch (zD 9) 0=114 from rfl,show ch (zD 9) 1=115 from rfl,show ch (zD 9) 2=46 from rfl,show ch (zD 9) 3=46 from rfl,show ch (zD 9) 4=46 from rfl,show ch (zD 9) 5=46 from rfl,show ch (zD 9) 6=46 from rfl]
  simp only [w7,fr115,uj]
  simp [zi,zu]
  try omega
 ·rw [e,show ch (zD 10) 0=114 from rfl,show ch (zD 10) 1=114 from rfl,show ch (zD 10) 2=114 from rfl,show ch (zD 10) 3=46 from rfl,show ch (zD 10) 4=46 from rfl,show ch (zD 10) 5=46 from rfl,show ch (zD 10) 6=46 from rfl]
  simp only [w7,uj]
  simp [zi,zu]
  try omega
 ·rw [e,show ch (zD 11) 0=114 from rfl,show ch (zD 11) 1=114 from rfl,show ch (zD 11) 2=103 from rfl,show ch (zD 11) 3=46 from rfl,show ch (zD 11) 4=46 from rfl,show ch (zD 11) 5=46 from rfl,show ch (zD 11) 6=107 from rfl]
  simp only [fr103,fr107,w7,uj]
  simp [zi,zu]
  try omega
 ·rw [e,show ch (zD 12) 0=114 from rfl,show ch (zD 12) 1=103 from rfl,show ch (zD 12) 2=114 from rfl,show ch (zD 12) 3=46 from rfl,show ch (zD 12) 4=46 from rfl,show ch (zD 12) 5=46 from rfl,show ch (zD 12) 6=107 from rfl]
  simp only [fr103,fr107,w7,uj]
  simp [zi,zu]
  try omega
 ·rw [e,show ch (zD 13) 0=114 from rfl,show ch (zD 13) 1=114 from rfl,show ch (zD 13) 2=114 from rfl,show ch (zD 13) 3=114 from rfl,show ch (zD 13) 4=46 from rfl,show ch (zD 13) 5=46 from rfl,show ch (zD 13) 6=46 from rfl]
  simp only [w7,uj]
  simp [zi,zu]
  try omega
 ·rw [e,show ch (zD 14) 0=114 from rfl,show ch (zD 14) 1=114 from rfl,show ch (zD 14) 2=114 from rfl,show ch (zD 14) 3=114 from rfl,show ch (zD 14) 4=46 from rfl,show ch (zD 14) 5=46 from rfl,show ch (zD 14) 6=46 from rfl]
  simp only [w7,uj]
  simp [zi,zu]
  try omega
 ·rw [e,show ch (zD 15) 0=114 from rfl,show ch (zD 15) 1=114 from rfl,show ch (zD 15) 2=114 from rfl,show ch (zD 15) 3=114 from rfl,show ch (zD 15) 4=114 from rfl,show ch (zD 15) 5=114 from rfl,show ch (zD 15) 6=46 from rfl]
  simp only [w7,uj]
  simp [zi,zu]
  try omega
 ·rw [e,show ch (zD 16) 0=108 from rfl,show ch (zD 16) 1=46 from rfl,show ch (zD 16) 2=46 from rfl,show ch (zD 16) 3=46 from rfl,show ch (zD 16) 4=46 from rfl,show ch (zD 16) 5=46 from rfl,show ch (zD 16) 6=46 from rfl]
  simp only [fr108,uj]
  simp [zi,zu]
  try omega
 ·rw [e,show ch (zD 17) 0=108 from rfl,show ch (zD 17) 1=46 from rfl,show ch (zD 17) 2=46 from rfl,show ch (zD 17) 3=46 from rfl,show ch (zD 17) 4=46 from rfl,show ch (zD 17) 5=46 from rfl,show ch (zD 17) 6=46 from rfl]
  simp only [fr108,uj]
  simp [zi,zu]
  try omega
 ·rw [e,show ch (zD 18) 0=99 from rfl,show ch (zD 18) 1=114 from rfl,show ch (zD 18) 2=46 from rfl,show ch (zD 18) 3=46 from rfl,show ch (zD 18) 4=46 from rfl,show ch (zD 18) 5=46 from rfl,show ch (zD 18) 6=46 from rfl]
  simp only [w7,uj,fr99]
  simp [zi,zu]
  try omega
 ·rw [e,show ch (zD 19) 0=114 from rfl,show ch (zD 19) 1=99 from rfl,show ch (zD 19) 2=46 from rfl,show ch (zD 19) 3=46 from rfl,show ch (zD 19) 4=46 from rfl,show ch (zD 19) 5=46 from rfl,show ch (zD 19) 6=46 from rfl]
  simp only [w7,uj,fr99]
  simp [zi,zu]
  try omega
 ·rw [e,show ch (zD 20) 0=111 from rfl,show ch (zD 20) 1=114 from rfl,show ch (zD 20) 2=46 from rfl,show ch (zD 20) 3=46 from rfl,show ch (zD 20) 4=46 from rfl,show ch (zD 20) 5=46 from rfl,show ch (zD 20) 6=46 from rfl]
  simp only [fr111,w7,uj]
  simp [zi,zu]
  try omega
 ·rw [e,show ch (zD 21) 0=114 from rfl,show ch (zD 21) 1=46 from rfl,show ch (zD 21) 2=46 from rfl,show ch (zD 21) 3=46 from rfl,show ch (zD 21) 4=46 from rfl,show ch (zD 21) 5=46 from rfl,show ch (zD 21) 6=46 from rfl]
  simp only [w7,uj]
  simp [zi,zu]
  try omega
 ·rw [e,show ch (zD 22) 0=102 from rfl,show ch (zD 22) 1=100 from rfl,show ch (zD 22) 2=46 from rfl,show ch (zD 22) 3=46 from rfl,show ch (zD 22) 4=46 from rfl,show ch (zD 22) 5=46 from rfl,show ch (zD 22) 6=100 from rfl]
  simp only [fr100,fr102,uj,zi,zu,Bool.and_eq_true,decide_eq_true_eq,Bool.not_eq_true',decide_eq_false_iff_not]
  simp only [reduceIte,Int.reduceEq,or_false,or_self,false_or,Int.reduceLT,Int.reduceLE,forall_const,false_implies,true_implies,and_true,true_and,ne_eq]
  by_cases hk0:o.k=0
  ·simp only [hk0,if_pos,Bool.and_eq_true,zi,zu,decide_eq_true_eq]
   simp only [and_true,not_true_eq_false,false_and,or_false]
   constructor
   ·rintro ⟨⟨h1,h2⟩,h3⟩
    exact ⟨⟨h1,h2⟩,by simpa using h3⟩
   ·rintro ⟨⟨h1,h2⟩,h3⟩
    exact ⟨⟨h1,h2⟩,by simpa using h3⟩
  ·simp only [if_neg hk0,Bool.and_eq_true,zi,zu,decide_eq_true_eq]
   simp only [and_true,hk0,false_and,false_or,not_false_eq_true,true_and]
   constructor
   ·rintro ⟨⟨h1,h2⟩,⟨h3,h4⟩,h5⟩
    exact ⟨⟨h1,h2⟩,h3,h4.1,h4.2,h5⟩
   ·rintro ⟨⟨h1,h2⟩,h3,h4,h5,h6⟩
    exact ⟨⟨h1,h2⟩,⟨h3,h4,h5⟩,h6⟩
 ·rw [e,show ch (zD 23) 0=46 from rfl,show ch (zD 23) 1=46 from rfl,show ch (zD 23) 2=46 from rfl,show ch (zD 23) 3=46 from rfl,show ch (zD 23) 4=46 from rfl,show ch (zD 23) 5=46 from rfl,show ch (zD 23) 6=46 from rfl]
  simp only [uj]
  simp [zi,zu]
  try omega
section
variable {P:Program} {S:Hp} {tb:Tab} {o:Oper} {ρ:Operand→Option V}
theorem g_indexCh (hT:TabOk tb P) {t:TypeId} {x ix:Operand} {s:ByteArray} {κ:IntKind} {i:Nat} (ho:o.op = .index t x ix) (ht:tb.under t=some .string) (hx:ρ x=some (.str s)) (hi:ρ ix=some (.int κ (i:Int))) (hlt:i < s.size):QG P o ρ S (.int .u8 (ch s i)):=by
 unfold ch
 rw [dif_pos hlt]
 exact g_indexStr hT ho ht hx hi hlt
theorem g_indexCh' (hT:TabOk tb P) {t:TypeId} {x ix:Operand} {s:ByteArray} {κ:IntKind} {i:Nat} {c:Int} (ho:o.op = .index t x ix) (ht:tb.under t=some .string) (hx:ρ x=some (.str s)) (hi:ρ ix=some (.int κ (i:Int))) (hlt:i < s.size) (hc:ch s i=c):QG P o ρ S (.int .u8 c):=by
 subst hc
 exact g_indexCh hT ho ht hx hi hlt
end
section
variable [Drw] (hT:TabOk tab Tryz.prog)
include hT
set_option maxRecDepth 100000 in
set_option maxHeartbeats 4000000 in
theorem opRef (m:MModule) (hs:Small m) (hm:∀ f∈m.funcs,OkF f) (hg:∀ s∈m.globals,0≤s.size∧s.size≤1000) (f:MFunc) (hf:OkF f) (o:MOp) (hl:o.args.length < 2000000):Pure Tryz.prog 109 [.agg (ze m),.agg (yt f),.agg (opV o)] (.ob (xJ m f (wO m.globals) o)):=by
 refine VC.code hT 267 rfl rfl rfl rfl fun F W S0=>?_
 repeat' (first
  | (refine gz hT rfl ?_;conv=>whnf)
  | refine zA rfl (zN rfl rfl rfl ?_)
  | refine zA rfl (zH hT rfl rfl rfl rfl rfl rfl rfl rfl ?_)
  | refine zB rfl (zK hT rfl rfl rfl rfl rfl rfl (List.length_map _)) ?_
  | refine zG rfl rfl rfl rfl (fun h=>?_) (fun h=>?_)
  | refine zA rfl (zR hT rfl rfl rfl rfl rfl rfl (shapeRef hT o.kind) ?_))
 refine zC rfl (fun h=>?_) (fun h=>?_)
 ·have h:=shape_none.1 (of_decide_eq_true h)
  refine gz hT rfl ?_;conv=>whnf
  refine zP rfl rfl rfl ?_
  rw [not_kind h]
 have hk:1≤o.kind∧o.kind≤23:=by
  have h:=of_decide_eq_false h
  rw [shape_none] at h
  omega
 have hsz:=shape_size hk
 refine gz hT rfl ?_;conv=>whnf
 refine zA rfl (zX hT rfl rfl rfl fun b8=>?_)
 refine gz hT rfl ?_;conv=>whnf
 refine zA rfl (zI (cs':=(kH o).map fun v=>.int .i64 v) hT rfl rfl rfl .here rfl ?_)
 refine gz hT rfl ?_;conv=>whnf
 refine zW (fun i:Nat=>([(3,.pin (ze m) 0),(4,.pin (yt f) 0),(5,.pin (opV o) 0),(7,.str (zD o.kind)),(8,.ptr b8 0),(9,.int .i64 i)],[.cells b8 ((kH o).map fun v=>.int .i64 v) 286])) (fun i=>i≤7∧∀ j,j < i→fieldAt m f o j) (fun i=>7 - i) 0 ⟨Nat.zero_le _,fun j hj=>absurd hj (Nat.not_lt_zero _)⟩ ⟨⟨lk rfl,lk rfl,lk rfl,lk rfl,lk rfl,lk rfl,trivial⟩,.refl _⟩ ?_
 rintro i ⟨hi,hall⟩
 refine gz hT rfl ?_;conv=>whnf
 refine zC rfl (fun hlt=>?_) (fun hlt=>?_)
 ·have hlt:i < 7:=by have:=of_decide_eq_true hlt; omega
  refine gz hT rfl ?_;conv=>whnf
  refine zB rfl (g_indexCh (i:=i) hT rfl rfl rfl rfl (by rw [hsz]; exact hlt)) ?_
  generalize hc:ch (zD o.kind) i=c
  have step:yL m f c ((kH o).getD i 0)→∀ j,j < i+1→fieldAt m f o j:=fun hx j hj=>by
   by_cases e:j=i
   ·subst e
    unfold fieldAt
    rw [hc]; exact hx
   ·exact hall j (by omega)
  have bad:¬ yL m f c ((kH o).getD i 0)→xJ m f (wO m.globals) o=false:=fun hx=>by
   have:xv m f (wO m.globals) o=false:=by
    rw [← Bool.not_eq_true]
    intro he
    have:=((zBP hk).1 he).1 i hlt
    unfold fieldAt at this
    rw [hc] at this
    exact hx this
   unfold xJ
   rw [this]; rfl
  have hval:((kH o).map fun v=>V.int .i64 v)[0+(i:Int).toNat * 1]?=some (.int .i64 ((kH o).getD i 0)):=by
   have hl7:i < (kH o).length:=hlt
   rw [Int.toNat_natCast,Nat.zero_add,Nat.mul_one,List.getElem?_map,List.getD_eq_getElem?_getD,List.getElem?_eq_getElem hl7]
   rfl
  generalize hv:(kH o).getD i 0=v at step bad hval
  refine gz hT rfl ?_;conv=>whnf
  refine zC rfl (fun h100=>?_) (fun h100=>?_)
  ·have h100:=of_decide_eq_true h100
   refine gz hT rfl ?_;conv=>whnf
   refine zB rfl (zU rfl rfl rfl (by omega)) ?_
   refine gz hT rfl ?_;conv=>whnf
   exact ⟨i+1,⟨hlt,step (.inl h100)⟩,by omega,⟨lk rfl,lk rfl,lk rfl,lk rfl,lk rfl,lk rfl,trivial⟩,.refl _⟩
  have h100:=of_decide_eq_false h100
  refine gz hT rfl ?_;conv=>whnf
  refine zC rfl (fun h110=>?_) (fun h110=>?_)
  ·have h110:=of_decide_eq_true h110
   refine gz hT rfl ?_;conv=>whnf
   refine zB rfl (zU rfl rfl rfl (by omega)) ?_
   refine gz hT rfl ?_;conv=>whnf
   exact ⟨i+1,⟨hlt,step (.inr (.inl h110))⟩,by omega,⟨lk rfl,lk rfl,lk rfl,lk rfl,lk rfl,lk rfl,trivial⟩,.refl _⟩
  have h110:=of_decide_eq_false h110
  refine kf 1 (fun y:Int=>([(3,.pin (ze m) 0),(4,.pin (yt f) 0),(5,.pin (opV o) 0),(7,.str (zD o.kind)),(8,.ptr b8 0),(9,.int .i64 i),(10,.int .i64 y)],[.cells b8 ((kH o).map fun v=>.int .i64 v) 286])) (fun y=>y=vn m f c) ?_ ?_
  ·repeat' (first
    | (refine gz hT rfl ?_;conv=>whnf)
    | refine zA rfl (zN rfl rfl rfl ?_)
    | refine zA rfl (zH hT rfl rfl rfl rfl rfl rfl rfl rfl ?_)
    | refine zB rfl (zK hT rfl rfl rfl rfl rfl rfl (List.length_map _)) ?_
    | refine zG rfl rfl rfl rfl (fun h=>?_) (fun h=>?_)
    | refine zC rfl (fun h=>?_) (fun h=>?_)
    | refine zA rfl (zR hT rfl rfl rfl rfl rfl rfl (wordsRef hT m hs.globals hg) ?_))
   all_goals refine ⟨_,?_,⟨lk rfl,lk rfl,lk rfl,lk rfl,lk rfl,lk rfl,lk rfl,trivial⟩,.refl _⟩
   all_goals (clear hT; simp only [decide_eq_true_eq,decide_eq_false_iff_not] at *; unfold vn; simp only [*,if_true,if_false,reduceIte]; try (first | rfl | simp))
  ·rintro _ rfl
   repeat' (first
    | (refine gz hT rfl ?_;conv=>whnf)
    | refine zA rfl (zN rfl rfl rfl ?_)
    | refine zA rfl (zH hT rfl rfl rfl rfl rfl rfl rfl rfl ?_)
    | refine zB rfl (zK hT rfl rfl rfl rfl rfl rfl (List.length_map _)) ?_
    | refine zG rfl rfl rfl rfl (fun h=>?_) (fun h=>?_)
    | refine zB rfl (g_indexCh' hT rfl rfl rfl rfl (by rw [hsz]; exact hlt) hc) ?_)
   ·have hle:xV c=1:=by unfold xV; rw [if_pos (.inl (of_decide_eq_true h))]
    repeat' (first
     | (refine gz hT rfl ?_;conv=>whnf)
     | refine zA rfl (zN rfl rfl rfl ?_)
     | refine zA rfl (zH hT rfl rfl rfl rfl rfl rfl rfl rfl ?_)
     | refine zB rfl (zK hT rfl rfl rfl rfl rfl rfl (List.length_map _)) ?_
     | refine zG rfl rfl rfl rfl (fun h=>?_) (fun h=>?_)
     | refine zB rfl (ql hT rfl rfl rfl rfl rfl (by omega) (by omega)) ?_
     | refine zB rfl (zT hT rfl rfl .here (yK rfl hval)) ?_)
    ·have h:=of_decide_eq_true h
     refine zP rfl rfl rfl ?_
     rw [bad fun hx=>by rcases hx with hx | hx | hx <;> first | exact h100 hx | exact h110 hx | (rw [hle] at hx; omega)]
    ·have h:=of_decide_eq_false h
     refine zC rfl (fun h2=>?_) (fun h2=>?_)
     ·have h2:=of_decide_eq_true h2
      refine gz hT rfl ?_;conv=>whnf
      refine zP rfl rfl rfl ?_
      rw [bad fun hx=>by rcases hx with hx | hx | hx <;> first | exact h100 hx | exact h110 hx | omega]
     ·have h2:=of_decide_eq_false h2
      refine gz hT rfl ?_;conv=>whnf
      refine zB rfl (zU rfl rfl rfl (by omega)) ?_
      refine gz hT rfl ?_;conv=>whnf
      exact ⟨i+1,⟨hlt,step (.inr (.inr ⟨by rw [hle]; omega,by omega⟩))⟩,by omega,⟨lk rfl,lk rfl,lk rfl,lk rfl,lk rfl,lk rfl,trivial⟩,.refl _⟩
   ·have h117:=of_decide_eq_false h
    refine zC rfl (fun h98=>?_) (fun h98=>?_)
    ·have hle:xV c=1:=by unfold xV; rw [if_pos (.inr (of_decide_eq_true h98))]
     refine gz hT rfl ?_;conv=>whnf
     repeat' (first
      | (refine gz hT rfl ?_;conv=>whnf)
      | refine zA rfl (zN rfl rfl rfl ?_)
      | refine zA rfl (zH hT rfl rfl rfl rfl rfl rfl rfl rfl ?_)
      | refine zB rfl (zK hT rfl rfl rfl rfl rfl rfl (List.length_map _)) ?_
      | refine zG rfl rfl rfl rfl (fun h=>?_) (fun h=>?_)
      | refine zB rfl (ql hT rfl rfl rfl rfl rfl (by omega) (by omega)) ?_
      | refine zB rfl (zT hT rfl rfl .here (yK rfl hval)) ?_)
     ·have h:=of_decide_eq_true h
      refine zP rfl rfl rfl ?_
      rw [bad fun hx=>by rcases hx with hx | hx | hx <;> first | exact h100 hx | exact h110 hx | (rw [hle] at hx; omega)]
     ·have h:=of_decide_eq_false h
      refine zC rfl (fun h2=>?_) (fun h2=>?_)
      ·have h2:=of_decide_eq_true h2
       refine gz hT rfl ?_;conv=>whnf
       refine zP rfl rfl rfl ?_
       rw [bad fun hx=>by rcases hx with hx | hx | hx <;> first | exact h100 hx | exact h110 hx | omega]
      ·have h2:=of_decide_eq_false h2
       refine gz hT rfl ?_;conv=>whnf
       refine zB rfl (zU rfl rfl rfl (by omega)) ?_
       refine gz hT rfl ?_;conv=>whnf
       exact ⟨i+1,⟨hlt,step (.inr (.inr ⟨by rw [hle]; omega,by omega⟩))⟩,by omega,⟨lk rfl,lk rfl,lk rfl,lk rfl,lk rfl,lk rfl,trivial⟩,.refl _⟩
    ·have h98:=of_decide_eq_false h98
     have hle:xV c=0:=by unfold xV; rw [if_neg fun hx=>by rcases hx with hx | hx <;> contradiction]
     refine gz hT rfl ?_;conv=>whnf
     repeat' (first
      | (refine gz hT rfl ?_;conv=>whnf)
      | refine zA rfl (zN rfl rfl rfl ?_)
      | refine zA rfl (zH hT rfl rfl rfl rfl rfl rfl rfl rfl ?_)
      | refine zB rfl (zK hT rfl rfl rfl rfl rfl rfl (List.length_map _)) ?_
      | refine zG rfl rfl rfl rfl (fun h=>?_) (fun h=>?_)
      | refine zB rfl (ql hT rfl rfl rfl rfl rfl (by omega) (by omega)) ?_
      | refine zB rfl (zT hT rfl rfl .here (yK rfl hval)) ?_)
     ·have h:=of_decide_eq_true h
      refine zP rfl rfl rfl ?_
      rw [bad fun hx=>by rcases hx with hx | hx | hx <;> first | exact h100 hx | exact h110 hx | (rw [hle] at hx; omega)]
     ·have h:=of_decide_eq_false h
      refine zC rfl (fun h2=>?_) (fun h2=>?_)
      ·have h2:=of_decide_eq_true h2
       refine gz hT rfl ?_;conv=>whnf
       refine zP rfl rfl rfl ?_
       rw [bad fun hx=>by rcases hx with hx | hx | hx <;> first | exact h100 hx | exact h110 hx | omega]
      ·have h2:=of_decide_eq_false h2
       refine gz hT rfl ?_;conv=>whnf
       refine zB rfl (zU rfl rfl rfl (by omega)) ?_
       refine gz hT rfl ?_;conv=>whnf
       exact ⟨i+1,⟨hlt,step (.inr (.inr ⟨by rw [hle]; omega,by omega⟩))⟩,by omega,⟨lk rfl,lk rfl,lk rfl,lk rfl,lk rfl,lk rfl,trivial⟩,.refl _⟩
 ·have h7:i=7:=by have:=of_decide_eq_false hlt; omega
  subst h7
  refine wJ (S':=[]) .nil ?_
  have off:(¬ zCr m f o)→xJ m f (wO m.globals) o=false:=fun hx=>by
   have:xv m f (wO m.globals) o=false:=by
    rw [← Bool.not_eq_true]
    exact fun he=>hx ((zBP hk).1 he).2
   unfold xJ
   rw [this]; rfl
  refine gz hT rfl ?_;conv=>whnf
  refine kf 2 (fun y:Int=>([(3,.pin (ze m) 0),(4,.pin (yt f) 0),(5,.pin (opV o) 0),(12,.int .i64 y)],[])) (fun y=>y=xY m f o∧zCr m f o) ?_ ?_
  ·refine zC rfl (fun h10=>?_) (fun h10=>?_)
   ·have h10:=of_decide_eq_true h10
    refine gz hT rfl ?_;conv=>whnf
    refine zC rfl (fun hab=>?_) (fun hab=>?_)
    ·have hab:=of_decide_eq_true hab
     refine gz hT rfl ?_;conv=>whnf
     refine zP rfl rfl rfl ?_
     rw [off fun hx=>hx.1 (.inl h10) hab]
    ·have hab:=of_decide_eq_false hab
     refine gz hT rfl ?_;conv=>whnf
     refine ⟨0,⟨?_,fun _=>hab,fun h=>by omega⟩,⟨lk rfl,lk rfl,lk rfl,lk rfl,trivial⟩,.refl _⟩
     unfold xY
     rw [if_neg (by omega),if_neg (by omega)]
   have h10:=of_decide_eq_false h10
   refine gz hT rfl ?_;conv=>whnf
   refine zC rfl (fun h15=>?_) (fun h15=>?_)
   ·have h15:=of_decide_eq_true h15
    refine gz hT rfl ?_;conv=>whnf
    refine zC rfl (fun hab=>?_) (fun hab=>?_)
    ·have hab:=of_decide_eq_true hab
     refine gz hT rfl ?_;conv=>whnf
     refine zP rfl rfl rfl ?_
     rw [off fun hx=>hx.1 (.inr h15) hab]
    ·have hab:=of_decide_eq_false hab
     refine gz hT rfl ?_;conv=>whnf
     refine ⟨0,⟨?_,fun _=>hab,fun h=>by omega⟩,⟨lk rfl,lk rfl,lk rfl,lk rfl,trivial⟩,.refl _⟩
     unfold xY
     rw [if_neg (by omega),if_neg (by omega)]
   have h15:=of_decide_eq_false h15
   refine gz hT rfl ?_;conv=>whnf
   refine zC rfl (fun h22=>?_) (fun h22=>?_)
   ·have h22:=of_decide_eq_true h22
    have ha:zM m.funcs.length [o.a]=true:=by
     have h0:=hall 0 (by omega)
     unfold fieldAt kH at h0
     rw [h22,show ch (zD 22) 0=102 from rfl,fr102] at h0
     exact belowB_one.2 h0
    have okG:=MModule.fn_ok hm ha
    have hG1:=okG.result
    have ex:zCr m f o↔callOk m f o:=by
     unfold zCr
     rw [h22]
     simp
    refine gz hT rfl ?_;conv=>whnf
    refine zB rfl (xh hT rfl rfl rfl ha) ?_
    refine gz hT rfl ?_;conv=>whnf
    refine zA rfl (zX hT rfl rfl rfl fun b13=>?_)
    refine gz hT rfl ?_;conv=>whnf
    refine zA rfl (zI (cs':=yt (m.fn o.a)) hT rfl rfl rfl .here rfl ?_)
    refine zo (t:=13) rfl ?_
    have hrg:=hf.regs
    repeat' (first
     | (refine gz hT rfl ?_;conv=>whnf)
     | refine zA rfl (zN rfl rfl rfl ?_)
     | refine zA rfl (zH hT rfl rfl rfl rfl rfl rfl rfl rfl ?_)
     | refine zB rfl (zK hT rfl rfl rfl rfl rfl rfl (List.length_map _)) ?_
     | refine zG rfl rfl rfl rfl (fun h=>?_) (fun h=>?_)
     | refine zC rfl (fun h=>?_) (fun h=>?_)
     | refine zB rfl (g_sub rfl rfl rfl (by simp only [Bool.not_eq_false',Bool.not_eq_true',decide_eq_true_eq,decide_eq_false_iff_not] at *; omega)) ?_)
    all_goals first
     | (refine zP rfl rfl rfl ?_
        rw [off fun hx=>?_]
        have hx:=ex.1 hx
        unfold callOk at hx
        simp only [Bool.not_eq_false',Bool.not_eq_true',decide_eq_true_eq,decide_eq_false_iff_not] at *
        omega)
     | (refine ⟨(m.fn o.a).params,⟨?_,?_⟩,⟨lk rfl,lk rfl,lk rfl,lk rfl,trivial⟩,.refl _⟩
        ·unfold xY
         rw [if_pos h22]
        ·rw [ex]
         unfold callOk
         simp only [Bool.not_eq_false',Bool.not_eq_true',decide_eq_true_eq,decide_eq_false_iff_not] at *
         omega)
   have h22:=of_decide_eq_false h22
   refine gz hT rfl ?_;conv=>whnf
   refine zC rfl (fun h23=>?_) (fun h23=>?_)
   ·have h23:=of_decide_eq_true h23
    refine gz hT rfl ?_;conv=>whnf
    refine ⟨f.result,⟨?_,fun h=>by omega,fun h=>by omega⟩,⟨lk rfl,lk rfl,lk rfl,lk rfl,trivial⟩,.refl _⟩
    unfold xY
    rw [if_neg h22,if_pos h23]
   ·have h23:=of_decide_eq_false h23
    refine gz hT rfl ?_;conv=>whnf
    refine ⟨0,⟨?_,fun h=>by omega,fun h=>by omega⟩,⟨lk rfl,lk rfl,lk rfl,lk rfl,trivial⟩,.refl _⟩
    unfold xY
    rw [if_neg h22,if_neg h23]
  ·rintro _ ⟨rfl,hex⟩
   have hfb:xv m f (wO m.globals) o=true:=(zBP hk).2 ⟨hall,hex⟩
   have eqn:xJ m f (wO m.globals) o=(zM f.regs o.args && decide ((o.args.length:Int)=xY m f o) && zM (if o.kind=23 then 1 else f.code.length) [o.next] && zM (if o.kind=21 then f.code.length else 1) [o.els]):=by
    unfold xJ
    rw [hfb,Bool.true_and]
   rw [eqn]
   repeat' (first
    | (refine gz hT rfl ?_;conv=>whnf)
    | refine zA rfl (zN rfl rfl rfl ?_)
    | refine zA rfl (zH hT rfl rfl rfl rfl rfl rfl rfl rfl ?_)
    | refine zB rfl (zK hT rfl rfl rfl rfl rfl rfl (List.length_map _)) ?_
    | refine zG rfl rfl rfl rfl (fun h=>?_) (fun h=>?_))
   refine zC rfl (fun hne=>?_) (fun heq=>?_)
   ·have hne:¬ (o.args.length:Int)=xY m f o:=by simpa using hne
    refine gz hT rfl ?_;conv=>whnf
    refine zP rfl rfl rfl ?_
    rw [decide_eq_false hne,Bool.and_false,Bool.false_and,Bool.false_and]
   have heq:(o.args.length:Int)=xY m f o:=by simpa using heq
   rw [decide_eq_true heq,Bool.and_true]
   refine gz hT rfl ?_;conv=>whnf
   refine zW (fun k:Nat=>([(3,.pin (ze m) 0),(4,.pin (yt f) 0),(5,.pin (opV o) 0),(15,.int .i64 k)],[])) (fun k=>k≤o.args.length∧∀ a∈o.args.take k,0≤a∧a < f.regs) (fun k=>o.args.length - k) 0 ⟨Nat.zero_le _,fun a ha=>by simp at ha⟩ ⟨⟨lk rfl,lk rfl,lk rfl,lk rfl,trivial⟩,.nil⟩ ?_
   rintro k ⟨hk1,hk2⟩
   repeat' (first
    | (refine gz hT rfl ?_;conv=>whnf)
    | refine zA rfl (zN rfl rfl rfl ?_)
    | refine zA rfl (zH hT rfl rfl rfl rfl rfl rfl rfl rfl ?_)
    | refine zB rfl (zK hT rfl rfl rfl rfl rfl rfl (List.length_map _)) ?_
    | refine zG rfl rfl rfl rfl (fun h=>?_) (fun h=>?_))
   refine zC rfl (fun hlt=>?_) (fun hlt=>?_)
   ·simp only [decide_eq_true_eq,Int.ofNat_lt] at hlt
    have badA:¬ (0≤o.args[k]∧o.args[k] < f.regs)→zM f.regs o.args=false:=fun hx=>by
     rw [← Bool.not_eq_true]
     intro hb
     simp only [zM,Bool.not_eq_true',List.any_eq_false] at hb
     have:=hb _ (List.getElem_mem hlt)
     simp at this
     omega
    refine gz hT rfl ?_;conv=>whnf
    intro id
    refine zd hT rfl rfl ?_ id
    repeat' (first
     | (refine god hT 2 rfl ?_;conv=>whnf)
     | refine zV rfl ?_
     | refine q_g rfl (fun S'=>(zK hT rfl rfl rfl rfl rfl rfl (List.length_map _)).qs) ?_
     | refine zk rfl rfl rfl rfl (fun h=>?_) (fun h=>?_)
     | refine q_g rfl (fun S'=>(zJ (xs:=o.args) hT rfl rfl rfl rfl rfl hlt rfl).qs) ?_)
    ·have h:=of_decide_eq_true h
     refine gz hT rfl ?_;conv=>whnf
     refine zP rfl rfl rfl ?_
     rw [badA (by omega)]; rfl
    ·have h:=of_decide_eq_false h
     refine gz hT rfl ?_;conv=>whnf
     refine zC rfl (fun h2=>?_) (fun h2=>?_)
     ·have h2:=of_decide_eq_true h2
      refine gz hT rfl ?_;conv=>whnf
      refine zP rfl rfl rfl ?_
      rw [badA (by omega)]; rfl
     ·have h2:=of_decide_eq_false h2
      refine gz hT rfl ?_;conv=>whnf
      refine zB rfl (zU rfl rfl rfl (by omega)) ?_
      refine gz hT rfl ?_;conv=>whnf
      refine ⟨k+1,⟨hlt,fun a ha=>?_⟩,by omega,⟨lk rfl,lk rfl,lk rfl,lk rfl,trivial⟩,.nil⟩
      rw [List.take_succ_eq_append_getElem hlt,List.mem_append,List.mem_singleton] at ha
      rcases ha with ha | rfl
      ·exact hk2 a ha
      ·omega
   ·simp only [decide_eq_false_iff_not,Int.ofNat_lt] at hlt
    rw [List.take_of_length_le (by omega)] at hk2
    have hA:zM f.regs o.args=true:=by
     simp only [zM,Bool.not_eq_true',List.any_eq_false]
     intro a ha
     have:=hk2 a ha
     simp
     omega
    rw [hA,Bool.true_and]
    refine gz hT rfl ?_;conv=>whnf
    refine zC rfl (fun h23=>?_) (fun h23=>?_)
    ·have h23:=of_decide_eq_true h23
     rw [if_pos h23,if_neg (by omega)]
     repeat' (first
      | (refine gz hT rfl ?_;conv=>whnf)
      | refine zA rfl (zN rfl rfl rfl ?_)
      | refine zA rfl (zH hT rfl rfl rfl rfl rfl rfl rfl rfl ?_)
      | refine zB rfl (zK hT rfl rfl rfl rfl rfl rfl (List.length_map _)) ?_
      | refine zG rfl rfl rfl rfl (fun h=>?_) (fun h=>?_))
     all_goals
      refine zP rfl rfl rfl ?_
      refine congrArg V.ob ?_
      simp only [decide_eq_true_eq,decide_eq_false_iff_not] at h
      rw [Bool.eq_iff_iff,Bool.and_eq_true,belowB_one,belowB_one]
      simp only [decide_eq_true_eq,Bool.false_eq_true,false_iff,true_iff]
      omega
    ·have h23:=of_decide_eq_false h23
     rw [if_neg h23]
     repeat' (first
      | (refine gz hT rfl ?_;conv=>whnf)
      | refine zA rfl (zN rfl rfl rfl ?_)
      | refine zA rfl (zH hT rfl rfl rfl rfl rfl rfl rfl rfl ?_)
      | refine zB rfl (zK hT rfl rfl rfl rfl rfl rfl (List.length_map _)) ?_
      | refine zG rfl rfl rfl rfl (fun h=>?_) (fun h=>?_))
     all_goals
      refine zP rfl rfl rfl ?_
      refine congrArg V.ob ?_
      simp only [decide_eq_true_eq,decide_eq_false_iff_not,Bool.not_eq_true',Bool.not_eq_false'] at *
      by_cases h21:o.kind=21
      ·rw [if_pos h21,Bool.eq_iff_iff,Bool.and_eq_true,belowB_one,belowB_one]
       simp only [decide_eq_true_eq,Bool.false_eq_true,false_iff,true_iff,Bool.not_eq_true',decide_eq_false_iff_not]
       omega
      ·rw [if_neg h21,Bool.eq_iff_iff,Bool.and_eq_true,belowB_one,belowB_one]
       simp only [decide_eq_true_eq,Bool.false_eq_true,false_iff,true_iff,Bool.not_eq_true',decide_eq_false_iff_not]
       omega
end
end Go.Vw
namespace Go.Vw
open Go.RowKit Go.Am Go.Proofs
attribute [local irreducible] yE zv zq VD VDn VDq Ret
structure RFacts (m:MModule):Prop where
 s1:wv m.globals 16 1 2=true
 s2:wv m.structs 4 0 16=true
 s3:wv m.chans 4 1 4=true
 l1:(m.locks.length:Int)≤8
 l2:(m.inputs.length:Int)≤8
 l3:(m.sinks.length:Int)≤4
 l4:(m.hatches.length:Int)≤8
 f1:1≤(m.funcs.length:Int)
 f2:(m.funcs.length:Int)≤12
 t:(m.threads.length:Int)≤4
 cs:yk m.funcs≤4096
 ok:∀ f∈m.funcs,qq f=true
 thr:∀ x∈m.threads,vr m x=false
 ops:∀ f∈m.funcs,∀ o∈f.code,xJ m f (wO m.globals) o=true
theorem right_iff (m:MModule):zO m=true↔RFacts m:=by
 constructor
 ·intro h
  simp only [zO,xt,zB3,namesB,Bool.and_eq_true,decide_eq_true_eq,List.all_eq_true,Bool.not_eq_true',List.any_eq_false] at h
  obtain ⟨⟨a,⟨⟨⟨⟨⟨⟨⟨⟨b1,b2⟩,b3⟩,⟨⟨c1,c2⟩,c3⟩,c4⟩,d1⟩,d2⟩,d3⟩,d4⟩,d5⟩⟩,e⟩:=h
  exact ⟨b1,b2,b3,c1,c2,c3,c4,d1,d2,d3,d4,a,fun x hx=>by simpa using d5 x hx,e⟩
 ·rintro ⟨b1,b2,b3,c1,c2,c3,c4,d1,d2,d3,d4,a,d5,e⟩
  simp only [zO,xt,zB3,namesB,Bool.and_eq_true,decide_eq_true_eq,List.all_eq_true,Bool.not_eq_true',List.any_eq_false]
  exact ⟨⟨a,⟨⟨⟨⟨⟨⟨⟨⟨b1,b2⟩,b3⟩,⟨⟨c1,c2⟩,c3⟩,c4⟩,d1⟩,d2⟩,d3⟩,d4⟩,fun x hx=>by simpa using d5 x hx⟩⟩,e⟩
theorem qX {m:MModule} (h:¬ RFacts m):zO m=false:=by
 rw [← Bool.not_eq_true,right_iff]; exact h
section
variable [Drw] (hT:TabOk tab Tryz.prog)
include hT
set_option maxRecDepth 100000 in
set_option maxHeartbeats 4000000 in
theorem rightRef (m:MModule) (hs:Small m):Pure Tryz.prog 66 [.agg (ze m)] (.ob (zO m)):=by
 have hfs:=hs.funcs
 have hts:=hs.threads
 refine VC.code hT 194 rfl rfl rfl rfl fun F W S0=>?_
 repeat' (first
  | (refine gz hT rfl ?_;conv=>whnf)
  | refine zA rfl (zN rfl rfl rfl ?_)
  | refine zA rfl (zH hT rfl rfl rfl rfl rfl rfl rfl rfl ?_)
  | refine zB rfl (zK hT rfl rfl rfl rfl rfl rfl (List.length_map _)) ?_
  | refine zG rfl rfl rfl rfl (fun h=>?_) (fun h=>?_)
  | refine zA rfl (zR hT rfl rfl rfl rfl rfl rfl (sizedRef hT m.globals 16 1 2 hs.globals) ?_)
  | refine zA rfl (zR hT rfl rfl rfl rfl rfl rfl (sizedRef hT m.structs 4 0 16 hs.structs) ?_)
  | refine zA rfl (zR hT rfl rfl rfl rfl rfl rfl (sizedRef hT m.chans 4 1 4 hs.chans) ?_))
 all_goals try
  (refine zP rfl rfl rfl ?_
   rw [qX fun hr=>?_]
   obtain ⟨b1,b2,b3,c1,c2,c3,c4,d1,d2,d3,_,_,_,_⟩:=hr
   first
    | (rw [b1] at h; cases h)
    | (rw [b2] at h; cases h)
    | (rw [b3] at h; cases h)
    | (have h:=of_decide_eq_true h; omega))
 refine zC rfl (fun h=>?_) (fun h=>?_)
 ·have h:=of_decide_eq_true h
  refine gz hT rfl ?_;conv=>whnf
  refine zP rfl rfl rfl ?_
  rw [qX fun hr=>by have:=hr.t; omega]
 rename_i q1 q2 q3 q4 q5 q6 q7 q8 q9
 simp only [Bool.not_eq_false',decide_eq_false_iff_not] at h q1 q2 q3 q4 q5 q6 q7 q8 q9
 have hg:∀ s∈m.globals,0≤s.size∧s.size≤1000:=fun s hsm=>by
  unfold wv at q1
  rw [Bool.and_eq_true,Bool.not_eq_true',List.any_eq_false] at q1
  have:=q1.2 s hsm
  simp at this
  omega
 have hfn:m.funcs.length≤12:=by omega
 refine gz hT rfl ?_;conv=>whnf
 refine zW (fun i:Nat=>([(1,.pin (ze m) 0),(3,.int .i64 (yk (m.funcs.take i))),(4,.int .i64 i)],[])) (fun i=>i≤m.funcs.length∧∀ f∈m.funcs.take i,qq f=true) (fun i=>m.funcs.length - i) 0 ⟨Nat.zero_le _,fun f hf=>by simp at hf⟩ ⟨⟨lk rfl,lk rfl,lk rfl,trivial⟩,.nil⟩ ?_
 rintro i ⟨hi,hok⟩
 repeat' (first
  | (refine gz hT rfl ?_;conv=>whnf)
  | refine zA rfl (zN rfl rfl rfl ?_)
  | refine zA rfl (zH hT rfl rfl rfl rfl rfl rfl rfl rfl ?_)
  | refine zB rfl (zK hT rfl rfl rfl rfl rfl rfl (List.length_map _)) ?_
  | refine zG rfl rfl rfl rfl (fun h=>?_) (fun h=>?_))
 refine zC rfl (fun hlt=>?_) (fun hlt=>?_)
 ·simp only [decide_eq_true_eq,Int.ofNat_lt] at hlt
  have hin:=List.getElem_mem hlt
  have hcl:=hs.code _ hin
  have bad:qq m.funcs[i]=false→zO m=false:=fun hb=>qX fun hr=>by rw [hr.ok _ hin] at hb; cases hb
  refine gz hT rfl ?_;conv=>whnf
  refine zB rfl (zJ (xs:=m.funcs) hT rfl rfl rfl rfl rfl hlt rfl) ?_
  refine gz hT rfl ?_;conv=>whnf
  refine zA rfl (zX hT rfl rfl rfl fun b5=>?_)
  refine gz hT rfl ?_;conv=>whnf
  refine zA rfl (zI (cs':=yt m.funcs[i]) hT rfl rfl rfl .here rfl ?_)
  refine zo (t:=5) rfl ?_
  repeat' (first
   | (refine gz hT rfl ?_;conv=>whnf)
   | refine zA rfl (zN rfl rfl rfl ?_)
   | refine zA rfl (zH hT rfl rfl rfl rfl rfl rfl rfl rfl ?_)
   | refine zB rfl (zK hT rfl rfl rfl rfl rfl rfl (List.length_map _)) ?_
   | refine zG rfl rfl rfl rfl (fun h=>?_) (fun h=>?_))
  all_goals try
   (refine zP rfl rfl rfl ?_
    have h:=of_decide_eq_true h
    rw [bad (by
     rw [← Bool.not_eq_true]
     intro hb
     simp only [qq,Bool.and_eq_true,belowB_one,Bool.not_eq_true',decide_eq_false_iff_not] at hb
     omega)])
  refine zC rfl (fun h=>?_) (fun h=>?_)
  ·have h:=of_decide_eq_true h
   refine gz hT rfl ?_;conv=>whnf
   refine zP rfl rfl rfl ?_
   rw [bad (by
    rw [← Bool.not_eq_true]
    intro hb
    simp only [qq,Bool.and_eq_true,belowB_one,Bool.not_eq_true',decide_eq_false_iff_not] at hb
    omega)]
  ·rename_i p1 p2 p3 p4 p5 p6 p7
   simp only [decide_eq_false_iff_not] at h p1 p2 p3 p4 p5 p6 p7
   have hokf:qq m.funcs[i]=true:=by
    simp only [qq,Bool.and_eq_true,belowB_one,Bool.not_eq_true',decide_eq_false_iff_not]
    omega
   have hall:∀ f∈m.funcs.take (i+1),qq f=true:=fun f hf=>by
    rw [List.take_succ_eq_append_getElem hlt,List.mem_append,List.mem_singleton] at hf
    rcases hf with hf | rfl
    ·exact hok f hf
    ·exact hokf
   have hb:=zAj _ hok
   have hlen:(m.funcs.take i).length≤12:=by rw [List.length_take]; omega
   refine gz hT rfl ?_;conv=>whnf
   refine zB rfl (zK hT rfl rfl rfl rfl rfl rfl (List.length_map _)) ?_
   refine gz hT rfl ?_;conv=>whnf
   refine zB rfl (zU rfl rfl rfl (by omega)) ?_
   refine gz hT rfl ?_;conv=>whnf
   refine zB rfl (zU rfl rfl rfl (by omega)) ?_
   refine gz hT rfl ?_;conv=>whnf
   refine ⟨i+1,⟨hlt,hall⟩,by omega,⟨lk rfl,⟨_,rfl,?_⟩,lk rfl,trivial⟩,.nil⟩
   rw [zB2 _ _ hlt]
   exact .refl _
 simp only [decide_eq_false_iff_not,Int.ofNat_lt] at hlt
 rw [List.take_of_length_le (by omega)] at hok
 have e1:m.funcs.take i=m.funcs:=List.take_of_length_le (by omega)
 have hmok:∀ f∈m.funcs,OkF f:=fun f hf=>zCh (hok f hf)
 refine gz hT rfl ?_;conv=>whnf
 refine zW (fun i:Nat=>([(1,.pin (ze m) 0),(3,.int .i64 (yk m.funcs)),(6,.int .i64 i)],[])) (fun i=>i≤m.threads.length∧∀ x∈m.threads.take i,vr m x=false) (fun i=>m.threads.length - i) 0 ⟨Nat.zero_le _,fun f hf=>by simp at hf⟩ ⟨⟨lk rfl,⟨_,rfl,by rw [e1]; exact .refl _⟩,lk rfl,trivial⟩,.nil⟩ ?_
 rintro j ⟨hj,hwr⟩
 repeat' (first
  | (refine gz hT rfl ?_;conv=>whnf)
  | refine zA rfl (zN rfl rfl rfl ?_)
  | refine zA rfl (zH hT rfl rfl rfl rfl rfl rfl rfl rfl ?_)
  | refine zB rfl (zK hT rfl rfl rfl rfl rfl rfl (List.length_map _)) ?_
  | refine zG rfl rfl rfl rfl (fun h=>?_) (fun h=>?_))
 refine zC rfl (fun hjl=>?_) (fun hjl=>?_)
 ·simp only [decide_eq_true_eq,Int.ofNat_lt] at hjl
  have hjn:=List.getElem_mem hjl
  have bad:vr m m.threads[j]=true→zO m=false:=fun hb=>qX fun hr=>by rw [hr.thr _ hjn] at hb; cases hb
  have hwb:∀ (hb:zM m.funcs.length [m.threads[j]]=true),vr m m.threads[j]=!decide ((m.fn m.threads[j]).params=0):=fun hb=>by
   have hb1:=belowB_one.1 hb
   have hi2:(m.threads[j]).toNat < m.funcs.length:=by omega
   unfold vr MModule.fn
   rw [hb,List.getElem?_eq_getElem hi2]
   rfl
  have hnb:¬ (0≤m.threads[j]∧m.threads[j] < m.funcs.length)→vr m m.threads[j]=true:=fun hx=>by
   have:zM m.funcs.length [m.threads[j]]=false:=by
    rw [← Bool.not_eq_true,belowB_one]; exact hx
   unfold vr
   rw [this]; rfl
  refine gz hT rfl ?_;conv=>whnf
  refine zB rfl (zJ (xs:=m.threads) hT rfl rfl rfl rfl rfl hjl rfl) ?_
  repeat' (first
   | (refine gz hT rfl ?_;conv=>whnf)
   | refine zA rfl (zN rfl rfl rfl ?_)
   | refine zA rfl (zH hT rfl rfl rfl rfl rfl rfl rfl rfl ?_)
   | refine zB rfl (zK hT rfl rfl rfl rfl rfl rfl (List.length_map _)) ?_
   | refine zG rfl rfl rfl rfl (fun h=>?_) (fun h=>?_))
  ·refine zP rfl rfl rfl ?_
   have h:=of_decide_eq_true h
   rw [bad (hnb (by omega))]
  ·refine zP rfl rfl rfl ?_
   have h:=of_decide_eq_true h
   rw [bad (hnb (by omega))]
  ·rename_i h0
   have h0:=of_decide_eq_false h0
   have h1:=of_decide_eq_false h
   have hb:zM m.funcs.length [m.threads[j]]=true:=belowB_one.2 (by omega)
   refine zB rfl (xh hT rfl rfl rfl hb) ?_
   refine gz hT rfl ?_;conv=>whnf
   refine zC rfl (fun h2=>?_) (fun h2=>?_)
   ·refine gz hT rfl ?_;conv=>whnf
    refine zP rfl rfl rfl ?_
    rw [bad ((hwb hb).trans h2)]
   ·refine gz hT rfl ?_;conv=>whnf
    refine zB rfl (zU rfl rfl rfl (by omega)) ?_
    refine gz hT rfl ?_;conv=>whnf
    refine ⟨j+1,⟨hjl,fun x hx=>?_⟩,by omega,⟨lk rfl,lk rfl,lk rfl,trivial⟩,.nil⟩
    rw [List.take_succ_eq_append_getElem hjl,List.mem_append,List.mem_singleton] at hx
    rcases hx with hx | rfl
    ·exact hwr x hx
    ·exact (hwb hb).trans h2
 simp only [decide_eq_false_iff_not,Int.ofNat_lt] at hjl
 rw [List.take_of_length_le (by omega)] at hwr
 refine gz hT rfl ?_;conv=>whnf
 refine zW (fun i:Nat=>([(1,.pin (ze m) 0),(3,.int .i64 (yk m.funcs)),(8,.int .i64 i)],[])) (fun i=>i≤m.funcs.length∧∀ f∈m.funcs.take i,∀ o∈f.code,xJ m f (wO m.globals) o=true) (fun i=>m.funcs.length - i) 0 ⟨Nat.zero_le _,fun f hf=>by simp at hf⟩ ⟨⟨lk rfl,lk rfl,lk rfl,trivial⟩,.nil⟩ ?_
 rintro a ⟨ha,hops⟩
 repeat' (first
  | (refine gz hT rfl ?_;conv=>whnf)
  | refine zA rfl (zN rfl rfl rfl ?_)
  | refine zA rfl (zH hT rfl rfl rfl rfl rfl rfl rfl rfl ?_)
  | refine zB rfl (zK hT rfl rfl rfl rfl rfl rfl (List.length_map _)) ?_
  | refine zG rfl rfl rfl rfl (fun h=>?_) (fun h=>?_))
 refine zC rfl (fun hal=>?_) (fun hal=>?_)
 ·simp only [decide_eq_true_eq,Int.ofNat_lt] at hal
  have han:=List.getElem_mem hal
  have hcl:=hs.code _ han
  refine gz hT rfl ?_;conv=>whnf
  refine zW (fun k:Nat=>([(1,.pin (ze m) 0),(3,.int .i64 (yk m.funcs)),(8,.int .i64 a),(9,.int .i64 k)],[])) (fun k=>k≤m.funcs[a].code.length∧∀ o∈m.funcs[a].code.take k,xJ m m.funcs[a] (wO m.globals) o=true) (fun k=>m.funcs[a].code.length - k) 0 ⟨Nat.zero_le _,fun f hf=>by simp at hf⟩ ⟨⟨lk rfl,lk rfl,lk rfl,lk rfl,trivial⟩,.nil⟩ ?_
  rintro k ⟨hk,hko⟩
  repeat' (first
   | (refine gz hT rfl ?_;conv=>whnf)
   | refine zA rfl (zN rfl rfl rfl ?_)
   | refine zA rfl (zH hT rfl rfl rfl rfl rfl rfl rfl rfl ?_)
   | refine zB rfl (zK hT rfl rfl rfl rfl rfl rfl (List.length_map _)) ?_
   | refine zG rfl rfl rfl rfl (fun h=>?_) (fun h=>?_)
   | refine zB rfl (zJ (xs:=m.funcs) hT rfl rfl rfl rfl rfl hal rfl) ?_)
  refine zC rfl (fun hkl=>?_) (fun hkl=>?_)
  ·simp only [decide_eq_true_eq,Int.ofNat_lt] at hkl
   have hkn:=List.getElem_mem hkl
   refine gz hT rfl ?_;conv=>whnf
   intro id
   refine zd hT rfl rfl ?_ id
   repeat' (first
    | (refine god hT 1 rfl ?_;conv=>whnf)
    | refine zV rfl ?_
    | refine q_g rfl (fun S'=>(zK hT rfl rfl rfl rfl rfl rfl (List.length_map _)).qs) ?_
    | refine zk rfl rfl rfl rfl (fun h=>?_) (fun h=>?_)
    | refine q_g rfl (fun S'=>(zJ (xs:=m.funcs) hT rfl rfl rfl rfl rfl hal rfl).qs) ?_
    | refine q_g rfl (fun S'=>(zJ (xs:=m.funcs[a].code) hT rfl rfl rfl rfl rfl hkl rfl).qs) ?_)
   refine zS rfl (eff rfl rfl (zR hT rfl rfl rfl rfl rfl rfl (opRef hT m hs hmok hg m.funcs[a] (hmok _ han) m.funcs[a].code[k] (hs.args _ han _ hkn)) (And.intro trivial ?_)))
   refine god hT 1 rfl ?_;conv=>whnf
   refine zV rfl ?_
   refine gz hT rfl ?_;conv=>whnf
   refine zC rfl (fun h2=>?_) (fun h2=>?_)
   ·refine gz hT rfl ?_;conv=>whnf
    refine zP rfl rfl rfl ?_
    rw [qX fun hr=>by rw [hr.ops _ han _ hkn] at h2; cases h2]
   ·refine gz hT rfl ?_;conv=>whnf
    refine zB rfl (zU rfl rfl rfl (by omega)) ?_
    refine gz hT rfl ?_;conv=>whnf
    refine ⟨k+1,⟨hkl,fun o ho=>?_⟩,by omega,⟨lk rfl,lk rfl,lk rfl,lk rfl,trivial⟩,.nil⟩
    rw [List.take_succ_eq_append_getElem hkl,List.mem_append,List.mem_singleton] at ho
    rcases ho with ho | rfl
    ·exact hko o ho
    ·exact nf h2
  ·simp only [decide_eq_false_iff_not,Int.ofNat_lt] at hkl
   rw [List.take_of_length_le (by omega)] at hko
   refine gz hT rfl ?_;conv=>whnf
   refine zB rfl (zU rfl rfl rfl (by omega)) ?_
   refine gz hT rfl ?_;conv=>whnf
   refine ⟨a+1,⟨hal,fun f hf=>?_⟩,by omega,⟨lk rfl,lk rfl,lk rfl,trivial⟩,.nil⟩
   rw [List.take_succ_eq_append_getElem hal,List.mem_append,List.mem_singleton] at hf
   rcases hf with hf | rfl
   ·exact hops f hf
   ·exact hko
 simp only [decide_eq_false_iff_not,Int.ofNat_lt] at hal
 rw [List.take_of_length_le (by omega)] at hops
 refine gz hT rfl ?_;conv=>whnf
 refine zP rfl rfl rfl ?_
 refine congrArg V.ob ?_
 rw [Bool.eq_iff_iff,right_iff,decide_eq_true_eq]
 exact ⟨fun hc=>⟨q1,q2,q3,by omega,by omega,by omega,by omega,by omega,by omega,by omega,hc,hok,hwr,hops⟩,fun hr=>hr.cs⟩
end
end Go.Vw
namespace Go.Vw
open Go.RowKit Go.Am Go.Proofs Go.Ord
attribute [local irreducible] yE zv zq VD VDn VDq Ret
abbrev Mat:=Nat→Nat→Bool
def uK (n:Nat) (R:Mat) (i:Nat):List V:=(List.range n).map fun j=>V.ob (R i j)
def zAp (n:Nat) (R:Mat) (i:Nat):List (List V):=(List.range n).map fun j=>[V.ob (R i j)]
theorem rowRR_flat (n:Nat) (R:Mat) (i:Nat):(zAp n R i).flatten=uK n R i:=by
 unfold zAp uK
 generalize List.range n=l
 induction l with
 | nil=>rfl
 | cons x l ih=>rw [List.map_cons,List.flatten_cons,ih]; rfl
def k9 (bl:List Nat) (n:Nat) (R:Mat):Hp:=(List.range bl.length).map fun i=>.cells (bl.getD i 0) (uK n R i) 4
def outR (bl:List Nat) (n:Nat):List (List V):=bl.map fun b=>[V.ref b 0 n n]
def tabR (n:Nat) (R:Mat):List (List V):=(List.range n).map fun i=>[V.slice .no (zAp n R i)]
def setM (R:Mat) (i j:Nat):Mat:=fun a b=>if a=i∧b=j then true else R a b
theorem rowR_set (n:Nat) (R:Mat) (i j:Nat):(uK n R i).set j (.ob true)=uK n (setM R i j) i:=by
 refine List.ext_getElem (by simp [uK]) fun k h1 h2=>?_
 simp only [uK,List.getElem_set,List.getElem_map,List.getElem_range,setM,true_and]
 by_cases h:j=k
 ·subst h; simp
 ·rw [if_neg h,if_neg fun e=>h e.symm]
theorem rowR_other (n:Nat) (R:Mat) (i j k:Nat) (h:k≠i):uK n (setM R i j) k=uK n R k:=by
 unfold uK
 refine List.map_congr_left fun b _=>?_
 simp [setM,h]
theorem matS_at {bl:List Nat} {n:Nat} {R:Mat} {i:Nat} (h:i < bl.length):(k9 bl n R)[i]?=some (.cells bl[i] (uK n R i) 4):=by
 unfold k9
 rw [List.getElem?_map,List.getElem?_range h]
 simp [h]
theorem matS_set {bl:List Nat} {n:Nat} {R:Mat} {i:Nat} (h:i < bl.length) (j:Nat):(k9 bl n R).set i (.cells bl[i] (uK n (setM R i j) i) 4)=k9 bl n (setM R i j):=by
 refine List.ext_getElem (by simp [k9]) fun k h1 h2=>?_
 simp only [k9,List.getElem_set,List.getElem_map,List.getElem_range]
 by_cases e:i=k
 ·subst e
  rw [if_pos rfl]
  simp [h]
 ·rw [if_neg e,rowR_other _ _ _ _ _ fun h=>e h.symm]
theorem matS_snoc (bl:List Nat) (b n:Nat) (R:Mat):k9 (bl++[b]) n R=k9 bl n R++[.cells b (uK n R bl.length) 4]:=by
 unfold k9
 rw [List.length_append,List.length_singleton,List.range_succ,List.map_append]
 congr 1
 ·refine List.map_congr_left fun i hi=>?_
  have:=List.mem_range.1 hi
  simp [List.getD_eq_getElem?_getD,List.getElem?_append_left this]
 ·simp [List.getD_eq_getElem?_getD]
def edgeM (R:Mat) (e:Nat×Nat):Mat:=setM R e.1 e.2
def colM (k i:Nat) (R:Mat) (j:Nat):Mat:=if R i k && R k j then setM R i j else R
def upJ (k i:Nat) (R:Mat):Nat→Mat
 | 0=>R
 | j+1=>colM k i (upJ k i R j) j
def upI (n k:Nat) (R:Mat):Nat→Mat
 | 0=>R
 | i+1=>upJ k i (upI n k R i) n
def upK (n:Nat) (R:Mat):Nat→Mat
 | 0=>R
 | k+1=>upI n k (upK n R k) n
theorem zAA (k i:Nat) (R:Mat):∀ (j a b:Nat),upJ k i R j a b=(R a b || (decide (a=i∧b < j) && (R i k && R k b)))
 | 0,a,b=>by simp [upJ]
 | j+1,a,b=>by
   have h1:=zAA k i R j i k
   have h2:=zAA k i R j k j
   have hik:upJ k i R j i k=R i k:=by
    rw [h1]
    by_cases h:R i k=true
    ·simp [h]
    ·have:R i k=false:=by simpa using h
     simp [this]
   have hkj:(R i k && upJ k i R j k j)=(R i k && R k j):=by
    rw [h2]
    have:decide (k=i∧j < j)=false:=by simp
    rw [this]; simp
   show colM k i (upJ k i R j) j a b=_
   unfold colM
   rw [hik]
   by_cases hc:(R i k && upJ k i R j k j)=true
   ·rw [if_pos hc]
    rw [hkj] at hc
    unfold setM
    by_cases hab:a=i∧b=j
    ·obtain ⟨rfl,rfl⟩:=hab
     simp [hc]
    ·rw [if_neg hab,zAA k i R j a b]
     congr 2
     by_cases ha:a=i
     ·have:b≠j:=fun e=>hab ⟨ha,e⟩
      simp only [ha,true_and]
      congr 1
      exact propext ⟨fun h=>by omega,fun h=>by omega⟩
     ·simp [ha]
   ·rw [if_neg hc,zAA k i R j a b]
    rw [hkj] at hc
    have hc:(R i k && R k j)=false:=by simpa using hc
    by_cases ha:a=i
    ·by_cases hb:b=j
     ·subst hb; simp [ha,hc]
     ·congr 2
      simp only [ha,true_and]
      congr 1
      exact propext ⟨fun h=>by omega,fun h=>by omega⟩
    ·simp [ha]
theorem zCG (n k:Nat) (R:Mat):∀ (i a b:Nat),i≤n→a < n→b < n→k < n→upI n k R i a b=(R a b || (decide (a < i) && (R a k && R k b)))
 | 0,a,b,_,_,_,_=>by simp [upI]
 | i+1,a,b,hi,ha,hb,hk=>by
   show upJ k i (upI n k R i) n a b=_
   rw [zAA]
   rw [zCG n k R i a b (by omega) ha hb hk,zCG n k R i i k (by omega) (by omega) hk hk,zCG n k R i k b (by omega) hk hb hk]
   by_cases hai:a=i
   ·subst hai
    have h1:decide (a < a)=false:=by simp
    have h2:decide (a < a+1)=true:=by simp
    simp only [h1,h2,Bool.false_and,Bool.or_false,hb,and_self,decide_true,Bool.true_and]
    cases R a b <;> cases R a k <;> cases R k b <;> cases R k k <;> cases decide (k < a) <;> rfl
   ·have h1:decide (a=i∧b < n)=false:=by simp [hai]
    have h2:decide (a < i+1)=decide (a < i):=by
     congr 1
     exact propext ⟨fun h=>by omega,fun h=>by omega⟩
    rw [h1,h2]
    simp
theorem zCH (n:Nat) (R:Mat):∀ (k a b:Nat),k≤n→a < n→b < n→upK n R k a b=fw R k a b
 | 0,a,b,_,_,_=>rfl
 | k+1,a,b,hk,ha,hb=>by
   show upI n k (upK n R k) n a b=_
   rw [zCG n k (upK n R k) n a b (Nat.le_refl _) ha hb (by omega)]
   rw [zCH n R k a b (by omega) ha hb,zCH n R k a k (by omega) ha (by omega),zCH n R k k b (by omega) (by omega) hb]
   have:decide (a < n)=true:=by simp [ha]
   rw [this]
   rfl
theorem zFH:∀ (es:List (Nat×Nat)) (R:Mat) (a b:Nat),es.foldl edgeM R a b=(R a b || es.contains (a,b))
 | [],R,a,b=>by simp
 | e::es,R,a,b=>by
   rw [List.foldl_cons,zFH es]
   obtain ⟨x,y⟩:=e
   unfold edgeM setM
   by_cases h:a=x∧b=y
   ·obtain ⟨rfl,rfl⟩:=h; simp
   ·rw [if_neg h]
    have:((a,b) == (x,y))=false:=by
     rw [beq_eq_false_iff_ne]
     intro e
     exact h (by simpa using e)
    rw [List.contains_cons,this,Bool.false_or]
def idM:Mat:=fun i j=>i == j
theorem closed_spec (n:Nat) (es:List (Nat×Nat)) (a b:Nat) (ha:a < n) (hb:b < n):upK n (es.foldl edgeM idM) n a b=wu n es a b:=by
 rw [zCH n _ n a b (Nat.le_refl _) ha hb]
 unfold wu
 congr 1
 funext i j
 rw [zFH]
 rfl
end Go.Vw
namespace Go.Vw
open Go.RowKit Go.Am Go.Proofs Go.Ord
attribute [local irreducible] yE zv zq VD VDn VDq Ret
theorem falses (n:Nat):VsLe (uk n [V.bool false]) ((List.replicate n (V.ob false))):=by
 rw [zBt]
 induction n with
 | zero=>exact .nil
 | succ n ih=>exact .cons (wZ rfl) ih
theorem row0 (n i:Nat) (_hi:i < n):(List.replicate n (V.ob false)).set i (.ob true)=uK n idM i:=by
 refine List.ext_getElem (by simp [uK]) fun k h1 h2=>?_
 simp only [uK,List.getElem_set,List.getElem_map,List.getElem_range,idM,List.getElem_replicate]
 by_cases h:i=k
 ·subst h; simp
 ·rw [if_neg h]
  have:(i == k)=false:=by rw [beq_eq_false_iff_ne]; exact h
  rw [this]
theorem set_le:∀ (l:List V) (i:Nat),VsLe (l.set i (.bool true)) (l.set i (.ob true))
 | [],_=>.nil
 | _x::l,0=>.cons (wZ rfl) (VsLe.refl l)
 | x::l,i+1=>.cons (.refl x) (set_le l i)
theorem sub_at {l:Hp} {b:Nat} {cs cs':List V} {e:TypeId} (h:VsLe cs cs'):∀ (i:Nat),Sub (l.set i (.cells b cs e)) (l.set i (.cells b cs' e)):=by
 induction l with
 | nil=>intro i; exact .nil
 | cons x l ih =>
   intro i
   cases i with
   | zero=>exact .cells h (.refl l)
   | succ i=>exact .keep (ih i)
section
variable [Drw] (hT:TabOk tab Tryz.prog)
include hT
set_option maxRecDepth 100000 in
set_option maxHeartbeats 2000000 in
theorem closed0 {t:Tok} (n:Nat) (hn:n≤8) (es:List (Nat×Nat)) (he:∀ e∈es,e.1 < n∧e.2 < n) (hl:es.length < 2000000) :
  VC Tryz.prog 49 [.int .i64 (n:Int),.slice t ((es.map uz).map prs)] [] fun v S'=>∃ tok bl,bl.length=n∧v = .slice tok (outR bl n)∧S'=k9 bl n (upK n (es.foldl edgeM idM) n):=by
 refine VC.code hT 86 rfl rfl rfl rfl fun F w S0=>?_
 refine gz hT rfl ?_;conv=>whnf
 refine zA rfl (kg hT rfl rfl rfl ?_)
 refine gz hT rfl ?_;conv=>whnf
 refine zW (fun x:Nat×Tok×List Nat=>([(0,.int .i64 (n:Int)),(1,.slice t ((es.map uz).map prs)),(5,.slice x.2.1 (outR x.2.2 n)),(6,.int .i64 (x.1:Int))],.tl x.2.1::k9 x.2.2 n idM)) (fun x=>x.1≤n∧x.2.2.length=x.1∧xg 1 x.2.1=true) (fun x=>n - x.1) (0,.zero,[]) ⟨Nat.zero_le _,rfl,rfl⟩ ⟨⟨lk rfl,lk rfl,lk rfl,lk rfl,trivial⟩,.zero .nil⟩ ?_
 rintro ⟨i,tok,bl⟩ ⟨hi,hbl,htok⟩
 dsimp only at hi hbl htok
 refine gz hT rfl ?_;conv=>whnf
 refine zC rfl (fun hlt=>?_) (fun hlt=>?_)
 ·simp only [decide_eq_true_eq,Int.ofNat_lt] at hlt
  refine gz hT rfl ?_;conv=>whnf
  refine zA rfl (wY hT rfl rfl rfl rfl rfl rfl rfl (Nat.le_refl _) (by omega) fun b=>?_)
  refine yC (.cells (falses n) (.refl _)) ?_
  refine gz hT rfl ?_;conv=>whnf
  refine zA rfl (zH hT rfl rfl rfl rfl rfl rfl rfl rfl ?_)
  refine gz hT rfl ?_;conv=>whnf
  refine zA rfl (zx hT rfl rfl rfl rfl rfl rfl rfl rfl rfl rfl htok (.there .here) (fun r hr=>by obtain ⟨x,_,rfl⟩:=List.mem_map.1 hr; rfl) (fun r hr=>by rw [List.mem_singleton.1 hr]; rfl) (fun r hr=>by rw [List.mem_singleton.1 hr]; rfl) (by simp [outR]; omega) fun tok' ht'=>?_)
  have ho:outR bl n++[[V.ref b 0 n n]]=outR (bl++[b]) n:=by simp [outR]
  rw [ho]
  have hib:i < (bl++[b]).length:=by simp; omega
  have hget:(bl++[b])[i]=b:=by simp [← hbl]
  refine gz hT rfl ?_;conv=>whnf
  refine zB rfl (zJ (xs:=bl++[b]) (g:=fun b=>[V.ref b 0 n n]) hT rfl rfl rfl rfl rfl hib rfl) ?_
  rw [hget]
  refine gz hT rfl ?_;conv=>whnf
  refine zB rfl (za hT rfl rfl rfl rfl rfl (Int.natCast_nonneg _) (Int.ofNat_lt.2 hlt)) ?_
  refine gz hT rfl ?_;conv=>whnf
  refine zA rfl (zI (cs':=(List.replicate n (V.ob false)).set i (.bool true)) hT rfl rfl rfl .here (by
   show vG tab 4 (.bool true) (0+((i:Nat):Int).toNat * 1) _=_
   rw [Int.toNat_natCast,Nat.mul_one,Nat.zero_add]; exact yu rfl rfl rfl (by simpa using hlt)) ?_)
  refine yC (.cells (set_le _ _) (.refl _)) ?_
  rw [row0 n i hlt]
  refine vj (S':=.tl tok'::k9 (bl++[b]) n idM) (by
   rw [matS_snoc,hbl]
   refine (List.Perm.swap _ _ _).trans (.cons _ ?_)
   exact List.perm_append_comm (l₁:=[_])) ?_
  refine gz hT rfl ?_;conv=>whnf
  refine zB rfl (zU rfl rfl rfl (by omega)) ?_
  refine gz hT rfl ?_;conv=>whnf
  exact ⟨(i+1,tok',bl++[b]),⟨hlt,by simp [hbl],ht'⟩,by dsimp only; omega,⟨lk rfl,lk rfl,lk rfl,lk rfl,trivial⟩,.refl _⟩
 simp only [decide_eq_false_iff_not,Int.ofNat_lt] at hlt
 have hin:i=n:=by omega
 subst hin
 clear hlt hi
 refine wJ (.drop (.refl _)) ?_
 refine gz hT rfl ?_;conv=>whnf
 refine zW (fun k:Nat=>([(0,.int .i64 (i:Int)),(1,.slice t ((es.map uz).map prs)),(5,.slice tok (outR bl i)),(7,.int .i64 (k:Int))],k9 bl i ((es.take k).foldl edgeM idM))) (fun k=>k≤es.length) (fun k=>es.length - k) 0 (Nat.zero_le _) ⟨⟨lk rfl,lk rfl,lk rfl,lk rfl,trivial⟩,.refl _⟩ ?_
 intro k hk
 refine gz hT rfl ?_;conv=>whnf
 refine zB rfl (zK hT rfl rfl rfl rfl rfl rfl (List.length_map _)) ?_
 rw [List.length_map]
 refine gz hT rfl ?_;conv=>whnf
 refine zC rfl (fun hltk=>?_) (fun hltk=>?_)
 ·simp only [decide_eq_true_eq,Int.ofNat_lt] at hltk
  have htk:=fold_take edgeM idM es k hltk
  generalize (es.take k).foldl edgeM idM=R at htk
  obtain ⟨h1,h2⟩:=he _ (List.getElem_mem hltk)
  have hb1:es[k].1 < bl.length:=by omega
  refine gz hT rfl ?_;conv=>whnf
  intro id
  refine zd hT rfl rfl ?_ id
  repeat' (first
   | (refine god hT 1 rfl ?_;conv=>whnf)
   | refine zV rfl ?_
   | refine q_g rfl (fun S'=>(zK hT rfl rfl rfl rfl rfl rfl (List.length_map _)).qs) ?_
   | refine zk rfl rfl rfl rfl (fun h=>?_) (fun h=>?_)
   | refine q_g rfl (fun S'=>(zJ (xs:=es.map uz) hT rfl rfl rfl rfl rfl (by simpa using hltk) rfl).qs) ?_; rw [List.getElem_map]
   | refine q_g rfl (fun S'=>(zEr hT rfl rfl rfl rfl rfl (by decide) (by decide)).qs) ?_
   | refine q_g rfl (fun S'=>(zJ (i:=es[k].1) (xs:=bl) (g:=fun b=>[V.ref b 0 i i]) hT rfl rfl rfl rfl rfl hb1 rfl).qs) ?_
   | refine q_g rfl (fun S'=>(za (i:=((es[k].2:Nat):Int)) hT rfl rfl rfl rfl rfl (Int.natCast_nonneg _) (Int.ofNat_lt.2 h2)).qs) ?_)
  refine zS rfl (eff rfl rfl (zI (cs':=(uK i R es[k].1).set es[k].2 (.bool true)) hT rfl rfl rfl (At.idx (matS_at hb1)) (by
   show vG tab 4 (.bool true) (0+((es[k].2:Nat):Int).toNat * 1) _=_
   rw [Int.toNat_natCast,Nat.mul_one,Nat.zero_add]; exact yu rfl rfl rfl (by simpa [uK] using h2)) (And.intro trivial ?_)))
  refine god hT 1 rfl ?_;conv=>whnf
  refine zV rfl ?_
  refine next_sub (sub_at (set_le _ _) _) ?_
  rw [rowR_set,matS_set hb1]
  refine gz hT rfl ?_;conv=>whnf
  refine zB rfl (zU rfl rfl rfl (by omega)) ?_
  refine gz hT rfl ?_;conv=>whnf
  exact ⟨k+1,hltk,by omega,⟨lk rfl,lk rfl,lk rfl,lk rfl,trivial⟩,by rw [htk]; exact .refl _⟩
 ·simp only [decide_eq_false_iff_not,Int.ofNat_lt] at hltk
  have:k=es.length:=by omega
  subst this
  rw [List.take_length]
  clear hk hltk
  generalize es.foldl edgeM idM=R0
  refine gz hT rfl ?_;conv=>whnf
  refine zW (fun k:Nat=>([(0,.int .i64 (i:Int)),(5,.slice tok (outR bl i)),(8,.int .i64 (k:Int))],k9 bl i (upK i R0 k))) (fun k=>k≤i) (fun k=>i - k) 0 (Nat.zero_le _) ⟨⟨lk rfl,lk rfl,lk rfl,trivial⟩,.refl _⟩ ?_
  intro k hk
  refine gz hT rfl ?_;conv=>whnf
  refine zC rfl (fun hltk=>?_) (fun hltk=>?_)
  ·simp only [decide_eq_true_eq,Int.ofNat_lt] at hltk
   have hnext:upK i R0 (k+1)=upI i k (upK i R0 k) i:=rfl
   generalize upK i R0 k=R1 at hnext
   refine gz hT rfl ?_;conv=>whnf
   refine zW (fun a:Nat=>([(0,.int .i64 (i:Int)),(5,.slice tok (outR bl i)),(8,.int .i64 (k:Int)),(9,.int .i64 (a:Int))],k9 bl i (upI i k R1 a))) (fun a=>a≤i) (fun a=>i - a) 0 (Nat.zero_le _) ⟨⟨lk rfl,lk rfl,lk rfl,lk rfl,trivial⟩,.refl _⟩ ?_
   intro a ha
   refine gz hT rfl ?_;conv=>whnf
   refine zC rfl (fun hlta=>?_) (fun hlta=>?_)
   ·simp only [decide_eq_true_eq,Int.ofNat_lt] at hlta
    have hnext2:upI i k R1 (a+1)=upJ k a (upI i k R1 a) i:=rfl
    generalize upI i k R1 a=R2 at hnext2
    refine gz hT rfl ?_;conv=>whnf
    refine zW (fun c:Nat=>([(0,.int .i64 (i:Int)),(5,.slice tok (outR bl i)),(8,.int .i64 (k:Int)),(9,.int .i64 (a:Int)),(10,.int .i64 (c:Int))],k9 bl i (upJ k a R2 c))) (fun c=>c≤i) (fun c=>i - c) 0 (Nat.zero_le _) ⟨⟨lk rfl,lk rfl,lk rfl,lk rfl,lk rfl,trivial⟩,.refl _⟩ ?_
    intro c hc
    refine gz hT rfl ?_;conv=>whnf
    refine zC rfl (fun hltc=>?_) (fun hltc=>?_)
    ·simp only [decide_eq_true_eq,Int.ofNat_lt] at hltc
     have hnext3:upJ k a R2 (c+1)=colM k a (upJ k a R2 c) c:=rfl
     generalize upJ k a R2 c=R at hnext3
     have hba:a < bl.length:=by omega
     have hbk:k < bl.length:=by omega
     have hp1:xH tab 4 (uK i R a) (0+((k:Nat):Int).toNat * 1)=some (.ob (R a k)):=by
      rw [Int.toNat_natCast,Nat.mul_one,Nat.zero_add]
      exact yK rfl (by unfold uK; rw [List.getElem?_map,List.getElem?_range hltk]; rfl)
     have hp2:xH tab 4 (uK i R k) (0+((c:Nat):Int).toNat * 1)=some (.ob (R k c)):=by
      rw [Int.toNat_natCast,Nat.mul_one,Nat.zero_add]
      exact yK rfl (by unfold uK; rw [List.getElem?_map,List.getElem?_range hltc]; rfl)
     refine gz hT rfl ?_;conv=>whnf
     refine zB rfl (zJ (i:=a) (xs:=bl) (g:=fun b=>[V.ref b 0 i i]) hT rfl rfl rfl rfl rfl hba rfl) ?_
     refine gz hT rfl ?_;conv=>whnf
     refine zB rfl (za (i:=((k:Nat):Int)) hT rfl rfl rfl rfl rfl (Int.natCast_nonneg _) (Int.ofNat_lt.2 hltk)) ?_
     refine gz hT rfl ?_;conv=>whnf
     refine zB rfl (zT hT rfl rfl (At.idx (matS_at hba)) hp1) ?_
     refine gz hT rfl ?_;conv=>whnf
     refine zG rfl rfl rfl rfl (fun hg=>?_) (fun hg=>?_)
     ·refine gz hT rfl ?_;conv=>whnf
      refine zB rfl (zJ (i:=k) (xs:=bl) (g:=fun b=>[V.ref b 0 i i]) hT rfl rfl rfl rfl rfl hbk rfl) ?_
      refine gz hT rfl ?_;conv=>whnf
      refine zB rfl (za (i:=((c:Nat):Int)) hT rfl rfl rfl rfl rfl (Int.natCast_nonneg _) (Int.ofNat_lt.2 hltc)) ?_
      refine gz hT rfl ?_;conv=>whnf
      refine zB rfl (zT hT rfl rfl (At.idx (matS_at hbk)) hp2) ?_
      refine gz hT rfl ?_;conv=>whnf
      refine zC rfl (fun hg2=>?_) (fun hg2=>?_)
      ·have hcol:colM k a R c=setM R a c:=by unfold colM; rw [hg,hg2]; rfl
       refine gz hT rfl ?_;conv=>whnf
       refine zB rfl (zJ (i:=a) (xs:=bl) (g:=fun b=>[V.ref b 0 i i]) hT rfl rfl rfl rfl rfl hba rfl) ?_
       refine gz hT rfl ?_;conv=>whnf
       refine zB rfl (za (i:=((c:Nat):Int)) hT rfl rfl rfl rfl rfl (Int.natCast_nonneg _) (Int.ofNat_lt.2 hltc)) ?_
       refine gz hT rfl ?_;conv=>whnf
       refine zA rfl (zI (cs':=(uK i R a).set c (.bool true)) hT rfl rfl rfl (At.idx (matS_at hba)) (by
        show vG tab 4 (.bool true) (0+((c:Nat):Int).toNat * 1) _=_
        rw [Int.toNat_natCast,Nat.mul_one,Nat.zero_add]; exact yu rfl rfl rfl (by simpa [uK] using hltc)) ?_)
       refine yC (sub_at (set_le _ _) _) ?_
       rw [rowR_set,matS_set hba]
       refine gz hT rfl ?_;conv=>whnf
       refine zB rfl (zU rfl rfl rfl (by omega)) ?_
       refine gz hT rfl ?_;conv=>whnf
       exact ⟨c+1,hltc,by omega,⟨lk rfl,lk rfl,lk rfl,lk rfl,lk rfl,trivial⟩,by rw [hnext3,hcol]; exact .refl _⟩
      ·have hcol:colM k a R c=R:=by unfold colM; rw [hg2,Bool.and_false]; rfl
       refine gz hT rfl ?_;conv=>whnf
       refine zB rfl (zU rfl rfl rfl (by omega)) ?_
       refine gz hT rfl ?_;conv=>whnf
       exact ⟨c+1,hltc,by omega,⟨lk rfl,lk rfl,lk rfl,lk rfl,lk rfl,trivial⟩,by rw [hnext3,hcol]; exact .refl _⟩
     ·have hcol:colM k a R c=R:=by unfold colM; rw [hg,Bool.false_and]; rfl
      refine gz hT rfl ?_;conv=>whnf
      refine zB rfl (zU rfl rfl rfl (by omega)) ?_
      refine gz hT rfl ?_;conv=>whnf
      exact ⟨c+1,hltc,by omega,⟨lk rfl,lk rfl,lk rfl,lk rfl,lk rfl,trivial⟩,by rw [hnext3,hcol]; exact .refl _⟩
    ·simp only [decide_eq_false_iff_not,Int.ofNat_lt] at hltc
     have hci:c=i:=by omega
     subst hci
     refine gz hT rfl ?_;conv=>whnf
     refine zB rfl (zU rfl rfl rfl (by omega)) ?_
     refine gz hT rfl ?_;conv=>whnf
     exact ⟨a+1,hlta,by omega,⟨lk rfl,lk rfl,lk rfl,lk rfl,trivial⟩,by rw [hnext2]; exact .refl _⟩
   ·simp only [decide_eq_false_iff_not,Int.ofNat_lt] at hlta
    have hai:a=i:=by omega
    subst hai
    refine gz hT rfl ?_;conv=>whnf
    refine zB rfl (zU rfl rfl rfl (by omega)) ?_
    refine gz hT rfl ?_;conv=>whnf
    exact ⟨k+1,hltk,by omega,⟨lk rfl,lk rfl,lk rfl,trivial⟩,by rw [hnext]; exact .refl _⟩
  ·simp only [decide_eq_false_iff_not,Int.ofNat_lt] at hltk
   have hki:k=i:=by omega
   subst hki
   refine gz hT rfl ?_;conv=>whnf
   exact zQ (.tmp rfl .nil) ⟨tok,bl,hbl,rfl,rfl⟩
theorem closedP {t:Tok} (n:Nat) (hn:n≤8) (es:List (Nat×Nat)) (he:∀ e∈es,e.1 < n∧e.2 < n) (hl:es.length < 2000000) :
  Pure Tryz.prog 49 [.int .i64 (n:Int),.slice t ((es.map uz).map prs)] (.slice .no (tabR n (wu n es))):=by
 refine (closed0 hT n hn es he hl).freezeM ?_
 rintro v S' ⟨tok,bl,hbl,rfl,rfl⟩
 refine ⟨tok,n,1,4,[],(List.range n).map fun i=>(bl.getD i 0,zAp n (upK n (es.foldl edgeM idM) n) i),?_,?_,fun x hx=>?_,?_⟩
 ·congr 1
  rw [List.map_map]
  refine List.ext_getElem (by simp [outR,hbl]) fun i h1 h2=>?_
  have:i < bl.length:=by simpa [outR] using h1
  simp [outR,this]
 ·rw [List.append_nil,List.map_map]
  unfold k9
  rw [hbl]
  refine List.map_congr_left fun i _=>?_
  simp only [Function.comp,rowRR_flat]
 ·obtain ⟨i,_,rfl⟩:=List.mem_map.1 hx
  refine ⟨by simp [zAp],fun r hr=>?_⟩
  obtain ⟨j,_,rfl⟩:=List.mem_map.1 hr
  rfl
 ·congr 1
  rw [List.map_map]
  unfold tabR
  refine List.map_congr_left fun i hi=>?_
  simp only [Function.comp]
  congr 2
  unfold zAp
  refine List.map_congr_left fun j hj=>?_
  rw [closed_spec n es i j (List.mem_range.1 hi) (List.mem_range.1 hj)]
end
end Go.Vw
