/- The law asks of a fixed text whether it is accepted: it answers true; condition: the first variable holds a number. -/
import Derived.Test.YtamokenjdmfgbaaGreatDoorMF
import Derived.Test.YtamokenjdmfgbaaGreatDoorMD
import Derived.Test.YtamokenjdmfgbaaGreatDoorMH
import Derived.Test.YtamokenjdmfgbaaGreatDoorMI
import Derived.Test.YtamokenjdmfgbaaGreatDoorMJ
namespace Go.Vw
open Go.RowKit Go.Am Go.Proofs Go.Ord
theorem pair_of {k:List Int} (h:k.length=2):∃ a b,k=[a,b]:=by
 match k,h with
 | [a,b],_=>exact ⟨a,b,rfl⟩
def pairK (k:Nat×List Int):Nat×Int×Int:=(k.1,(k.2[0]?).getD 0,(k.2[1]?).getD 0)
def unpair (p:Int×Int):List Int:=[p.1,p.2]
theorem pairK_B {ks:List (Nat×List Int)} (h:∀ k∈ks,k.2.length=2):(ks.map pairK).map prB=ks.map fun k=>(k.1,kvV true k.2,V.agg []):=by
 rw [List.map_map]
 refine List.map_congr_left fun k hk=>?_
 obtain ⟨a,b,e⟩:=pair_of (h k hk)
 obtain ⟨n,l⟩:=k
 dsimp only at e
 subst e
 rfl
theorem unpair_K {ks:List (Nat×List Int)} (h:∀ k∈ks,k.2.length=2):((ks.map pairK).map (·.2)).map unpair=ks.map (·.2):=by
 rw [List.map_map,List.map_map]
 refine List.map_congr_left fun k hk=>?_
 obtain ⟨a,b,e⟩:=pair_of (h k hk)
 obtain ⟨n,l⟩:=k
 dsimp only at e
 subst e
 rfl
theorem less_unpair (p q:Int×Int):xj (unpair p) (unpair q)=ltP p q:=by
 obtain ⟨a,b⟩:=p
 obtain ⟨c,d⟩:=q
 show cond (decide (a < c)) true (cond (decide (a=c)) (cond (decide (b < d)) true (cond (decide (b=d)) false false)) false)=(decide (a < c) || (decide (a=c) && decide (b < d)))
 cases decide (a < c) <;> cases decide (a=c) <;> cases decide (b < d) <;> cases decide (b=d) <;> rfl
section
open Classical in
theorem extH20 (w:World):ExtHOK tab Tryz.prog w.heap.size w:=fun f x hx args H v H' e ρ w' args' h hg hv=>by
 have hT:=tabFits
 have hx2:tab.extH x args H=extHN x args H:=rfl
 rw [hx2] at e
 unfold extHN at e
 split at e
 ·have hf:f=83:=by
   have hk2:extN f=7:=hx
   unfold extN at hk2
   revert hk2
   cases h0:Nat.beq f 315 <;> simp only [cond_true,cond_false] <;> intro hk2
   ·cases h1:Nat.beq f 294 <;> rw [h1] at hk2 <;> simp only [cond_true,cond_false] at hk2
    ·cases h2:Nat.beq f 273 <;> rw [h2] at hk2 <;> simp only [cond_true,cond_false] at hk2
     ·cases h3:Nat.beq f 215 <;> rw [h3] at hk2 <;> simp only [cond_true,cond_false] at hk2
      ·cases h4:Nat.beq f 274 <;> rw [h4] at hk2 <;> simp only [cond_true,cond_false] at hk2
       ·cases h5:Nat.beq f 83
        ·rw [h5] at hk2; cases hk2
        ·exact Nat.eq_of_beq_eq_true h5
       ·cases hk2
      ·cases hk2
     ·cases hk2
    ·cases hk2
   ·cases hk2
  subst hf
  letI:Drw:=⟨False⟩
  refine .inr (extKeys_sound hT (fn:=Tryz.f83) rfl rfl rfl (by decide) [.func 85 [] []] ?_ ?_ e h hv)
  ·intro more ρ more' F w hm hr
   unfold isFn at hm
   split at hm
   ·next g a c =>
    simp only [Bool.and_eq_true] at hm
    obtain ⟨⟨h1,h2⟩,h3⟩:=hm
    have hg:=Nat.eq_of_beq_eq_true h1
    subst hg
    cases hr with
    | cons q1 q2 =>
      cases q2
      cases q1 with
      | func f1 f2 f3 f4 =>
        have a0:a.size=0:=by simpa using h2
        have c0:c.size=0:=by simpa using h3
        rw [a0] at f1
        rw [c0] at f3
        exact .cons (.func (by simpa using f1) (fun i x=>by simp at x) (by simpa using f3) (fun i x=>by simp at x)) .nil
   ·cases hm
  ·intro b cl ks hne hk hl
   have hs:=sortedP hT b cl (ks.map pairK) (by rw [List.length_map]; omega)
   rw [pairK_B hk] at hs
   refine hs.mono ?_
   rintro v S' ⟨ys,R,hp,hsrt,hc,rfl⟩
   have hlen:ys.length=ks.length:=by rw [hp.length_eq,List.length_map,List.length_map]
   rcases hc with ⟨rfl,_,_⟩ | ⟨_,b',c,r,rfl,hcr,rfl⟩
   ·exact absurd (List.length_eq_zero_iff.1 hlen.symm) hne
   ·refine ⟨b',c,r,ys.map unpair,?_,?_,by rw [hlen],by omega,by omega,?_⟩
    ·rw [← unpair_K hk]; exact hp.map _
    ·rw [List.pairwise_map]
     exact hsrt.imp fun h=>by rw [less_unpair]; exact h
    ·rw [List.map_map]
     rfl
 ·cases e
end
theorem run20:∃ H,xS tab 2000 200 (.fn 10) [] ⟨.nil,0,.nil,.nil⟩=some (.bool true,H):=by
 have e:=amCall_pre (tb:=tab) (loops:=2000) (k:=199) (f:=10) (n:=5) (fn:=Tryz.f10) (c:=code20) (args:=[]) rfl rfl rfl rfl pre20
 rw [e]
 exact isTrue_some post20
theorem alive20 {w:World} {m:Int} (hm:w.cell? ⟨0,0,none⟩=some (.int .i64 m)):Calls Tryz.prog 10 #[] w fun e w'=>e = .returned (.bool true)∧Below w.heap.size w w':=by
 obtain ⟨H,h⟩:=run20
 have hw:0 < w.heap.size:=by
  unfold World.cell? at hm
  cases h0:w.heap[0]? with
  | none=>simp [h0] at hm
  | some o=>exact (Array.getElem?_eq_some_iff.1 h0).1
 exact am_calls tabFits (extFits hm hw) (extH20 w) (fun _=>rfl) rfl h rfl
end Go.Vw
