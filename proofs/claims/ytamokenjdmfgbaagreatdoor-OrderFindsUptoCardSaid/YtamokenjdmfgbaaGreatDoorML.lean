/- A place to stand: a world in which what is listed is laid, and what the laws of this chapter share; no condition. -/
import Derived.Test.YtamokenjdmfgbaaGreatDoorCards
import Derived.Test.YtamokenjdmfgbaaGreatDoorTie
import Derived.Test.YtamokenjdmfgbaaGreatDoorME
import Derived.Deep.DeepHandedRow
import Derived.Deep.DeepWitnessRowRef
import Derived.Shelf.Vars
import Derived.WalkKit
import Derived.ProofKit
import Derived.OpenShut
import Derived.ChangeOld
import Derived.Below
import Derived.Test.YtamokenjdmfgbaaGreatDoorMP
import Derived.Test.YtamokenjdmfgbaaGreatDoorMK
namespace Go.Proofs.YtamokenjdmfgbaaGreatDoor
open Go.ChangeShapes Go.WideShapes Go.ChangeAt Go.RowKit
theorem own:ownKnob Tryz.prog.godebug=none:=by kernel_rfl
theorem laidOut:laidOutB Tryz.prog=true:=by kernel_rfl
theorem one_le {H:Type} (d:DataW H):1≤Rows.uptoBulk d:=by
 cases d with
 | lit l=>cases l <;> simp [Rows.uptoBulk]
 | _=>simp [Rows.uptoBulk]
theorem part_le {H:Type} {d:DataW H} {l:List (DataW H)} (h:d∈l):Rows.uptoBulk d≤Rows.uptoBulkAll l:=by
 induction l with
 | nil=>cases h
 | cons x r ih =>
   simp only [Rows.uptoBulkAll]
   cases List.mem_cons.1 h with
   | inl e=>subst e; omega
   | inr e=>have:=ih e; omega
theorem length_le {H:Type} (l:List (DataW H)):l.length≤Rows.uptoBulkAll l:=by
 induction l with
 | nil=>simp [Rows.uptoBulkAll]
 | cons x r ih=>have:=one_le x; simp only [Rows.uptoBulkAll,List.length_cons]; omega
theorem bulk {H:Type}:Vw.Bulk (Rows.uptoBulk (H:=H)) where
 str:=fun b=>by simp [Rows.uptoBulk]
 part:=fun l d h=>by have:=part_le h; simp only [Rows.uptoBulk]; omega
 elem:=fun l r d h=>by have:=part_le h; simp only [Rows.uptoBulk]; omega
 len:=fun l r=>by have:=length_le l; simp only [Rows.uptoBulk]; omega
theorem zY {H:Type} {l:List (DataW H)} (hk:Rows.uptoSmall H l=true):Rows.uptoBulkAll l≤1048576:=of_decide_eq_true hk
def zCu:Nat→DataW Unit→List Value
 | n+1,.agg ds=>ds.flatMap (zCu n)
 | _,.lit (.int k z)=>[.int k z]
 | _,_=>[]
def bytesOf:DataW Unit→List UInt8
 | .iface _ (.ptr (.agg [.lit (.string b)]))=>b
 | _=>[]
noncomputable def zCv (os:Os):World :=
 let N:=(World.settled Tryz.prog os).heap.size
 let w0:=World.holding Tryz.prog os ⟨#[.cells #[.string ⟨(bytesOf Rows.laid_strconv_ErrSyntax).toArray⟩] 427,.cells #[.string ⟨(bytesOf Rows.laid_strconv_ErrRange).toArray⟩] 427],#[],[]⟩
 let put (h:Array Obj) (g:Nat) (cs:Array Value):Array Obj:=h.modify g fun
  | .cells _ t frozen=>.cells cs t frozen
  | o=>o
 let h1:=put w0.heap 1 #[.iface 425 (.pointer (some ⟨N,0,none⟩))]
 let h2:=put h1 2 #[.iface 425 (.pointer (some ⟨N+1,0,none⟩))]
 let h3:=put h2 3 (zCu 4 Rows.laid_unicode_utf8_first).toArray
 let h4:=put h3 4 (zCu 4 Rows.laid_unicode_utf8_acceptRanges).toArray
 let h5:=put h4 5 (zCu 4 Rows.laid_internal_strconv_uint64pow10).toArray
 let h6:=put h5 6 (zCu 4 Rows.laid_math_bits_deBruijn32tab).toArray
 let h7:=put h6 7 (zCu 4 Rows.laid_math_bits_deBruijn64tab).toArray
 { w0 with heap:=h7 }
theorem laid_met (os:Os) (args:Array Value):laidMet Tryz.prog Rows.orderRanksUptoRow.laid ((zCv os).forCall (fun _ _=>0) ⟨#[],args,[]⟩).memory :=
 laidMet_of_run' 8 (by kernel_rfl) (by kernel_rfl)
def noCode:Value:=.agg #[.slice none 0 0,.slice none 0 0,.slice none 0 0,.slice none 0 0,.slice none 0 0,.slice none 0 0,.slice none 0 0,.slice none 0 0,.slice none 0 0]
def noCodeD {H:Type}:DataW H:=.agg [.nil,.nil,.nil,.nil,.nil,.nil,.nil,.nil,.nil]
theorem maxLen_there {W:World} (h:W.ShapedOpen Tryz.prog):∃ k,W.cell? ⟨0,0,none⟩=some (.int .i64 k) :=
 cell_of_shapedOpen_int h (of_decide_eq_true (by kernel_rfl)) (t:=3) (zero:=#[.int .i64 0]) (by kernel_rfl) rfl (by kernel_rfl) (by kernel_rfl) Tryz.underlying3
end Go.Proofs.YtamokenjdmfgbaaGreatDoor
namespace Go.Vw
open Go.RowKit Go.Am Go.Proofs
theorem sat_all {W:World} {k:Int} (h:W.cell? ⟨0,0,none⟩=some (.int .i64 k)):Sat (allF W) W [.eq 0 0 (.int .i64 k)] :=
 ⟨fun _ _ h=>h,List.nodup_nil,fun x hx=>by rw [List.mem_singleton.1 hx]; exact ⟨⟨_,h⟩,h⟩⟩
theorem keep_below [Drw] {F F':Fz} {w w':World} {k:Int} {S':Hp} (h:Keep F w [.eq 0 0 (.int .i64 k)] F' w' S'):Below w.heap.size w w' :=
 (h.more (S0:=[]) fun b hb=>by simp [Hp.dom,HE.blk] at hb).below
set_option maxRecDepth 100000 in
theorem mod_is {H:Type} {enc:TypeId×Value→H} {W:World} {v:Value} {d:DataW H} {ps:List MemPlace} {base:Nat} (hv:Value.okWide Tryz.prog W .any base 27 v) (h:DataW.Trod enc Tryz.prog W 0 (fun _=>true) true 27 v d ps) (hb:Proofs.YtamokenjdmfgbaaGreatDoor.Rows.uptoBulk d≤1048576) :
  ∃ m:MModule,Small m∧SmallN m∧Is (allF W) W (.agg (ze m)) v:=by
 obtain ⟨fuel,hf⟩:=h
 obtain ⟨m,hm,hi⟩:=rMod Proofs.YtamokenjdmfgbaaGreatDoor.bulk fuel _ _ hf hb
 have hv:∃ cs,v = .agg cs∧cs.size=Tryz.prog.cellsOf 27∧Row.okWide Tryz.prog W .any base 27 cs:=by
  have e:=hv
  unfold Value.okWide at e
  rw [Tryz.underlying27] at e
  exact e
 obtain ⟨cs,rfl,_⟩:=hv
 exact ⟨m,hm.small (by omega),hm.smallN (by omega),Is.agg_of hi⟩
end Go.Vw
namespace Go.Vw
open Go.RowKit Go.Am Go.Proofs
theorem alive_vc20 [Drw] (hd:¬ Drw.on) (k:Int):VC Tryz.prog 10 [] [.eq 0 0 (.int .i64 k)] fun v S'=>v = .ob true∧S'=[.eq 0 0 (.int .i64 k)] :=
 vc_below hd fun _ _ s=>alive20 (s.ok _ (List.mem_singleton.2 rfl)).2
end Go.Vw
namespace Go.Proofs.YtamokenjdmfgbaaGreatDoor.orderFinds
open Go.ChangeShapes Go.WideShapes Go.ChangeAt Go.RowKit
theorem reads (os:Os) {H:Type} (enc:TypeId×Value→H):∃ ud,DataW.whole enc Tryz.prog ((zCv os).forCall (fun _ _=>0) ⟨#[],#[noCode],[]⟩).memory Tryz.f3.params.toList Rows.orderFindsSpec.vars false #[noCode].toList 8=some ([noCodeD],[],ud) :=
 ⟨[],by kernel_rfl⟩
set_option maxRecDepth 100000 in
theorem contract (H:Type) (enc:TypeId×Value→H) (W:World) (base:Nat) (args:Array Value) (ds gs:List (DataW H)) (before:List MemPlace)
  (hval0:∀ (j:Nat) t v,Tryz.f3.params[j]?=some t→args[j]?=some v→Value.okWide Tryz.prog W .any base t v)
  (hW:DataW.Whole enc Tryz.prog Tryz.f3.params.toList Rows.orderFindsSpec.vars false W args.toList ds gs before) (hk:Rows.uptoSmall H (ds++gs)=true) (hsh:W.ShapedOpen Tryz.prog) :
  Calls Tryz.prog 3 args W fun e W'=>∃ v,e = .returned v∧Rows.orderFindsSpec.post enc Tryz.prog Tryz.f3 false true false false W args v W':=by
 have hval:∀ (j:Nat) t v,Tryz.f3.params[j]?=some t→args[j]?=some v→Value.okWide Tryz.prog W .any base t v:=hval0
 have hW':=hW
 obtain ⟨p,q,hA0,hV,rfl,hfz,hnd⟩:=hW
 have hA:DataW.TrodAll enc Tryz.prog W 0 (fun _=>true) true Tryz.f3.params.toList args.toList ds p:=hA0
 rw [Tryz.params3] at hA hval
 obtain ⟨v0,vs0,d0,ds0,p0,q0,hargs,rfl,rfl,h0,r0⟩:=trodAll_cons hA
 obtain ⟨rfl,rfl,rfl⟩:=trodAll_nil r0
 obtain rfl:args=#[v0]:=by cases args; simp_all
 obtain ⟨rfl,rfl⟩:=trodVars_none hV
 have hb:Rows.uptoBulk d0≤1048576:=Nat.le_trans (part_le (l:=[d0]++[]) (by simp)) (zY hk)
 have lt0:∀ x∈p0,x.block < W.heap.size:=by obtain ⟨n,hn⟩:=h0; exact DataW.trod_lt n _ _ _ hn
 obtain ⟨m,hs,hn,hi⟩:=Vw.mod_is (hval 0 27 v0 rfl rfl) h0 hb
 obtain ⟨k,hk0⟩:=maxLen_there hsh
 clear hA0 hval0
 letI:Vw.Drw:=⟨False⟩
 refine (Vw.orderFinds Am.tabFits m hs hn _ (Vw.alive_vc20 (fun h=>h) k) (Vw.allF W) W #[v0] (Vw.sat_all hk0) (.cons hi .nil)).mono ?_
 rintro e W' ⟨v,u,F',S',rfl,hv,_,hkeep,rfl⟩
 have bel:=Vw.keep_below hkeep
 cases hv
 exact ⟨_,rfl,_,_,_,[],_,[],hW',trodAll_mk1 (shut_bool Tryz.underlying4 _),trodAll_cons_mk (Below.trod laidOut (by kernel_rfl) (of_decide_eq_true (by kernel_rfl)) h0 bel lt0) trodAll_mk0,rfl,bel.frame _,fun h=>by cases h⟩
set_option maxRecDepth 100000 in
theorem lifted (os:Os) (started:os.Started) (H:Type) (enc:TypeId×Value→H) (F:Stop.Interp) :
  ReturnsInHanded {} Tryz.checked os 3 .any ((Rows.OpenSpec.upto Rows.orderFindsSpec).preRow enc Tryz.prog Tryz.f3 Rows.orderFindsUptoRow.domain false Rows.orderFindsUptoRow.laid) (((Rows.OpenSpec.upto Rows.orderFindsSpec).at F).post enc Tryz.prog Tryz.f3 false true false false):=by
 obtain ⟨ud,hx⟩:=reads os enc
 refine returnsInHanded_of_row (C:=Tryz.checked) (s:=Rows.OpenSpec.upto Rows.orderFindsSpec) own started (by kernel_rfl) Tryz.func3
  (witness_row_atRef (enc:=enc) (C:=Tryz.checked) false (zCv os) #[noCode] rfl (by kernel_rfl) (by kernel_rfl) (by kernel_rfl)
   (OpenSpec.preRow_of_cond 8 hx (by kernel_rfl) (fun k hk=>by cases hk; kernel_rfl) (by kernel_rfl) (laid_met os _))) ?_
 intro W base args ds gs before hval hW _ hcond _ _ hsh _
 exact contract H enc W base args ds gs before hval hW (hcond _ rfl) hsh
end Go.Proofs.YtamokenjdmfgbaaGreatDoor.orderFinds
