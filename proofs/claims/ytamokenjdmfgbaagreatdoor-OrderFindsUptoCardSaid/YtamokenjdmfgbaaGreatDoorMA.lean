/- An abstract machine over a clean heap, proved sound against the model, first half; no condition. -/
import Derived.Below
import Derived.Calls
import Derived.KernelRfl
import Derived.RangeFuncRecord
import Derived.OrdersIn
import Derived.RangeFuncIn
import Derived.Laws.Strings
namespace Go.Am
inductive T (α:Type):Type where
 | nil
 | node (v:Option α) (l r:T α)
namespace T
variable {α:Type}
def get:T α→Nat→Option α
 | .nil,_=>none
 | .node v l r,n=>cond (Nat.beq n 0) v (cond (Nat.beq (Nat.mod n 2) 1) (l.get (Nat.div n 2)) (r.get (Nat.pred (Nat.div n 2))))
def set:Nat→T α→Nat→α→T α
 | 0,t,_,_=>t
 | f+1,.nil,n,a=>cond (Nat.beq n 0) (.node (some a) .nil .nil) (cond (Nat.beq (Nat.mod n 2) 1) (.node none (set f .nil (Nat.div n 2) a) .nil) (.node none .nil (set f .nil (Nat.pred (Nat.div n 2)) a)))
 | f+1,.node v l r,n,a=>cond (Nat.beq n 0) (.node (some a) l r) (cond (Nat.beq (Nat.mod n 2) 1) (.node v (set f l (Nat.div n 2) a) r) (.node v l (set f r (Nat.pred (Nat.div n 2)) a)))
theorem get_nil (n:Nat):(nil:T α).get n=none:=rfl
theorem get_set (a:α):∀ (f:Nat) (t:T α) (n m:Nat),n+1 < 2 ^ f→(set f t n a).get m=if m=n then some a else t.get m:=by
 intro f
 induction f with
 | zero=>intro t n m h; simp at h
 | succ f ih =>
   intro t n m h
   have hp:2 ^ (f+1)=2 * 2 ^ f:=by rw [Nat.pow_succ]; omega
   rw [hp] at h
   have e0:∀ k:Nat,Nat.beq k 0=decide (k=0):=fun k=>by cases k <;> rfl
   have e1:∀ k:Nat,Nat.beq (Nat.mod k 2) 1=decide (k % 2=1):=fun k=>by
    show Nat.beq (k % 2) 1=_
    rcases Nat.mod_two_eq_zero_or_one k with h | h <;> rw [h] <;> rfl
   have ed:∀ k:Nat,Nat.div k 2=k / 2:=fun _=>rfl
   cases t with
   | nil =>
     simp only [set,e0,e1,ed,Nat.pred_eq_sub_one]
     by_cases hn:n=0
     ·subst hn
      simp only [decide_true,cond_true,get,e0]
      by_cases hm:m=0
      ·simp [hm]
      ·simp [hm]
     ·by_cases ho:n % 2=1
      ·simp only [hn,ho,decide_true,decide_false,cond_true,cond_false,get,e0,e1,ed]
       by_cases hm:m=0
       ·simp [hm]; omega
       ·by_cases hmo:m % 2=1
        ·simp only [hm,hmo,decide_true,decide_false,cond_true,cond_false]
         rw [ih _ _ _ (by omega),get_nil]
         by_cases e:m=n
         ·simp [e]
         ·rw [if_neg (by omega),if_neg e]
        ·simp only [hm,hmo,decide_false,cond_false]
         rw [if_neg (by rintro rfl; exact hmo ho)]
      ·simp only [hn,ho,decide_false,cond_false,get,e0,e1,ed]
       by_cases hm:m=0
       ·simp [hm]; omega
       ·by_cases hmo:m % 2=1
        ·simp only [hm,hmo,decide_true,decide_false,cond_true,cond_false]
         rw [if_neg (by rintro rfl; exact ho hmo)]
        ·simp only [hm,hmo,decide_false,cond_false,Nat.pred_eq_sub_one]
         rw [ih _ _ _ (by omega),get_nil]
         by_cases e:m=n
         ·simp [e]
         ·rw [if_neg (by omega),if_neg e]
   | node v l r =>
     simp only [set,e0,e1,ed,Nat.pred_eq_sub_one]
     by_cases hn:n=0
     ·subst hn
      simp only [decide_true,cond_true,get,e0,e1,ed]
      by_cases hm:m=0
      ·simp [hm]
      ·simp [hm]
     ·by_cases ho:n % 2=1
      ·simp only [hn,ho,decide_true,decide_false,cond_true,cond_false,get,e0,e1,ed]
       by_cases hm:m=0
       ·simp [hm]; omega
       ·by_cases hmo:m % 2=1
        ·simp only [hm,hmo,decide_true,decide_false,cond_true,cond_false]
         rw [ih _ _ _ (by omega)]
         by_cases e:m=n
         ·simp [e]
         ·rw [if_neg (by omega),if_neg e]
        ·simp only [hm,hmo,decide_false,cond_false]
         rw [if_neg (by rintro rfl; exact hmo ho)]
      ·simp only [hn,ho,decide_false,cond_false,get,e0,e1,ed]
       by_cases hm:m=0
       ·simp [hm]; omega
       ·by_cases hmo:m % 2=1
        ·simp only [hm,hmo,decide_true,decide_false,cond_true,cond_false]
         rw [if_neg (by rintro rfl; exact ho hmo)]
        ·simp only [hm,hmo,decide_false,cond_false,Nat.pred_eq_sub_one]
         rw [ih _ _ _ (by omega)]
         by_cases e:m=n
         ·simp [e]
         ·rw [if_neg (by omega),if_neg e]
end T
end Go.Am
namespace Go.Am
inductive AObj where
 | cells (c:List Value) (elem:TypeId) (ro:Bool)
 | map (es:List MapEntry) (clock:Nat)
 | strIter (s:ByteArray) (pos:Nat)
 | mapIter (m:Option Nat) (since:Nat) (seen:List Nat) (stepped:Nat)
 | loop (st:LoopState) (pending:Option Code) (tmps:T Value) (n:Nat) (params:List Tmp) (assign body:Code)
 | deferred
 | shut
structure AH where
 objs:T AObj
 next:Nat
 org:T (Nat×Nat)
 fam:T (List Nat)
structure Tab where
 info:Nat→Option TypeInfo
 func:Nat→Option Func
 ext:Nat→Nat
 glob:Nat→Bool
 eqs:Nat→Bool
 extH:Nat→List Value→AH→Option (Value×AH)
def Tab.under (tb:Tab) (t:Nat):Option TypeDesc :=
 match tb.info t with
 | some i=>match i.desc with
   | .named _ u=>(tb.info u).map (·.desc)
   | d=>some d
 | none=>none
def Tab.size (tb:Tab) (t:Nat):Option Nat:=(tb.info t).map (·.size)
def Tab.isAgg (tb:Tab) (t:Nat):Option Bool :=
 match tb.under t with
 | some (.struct _)=>some true
 | some (.array _ _)=>some true
 | some _=>some false
 | none=>none
def zY:Nat:=1000000000
def depth:Nat:=40
def AH.get (H:AH) (i:Nat):Option AObj:=H.objs.get i
def AH.put (H:AH) (i:Nat) (o:AObj):AH :=
 match H with
 | ⟨objs,next,org,fam⟩=>⟨objs.set depth i o,next,org,fam⟩
def AH.alloc (H:AH) (o:AObj):Option (Nat×AH) :=
 match H with
 | ⟨objs,next,org,fam⟩=>cond (Nat.blt next zY) (some (next,⟨objs.set depth next o,Nat.succ next,org,fam⟩)) none
def AH.join (H:AH) (i:Nat) (ro:Nat×Nat) (js:List Nat):AH :=
 match H with
 | ⟨objs,next,org,fam⟩=>⟨objs,next,org.set depth i ro,fam.set depth ro.1 js⟩
def bytes (s:ByteArray):List UInt8:=s.data.toList
def zw (l:List UInt8):ByteArray:=⟨⟨l⟩⟩
def len (s:ByteArray):Nat:=(bytes s).length
def eqB:List UInt8→List UInt8→Bool
 | [],[]=>true
 | a::r,b::s=>cond (Nat.beq a.toNat b.toNat) (eqB r s) false
 | _,_=>false
def lessB:List UInt8→List UInt8→Bool
 | [],[]=>false
 | [],_::_=>true
 | _::_,[]=>false
 | a::r,b::s=>cond (Nat.blt a.toNat b.toNat) true (cond (Nat.beq a.toNat b.toNat) (lessB r s) false)
def take {α:Type}:Nat→List α→List α
 | 0,_=>[]
 | _+1,[]=>[]
 | n+1,a::l=>a::take n l
def dropN {α:Type}:Nat→List α→List α
 | 0,l=>l
 | _+1,[]=>[]
 | n+1,_::l=>dropN n l
def cut:Nat→List Value→List Value
 | 0,l=>l
 | n+1,_::l=>cut n l
 | _+1,[]=>[]
def wh:Nat→List Value→Option (List Value)
 | 0,_=>some []
 | _+1,[]=>none
 | n+1,v::l=>match wh n l with | some r=>some (v::r) | none=>none
def lay:Nat→List Value→List Value→Option (List Value)
 | _,[],l=>some l
 | 0,v::vs,_::l=>match lay 0 vs l with | some r=>some (v::r) | none=>none
 | 0,_::_,[]=>none
 | n+1,vs,x::l=>match lay n vs l with | some r=>some (x::r) | none=>none
 | _+1,_::_,[]=>none
def kill:Nat→Nat→List Value→List Value
 | _,0,l=>l
 | 0,hi+1,_::l=>undef::kill 0 hi l
 | lo+1,hi+1,x::l=>x::kill lo hi l
 | _,_+1,[]=>[]
def xW (i lo hi:Nat):List Nat→AH→AH
 | [],H=>H
 | j::js,H =>
   cond (Nat.beq i j) (xW i lo hi js H)
    (match H.get j,H.org.get j with
     | some (.cells c e ro),some (_,o)=>xW i lo hi js (H.put j (.cells (kill (lo - o) (hi - o) c) e ro))
     | _,_=>xW i lo hi js H)
def AH.killFam (H:AH) (i lo n:Nat):AH :=
 match H.org.get i with
 | none=>H
 | some (r,o)=>match H.fam.get r with
   | none=>H
   | some js=>xW i (o+lo) (o+lo+n) js H
def AH.load (H:AH) (a:Addr) (n:Nat):Option (List Value) :=
 match a.spot with
 | some _=>none
 | none=>match H.get a.block with
   | some (.cells c _ _)=>wh n (cut a.off c)
   | _=>none
def isCell:Value→Bool
 | .agg _=>false
 | .tuple _=>false
 | .chan _=>false
 | _=>true
def yo:List Value→Bool
 | []=>true
 | v::r=>cond (isCell v) (yo r) false
def AH.store (H:AH) (a:Addr) (vs:List Value):Option AH :=
 match a.spot with
 | some _=>none
 | none=>match H.get a.block with
   | some (.cells c e false)=>match lay a.off vs c with
     | some c'=>cond (yo vs) (some ((H.put a.block (.cells c' e false)).killFam a.block a.off vs.length)) none
     | none=>none
   | _=>none
inductive ANext where
 | value (v:Value)
 | skip
 | enter (f:FuncId) (args:List Value)
 | round (l:Nat) (args:List Value)
 | defer (d:Deferred)
 | recover
def vw (a:Addr) (n:Nat):Addr:=cond (Nat.beq n 0) a { block:=a.block,off:=a.off+n,spot:=none }
def loadVar (tb:Tab) (H:AH) (t:TypeId) (a:Addr):Option Value :=
 match tb.isAgg t,tb.size t with
 | some true,some n=>match H.load a n with | some cs=>some (.agg cs.toArray) | none=>none
 | some false,_=>match H.load a 1 with | some [v]=>some v | _=>none
 | _,_=>none
def cellsOf:Value→List Value
 | .agg cs=>cs.toList
 | v=>[v]
def storeVar (tb:Tab) (H:AH) (t:TypeId) (a:Addr) (v:Value):Option AH :=
 match tb.size t with
 | some n=>cond (Nat.beq (cellsOf v).length n) (H.store a (cellsOf v)) none
 | none=>none
def vo (tb:Tab) (t:TypeId) (cs:List Value) (off:Nat):Option Value :=
 match tb.isAgg t,tb.size t with
 | some true,some n=>match wh n (cut off cs) with | some r=>some (.agg r.toArray) | none=>none
 | some false,_=>match wh 1 (cut off cs) with | some [v]=>some v | _=>none
 | _,_=>none
def solid:Value→Bool
 | .tuple _=>false
 | .chan _=>false
 | _=>true
def fillP (place:Nat→Option (Nat×Nat)) (cells:List Value):List (Nat×Value)→Option (List Value)
 | []=>some cells
 | (i,v)::rest=>match place i with
   | none=>none
   | some (off,size)=>cond (Nat.beq (cellsOf v).length size && solid v && Nat.blt 0 size) (match lay off (cellsOf v) cells with | some c=>fillP place c rest | none=>none) none
def rep:Nat→List Value→List Value
 | 0,_=>[]
 | n+1,z=>z++rep n z
def flat:Value→Bool
 | .bool _=>true
 | .int _ _=>true
 | .string _=>true
 | .pointer none=>true
 | .slice none _ _=>true
 | .map none=>true
 | .nilFunc=>true
 | .nilIface=>true
 | _=>false
def zBR:List Value→Bool
 | []=>true
 | v::r=>cond (flat v) (zBR r) false
def constV:Value→Value
 | .iface t v=>cond (flat v) (.iface t v) undef
 | .agg cs=>cond (zBR cs.toList) (.agg cs) undef
 | v=>cond (flat v) v undef
def xx (tb:Tab) (t:TypeId):Option Value:=match tb.info t with | some i=>(match i.zero with | some z=>some (constV z) | none=>none) | none=>none
def zeroCells (tb:Tab) (t:TypeId):Option (List Value):=match xx tb t with | some z=>cond (yo (cellsOf z)) (some (cellsOf z)) none | none=>none
def AH.adopt (H:AH) (j:Nat):AH :=
 match H.org.get j with
 | some _=>H
 | none=>H.join j (j,0) (j::match H.fam.get j with | some js=>js | none=>[])
def AH.grow (H:AH) (base:Option Addr) (len:Nat) (cells:List Value) (elem:TypeId) (n:Nat):Option (Nat×AH) :=
 match base with
 | none=>H.alloc (.cells cells elem false)
 | some a=>match (H.adopt a.block).org.get a.block with
   | some (r,o)=>match (H.adopt a.block).fam.get r with
     | some js=>match (xW (H.adopt a.block).next (o+a.off+len) (o+a.off+len+n) js (H.adopt a.block)).alloc (.cells cells elem false) with
       | some (i,H2)=>some (i,H2.join i (r,o+a.off) (i::js))
       | none=>none
     | none=>none
   | none=>none
def eqAll (tb:Tab) (eq:TypeId→Value→Value→Option Bool) (fs:List Field) (a b:List Value):Option Bool :=
 match fs with
 | []=>some true
 | f::fs=>match vo tb f.type a f.offset,vo tb f.type b f.offset with
   | some x,some y=>match eq f.type x y with
     | some true=>eqAll tb eq fs a b
     | some false=>some false
     | none=>none
   | _,_=>none
def eqRow (tb:Tab) (eq:Value→Value→Option Bool) (e n:Nat):Nat→Nat→List Value→List Value→Option Bool
 | 0,_,_,_=>some true
 | m+1,i,a,b=>match vo tb e a (i * n),vo tb e b (i * n) with
   | some x,some y=>match eq x y with
     | some true=>eqRow tb eq e n m (i+1) a b
     | some false=>some false
     | none=>none
   | _,_=>none
def wi (tb:Tab):Nat→TypeId→Value→Value→Option Bool
 | 0,_,_,_=>none
 | d+1,t,x,y=>match tb.under t,x,y with
   | some .bool,.bool a,.bool b=>some (a == b)
   | some (.int _),.int k a,.int k' b=>cond (decide (k=k')) (some (a == b)) none
   | some .string,.string a,.string b=>some (eqB (bytes a) (bytes b))
   | some (.pointer _),.pointer none,.pointer b=>some b.isNone
   | some (.pointer _),.pointer (some _),.pointer none=>some false
   | some (.interface _),.nilIface,.nilIface=>some true
   | some (.interface _),.nilIface,.iface _ _=>some false
   | some (.interface _),.iface _ _,.nilIface=>some false
   | some (.interface _),.iface a v,.iface b w=>cond (Nat.beq a b) (match tb.info a with | some i=>cond i.comparable (wi tb d a v w) none | none=>none) (some false)
   | some (.slice _),.slice none _ _,.slice b _ _=>some b.isNone
   | some (.slice _),.slice (some _) _ _,.slice none _ _=>some false
   | some (.map _ _),.map none,.map b=>some b.isNone
   | some (.map _ _),.map (some _),.map none=>some false
   | some (.func _ _ _),.nilFunc,.nilFunc=>some true
   | some (.func _ _ _),.nilFunc,.func _ _ _=>some false
   | some (.func _ _ _),.func _ _ _,.nilFunc=>some false
   | some (.struct fs),.agg a,.agg b=>cond (tb.eqs t) (eqAll tb (wi tb d) fs.toList a.toList b.toList) none
   | some (.array n e),.agg a,.agg b=>match tb.size e with
     | some m=>eqRow tb (wi tb d e) e m n 0 a.toList b.toList
     | none=>none
   | _,_,_=>none
def qZ (tb:Tab):Nat→TypeId→Bool
 | 0,_=>false
 | d+1,t=>match tb.under t with
   | some (.interface _)=>false
   | some (.struct fs)=>fs.toList.all fun f=>qZ tb d f.type
   | some (.array _ e)=>qZ tb d e
   | some _=>true
   | none=>false
def eqTop (tb:Tab) (c:Bool) (t:TypeId) (x y:Value):Option Bool :=
 match x,y with
 | .nilIface,.nilIface=>cond c (wi tb 20 t .nilIface .nilIface) none
 | .agg a,.agg b=>cond (qZ tb 20 t) (wi tb 20 t (.agg a) (.agg b)) none
 | x,y=>wi tb 20 t x y
def sameA (a b:Option Addr):Bool :=
 match a,b with
 | none,none=>true
 | some ⟨i,o,none⟩,some ⟨j,p,none⟩=>cond (Nat.beq i j) (Nat.beq o p) false
 | _,_=>false
def w9 (f:Value→Value→Bool) (a b:List Value):Bool :=
 match a,b with
 | [],[]=>true
 | x::a,y::b=>cond (f x y) (w9 f a b) false
 | _,_=>false
def sameFn (f g:Fn):Bool :=
 match f,g with
 | .func f,.func g=>Nat.beq f g
 | .yield f,.yield g=>Nat.beq f g
 | _,_=>false
def uT:Nat→Value→Value→Bool
 | 0,_,_=>false
 | d+1,x,y=>match x,y with
   | .bool a,.bool b=>a == b
   | .int k a,.int j b=>cond (decide (k=j)) (a == b) false
   | .string a,.string b=>eqB (bytes a) (bytes b)
   | .pointer a,.pointer b=>sameA a b
   | .slice a n c,.slice b m e=>cond (sameA a b) (cond (Nat.beq n m) (Nat.beq c e) false) false
   | .map none,.map none=>true
   | .map (some i),.map (some j)=>Nat.beq i j
   | .nilIface,.nilIface=>true
   | .nilFunc,.nilFunc=>true
   | .iface t a,.iface u b=>cond (Nat.beq t u) (uT d a b) false
   | .func f a c,.func g b e=>cond (sameFn f g) (cond (w9 (uT d) a.toList b.toList) (w9 (uT d) c.toList e.toList) false) false
   | .agg a,.agg b=>w9 (uT d) a.toList b.toList
   | .tuple a,.tuple b=>w9 (uT d) a.toList b.toList
   | _,_=>false
def kI:Value→Bool
 | .int _ _=>true
 | .string _=>true
 | _=>false
def xG:List Value→Bool
 | []=>true
 | v::r=>cond (kI v) (xG r) false
def keyOk (tb:Tab):Nat→TypeId→Value→Bool
 | 0,_,_=>false
 | d+1,t,v=>match tb.under t,v with
   | some (.int _),.int _ _=>true
   | some .string,.string _=>true
   | some (.struct fs),.agg cs=>cond (tb.eqs t) (fs.toList.all fun f=>match vo tb f.type cs.toList f.offset with | some x=>keyOk tb d f.type x | none=>false) false
   | some (.array n e),.agg cs=>match tb.size e with
     | some sz=>(List.range n).all fun i=>match vo tb e cs.toList (i * sz) with | some x=>keyOk tb d e x | none=>false
     | none=>false
   | _,_=>false
def zBT (tb:Tab) (kt:TypeId) (d:TypeDesc) (k e:Value):Option Bool :=
 match d,k,e with
 | .int _,.int a x,.int b y=>cond (decide (a=b)) (some (x == y)) none
 | .string,.string a,.string b=>some (eqB (bytes a) (bytes b))
 | .struct _,.agg a,.agg b=>match wi tb 20 kt (.agg a) (.agg b) with
   | some true=>cond (w9 (uT 2) a.toList b.toList) (some true) none
   | some false=>some false
   | none=>none
 | .array _ _,.agg a,.agg b=>match wi tb 20 kt (.agg a) (.agg b) with
   | some true=>cond (w9 (uT 2) a.toList b.toList) (some true) none
   | some false=>some false
   | none=>none
 | _,_,_=>none
def up (tb:Tab) (kt:TypeId) (d:TypeDesc) (k:Value):Bool :=
 match d,k with
 | .int _,.int _ _=>true
 | .string,.string _=>true
 | .struct _,.agg cs=>cond (xG cs.toList) (keyOk tb 20 kt (.agg cs)) false
 | .array _ _,.agg cs=>cond (xG cs.toList) (keyOk tb 20 kt (.agg cs)) false
 | _,_=>false
def findKey (tb:Tab) (kt:TypeId) (d:TypeDesc) (k:Value):List MapEntry→Nat→Option (Option (Nat×MapEntry))
 | [],_=>some none
 | e::es,i=>match zBT tb kt d k e.key with
   | some true=>some (some (i,e))
   | some false=>findKey tb kt d k es (i+1)
   | none=>none
def kJ (es:List MapEntry) (i:Nat) (f:MapEntry→MapEntry):List MapEntry :=
 match es,i with
 | [],_=>[]
 | e::es,0=>f e::es
 | e::es,i+1=>e::kJ es i f
def mapPut (tb:Tab) (H:AH) (t:TypeId) (m k v:Value):Option AH :=
 match tb.under t,m with
 | some (.map kt _),.map (some r)=>match H.get r with
   | some (.map es clock)=>match tb.under kt with
     | some d=>cond (up tb kt d k) (match findKey tb kt d k es 0 with
       | some (some (i,_))=>some (H.put r (.map (kJ es i fun e=>{ e with key:=k,val:=v }) clock))
       | some none=>some (H.put r (.map (es++[{ key:=k,val:=v,born:=clock }]) (clock+1)))
       | none=>none) none
     | none=>none
   | _=>none
 | _,_=>none
def uq (op:BinOp) (k:IntKind) (x y:Int):Option Value :=
 match op with
 | .add=>some (.int k (k.wrap (x+y)))
 | .sub=>some (.int k (k.wrap (x - y)))
 | .mul=>some (.int k (k.wrap (x * y)))
 | .quo=>cond (decide (y=0)) none (some (.int k (k.wrap (x.tdiv y))))
 | .rem=>cond (decide (y=0)) none (some (.int k (x.tmod y)))
 | .and=>some (.int k (k.wrap (BitVec.ofInt k.bits x &&& BitVec.ofInt k.bits y).toNat))
 | .or=>some (.int k (k.wrap (BitVec.ofInt k.bits x ||| BitVec.ofInt k.bits y).toNat))
 | .xor=>some (.int k (k.wrap (BitVec.ofInt k.bits x ^^^ BitVec.ofInt k.bits y).toNat))
 | .andNot=>some (.int k (k.wrap (BitVec.ofInt k.bits x &&& ~~~(BitVec.ofInt k.bits y)).toNat))
 | .eql=>some (.bool (x == y))
 | .neq=>some (.bool (x != y))
 | .lss=>some (.bool (x < y))
 | .leq=>some (.bool (x≤y))
 | .gtr=>some (.bool (x > y))
 | .geq=>some (.bool (x ≥ y))
 | _=>none
def wE:Operand→Bool
 | .const _=>true
 | _=>false
def wM (op:BinOp) (k:IntKind) (a:Int) (k':IntKind) (b:Int):Option Value :=
 match op with
 | .shl=>cond (decide (b < 0)) none (some (.int k (k.wrap (a * 2 ^ (min b.toNat k.bits)))))
 | .shr=>cond (decide (b < 0)) none (some (.int k (a.fdiv (2 ^ (min b.toNat k.bits)))))
 | op=>cond (decide (k=k')) (uq op k a b) none
def strOp (op:BinOp) (a b:ByteArray):Option Value :=
 match op with
 | .add=>cond (Nat.blt (len a+len b) zY) (some (.string (zw (bytes a++bytes b)))) none
 | .eql=>some (.bool (eqB (bytes a) (bytes b)))
 | .neq=>some (.bool (!(eqB (bytes a) (bytes b))))
 | .lss=>some (.bool (lessB (bytes a) (bytes b)))
 | .leq=>some (.bool (lessB (bytes a) (bytes b) || eqB (bytes a) (bytes b)))
 | .gtr=>some (.bool (!(lessB (bytes a) (bytes b) || eqB (bytes a) (bytes b))))
 | .geq=>some (.bool (!(lessB (bytes a) (bytes b))))
 | _=>none
def wU (tb:Tab) (c:Bool) (op:BinOp) (t:TypeId) (x y:Value):Option Value :=
 match x,y with
 | .int k a,.int k' b=>wM op k a k' b
 | .string a,.string b=>strOp op a b
 | x,y=>match op with
   | .eql=>(match eqTop tb c t x y with | some b=>some (.bool b) | none=>none)
   | .neq=>(match eqTop tb c t x y with | some b=>some (.bool (!b)) | none=>none)
   | _=>none
def natOf:Value→Option Nat
 | .int _ (.ofNat n)=>some n
 | _=>none
def wF (v:Option Value) (d top:Nat):Option Nat :=
 match v with
 | none=>some d
 | some v=>match natOf v with | some n=>cond (Nat.ble n top) (some n) none | none=>none
def rowFits (tb:Tab) (H:AH) (a:Addr) (n:Nat):Bool :=
 match H.get a.block with
 | some (.cells _ el _)=>match tb.size el with
   | some m=>Nat.ble n m
   | none=>false
 | _=>false
def sliceOp (tb:Tab) (H:AH) (t:TypeId) (x:Value) (lo hi mx:Option Value):Option Value :=
 match tb.under t,x with
 | some .string,.string s=>match mx,wF hi (len s) (len s) with
   | none,some h=>match wF lo 0 h with | some l=>some (.string (zw (take (h - l) (dropN l (bytes s))))) | none=>none
   | _,_=>none
 | some (.slice e),.slice a len cap=>match tb.size e,wF mx cap cap,cond (mx.isSome && hi.isNone) true (match a with | some a=>(match tb.size e with | some n=>!(rowFits tb H a n) | none=>true) | none=>false) with
   | some sz,some m,false=>match wF hi len m with
     | some h=>match wF lo 0 h with
       | some l=>cond (Nat.ble h m) (some (.slice (a.map (vw · (l * sz))) (h - l) (m - l))) none
       | none=>none
     | none=>none
   | _,_,_=>none
 | some (.array n e),.pointer (some a)=>match tb.size e,mx with
   | some sz,none=>match wF hi n n with
     | some h=>match wF lo 0 h with
       | some l=>some (.slice (some (vw a (l * sz))) (h - l) (n - l))
       | none=>none
     | none=>none
   | _,_=>none
 | _,_=>none
def lenOf (tb:Tab) (H:AH) (t:TypeId) (x:Value):Option Nat :=
 match tb.under t,x with
 | some .string,.string s=>some (len s)
 | some (.slice _),.slice _ n _=>some n
 | some (.array n _),_=>some n
 | some (.map _ _),.map none=>some 0
 | some (.map _ _),.map (some r)=>match H.get r with | some (.map es _)=>some es.length | _=>none
 | _,_=>none
def rowOf (H:AH) (sz n:Nat):Value→Option (List Value)
 | .slice (some a) _ _=>H.load a (n * sz)
 | .slice none _ _=>cond (Nat.beq n 0) (some []) none
 | _=>none
def lengthOf:Value→Option Nat
 | .slice _ n _=>some n
 | _=>none
def oldRow (H:AH) (base:Option Addr) (e:TypeId) (n:Nat):Option (List Value) :=
 match base with
 | none=>cond (Nat.beq n 0) (some []) none
 | some a=>match H.get a.block,a.spot with
   | some (.cells c el false),none=>cond (Nat.beq el e) (wh n (cut a.off c)) none
   | _,_=>none
def yf (tb:Tab) (e:TypeId):Bool:=match tb.info e with | some i=>Nat.blt i.bytes 1048576 | none=>false
def zeroFits (tb:Tab) (e:TypeId) (sz:Nat):Bool :=
 match xx tb e with
 | some z=>Nat.beq (cellsOf z).length sz && solid z && Nat.blt 0 sz
 | none=>false
def zBU (tb:Tab) (H:AH) (t:TypeId) (s x:Value):Option (Value×AH) :=
 match tb.under t,s,lengthOf x with
 | some (.slice e),.slice base len cap,some n=>match tb.size e with
   | some sz=>match rowOf H sz n x with
     | some new =>
       cond (Nat.ble (len+n) cap)
        (match base with
         | some a=>match H.store (vw a (len * sz)) new with | some H'=>some (.slice base (len+n) cap,H') | none=>none
         | none=>some (.slice base (len+n) cap,H))
        (match oldRow H base e (len * sz) with
         | some old=>cond (Nat.blt (len+n) 65536 && yo new && yf tb e && zeroFits tb e sz)
           (match H.grow base (len * sz) (old++new) e (n * sz) with
            | some (i,H')=>some (.slice (some ⟨i,0,none⟩) (len+n) (len+n),H')
            | none=>none) none
         | none=>none)
     | none=>none
   | none=>none
 | _,_,_=>none
def zCJ (tb:Tab) (src dst:TypeId) (x:Value):Option Value :=
 match tb.under src,tb.under dst,x with
 | some (.int _),some (.int k),.int _ n=>some (.int k (k.wrap n))
 | some .string,some .string,.string s=>some (.string s)
 | _,_,_=>none
def one (v:Option Value) (H:AH):Option (ANext×AH):=match v with | some v=>some (.value v,H) | none=>none
def two (r:Option (Value×AH)):Option (ANext×AH):=match r with | some (v,H)=>some (.value v,H) | none=>none
def zAq (n:Nat):Value:=.int .i64 (.ofNat n)
def zCK (tb:Tab) (H:AH) (b:Builtin) (ats:List TypeId) (args:List Value):Option (ANext×AH) :=
 match b,ats,args with
 | .len,t::_,[x]=>match lenOf tb H t x with | some n=>some (.value (zAq n),H) | none=>none
 | .cap,t::_,[.slice none _ n]=>match tb.under t with | some (.slice _)=>some (.value (zAq n),H) | _=>none
 | .append,[t,u],[s,x]=>match tb.under u with
   | some (.int _)=>none
   | some _=>two (zBU tb H t s x)
   | none=>none
 | .max,_,[.int k x,.int _ y]=>some (.value (.int k (if y > x then y else x)),H)
 | .min,_,[.int k x,.int _ y]=>some (.value (.int k (if y < x then y else x)),H)
 | .recover,_,[]=>some (.recover,H)
 | _,_,_=>none
def callVal (f:Value) (args:List Value):Option ANext :=
 match f with
 | .func (.func g) first captured=>some (.enter g (first.toList++args++captured.toList))
 | .func (.yield l) _ _=>some (.round l args)
 | _=>none
def ptrTo (i:Nat):Value:=.pointer (some ⟨i,0,none⟩)
def vy (l c i:Nat):Value:=.slice (some ⟨i,0,none⟩) l c
def mapTo (i:Nat):Value:=.map (some i)
def wj (tb:Tab) (ρ:Operand→Value) (o:Oper):Option (AObj×(Nat→Value)) :=
 match o.op with
 | .alloc e=>match zeroCells tb e with
   | some z=>some (.cells z e false,ptrTo)
   | none=>none
 | .box e x=>match tb.size e with
   | some _=>cond (yo (cellsOf (ρ x))) (some (.cells (cellsOf (ρ x)) e false,ptrTo)) none
   | none=>none
 | .buildSlice t len parts=>match tb.under t with
   | some (.slice e)=>match tb.size e,xx tb e with
     | some n,some z=>cond (Nat.beq (cellsOf z).length n && solid z && Nat.blt (len * n) 16777216)
       (match fillP (fun i=>some (i * n,n)) (rep len (cellsOf z)) (parts.toList.map fun (i,x)=>(i,ρ x)) with
        | some c=>some (.cells c e false,vy len len)
        | none=>none) none
     | _,_=>none
   | _=>none
 | .makeMap _ r=>match r with
   | none=>some (.map [] 0,mapTo)
   | some _=>none
 | .makeSlice t l c=>match tb.under t,natOf (ρ l),natOf (ρ c) with
   | some (.slice e),some l,some c=>match xx tb e,tb.size e with
     | some z,some n=>cond (Nat.ble l c && Nat.blt c 65536 && yf tb e && Nat.beq (cellsOf z).length n && solid z) (some (.cells (rep c (cellsOf z)) e false,vy l c)) none
     | _,_=>none
   | _,_,_=>none
 | _=>none
def zAd (tb:Tab) (ρ:Operand→Value) (o:Oper) (H:AH):Option (ANext×AH) :=
 match wj tb ρ o with
 | some (obj,mk)=>(match H.alloc obj with | some (i,H')=>some (.value (mk i),H') | none=>none)
 | none=>none
def yH (tb:Tab) (ρ:Operand→Value) (o:Oper) (H:AH):Option (ANext×AH) :=
 match o.op with
 | .move x=>some (.value (ρ x),H)
 | .assign x=>some (.value (ρ x),H)
 | .pick c a b=>match ρ c with | .bool true=>some (.value (ρ a),H) | .bool false=>some (.value (ρ b),H) | _=>none
 | .alloc _=>zAd tb ρ o H
 | .box _ _=>zAd tb ρ o H
 | .build t parts=>match (match xx tb t with | some z=>cond (solid z) (some z) none | none=>none),tb.under t with
   | some z,some (.struct fs)=>match fillP (fun i=>match fs[i]? with | some f=>(match tb.size f.type with | some n=>some (f.offset,n) | none=>none) | none=>none) (cellsOf z) (parts.toList.map fun (i,x)=>(i,ρ x)) with
     | some c=>some (.value (.agg c.toArray),H)
     | none=>none
   | some z,some (.array _ e)=>match tb.size e with
     | some n=>match fillP (fun i=>some (i * n,n)) (cellsOf z) (parts.toList.map fun (i,x)=>(i,ρ x)) with
       | some c=>some (.value (.agg c.toArray),H)
       | none=>none
     | none=>none
   | _,_=>none
 | .buildSlice _ _ _=>zAd tb ρ o H
 | .load t a=>match ρ a with
   | .pointer (some ad)=>one (loadVar tb H t ad) H
   | _=>none
 | .store t a x=>match ρ a with
   | .pointer (some ad)=>match storeVar tb H t ad (ρ x) with | some H'=>some (.skip,H') | none=>none
   | _=>none
 | .nilCheck x=>match ρ x with
   | .pointer (some a)=>some (.value (.pointer (some a)),H)
   | .func g a b=>some (.value (.func g a b),H)
   | _=>none
 | .binOp op t x y _=>one (wU tb (wE x || wE y) op t (ρ x) (ρ y)) H
 | .unOp op _ x=>match op,ρ x with
   | .not,.bool b=>some (.value (.bool (!b)),H)
   | .neg,.int k n=>some (.value (.int k (k.wrap (0 - n))),H)
   | _,_=>none
 | .convert src dst x=>one (zCJ tb src dst (ρ x)) H
 | .makeInterface t x=>match tb.under t with
   | some (.interface _)=>none
   | some _=>some (.value (.iface t (ρ x)),H)
   | none=>none
 | .makeFunc (.func g) first captured=>some (.value (.func (.func g) (first.map ρ) (captured.map ρ)),H)
 | .makeMap _ _=>zAd tb ρ o H
 | .makeSlice _ _ _=>zAd tb ρ o H
 | .slice t x lo hi mx=>one (sliceOp tb H t (ρ x) (lo.map ρ) (hi.map ρ) (mx.map ρ)) H
 | .fieldAddr s x f=>match tb.under s,ρ x with
   | some (.struct fs),.pointer (some a)=>match fs[f]? with
     | some fd=>match tb.size fd.type with
       | some 0=>none
       | some _=>some (.value (.pointer (some (vw a fd.offset))),H)
       | none=>none
     | none=>none
   | _,_=>none
 | .field t x f=>match tb.under t,ρ x with
   | some (.struct fs),.agg cs=>match fs[f]? with
     | some fd=>one (vo tb fd.type cs.toList fd.offset) H
     | none=>none
   | _,_=>none
 | .indexAddr t x ix=>match tb.under t,ρ x,natOf (ρ ix) with
   | some (.slice e),.slice (some a) len _,some i=>match tb.size e with
     | some n=>cond (Nat.blt i len) (some (.value (.pointer (some (vw a (i * n)))),H)) none
     | none=>none
   | some (.array len e),.pointer (some a),some i=>match tb.size e with
     | some n=>cond (Nat.blt i len) (some (.value (.pointer (some (vw a (i * n)))),H)) none
     | none=>none
   | _,_,_=>none
 | .index t x ix=>match tb.under t,ρ x,natOf (ρ ix) with
   | some .string,.string s,some i=>match dropN i (bytes s) with | b::_=>some (.value (.int .u8 (.ofNat b.toNat)),H) | []=>none
   | some (.array len e),.agg cs,some i=>match tb.size e with
     | some n=>cond (Nat.blt i len) (one (vo tb e cs.toList (i * n)) H) none
     | none=>none
   | _,_,_=>none
 | .lookup t x ix ok=>match tb.under t with
   | some (.map kt e)=>match (match ρ x with | .map none=>some [] | .map (some r)=>(match H.get r with | some (.map es _)=>some es | _=>none) | _=>none),xx tb e with
     | some es,some z=>match tb.under kt with
       | some d=>cond (up tb kt d (ρ ix)) (match findKey tb kt d (ρ ix) es 0 with
         | some (some (_,en))=>some (.value (cond ok (.tuple #[en.val,.bool true]) en.val),H)
         | some none=>some (.value (cond ok (.tuple #[z,.bool false]) z),H)
         | none=>none) none
       | none=>none
     | _,_=>none
   | _=>none
 | .mapUpdate t m k x=>match mapPut tb H t (ρ m) (ρ k) (ρ x) with | some H'=>some (.skip,H') | none=>none
 | .insert t m k x=>match mapPut tb H t (ρ m) (ρ k) (ρ x) with | some H'=>some (.skip,H') | none=>none
 | .extract t ix=>match ρ t with
   | .tuple vs=>match vs[ix]? with | some v=>some (.value v,H) | none=>none
   | _=>none
 | .call c=>match c.callee with
   | .value f=>match callVal (ρ f) (c.args.toList.map ρ) with | some n=>some (n,H) | none=>none
   | .builtin b=>zCK tb H b c.argTypes.toList (c.args.toList.map ρ)
   | _=>none
 | .defer c=>match c.callee with
   | .value f=>match ρ f with
     | .func (.func g) first captured=>some (.defer { target:=.fn (.func g) captured,args:=first++(c.args.map ρ) },H)
     | _=>none
   | _=>none
 | _=>none
structure AAct where
 tmps:T Value
 defers:List Deferred
structure AEnv where
 n:Nat
 inRound:Bool
def AAct.val (tb:Tab) (a:AAct):Operand→Value
 | .tmp t=>match a.tmps.get t with | some v=>v | none=>undef
 | .const v=>constV v
 | .global g=>cond (tb.glob g) (.pointer (some ⟨g,0,none⟩)) undef
 | .func f=>.func (.func f) #[] #[]
def AAct.put (a:AAct) (n:Nat) (d:Option Tmp) (v:Value):AAct :=
 match d,a with
 | some d,⟨tmps,defers⟩=>⟨cond (Nat.blt d n) (tmps.set depth d v) tmps,defers⟩
 | none,a=>a
def AAct.defer (a:AAct) (d:Deferred):AAct :=
 match a with
 | ⟨tmps,defers⟩=>⟨tmps,d::defers⟩
inductive AExit where
 | normal | exit (id:Nat) | ret
inductive Whom where | fn (f:FuncId) | round (l:Nat)
abbrev yp:=Whom→List Value→AH→Option (Value×AH)
def skipV:Value:=.chan (some 0)
def vR (ops:Array Oper) (o:Oper) (a:AAct):Option Bool :=
 match o.guard with
 | none=>some true
 | some (j,want)=>match ops[j]? with
   | some g=>match g.dst with
     | some d=>match a.tmps.get d with
       | some (.bool b)=>some (b == want)
       | some (.chan (some 0))=>some false
       | _=>none
     | none=>none
   | none=>none
def amDo (tb:Tab) (call:yp) (en:AEnv) (ops:Array Oper) (o:Oper) (a:AAct) (H:AH):Option (AAct×AH) :=
 match vR ops o a with
 | some true=>(match yH tb (a.val tb) o H with
    | some (.value v,H')=>some (a.put en.n o.dst v,H')
    | some (.skip,H')=>some (a.put en.n o.dst undef,H')
    | some (.enter f args,H')=>(match call (.fn f) args H' with
      | some (v,H'')=>some (a.put en.n o.dst v,H'')
      | none=>none)
    | some (.round l args,H')=>(match call (.round l) args H' with
      | some (v,H'')=>some (a.put en.n o.dst v,H'')
      | none=>none)
    | some (.defer d,H')=>cond en.inRound none (some ((a.defer d).put en.n o.dst undef,H'))
    | _=>none)
 | some false=>some (a.put en.n o.dst skipV,H)
 | none=>none
def amOps (tb:Tab) (call:yp) (en:AEnv) (ops:Array Oper):List Oper→AAct→AH→Option (AAct×AH)
 | [],a,H=>some (a,H)
 | o::rest,a,H=>match amDo tb call en ops o a H with
   | some (a',H')=>amOps tb call en ops rest a' H'
   | none=>none
def kK (tb:Tab) (en:AEnv) (ops:Array Oper):List Oper→AAct→AH→Option (AAct×AH)
 | [],a,H=>some (a,H)
 | o::rest,a,H=>match vR ops o a with
   | some true=>(match yH tb (a.val tb) o H with
     | some (.value v,H')=>kK tb en ops rest (a.put en.n o.dst v) H'
     | some (.skip,H')=>kK tb en ops rest (a.put en.n o.dst undef) H'
     | some (.recover,H')=>kK tb en ops rest (a.put en.n o.dst .nilIface) H'
     | _=>none)
   | some false=>kK tb en ops rest (a.put en.n o.dst skipV) H
   | none=>none
def bitOf (i:Nat):Nat:=Nat.shiftLeft 1 i
def zy (m i:Nat):Bool:=Nat.beq (Nat.land (Nat.shiftRight m i) 1) 1
def yM (clo:T Nat):List Edge→Nat→Option Nat
 | [],m=>some m
 | e::es,m=>match e.ground with
   | .textOnly _=>yM clo es m
   | .gcOnly _=>yM clo es m
   | _=>match clo.get e.on with
     | some c=>yM clo es (Nat.lor (Nat.lor m c) (bitOf e.on))
     | none=>none
def wV (n:Nat):List Oper→Nat→T Nat→Option (T Nat)
 | [],_,t=>some t
 | o::rest,i,t=>match o.dst with
   | none=>wV n rest (i+1) t
   | some d=>match t.get d with
     | some _=>none
     | none=>cond (Nat.blt d n) (wV n rest (i+1) (t.set depth d i)) none
def qa (wr:T Nat) (m:Nat):List Operand→Bool
 | []=>true
 | .tmp t::r=>match wr.get t with
   | none=>qa wr m r
   | some j=>cond (zy m j) (qa wr m r) false
 | _::r=>qa wr m r
def yF (m:Nat) (o:Oper):Bool :=
 match o.guard with
 | none=>true
 | some (j,_)=>zy m j
def zj (op:Op):Nat :=
 match op with
 | .store _ _ _=>2
 | .mapUpdate _ _ _ _=>2
 | .insert _ _ _ _=>2
 | .defer _=>2
 | .call c=>match c.callee with
   | .builtin .len=>0
   | .builtin .cap=>0
   | .builtin .max=>0
   | .builtin .min=>0
   | _=>2
 | .alloc _=>1
 | .box _ _=>1
 | .buildSlice _ _ _=>1
 | .makeMap _ _=>1
 | .makeSlice _ _ _=>1
 | _=>0
def sameO (a b:AObj):Bool :=
 match a,b with
 | .cells a e false,.cells b f false=>cond (Nat.beq e f) (w9 (uT 8) a b) false
 | .map [] 0,.map [] 0=>true
 | _,_=>false
def idOf:Value→Option Nat
 | .pointer (some ⟨i,0,none⟩)=>some i
 | .slice (some ⟨i,0,none⟩) _ _=>some i
 | .map (some i)=>some i
 | _=>none
structure DSt where
 clo:T Nat
 ord:List Nat
 must:Nat
 a:AAct
 H:AH
def doFloat (tb:Tab) (n:Nat) (ops:Array Oper) (wr:T Nat) (i:Nat) (o:Oper) (m:Nat) (clo:T Nat) (ord:List Nat) (must:Nat) (a:AAct) (H:AH):Option DSt :=
 cond (qa wr m o.op.operands.toList && yF m o && Nat.blt i zY)
  (match vR ops o a with
   | some true=>(match zj o.op with
     | 1=>(match wj tb (a.val tb) o,o.dst with
       | some (obj,mk),some d=>(match H.alloc obj with
         | some (id,H')=>some ⟨clo.set depth i m,i::ord,must,a.put n (some d) (mk id),H'⟩
         | none=>none)
       | _,_=>none)
     | _=>(match yH tb (a.val tb) o H with
       | some (.value v,_)=>some ⟨clo.set depth i m,i::ord,must,a.put n o.dst v,H⟩
       | _=>none))
   | some false=>some ⟨clo.set depth i m,i::ord,must,a.put n o.dst skipV,H⟩
   | none=>none) none
def zAe (tb:Tab) (n:Nat) (ops:Array Oper) (wr:T Nat):List Oper→Nat→DSt→Option DSt
 | [],_,s=>some s
 | o::rest,i,⟨clo,ord,must,a,H⟩=>match clo.get i with
   | some _=>zAe tb n ops wr rest (i+1) ⟨clo,ord,must,a,H⟩
   | none=>match zj o.op with
     | 2=>zAe tb n ops wr rest (i+1) ⟨clo,ord,must,a,H⟩
     | _=>match yM clo o.after.toList 0 with
       | none=>zAe tb n ops wr rest (i+1) ⟨clo,ord,must,a,H⟩
       | some m=>match doFloat tb n ops wr i o m clo ord must a H with
         | some s=>zAe tb n ops wr rest (i+1) s
         | none=>none
def qb (tb:Tab) (n:Nat) (ops:Array Oper) (wr:T Nat):Nat→DSt→Option DSt
 | 0,_=>none
 | k+1,s=>match zAe tb n ops wr ops.toList 0 s with
   | some s'=>cond (Nat.beq s'.ord.length s.ord.length) (some s') (qb tb n ops wr k s')
   | none=>none
def again (tb:Tab) (ops:Array Oper) (o:Oper) (a:AAct) (H:AH):Bool :=
 match vR ops o a with
 | some true=>(match zj o.op with
   | 1=>(match wj tb (a.val tb) o,o.dst with
     | some (obj,mk),some d=>(match a.tmps.get d with
       | some u=>(match idOf u with
         | some id=>(match H.get id with
           | some obj'=>sameO obj obj' && uT 8 (mk id) u
           | none=>false)
         | none=>false)
       | none=>false)
     | _,_=>false)
   | _=>(match yH tb (a.val tb) o H with
     | some (.value v,_)=>(match o.dst with
       | some d=>(match a.tmps.get d with | some u=>uT 8 v u | none=>false)
       | none=>true)
     | _=>false))
 | some false=>(match o.dst with
   | some d=>(match a.tmps.get d with | some (.chan (some 0))=>true | _=>false)
   | none=>true)
 | none=>false
def stillOk (tb:Tab) (ops:Array Oper) (clo:T Nat) (must:Nat) (a:AAct) (H:AH) (o:Oper) (i:Nat):Bool :=
 match clo.get i with
 | none=>true
 | some _=>cond (zy must i) true (again tb ops o a H)
def qc (tb:Tab) (ops:Array Oper) (clo:T Nat) (must:Nat) (a:AAct) (H:AH):List Oper→Nat→Bool
 | [],_=>true
 | o::rest,i=>cond (stillOk tb ops clo must a H o i) (qc tb ops clo must a H rest (i+1)) false
def xC (clo:T Nat):List Oper→Nat→List (Nat×Oper×Nat)
 | [],_=>[]
 | o::rest,i=>match clo.get i with
   | some _=>xC clo rest (i+1)
   | none=>match zj o.op with
     | 2=>match yM clo o.after.toList 0 with
       | some m=>(i,o,m)::xC clo rest (i+1)
       | none=>xC clo rest (i+1)
     | _=>xC clo rest (i+1)
def vS (clo:T Nat):List Oper→Nat→Bool
 | [],_=>true
 | _::rest,i=>match clo.get i with
   | some _=>vS clo rest (i+1)
   | none=>false
def zAD (ρ:Operand→Value) (o:Oper):Option Nat :=
 match o.op,o.dst,o.guard with
 | .store _ a _,none,none=>(match ρ a with
   | .pointer (some ⟨b,_,none⟩)=>cond (Nat.blt b zY) (some b) none
   | _=>none)
 | _,_,_=>none
def memN (b:Nat):List Nat→Bool
 | []=>false
 | j::js=>cond (Nat.beq b j) true (memN b js)
def zCL (H:AH) (b c:Nat):Bool :=
 match H.org.get b with
 | some _=>false
 | none=>match H.org.get c with
   | none=>true
   | some (r,_)=>match H.fam.get r with
     | none=>true
     | some js=>!(memN b js)
def vA (H:AH) (b c:Nat):Bool:=cond (Nat.beq b c) false (cond (zCL H b c) true (zCL H c b))
def zAr (clo:T Nat) (i j:Nat):List Oper→Nat→Bool
 | [],_=>true
 | _::rest,k=>cond (cond (Nat.beq k i) true (Nat.beq k j)) (zAr clo i j rest (k+1)) (match clo.get k with
   | some _=>zAr clo i j rest (k+1)
   | none=>false)
def vT (tb:Tab) (call:yp) (en:AEnv) (ops:Array Oper) (wr:T Nat):Nat→DSt→Option (AAct×AH)
 | 0,_=>none
 | k+1,s=>match qb tb en.n ops wr (ops.size+2) s with
   | some ⟨clo,ord,must,a,H⟩=>cond (qc tb ops clo must a H ops.toList 0)
     (match xC clo ops.toList 0 with
      | []=>cond (vS clo ops.toList 0) (some (a,H)) none
      | [(i,o,m)]=>cond (qa wr m o.op.operands.toList && yF m o && Nat.blt i zY)
        (match amDo tb call en ops o a H with
         | some (a',H')=>vT tb call en ops wr k ⟨clo.set depth i m,i::ord,Nat.lor (Nat.lor must m) (bitOf i),a',H'⟩
         | none=>none) none
      | [(i,o,m),(j,o2,m2)]=>(match zAD (a.val tb) o,zAD (a.val tb) o2 with
        | some b,some c=>cond (vA H b c && zAr clo i j ops.toList 0 && qa wr m o.op.operands.toList && qa wr m2 o2.op.operands.toList && Nat.blt i zY && Nat.blt j zY)
          (match amDo tb call en ops o a H,amDo tb call en ops o2 a H with
           | some (a1,H1),some (a2,H2)=>(match vT tb call en ops wr k ⟨clo.set depth i m,i::ord,Nat.lor (Nat.lor must m) (bitOf i),a1,H1⟩,vT tb call en ops wr k ⟨clo.set depth j m2,j::ord,Nat.lor (Nat.lor must m2) (bitOf j),a2,H2⟩ with
             | some r,some _=>some r
             | _,_=>none)
           | _,_=>none) none
        | _,_=>none)
      | _=>none) none
   | none=>none
def amDraw (tb:Tab) (call:yp) (en:AEnv) (ops:Array Oper) (a:AAct) (H:AH):Option (AAct×AH) :=
 match wV en.n ops.toList 0 .nil with
 | some wr=>vT tb call en ops wr (ops.size+2) ⟨.nil,[],0,a,H⟩
 | none=>none
def loopN (body:AAct→AH→Option (AExit×AAct×AH)):Nat→AAct→AH→Option (AExit×AAct×AH)
 | 0,_,_=>none
 | n+1,a,H=>match body a H with
   | some (.normal,a',H')=>loopN body n a' H'
   | r=>r
def yg (tb:Tab) (call:yp) (fuel:Nat) (en:AEnv):Code→AAct→AH→Option (AExit×AAct×AH)
 | .skip,a,H=>some (.normal,a,H)
 | .region _ ops draw,a,H=>match cond draw (amDraw tb call en ops a H) (amOps tb call en ops ops.toList a H) with
   | some (a',H')=>some (.normal,a',H')
   | none=>none
 | .seq x y,a,H=>match yg tb call fuel en x a H with
   | some (.normal,a',H')=>yg tb call fuel en y a' H'
   | r=>r
 | .cond c x y,a,H=>match a.val tb c with
   | .bool true=>yg tb call fuel en x a H
   | .bool false=>yg tb call fuel en y a H
   | _=>none
 | .block id c,a,H=>match yg tb call fuel en c a H with
   | some (.exit j,a',H')=>cond (Nat.beq j id) (some (.normal,a',H')) (some (.exit j,a',H'))
   | r=>r
 | .loop c,a,H=>loopN (yg tb call fuel en c) fuel a H
 | .exit id,a,H=>some (.exit id,a,H)
 | .ret,a,H=>some (.ret,a,H)
 | .label _,a,H=>some (.normal,a,H)
 | .rangeFunc f ps assign body,a,H=>cond en.inRound none (match a.val tb f with
   | .func (.func g) first captured=>match cond (Nat.beq (tb.ext g) 0) (H.alloc .deferred) none with
     | some (D,H0)=>match H0.alloc (.loop .ready none a.tmps en.n ps.toList assign body) with
       | some (l,H1)=>match call (.fn g) (first.toList++[.func (.yield l) #[] #[]]++captured.toList) H1 with
         | some (_,H2)=>match H2.get l with
           | some (.loop .ready p _ _ _ _ _)=>match p with
             | none=>some (.normal,a.defer { target:=.collected D,args:=#[] },H2.put l .shut)
             | some _=>none
           | some (.loop .done p _ _ _ _ _)=>match p with
             | some (.exit id)=>some (.exit id,a.defer { target:=.collected D,args:=#[] },H2.put l .shut)
             | some .ret=>some (.ret,a.defer { target:=.collected D,args:=#[] },H2.put l .shut)
             | _=>none
           | _=>none
         | _=>none
       | none=>none
     | none=>none
   | _=>none)
 | _,_,_=>none
def vz (tb:Tab) (call:yp) (fuel:Nat) (en:AEnv):Code→AAct→AH→Option (AExit×AAct×AH)
 | .seq x y,a,H=>match vz tb call fuel en x a H with
   | some (.normal,a',H')=>vz tb call fuel en y a' H'
   | r=>r
 | .cond c x y,a,H=>match a.val tb c with
   | .bool true=>vz tb call fuel en x a H
   | .bool false=>vz tb call fuel en y a H
   | _=>none
 | .region _ ops false,a,H=>match kK tb en ops ops.toList a H with
   | some (a',H')=>some (.normal,a',H')
   | none=>none
 | c,a,H=>yg tb call fuel en c a H
def vB (tb:Tab) (H:AH) (a:AAct):List ResultVar→Option (List Value)
 | []=>some []
 | .tmp t::r=>match vB tb H a r with | some vs=>some ((match a.tmps.get t with | some v=>v | none=>undef)::vs) | none=>none
 | .cell ad t::r=>match a.tmps.get ad with
   | some (.pointer (some x))=>match loadVar tb H t x,vB tb H a r with
     | some v,some vs=>some (v::vs)
     | _,_=>none
   | _=>none
def v6:Nat→List Value→T Value→T Value
 | _,[],t=>t
 | i,v::vs,t=>v6 (i+1) vs (t.set depth i v)
def qA (tb:Tab) (H:AH) (a:AAct) (fn:Func):Option (Value×AH) :=
 match vB tb H a fn.results.toList with
 | some [v]=>some (v,H)
 | some vs=>some (.tuple vs.toArray,H)
 | none=>none
def amCallD (tb:Tab) (call:yp) (loops:Nat) (f:FuncId) (args:List Value) (H:AH):Option AH :=
 match tb.ext f with
 | 0=>match tb.func f with
   | some fn=>match fn.body with
     | some c=>cond (Nat.ble args.length fn.ntmps && Nat.ble fn.ntmps zY) (match vz tb call loops ⟨fn.ntmps,false⟩ c { tmps:=v6 0 args .nil,defers:=[] } H with
       | some (.normal,⟨tm,[]⟩,H')=>match qA tb H' ⟨tm,[]⟩ fn with | some (_,H'')=>some H'' | none=>none
       | some (.ret,⟨tm,[]⟩,H')=>match qA tb H' ⟨tm,[]⟩ fn with | some (_,H'')=>some H'' | none=>none
       | _=>none) none
     | none=>none
   | none=>none
 | _=>none
def wG (tb:Tab) (call:yp) (loops:Nat):List Deferred→AH→Option AH
 | [],H=>some H
 | d::ds,H=>match d.target with
   | .collected D=>match H.get D with
     | some .deferred=>wG tb call loops ds (H.put D .shut)
     | _=>none
   | .fn (.func g) captured=>match amCallD tb call loops g (d.args.toList++captured.toList) H with
     | some H'=>wG tb call loops ds H'
     | none=>none
   | _=>none
def zBV (c:Nat):List UInt8→Nat→Option Nat
 | [],_=>none
 | b::r,i=>cond (Nat.beq b.toNat c) (some i) (zBV c r (i+1))
def zAE:List UInt8→List UInt8→Bool
 | [],_=>true
 | _::_,[]=>false
 | a::r,b::s=>cond (Nat.beq a.toNat b.toNat) (zAE r s) false
def qH (p:List UInt8):List UInt8→Nat→Option Nat
 | [],i=>cond (zAE p []) (some i) none
 | b::r,i=>cond (zAE p (b::r)) (some i) (qH p r (i+1))
def idxV:Option Nat→Value
 | some i=>.int .i64 (.ofNat i)
 | none=>.int .i64 (-1)
def hasB (c:UInt8):List UInt8→Bool
 | []=>false
 | b::r=>cond (Nat.beq b.toNat c.toNat) true (hasB c r)
def trimL (set:List UInt8):List UInt8→List UInt8
 | []=>[]
 | b::r=>cond (hasB b set) (trimL set r) (b::r)
def revB:List UInt8→List UInt8→List UInt8
 | [],a=>a
 | b::r,a=>revB r (b::a)
def wl:List UInt8→Bool
 | []=>true
 | b::r=>cond (Nat.blt b.toNat 128) (wl r) false
def ext1 (args:List Value):Option Value :=
 match args with
 | [.string s,.int .u8 (.ofNat c)]=>cond (Nat.blt c 256) (some (idxV (zBV c (bytes s) 0))) none
 | _=>none
def ext3 (args:List Value):Option Value :=
 match args with
 | [.string a,.string b]=>some (.int .i64 (cond (eqB (bytes a) (bytes b)) 0 (cond (lessB (bytes a) (bytes b)) (-1) 1)))
 | _=>none
def ext4 (args:List Value):Option Value :=
 match args with
 | [.string a,.string b]=>cond (wl (bytes b) && Nat.blt (len a) zY && Nat.blt (len b) zY) (some (.string (zw (trimL (bytes b) (revB (trimL (bytes b) (revB (bytes a) [])) []))))) none
 | _=>none
def ext5 (args:List Value):Option Value :=
 match args with
 | [.string a,.string b]=>cond (wl (bytes b) && Nat.blt (len a) zY && Nat.blt (len b) zY) (some (.string (zw (trimL (bytes b) (bytes a))))) none
 | _=>none
def ext6 (args:List Value):Option Value :=
 match args with
 | [.string a,.string b]=>cond (Nat.blt (len a) zY) (some (.bool (match qH (bytes b) (bytes a) 0 with | some _=>true | none=>false))) none
 | _=>none
def extOp (k:Nat) (args:List Value):Option Value :=
 match k with
 | 1=>ext1 args
 | 3=>ext3 args
 | 4=>ext4 args
 | 5=>ext5 args
 | 6=>ext6 args
 | _=>none
def zBW (n:Nat):List Tmp→List Value→T Value→Option (T Value)
 | [],[],t=>some t
 | p::ps,v::vs,t=>zBW n ps vs (cond (Nat.blt p n) (t.set depth p v) t)
 | _,_,_=>none
def endRound (H:AH) (l:Nat) (jump:Option Code):Option (Value×AH) :=
 match H.get l with
 | some (.loop _ _ tmps n ps assign body)=>some (.bool jump.isNone,H.put l (.loop (cond jump.isNone .ready .done) jump tmps n ps assign body))
 | _=>none
def xS (tb:Tab) (loops:Nat):Nat→Whom→List Value→AH→Option (Value×AH)
 | 0,_,_,_=>none
 | k+1,.fn f,args,H=>match tb.ext f with
   | 0=>match tb.func f with
     | some fn=>match fn.body with
       | some c=>cond (Nat.ble args.length fn.ntmps && Nat.ble fn.ntmps zY) (match yg tb (xS tb loops k) loops ⟨fn.ntmps,false⟩ c { tmps:=v6 0 args .nil,defers:=[] } H with
         | some (.normal,⟨tm,ds⟩,H')=>match wG tb (xS tb loops k) loops ds H' with | some H''=>qA tb H'' ⟨tm,[]⟩ fn | none=>none
         | some (.ret,⟨tm,ds⟩,H')=>match wG tb (xS tb loops k) loops ds H' with | some H''=>qA tb H'' ⟨tm,[]⟩ fn | none=>none
         | _=>none) none
       | none=>none
     | none=>none
   | x+1=>match tb.extH x args H with | some r=>some r | none=>match extOp (x+1) args with | some v=>some (v,H) | none=>none
 | k+1,.round l,args,H=>match H.get l with
   | some (.loop .ready _ tmps n ps assign body)=>match cond (Nat.ble n zY) (zBW n ps args tmps) none with
     | some t=>match yg tb (xS tb loops k) loops ⟨n,true⟩ assign { tmps:=t,defers:=[] } H with
       | some (.normal,a,H')=>match H'.get l with
         | some (.loop .ready p tm n2 ps2 asg2 body2)=>match yg tb (xS tb loops k) loops ⟨n,true⟩ body a (H'.put l (.loop .busy p tm n2 ps2 asg2 body2)) with
           | some (.normal,_,H'')=>endRound H'' l none
           | some (.ret,_,H'')=>endRound H'' l (some .ret)
           | some (.exit id,_,H'')=>endRound H'' l (some (.exit id))
           | _=>none
         | _=>none
       | _=>none
     | none=>none
   | _=>none
end Go.Am
namespace Go.Am
structure Ren where
 map:Nat→Option (Nat×Nat)
 row:Nat→Nat×Nat
instance:CoeFun Ren (fun _=>Nat→Option (Nat×Nat)):=⟨Ren.map⟩
structure Ren.le (ρ σ:Ren):Prop where
 map:∀ i x,ρ i=some x→σ i=some x
 row:∀ i b s,ρ i=some (b,s)→σ.row b=ρ.row b
theorem Ren.le_refl (ρ:Ren):ρ.le ρ:=⟨fun _ _ h=>h,fun _ _ _ _=>rfl⟩
theorem Ren.le_trans {ρ σ τ:Ren} (h:ρ.le σ) (k:σ.le τ):ρ.le τ:=⟨fun i x e=>k.map i x (h.map i x e),fun i b s e=>(k.row i b s (h.map i _ e)).trans (h.row i b s e)⟩
def Ren.put (ρ:Ren) (i:Nat) (x r:Nat×Nat):Ren:=⟨fun j=>if j=i then some x else ρ j,fun b=>if b=x.1 then r else ρ.row b⟩
theorem Ren.put_map (ρ:Ren) (i:Nat) (x r:Nat×Nat) (j:Nat):(ρ.put i x r) j=if j=i then some x else ρ j:=rfl
theorem Ren.put_row (ρ:Ren) (i:Nat) (x r:Nat×Nat) (b:Nat):(ρ.put i x r).row b=if b=x.1 then r else ρ.row b:=rfl
theorem Ren.le_put {ρ:Ren} {i:Nat} {x r:Nat×Nat} (h:ρ i=none) (hr:∀ j b s,ρ j=some (b,s)→b=x.1→ρ.row b=r):ρ.le (ρ.put i x r):=by
 refine ⟨fun j y e=>?_,fun j b s e=>?_⟩
 ·rw [Ren.put_map]
  split
  ·next hj=>subst hj; rw [h] at e; cases e
  ·exact e
 ·rw [Ren.put_row]
  split
  ·next hb=>exact (hr j b s e hb).symm
  ·rfl
theorem Ren.put_same (ρ:Ren) (i:Nat) (x r:Nat×Nat):ρ.put i x r i=some x:=by rw [Ren.put_map,if_pos rfl]
theorem Ren.put_other (ρ:Ren) {i j:Nat} (x r:Nat×Nat) (h:j≠i):ρ.put i x r j=ρ j:=by rw [Ren.put_map,if_neg h]
inductive All2 {α β:Type} (R:α→β→Prop):List α→List β→Prop
 | nil:All2 R [] []
 | cons {a b l m}:R a b→All2 R l m→All2 R (a::l) (b::m)
namespace All2
variable {α β:Type} {R S:α→β→Prop}
theorem mono (h:∀ a b,R a b→S a b):∀ {l m},All2 R l m→All2 S l m
 | _,_,.nil=>.nil
 | _,_,.cons x y=>.cons (h _ _ x) (mono h y)
theorem length:∀ {l m},All2 R l m→l.length=m.length
 | _,_,.nil=>rfl
 | _,_,.cons _ y=>by simp [length y]
theorem get:∀ {l m},All2 R l m→∀ (i:Nat) a,l[i]?=some a→∃ b,m[i]?=some b∧R a b
 | _,_,.nil,i,a,h=>by simp at h
 | _,_,.cons x y,0,a,h=>by simp at h; subst h; exact ⟨_,by simp,x⟩
 | _,_,.cons x y,i+1,a,h=>by simp at h; obtain ⟨b,e,r⟩:=get y i a h; exact ⟨b,by simpa using e,r⟩
theorem of_get:∀ {l:List α} {m:List β},l.length=m.length→(∀ (i:Nat) (h:i < l.length) (k:i < m.length),R l[i] m[i])→All2 R l m
 | [],[],_,_=>.nil
 | [],_::_,h,_=>by simp at h
 | _::_,[],h,_=>by simp at h
 | a::l,b::m,h,k=>.cons (k 0 (by simp) (by simp)) (of_get (by simpa using h) fun i hi hj=>k (i+1) (by simpa using hi) (by simpa using hj))
theorem append:∀ {l m l' m'},All2 R l m→All2 R l' m'→All2 R (l++l') (m++m')
 | _,_,_,_,.nil,k=>k
 | _,_,_,_,.cons x y,k=>.cons x (append y k)
theorem map {γ δ:Type} {f:γ→α} {g:δ→β} {T:γ→δ→Prop} (h:∀ a b,T a b→R (f a) (g b)):∀ {l m},All2 T l m→All2 R (l.map f) (m.map g)
 | _,_,.nil=>.nil
 | _,_,.cons x y=>.cons (h _ _ x) (map h y)
theorem same {γ:Type} {f:γ→α} {g:γ→β} (h:∀ a,R (f a) (g a)):∀ (l:List γ),All2 R (l.map f) (l.map g)
 | []=>.nil
 | a::l=>.cons (h a) (same h l)
end All2
inductive VR (ρ:Ren):Value→Value→Prop
 | dead (v:Value):VR ρ (.tuple #[]) v
 | skip:VR ρ (.chan (some 0)) undef
 | bool (b:Bool):VR ρ (.bool b) (.bool b)
 | int (k:IntKind) (n:Int):VR ρ (.int k n) (.int k n)
 | string (s:ByteArray):VR ρ (.string s) (.string s)
 | nilPtr:VR ρ (.pointer none) (.pointer none)
 | ptr {i off b s:Nat} (h:ρ i=some (b,s)):VR ρ (.pointer (some ⟨i,off,none⟩)) (.pointer (some ⟨b,s+off,none⟩))
 | nilSlice (n c:Nat):VR ρ (.slice none n c) (.slice none n c)
 | slice {i off b s n c c' x:Nat} (h:ρ i=some (b,s)) (hc:c≤c') (hx:(c'=0∧n=0)∨x=s+off) (hr:c'=c∨x+c' * (ρ.row b).2≤(ρ.row b).1):VR ρ (.slice (some ⟨i,off,none⟩) n c) (.slice (some ⟨b,x,none⟩) n c')
 | nilMap:VR ρ (.map none) (.map none)
 | map {i b:Nat} (h:ρ i=some (b,0)):VR ρ (.map (some i)) (.map (some b))
 | func {f:FuncId} {a a' c c':Array Value} (ha:a.size=a'.size) (h:∀ (i:Nat) (x:i < a.size) (y:i < a'.size),VR ρ a[i] a'[i])
    (hc:c.size=c'.size) (k:∀ (i:Nat) (x:i < c.size) (y:i < c'.size),VR ρ c[i] c'[i]):VR ρ (.func (.func f) a c) (.func (.func f) a' c')
 | yield {l l':Nat} (h:ρ l=some (l',0)):VR ρ (.func (.yield l) #[] #[]) (.func (.yield l') #[] #[])
 | nilFunc:VR ρ .nilFunc .nilFunc
 | iface (t:TypeId) {v v':Value} (h:VR ρ v v'):VR ρ (.iface t v) (.iface t v')
 | nilIface:VR ρ .nilIface .nilIface
 | agg {a a':Array Value} (ha:a.size=a'.size) (h:∀ (i:Nat) (x:i < a.size) (y:i < a'.size),VR ρ a[i] a'[i]):VR ρ (.agg a) (.agg a')
 | tuple {a a':Array Value} (ha:a.size=a'.size) (h:∀ (i:Nat) (x:i < a.size) (y:i < a'.size),VR ρ a[i] a'[i]):VR ρ (.tuple a) (.tuple a')
theorem VR.mono {ρ σ:Ren} (l:ρ.le σ) {v v':Value} (h:VR ρ v v'):VR σ v v':=by
 induction h with
 | dead v=>exact .dead v
 | skip=>exact .skip
 | bool b=>exact .bool b
 | int k n=>exact .int k n
 | string s=>exact .string s
 | nilPtr=>exact .nilPtr
 | ptr h=>exact .ptr (l.map _ _ h)
 | nilSlice n c=>exact .nilSlice n c
 | slice h hc hx hr=>exact .slice (l.map _ _ h) hc hx (by rw [l.row _ _ _ h]; exact hr)
 | nilMap=>exact .nilMap
 | map h=>exact .map (l.map _ _ h)
 | func ha _ hc _ ih ik=>exact .func ha ih hc ik
 | yield h=>exact .yield (l.map _ _ h)
 | nilFunc=>exact .nilFunc
 | iface t _ ih=>exact .iface t ih
 | nilIface=>exact .nilIface
 | agg ha _ ih=>exact .agg ha ih
 | tuple ha _ ih=>exact .tuple ha ih
abbrev VRs (ρ:Ren):List Value→List Value→Prop:=All2 (VR ρ)
theorem VRs.mono {ρ σ:Ren} (l:ρ.le σ) {v v':List Value} (h:VRs ρ v v'):VRs σ v v':=All2.mono (fun _ _=>VR.mono l) h
theorem VRs.of_array {ρ:Ren} {a a':Array Value} (ha:a.size=a'.size) (h:∀ (i:Nat) (x:i < a.size) (y:i < a'.size),VR ρ a[i] a'[i]):VRs ρ a.toList a'.toList :=
 All2.of_get (by simpa using ha) (fun i x y=>by simpa using h i (by simpa using x) (by simpa using y))
theorem VRs.array {ρ:Ren} {a a':Array Value} (h:VRs ρ a.toList a'.toList):a.size=a'.size∧∀ (i:Nat) (x:i < a.size) (y:i < a'.size),VR ρ a[i] a'[i]:=by
 refine ⟨by simpa using h.length,fun i x y=>?_⟩
 obtain ⟨b,e,r⟩:=h.get i a[i] (by simp [x])
 have:b=a'[i]:=by simp [y] at e; exact e.symm
 exact this ▸ r
theorem VR.agg_of {ρ:Ren} {a a':Array Value} (h:VRs ρ a.toList a'.toList):VR ρ (.agg a) (.agg a'):=.agg h.array.1 h.array.2
theorem VR.tuple_of {ρ:Ren} {a a':Array Value} (h:VRs ρ a.toList a'.toList):VR ρ (.tuple a) (.tuple a'):=.tuple h.array.1 h.array.2
end Go.Am
namespace Go.Am
open Go.RowKit
structure ER (ρ:Ren) (e e':MapEntry):Prop where
 key:VR ρ e.key e'.key
 val:VR ρ e.val e'.val
 born:e'.born=e.born
theorem ER.mono {ρ σ:Ren} (l:ρ.le σ) {e e':MapEntry} (h:ER ρ e e'):ER σ e e':=⟨h.key.mono l,h.val.mono l,h.born⟩
structure TR (ρ:Ren) (n:Nat) (t:T Value) (a:Array Value):Prop where
 size:a.size=n
 get:∀ i v,t.get i=some v→∃ v',a[i]?=some v'∧VR ρ v v'
theorem TR.mono {ρ σ:Ren} (l:ρ.le σ) {n t a} (h:TR ρ n t a):TR σ n t a:=⟨h.size,fun i v e=>by obtain ⟨v',e',r⟩:=h.get i v e; exact ⟨v',e',r.mono l⟩⟩
def OR (ρ:Ren) (o:AObj) (s:Nat) (o':Obj):Prop :=
 match o,o' with
 | .cells c _ ro,.cells c' _ fr=>(∀ k v,c[k]?=some v→∃ v',c'[s+k]?=some v'∧VR ρ v v')∧(ro=false→fr=(0,0))
 | .map es clock,.map es' clock'=>s=0∧clock'=clock∧All2 (ER ρ) es es'.toList
 | .strIter t pos,.stringIter t' pos'=>s=0∧t'=t∧pos'=pos
 | .mapIter none since seen st,.mapIter none since' seen' st'=>s=0∧since'=since∧seen'=seen.toArray∧st'=st
 | .mapIter (some m) since seen st,.mapIter (some m') since' seen' st'=>s=0∧since'=since∧seen'=seen.toArray∧st'=st∧ρ m=some (m',0)
 | .loop st p t n ps asg body,.loop l=>s=0∧l.state=st∧l.pending=p∧TR ρ n t l.tmps∧l.params=ps.toArray∧l.assign=asg∧l.body=body
 | .deferred,.deferred ds=>s=0∧ds=some []
 | .shut,_=>True
 | _,_=>False
theorem OR.mono {ρ σ:Ren} (l:ρ.le σ) {o:AObj} {s:Nat} {o':Obj} (h:OR ρ o s o'):OR σ o s o':=by
 unfold OR at *
 split at h
 ·exact ⟨fun k v e=>by obtain ⟨v',e',r⟩:=h.1 k v e; exact ⟨v',e',r.mono l⟩,h.2⟩
 ·exact ⟨h.1,h.2.1,h.2.2.mono fun _ _=>ER.mono l⟩
 ·exact h
 ·exact h
 ·exact ⟨h.1,h.2.1,h.2.2.1,h.2.2.2.1,l.map _ _ h.2.2.2.2⟩
 ·exact ⟨h.1,h.2.1,h.2.2.1,h.2.2.2.1.mono l,h.2.2.2.2⟩
 ·exact h
 ·exact h
 ·exact h.elim
def AH.kin (H:AH) (i j s t:Nat):Prop :=
 ∃ r o p js,H.org.get i=some (r,o)∧H.org.get j=some (r,p)∧s+p=t+o∧H.fam.get r=some js∧i∈js∧j∈js
structure SR (tb:Tab) (B:Nat) (w₀:World) (ρ:Ren) (H:AH) (w:World):Prop where
 below:Below B w₀ w
 room:B≤w.heap.size
 obj:∀ i b s,ρ i=some (b,s)→∃ o o',H.get i=some o∧w.heap[b]?=some o'∧OR ρ o s o'
 fresh:∀ i,H.next≤i→ρ i=none
 low:∀ i b s,ρ i=some (b,s)→b < B→∃ c e,H.get i=some (.cells c e true)
 kin:∀ i j b s t,ρ i=some (b,s)→ρ j=some (b,t)→i≠j→H.kin i j s t∧(∃ c e,H.get i=some (.cells c e false))
 fam:∀ r js,H.fam.get r=some js→∀ j∈js,∃ x,ρ j=some x
 home:∀ j r o,H.org.get j=some (r,o)→∃ js,H.fam.get r=some js∧j∈js
 root:∀ r js,H.fam.get r=some js→∃ x,ρ r=some x
 rows:∀ i b s,ρ i=some (b,s)→∀ c e fr,w.heap[b]?=some (.cells c e fr)→c.size=(ρ.row b).1
 elem:∀ i b s,ρ i=some (b,s)→∀ c e ro,H.get i=some (.cells c e ro)→tb.size e=some (ρ.row b).2
 bnd:H.next≤zY
structure Kept (ρ:Ren) (H:AH) (σ:Ren) (H':AH):Prop where
 le:ρ.le σ
 next:H.next≤H'.next
 left:∀ i,i < H.next→ρ i=none→σ i=none∧H'.get i=H.get i
theorem Kept.refl (ρ:Ren) (H:AH):Kept ρ H ρ H:=⟨ρ.le_refl,Nat.le_refl _,fun _ _ h=>⟨h,rfl⟩⟩
theorem Kept.trans {ρ σ τ:Ren} {H H' H'':AH} (h:Kept ρ H σ H') (k:Kept σ H' τ H''):Kept ρ H τ H'' :=
 ⟨Ren.le_trans h.le k.le,Nat.le_trans h.next k.next,fun i hi e=>by
  obtain ⟨e1,g1⟩:=h.left i hi e
  obtain ⟨e2,g2⟩:=k.left i (Nat.lt_of_lt_of_le hi h.next) e1
  exact ⟨e2,g2.trans g1⟩⟩
theorem xM {H:AH} {i j:Nat} {o:AObj} (hi:i < zY):(H.put i o).get j=if j=i then some o else H.get j:=by
 unfold AH.put AH.get
 exact T.get_set o depth _ i j (by unfold depth; unfold zY at hi; omega)
theorem SR.drew {tb:Tab} {B:Nat} {w₀:World} {ρ:Ren} {H:AH} {w:World} (h:SR tb B w₀ ρ H w):SR tb B w₀ ρ H w.drew :=
 ⟨h.below.drew,h.room,h.obj,h.fresh,h.low,h.kin,h.fam,h.home,h.root,h.rows,h.elem,h.bnd⟩
theorem vC {H:AH} {o:AObj} {i:Nat} {H':AH} (h:H.alloc o=some (i,H')) :
  i=H.next∧i < zY∧H'.next=i+1∧(∀ j,H'.get j=if j=i then some o else H.get j)∧H'.org=H.org∧H'.fam=H.fam:=by
 obtain ⟨objs,next,org,fam⟩:=H
 simp only [AH.alloc] at h
 cases hb:Nat.blt next zY
 ·rw [hb] at h; cases h
 ·rw [hb] at h
  simp only [cond_true,Option.some.injEq,Prod.mk.injEq] at h
  obtain ⟨rfl,rfl⟩:=h
  have hlt:next < zY:=by simpa [Nat.blt_eq] using hb
  refine ⟨rfl,hlt,rfl,fun j=>?_,rfl,rfl⟩
  exact T.get_set o depth _ next j (by unfold depth; unfold zY at hlt; omega)
theorem SR.alloc {tb:Tab} {B:Nat} {w₀:World} {ρ:Ren} {H:AH} {w:World} (h:SR tb B w₀ ρ H w) {o:AObj} {o':Obj} {i:Nat} {H':AH} {r:Nat×Nat} (e:H.alloc o=some (i,H')) (ho:OR ρ o 0 o')
  (hr:∀ c e fr,o' = .cells c e fr→c.size=r.1) (he:∀ c e ro,o = .cells c e ro→tb.size e=some r.2) :
  SR tb B w₀ (ρ.put i (w.heap.size,0) r) H' (w.alloc o')∧Kept ρ H (ρ.put i (w.heap.size,0) r) H':=by
 obtain ⟨rfl,hb,hn,hg,horg,hfam⟩:=vC e
 have hf:ρ H.next=none:=h.fresh _ (Nat.le_refl _)
 have hlt:∀ j b s,ρ j=some (b,s)→b < w.heap.size:=fun j b s e=>by
  obtain ⟨_,_,_,e2,_⟩:=h.obj j b s e
  exact (Array.getElem?_eq_some_iff.1 e2).1
 have hle:ρ.le (ρ.put H.next (w.heap.size,0) r):=Ren.le_put hf (fun j b s e hb=>absurd (hlt j b s e) (by simp at hb; omega))
 have hne:∀ j b s,ρ j=some (b,s)→j≠H.next:=fun j b s e hj=>by subst hj; rw [hf] at e; cases e
 have rowold:∀ j b s,ρ j=some (b,s)→(ρ.put H.next (w.heap.size,0) r).row b=ρ.row b:=fun j b s e=>hle.row j b s e
 have rownew:(ρ.put H.next (w.heap.size,0) r).row w.heap.size=r:=by rw [Ren.put_row,if_pos rfl]
 have cases':∀ j b s,ρ.put H.next (w.heap.size,0) r j=some (b,s)→(j=H.next∧b=w.heap.size∧s=0)∨(j≠H.next∧ρ j=some (b,s)):=fun j b s e=>by
  rw [Ren.put_map] at e
  split at e
  ·next hj=>cases e; exact .inl ⟨hj,rfl,rfl⟩
  ·next hj=>exact .inr ⟨hj,e⟩
 refine ⟨⟨h.below.alloc h.room o',by simpa using Nat.le_succ_of_le h.room,?_,?_,?_,?_,?_,by rw [horg,hfam]; exact h.home,fun r js e=>by rw [hfam] at e; obtain ⟨x,ex⟩:=h.root r js e; exact ⟨x,hle.map _ _ ex⟩,?_,?_,by rw [hn]; exact hb⟩,⟨hle,by omega,?_⟩⟩
 ·intro j b s e
  rcases cases' j b s e with ⟨rfl,rfl,rfl⟩ | ⟨hj,e⟩
  ·exact ⟨o,o',by rw [hg,if_pos rfl],World.alloc_heap_new w o',ho.mono hle⟩
  ·obtain ⟨x,x',e1,e2,e3⟩:=h.obj j b s e
   exact ⟨x,x',by rw [hg,if_neg hj]; exact e1,by rw [Below.heap_alloc _ _ _ (hlt j b s e)]; exact e2,e3.mono hle⟩
 ·intro j hj
  rw [hn] at hj
  rw [Ren.put_other _ _ _ (by omega)]
  exact h.fresh j (by omega)
 ·intro j b s e hB
  rcases cases' j b s e with ⟨rfl,rfl,rfl⟩ | ⟨hj,e⟩
  ·exact absurd h.room (by omega)
  ·obtain ⟨c,el,e1⟩:=h.low j b s e hB
   exact ⟨c,el,by rw [hg,if_neg hj]; exact e1⟩
 ·intro j k b s t ej ek hjk
  rcases cases' j b s ej with ⟨rfl,rfl,rfl⟩ | ⟨hj,ej⟩
  ·rcases cases' k _ t ek with ⟨rfl,_,_⟩ | ⟨hk,ek⟩
   ·exact absurd rfl hjk
   ·exact absurd (hlt _ _ _ ek) (by omega)
  ·rcases cases' k _ t ek with ⟨rfl,rfl,_⟩ | ⟨hk,ek⟩
   ·exact absurd (hlt _ _ _ ej) (by omega)
   ·obtain ⟨⟨r,p,q,js,a1,a2,a3,a4,a5,a6⟩,c,el,e1⟩:=h.kin j k b s t ej ek hjk
    exact ⟨⟨r,p,q,js,by rw [horg]; exact a1,by rw [horg]; exact a2,a3,by rw [hfam]; exact a4,a5,a6⟩,c,el,by rw [hg,if_neg hj]; exact e1⟩
 ·intro r js e j hj
  rw [hfam] at e
  obtain ⟨x,ex⟩:=h.fam r js e j hj
  exact ⟨x,hle.map _ _ ex⟩
 ·intro j b s e c el fr hc
  rcases cases' j b s e with ⟨rfl,rfl,rfl⟩ | ⟨hj,e⟩
  ·rw [rownew]
   have:=World.alloc_heap_new w o'
   rw [this] at hc
   exact hr c el fr (Option.some.inj hc)
  ·rw [rowold j b s e]
   rw [Below.heap_alloc _ _ _ (hlt j b s e)] at hc
   exact h.rows j b s e c el fr hc
 ·intro j b s e c el ro hc
  rcases cases' j b s e with ⟨rfl,rfl,rfl⟩ | ⟨hj,e⟩
  ·rw [rownew]
   rw [hg,if_pos rfl] at hc
   exact he c el ro (Option.some.inj hc)
  ·rw [rowold j b s e]
   rw [hg,if_neg hj] at hc
   exact h.elem j b s e c el ro hc
 ·intro j hj e
  refine ⟨?_,by rw [hg,if_neg (by omega)]⟩
  rw [Ren.put_other _ _ _ (by omega)]
  exact e
theorem SR.owed {tb:Tab} {B:Nat} {w₀:World} {ρ:Ren} {H:AH} {w:World} (h:SR tb B w₀ ρ H w) {o:AObj} {i:Nat} {H':AH} (e:H.alloc o=some (i,H')) :
  SR tb B w₀ ρ H' w∧Kept ρ H ρ H'∧ρ i=none:=by
 obtain ⟨rfl,hb,hn,hg,horg,hfam⟩:=vC e
 have hf:ρ H.next=none:=h.fresh _ (Nat.le_refl _)
 have hne:∀ j x,ρ j=some x→j≠H.next:=fun j x e hj=>by subst hj; rw [hf] at e; cases e
 refine ⟨⟨h.below,h.room,?_,?_,?_,?_,?_,by rw [horg,hfam]; exact h.home,by rw [hfam]; exact h.root,h.rows,fun j b s e c el ro hc=>h.elem j b s e c el ro (by rw [hg,if_neg (hne j _ e)] at hc; exact hc),by rw [hn]; exact hb⟩,⟨ρ.le_refl,by omega,fun j hj e=>⟨e,by rw [hg,if_neg (by omega)]⟩⟩,hf⟩
 ·intro j b s e
  obtain ⟨x,x',e1,e2,e3⟩:=h.obj j b s e
  exact ⟨x,x',by rw [hg,if_neg (hne j _ e)]; exact e1,e2,e3⟩
 ·intro j hj; rw [hn] at hj; exact h.fresh j (by omega)
 ·intro j b s e hB
  obtain ⟨c,el,e1⟩:=h.low j b s e hB
  exact ⟨c,el,by rw [hg,if_neg (hne j _ e)]; exact e1⟩
 ·intro j k b s t ej ek hjk
  obtain ⟨⟨r,p,q,js,a1,a2,a3,a4,a5,a6⟩,c,el,e1⟩:=h.kin j k b s t ej ek hjk
  exact ⟨⟨r,p,q,js,by rw [horg]; exact a1,by rw [horg]; exact a2,a3,by rw [hfam]; exact a4,a5,a6⟩,c,el,by rw [hg,if_neg (hne j _ ej)]; exact e1⟩
 ·intro r js e j hj
  rw [hfam] at e
  exact h.fam r js e j hj
end Go.Am
namespace Go.Am
open Go.RowKit
theorem zAF:∀ (off:Nat) (vs c c':List Value),lay off vs c=some c' →
  c'.length=c.length∧(vs≠[]→off+vs.length≤c.length)∧∀ k,c'[k]?=if off≤k∧k < off+vs.length then vs[k - off]? else c[k]?
 | off,[],c,c',h=>by
   have:c'=c:=by cases off <;> simp [lay] at h <;> exact h.symm
   subst this
   refine ⟨rfl,fun h=>absurd rfl h,fun k=>?_⟩
   rw [if_neg (by simp)]
 | 0,v::vs,[],c',h=>by simp [lay] at h
 | 0,v::vs,x::c,c',h=>by
   simp only [lay] at h
   split at h
   ·next r e =>
    cases h
    obtain ⟨h1,h2,h3⟩:=zAF 0 vs c r e
    refine ⟨by simp [h1],fun _=>?_,fun k=>?_⟩
    ·by_cases hv:vs=[]
     ·subst hv; simp
     ·have:=h2 hv; simp at this ⊢; omega
    ·cases k with
     | zero=>simp
     | succ k =>
       simp only [List.getElem?_cons_succ,h3 k,Nat.zero_le,true_and,Nat.zero_add,List.length_cons,Nat.sub_zero]
       by_cases hk:k < vs.length
       ·rw [if_pos hk,if_pos (by omega)]
       ·rw [if_neg hk,if_neg (by omega)]
   ·cases h
 | off+1,v::vs,[],c',h=>by simp [lay] at h
 | off+1,v::vs,x::c,c',h=>by
   simp only [lay] at h
   split at h
   ·next r e =>
    cases h
    obtain ⟨h1,h2,h3⟩:=zAF off (v::vs) c r e
    refine ⟨by simp [h1],fun _=>?_,fun k=>?_⟩
    ·have:=h2 (by simp); simp at this ⊢; omega
    ·cases k with
     | zero=>simp
     | succ k =>
       simp only [List.getElem?_cons_succ,h3 k]
       by_cases hk:off≤k∧k < off+(v::vs).length
       ·rw [if_pos hk,if_pos (by omega)]
        congr 1; omega
       ·rw [if_neg hk,if_neg (by omega)]
   ·cases h
theorem kL:∀ (lo hi:Nat) (c:List Value),(kill lo hi c).length=c.length∧∀ k,(kill lo hi c)[k]?=if lo≤k∧k < hi∧k < c.length then some undef else c[k]?
 | lo,0,c=>by
   have:kill lo 0 c=c:=by cases lo <;> rfl
   rw [this]; exact ⟨rfl,fun k=>by rw [if_neg (by omega)]⟩
 | 0,hi+1,[]=>by simp [kill]
 | 0,hi+1,x::c=>by
   obtain ⟨h1,h2⟩:=kL 0 hi c
   refine ⟨by simp [kill,h1],fun k=>?_⟩
   cases k with
   | zero=>simp [kill]
   | succ k=>simp only [kill,List.getElem?_cons_succ,h2 k,List.length_cons,Nat.zero_le,true_and]; congr 1; simp
 | lo+1,hi+1,[]=>by simp [kill]
 | lo+1,hi+1,x::c=>by
   obtain ⟨h1,h2⟩:=kL lo hi c
   refine ⟨by simp [kill,h1],fun k=>?_⟩
   cases k with
   | zero=>simp [kill]
   | succ k=>simp only [kill,List.getElem?_cons_succ,h2 k,List.length_cons]; congr 1; simp
def wN:Nat→List Value→Array Value→Array Value
 | _,[],c=>c
 | k,v::vs,c=>wN (k+1) vs (c.setIfInBounds k v)
theorem wW:∀ (k:Nat) (vs:List Value) (c:Array Value),(wN k vs c).size=c.size
 | _,[],_=>rfl
 | k,v::vs,c=>by simp [wN,wW (k+1) vs]
theorem wm:∀ (k:Nat) (vs:List Value) (c:Array Value) (j:Nat),(wN k vs c)[j]?=if k≤j∧j < k+vs.length∧j < c.size then vs[j - k]? else c[j]?
 | k,[],c,j=>by simp only [wN]; rw [if_neg (by simp; omega)]
 | k,v::vs,c,j=>by
   simp only [wN,wm (k+1) vs,Array.size_setIfInBounds,List.length_cons]
   by_cases h1:k+1≤j∧j < k+1+vs.length∧j < c.size
   ·rw [if_pos h1,if_pos (by omega)]
    have:j - k=(j - (k+1))+1:=by omega
    rw [this,List.getElem?_cons_succ]
   ·rw [if_neg h1]
    by_cases h2:j=k
    ·subst h2
     by_cases h3:j < c.size
     ·rw [if_pos (by omega)]; simp [h3]
     ·rw [if_neg (by omega)]; simp [h3]
    ·rw [if_neg (by omega),Array.getElem?_setIfInBounds_ne (by omega)]
def Worn (o o':AObj):Prop :=
 o'=o∨∃ c c' e ro,o = .cells c e ro∧o' = .cells c' e ro∧c'.length=c.length∧∀ (k:Nat) v,c'[k]?=some v→v=undef∨c[k]?=some v
theorem Worn.refl (o:AObj):Worn o o:=.inl rfl
theorem Worn.trans {a b c:AObj} (h:Worn a b) (k:Worn b c):Worn a c:=by
 rcases h with rfl | ⟨x,y,e,ro,rfl,rfl,hl,hg⟩
 ·exact k
 ·rcases k with rfl | ⟨x',y',e',ro',h1,rfl,hl',hg'⟩
  ·exact .inr ⟨x,y,e,ro,rfl,rfl,hl,hg⟩
  ·cases h1
   refine .inr ⟨x,y',e,ro,rfl,rfl,by omega,fun k v hk=>?_⟩
   rcases hg' k v hk with h | h
   ·exact .inl h
   ·exact hg k v h
theorem Worn.or {ρ:Ren} {o o':AObj} (h:Worn o o') {s:Nat} {x:Obj} (k:OR ρ o s x) (hx:∀ c e ro,o = .cells c e ro→∃ c' e' fr,x = .cells c' e' fr∧∀ j v,c[j]?=some v→∃ v',c'[s+j]?=some v'):OR ρ o' s x:=by
 rcases h with rfl | ⟨c,c',e,ro,rfl,rfl,hl,hg⟩
 ·exact k
 ·obtain ⟨d,e',fr,rfl,hd⟩:=hx c e ro rfl
  simp only [OR] at k ⊢
  refine ⟨fun j v hj=>?_,k.2⟩
  rcases hg j v hj with rfl | h
  ·have:j < c.length:=by rw [← hl]; exact (List.getElem?_eq_some_iff.1 hj).1
   obtain ⟨v',hv'⟩:=hd j c[j] (by simp [this])
   exact ⟨v',hv',.dead _⟩
  ·exact k.1 j v h
structure Killed (i lo hi:Nat) (js:List Nat) (H H':AH):Prop where
 next:H'.next=H.next
 org:H'.org=H.org
 fam:H'.fam=H.fam
 same:∀ j,(j=i∨j ∉ js)→H'.get j=H.get j
 worn:∀ j o,H.get j=some o→∃ o',H'.get j=some o'∧Worn o o'
 none:∀ j,H.get j=none→H'.get j=none
 dead:∀ j,j∈js→j≠i→∀ r p c e ro,H.org.get j=some (r,p)→H'.get j=some (.cells c e ro)→∀ (k:Nat) v,lo≤p+k→p+k < hi→c[k]?=some v→v=undef
theorem put_next (H:AH) (i:Nat) (o:AObj):(H.put i o).next=H.next:=rfl
theorem put_org (H:AH) (i:Nat) (o:AObj):(H.put i o).org=H.org:=rfl
theorem put_fam (H:AH) (i:Nat) (o:AObj):(H.put i o).fam=H.fam:=rfl
theorem vU (i lo hi:Nat):∀ (js:List Nat) (H:AH),(∀ j∈js,j < zY)→Killed i lo hi js H (xW i lo hi js H)
 | [],H,_=>⟨rfl,rfl,rfl,fun _ _=>rfl,fun _ o h=>⟨o,h,.refl o⟩,fun _ h=>h,fun _ h=>by cases h⟩
 | j::js,H,hb=>by
   have hb':∀ j∈js,j < zY:=fun k hk=>hb k (by simp [hk])
   have hj:j < zY:=hb j (by simp)
   have step:∀ H1:AH,H1.next=H.next→H1.org=H.org→H1.fam=H.fam→(∀ k,k≠j→H1.get k=H.get k)→(j=i→H1.get j=H.get j) →
     (∀ o,H.get j=some o→∃ o',H1.get j=some o'∧Worn o o')→(H.get j=none→H1.get j=none) →
     (j≠i→∀ r p c e ro,H.org.get j=some (r,p)→H1.get j=some (.cells c e ro)→∀ (k:Nat) v,lo≤p+k→p+k < hi→c[k]?=some v→v=undef) →
     Killed i lo hi (j::js) H (xW i lo hi js H1):=by
    intro H1 hn ho hf hk hi' hw hnone hdead
    have K:=vU i lo hi js H1 hb'
    refine ⟨K.next.trans hn,K.org.trans ho,K.fam.trans hf,?_,?_,?_,?_⟩
    ·intro k hk'
     have e1:(xW i lo hi js H1).get k=H1.get k:=K.same k (hk'.imp id (fun h=>by simp at h; exact h.2))
     rw [e1]
     by_cases e:k=j
     ·subst e
      rcases hk' with h | h
      ·exact hi' h
      ·simp at h
     ·exact hk k e
    ·intro k o ho'
     by_cases e:k=j
     ·subst e
      obtain ⟨o1,e1,w1⟩:=hw o ho'
      obtain ⟨o2,e2,w2⟩:=K.worn k o1 e1
      exact ⟨o2,e2,w1.trans w2⟩
     ·exact K.worn k o (by rw [hk k e]; exact ho')
    ·intro k hk'
     by_cases e:k=j
     ·subst e; exact K.none k (hnone hk')
     ·exact K.none k (by rw [hk k e]; exact hk')
    ·intro k hmem hne r p c e ro horg hget m v h1 h2 hv
     by_cases hin:k∈js
     ·exact K.dead k hin hne r p c e ro (by rw [ho]; exact horg) hget m v h1 h2 hv
     ·have ekj:k=j:=by simp at hmem; rcases hmem with h | h; exact h; exact absurd h hin
      subst ekj
      rw [K.same k (.inr hin)] at hget
      exact hdead hne r p c e ro horg hget m v h1 h2 hv
   unfold xW
   cases hij:Nat.beq i j
   ·have hne:j≠i:=fun e=>by subst e; simp at hij
    simp only [cond_false]
    split
    ·next c e ro r o hg horg =>
     refine step _ (put_next ..) (put_org ..) (put_fam ..) (fun k hk=>by rw [xM hj,if_neg hk]) (fun h=>absurd h hne) ?_ (fun h=>by rw [h] at hg; cases hg) ?_
     ·intro x hx
      rw [hg] at hx; cases hx
      refine ⟨_,by rw [xM hj,if_pos rfl],.inr ⟨c,_,e,ro,rfl,rfl,(kL _ _ c).1,fun k v hk=>?_⟩⟩
      rw [(kL _ _ c).2 k] at hk
      split at hk
      ·cases hk; exact .inl rfl
      ·exact .inr hk
     ·intro _ r' p c' e' ro' horg' hget k v h1 h2 hv
      rw [horg] at horg'; cases horg'
      rw [xM hj,if_pos rfl] at hget
      cases hget
      rw [(kL _ _ c).2 k] at hv
      split at hv
      ·cases hv; rfl
      ·next hn =>
       have:k < c.length:=(List.getElem?_eq_some_iff.1 hv).1
       exact absurd ⟨by omega,by omega,this⟩ hn
    ·next hno =>
     refine step H rfl rfl rfl (fun _ _=>rfl) (fun _=>rfl) (fun o h=>⟨o,h,.refl o⟩) (fun h=>h) ?_
     intro _ r p c e ro horg hget
     exact absurd horg (hno c e ro r p hget)
   ·have heq:j=i:=(Nat.eq_of_beq_eq_true hij).symm
    simp only [cond_true]
    exact step H rfl rfl rfl (fun _ _=>rfl) (fun _=>rfl) (fun o h=>⟨o,h,.refl o⟩) (fun h=>h) (fun h=>absurd heq h)
theorem Worn.cells {c:List Value} {e:TypeId} {ro:Bool} {o:AObj} (h:Worn (.cells c e ro) o):∃ c',o = .cells c' e ro∧c'.length=c.length∧∀ (k:Nat) v,c'[k]?=some v→v=undef∨c[k]?=some v:=by
 rcases h with rfl | ⟨x,y,e',ro',h1,h2,h3,h4⟩
 ·exact ⟨c,rfl,rfl,fun _ _ h=>.inr h⟩
 ·cases h1; exact ⟨y,h2,h3,h4⟩
theorem Worn.cells_rev {c:List Value} {e:TypeId} {ro:Bool} {o:AObj} (h:Worn o (.cells c e ro)):∃ c',o = .cells c' e ro:=by
 rcases h with h | ⟨x,y,e',ro',h1,h2,h3,h4⟩
 ·exact ⟨c,h.symm⟩
 ·cases h2; exact ⟨x,h1⟩
structure Marked (ρ:Ren) (i lo n:Nat) (H H':AH):Prop where
 next:H'.next=H.next
 org:H'.org=H.org
 fam:H'.fam=H.fam
 self:H'.get i=H.get i
 worn:∀ j o,H.get j=some o→∃ o',H'.get j=some o'∧Worn o o'
 dead:∀ j s t,j≠i→H.kin i j s t→∀ c e ro,H'.get j=some (.cells c e ro)→∀ (k:Nat) v,s+lo≤t+k→t+k < s+lo+n→c[k]?=some v→v=undef
 left:∀ j,ρ j=none→H'.get j=H.get j
theorem zD7 {ρ:Ren} {H:AH} {i lo n:Nat} (hf:∀ r js,H.fam.get r=some js→∀ j∈js,∃ x,ρ j=some x) (hb:∀ j x,ρ j=some x→j < zY) :
  Marked ρ i lo n H (H.killFam i lo n):=by
 have triv:(∀ j s t,j≠i→¬ H.kin i j s t)→Marked ρ i lo n H H:=fun h =>
  ⟨rfl,rfl,rfl,rfl,fun _ o e=>⟨o,e,.refl o⟩,fun j s t hj hk=>absurd hk (h j s t hj),fun _ _=>rfl⟩
 unfold AH.killFam
 split
 ·next e=>exact triv fun j s t _ hk=>by obtain ⟨r,o,p,js,h1,_⟩:=hk; rw [e] at h1; cases h1
 ·next r o e =>
  split
  ·next e2 =>
   refine triv fun j s t _ hk=>?_
   obtain ⟨r',o',p,js,h1,_,_,h4,_⟩:=hk
   rw [e] at h1; cases h1
   rw [e2] at h4; cases h4
  ·next js e2 =>
   have K:=vU i (o+lo) (o+lo+n) js H (fun j hj=>by obtain ⟨x,hx⟩:=hf r js e2 j hj; exact hb j x hx)
   refine ⟨K.next,K.org,K.fam,K.same i (.inl rfl),K.worn,?_,?_⟩
   ·intro j s t hj hk c el ro hget k v h1 h2 hv
    obtain ⟨r',o',p,js',a1,a2,a3,a4,_,a6⟩:=hk
    rw [e] at a1; cases a1
    rw [e2] at a4; cases a4
    exact K.dead j a6 hj r p c el ro a2 hget k v (by omega) (by omega) hv
   ·intro j hj
    refine K.same j (.inr fun hm=>?_)
    obtain ⟨x,hx⟩:=hf r js e2 j hm
    rw [hj] at hx; cases hx
theorem AH.kin_put {H:AH} {i j s t a:Nat} {o:AObj}:(H.put a o).kin i j s t↔H.kin i j s t:=Iff.rfl
theorem SR.claimed {tb:Tab} {B:Nat} {w₀:World} {ρ:Ren} {H:AH} {w:World} (h:SR tb B w₀ ρ H w) {i:Nat} {x:Nat×Nat} (e:ρ i=some x):i < zY:=by
 rcases Nat.lt_or_ge i H.next with hi | hi
 ·exact Nat.lt_of_lt_of_le hi h.bnd
 ·rw [h.fresh i hi] at e; cases e
theorem SR.block {tb:Tab} {B:Nat} {w₀:World} {ρ:Ren} {H:AH} {w:World} (h:SR tb B w₀ ρ H w) {i b s:Nat} (e:ρ i=some (b,s)):b < w.heap.size:=by
 obtain ⟨_,_,_,e2,_⟩:=h.obj i b s e
 exact (Array.getElem?_eq_some_iff.1 e2).1
theorem Below.putObj {B:Nat} {a w:World} (h:Below B a w) {r:Nat} (hr:B≤r) (o:Obj):Below B a (w.putObj r o) :=
 h.trans ⟨rfl,rfl,rfl,by simp,fun k hk=>World.putObj_heap_other (by omega)⟩
theorem SR.store {tb:Tab} {B:Nat} {w₀:World} {ρ:Ren} {H:AH} {w:World} (h:SR tb B w₀ ρ H w) {i off b s:Nat} {vs vs' c cl:List Value} {e e':TypeId} {c':Array Value} {fr:Nat×Nat}
  (hi:ρ i=some (b,s)) (hg:H.get i=some (.cells c e false)) (hl:lay off vs c=some cl) (hv:VRs ρ vs vs') (hw:w.heap[b]?=some (.cells c' e' fr)) :
  SR tb B w₀ ρ ((H.put i (.cells cl e false)).killFam i off vs.length) (w.putObj b (.cells (wN (s+off) vs' c') e' fr)) ∧
   Kept ρ H ρ ((H.put i (.cells cl e false)).killFam i off vs.length):=by
 have hib:=h.claimed hi
 have hbs:=h.block hi
 have hB:B≤b:=by
  rcases Nat.lt_or_ge b B with hlt | hge
  ·obtain ⟨_,_,e1⟩:=h.low i b s hi hlt
   rw [hg] at e1; cases e1
  ·exact hge
 have hcl:=zAF off vs c cl hl
 have hlen:=hv.length
 have oi:(∀ k v,c[k]?=some v→∃ v',c'[s+k]?=some v'∧VR ρ v v')∧(false=false→fr=(0,0)):=by
  obtain ⟨o,o',e1,e2,e3⟩:=h.obj i b s hi
  rw [hg] at e1; cases e1
  rw [hw] at e2; cases e2
  exact e3
 obtain ⟨H2,hH2⟩:∃ H2,(H.put i (.cells cl e false)).killFam i off vs.length=H2:=⟨_,rfl⟩
 have M:Marked ρ i off vs.length (H.put i (.cells cl e false)) H2:=hH2 ▸ zD7 (fun r js e j hj=>h.fam r js e j hj) (fun j x e=>h.claimed e)
 rw [hH2]
 have self:H2.get i=some (.cells cl e false):=by rw [M.self,xM hib,if_pos rfl]
 have worn:∀ j o,j≠i→H.get j=some o→∃ o',H2.get j=some o'∧Worn o o':=fun j o hj e=>M.worn j o (by rw [xM hib,if_neg hj]; exact e)
 refine ⟨⟨Below.putObj h.below hB _,by simpa using h.room,?_,?_,?_,?_,?_,by rw [M.org,M.fam]; exact h.home,by rw [M.fam]; exact h.root,?_,?_,by rw [M.next]; exact h.bnd⟩,⟨ρ.le_refl,by rw [M.next]; exact Nat.le_refl _,?_⟩⟩
 ·intro j b' t ej
  by_cases hji:j=i
  ·subst hji
   rw [hi] at ej; cases ej
   refine ⟨_,_,self,World.putObj_heap_same hbs,⟨fun k v hk=>?_,fun _=>oi.2 rfl⟩⟩
   rw [hcl.2.2 k] at hk
   rw [wm]
   split at hk
   ·next hr =>
    obtain ⟨v',e1,r1⟩:=hv.get _ _ hk
    have hkc:k < c.length:=by
     have:vs≠[]:=by intro h0; subst h0; simp at hk
     have:=hcl.2.1 this
     omega
    obtain ⟨u,hu,_⟩:=oi.1 k c[k] (by simp [hkc])
    have hsz:s+k < c'.size:=(Array.getElem?_eq_some_iff.1 hu).1
    refine ⟨v',?_,r1⟩
    rw [if_pos (by omega),show s+k - (s+off)=k - off by omega]
    exact e1
   ·next hr =>
    obtain ⟨u,hu,ru⟩:=oi.1 k v hk
    refine ⟨u,?_,ru⟩
    rw [if_neg (by omega)]
    exact hu
  ·obtain ⟨o,o',e1,e2,e3⟩:=h.obj j b' t ej
   obtain ⟨o2,e4,wn⟩:=worn j o hji e1
   by_cases hbb:b'=b
   ·subst hbb
    obtain ⟨hk,cj,elj,hcj⟩:=h.kin j i b' t s ej hi hji
    have hk':H.kin i j s t:=by
     obtain ⟨r,a,p,js,a1,a2,a3,a4,a5,a6⟩:=hk
     exact ⟨r,p,a,js,a2,a1,a3.symm,a4,a6,a5⟩
    rw [hcj] at e1; cases e1
    rw [hw] at e2; cases e2
    obtain ⟨c2,rfl,hl2,hg2⟩:=wn.cells
    refine ⟨_,_,e4,World.putObj_heap_same hbs,⟨fun k v hkv=>?_,e3.2⟩⟩
    rw [wm]
    have hkl:k < cj.length:=by rw [← hl2]; exact (List.getElem?_eq_some_iff.1 hkv).1
    obtain ⟨u,hu,ru⟩:=e3.1 k cj[k] (by simp [hkl])
    have hsz:t+k < c'.size:=(Array.getElem?_eq_some_iff.1 hu).1
    by_cases hr:s+off≤t+k∧t+k < s+off+vs'.length
    ·have hdead:=M.dead j s t hji hk' c2 elj false e4 k v hr.1 (by rw [hlen]; exact hr.2) hkv
     subst hdead
     rw [if_pos ⟨hr.1,hr.2,hsz⟩]
     exact ⟨vs'[t+k - (s+off)]'(by omega),by simp,.dead _⟩
    ·rw [if_neg (by omega)]
     rcases hg2 k v hkv with rfl | hold
     ·exact ⟨u,hu,.dead _⟩
     ·exact e3.1 k v hold
   ·refine ⟨o2,o',e4,by rw [World.putObj_heap_other hbb]; exact e2,wn.or e3 ?_⟩
    intro cc el ro hcc
    subst hcc
    cases o' with
    | cells c'' e'' fr''=>exact ⟨c'',e'',fr'',rfl,fun k v hk=>by obtain ⟨v',e',_⟩:=e3.1 k v hk; exact ⟨v',e'⟩⟩
    | _=>exact e3.elim
 ·intro j hj; rw [M.next] at hj; exact h.fresh j hj
 ·intro j b' t ej hlt
  have hji:j≠i:=fun e=>by subst e; rw [hi] at ej; cases ej; omega
  obtain ⟨cj,elj,e1⟩:=h.low j b' t ej hlt
  obtain ⟨o2,e4,wn⟩:=worn j _ hji e1
  obtain ⟨c2,rfl,_⟩:=wn.cells
  exact ⟨c2,elj,e4⟩
 ·intro j k b' t u ej ek hjk
  obtain ⟨⟨r,a,p,js,a1,a2,a3,a4,a5,a6⟩,cj,elj,e1⟩:=h.kin j k b' t u ej ek hjk
  refine ⟨⟨r,a,p,js,by rw [M.org]; exact a1,by rw [M.org]; exact a2,a3,by rw [M.fam]; exact a4,a5,a6⟩,?_⟩
  by_cases hji:j=i
  ·subst hji; exact ⟨_,_,self⟩
  ·obtain ⟨o2,e4,wn⟩:=worn j _ hji e1
   obtain ⟨c2,rfl,_⟩:=wn.cells
   exact ⟨c2,elj,e4⟩
 ·intro r js e j hj
  rw [M.fam] at e
  exact h.fam r js e j hj
 ·intro j b' t ej cc el fr' hc
  by_cases hbb:b'=b
  ·subst hbb
   rw [World.putObj_heap_same hbs] at hc
   cases hc
   rw [wW]
   exact h.rows j b' t ej _ _ _ hw
  ·rw [World.putObj_heap_other hbb] at hc
   exact h.rows j b' t ej _ _ _ hc
 ·intro j b' t ej cc el ro hc
  by_cases hji:j=i
  ·subst hji
   rw [self] at hc
   cases hc
   exact h.elem j b' t ej _ _ _ hg
  ·obtain ⟨o,o',e1,e2,e3⟩:=h.obj j b' t ej
   obtain ⟨o2,e4,wn⟩:=worn j o hji e1
   rw [hc] at e4; cases e4
   obtain ⟨c0,rfl⟩:=wn.cells_rev
   exact h.elem j b' t ej _ _ _ e1
 ·intro j _ ej
  refine ⟨ej,?_⟩
  have hji:j≠i:=fun e=>by subst e; rw [hi] at ej; cases ej
  rw [M.left j ej,xM hib,if_neg hji]
end Go.Am
namespace Go.Am
open Go.RowKit
theorem T.get_set' {α:Type} (a:α) (t:T α) {n:Nat} (m:Nat) (h:n < zY):(T.set depth t n a).get m=if m=n then some a else t.get m :=
 T.get_set a depth t n m (by unfold depth; unfold zY at h; omega)
theorem join_get (H:AH) (i:Nat) (ro:Nat×Nat) (js:List Nat) (j:Nat):(H.join i ro js).get j=H.get j:=rfl
theorem join_next (H:AH) (i:Nat) (ro:Nat×Nat) (js:List Nat):(H.join i ro js).next=H.next:=rfl
theorem join_org (H:AH) {i:Nat} (ro:Nat×Nat) (js:List Nat) (j:Nat) (h:i < zY):(H.join i ro js).org.get j=if j=i then some ro else H.org.get j:=T.get_set' _ _ _ h
theorem join_fam (H:AH) (i:Nat) {ro:Nat×Nat} (js:List Nat) (r:Nat) (h:ro.1 < zY):(H.join i ro js).fam.get r=if r=ro.1 then some js else H.fam.get r:=T.get_set' _ _ _ h
theorem SR.join {tb:Tab} {B:Nat} {w₀:World} {ρ:Ren} {H:AH} {w:World} (h:SR tb B w₀ ρ H w) {i:Nat} {ro:Nat×Nat} {js:List Nat} {x y:Nat×Nat}
  (hi:ρ i=some x) (hr:ρ ro.1=some y) (hno:H.org.get i=none) (him:i∈js) (hjs:∀ j∈js,∃ z,ρ j=some z) (hold:∀ ks,H.fam.get ro.1=some ks→∀ k∈ks,k∈js) :
  SR tb B w₀ ρ (H.join i ro js) w∧Kept ρ H ρ (H.join i ro js):=by
 have hib:=h.claimed hi
 have hrb:=h.claimed hr
 have og:=fun j=>join_org H ro js j hib
 have fm:=fun r=>join_fam H i js r hrb
 refine ⟨⟨h.below,h.room,h.obj,h.fresh,h.low,?_,?_,?_,?_,h.rows,h.elem,h.bnd⟩,⟨ρ.le_refl,Nat.le_refl _,fun _ _ e=>⟨e,rfl⟩⟩⟩
 ·intro j k b s t ej ek hjk
  obtain ⟨⟨r,o,p,ks,a1,a2,a3,a4,a5,a6⟩,hc⟩:=h.kin j k b s t ej ek hjk
  have hj:j≠i:=fun e=>by subst e; rw [hno] at a1; cases a1
  have hk:k≠i:=fun e=>by subst e; rw [hno] at a2; cases a2
  refine ⟨?_,hc⟩
  by_cases hrr:r=ro.1
  ·exact ⟨r,o,p,js,by rw [og,if_neg hj]; exact a1,by rw [og,if_neg hk]; exact a2,a3,by rw [fm,if_pos hrr],hold ks (hrr ▸ a4) j a5,hold ks (hrr ▸ a4) k a6⟩
  ·exact ⟨r,o,p,ks,by rw [og,if_neg hj]; exact a1,by rw [og,if_neg hk]; exact a2,a3,by rw [fm,if_neg hrr]; exact a4,a5,a6⟩
 ·intro r ks e j hj
  rw [fm] at e
  split at e
  ·cases e; exact hjs j hj
  ·exact h.fam r ks e j hj
 ·intro j r o e
  rw [og] at e
  split at e
  ·next hji=>cases e; exact ⟨js,by rw [fm,if_pos rfl],hji ▸ him⟩
  ·obtain ⟨ks,e1,e2⟩:=h.home j r o e
   by_cases hrr:r=ro.1
   ·exact ⟨js,by rw [fm,if_pos hrr],hold ks (hrr ▸ e1) j e2⟩
   ·exact ⟨ks,by rw [fm,if_neg hrr]; exact e1,e2⟩
 ·intro r ks e
  rw [fm] at e
  split at e
  ·next hrr=>exact ⟨y,hrr ▸ hr⟩
  ·exact h.root r ks e
theorem SR.adopt {tb:Tab} {B:Nat} {w₀:World} {ρ:Ren} {H:AH} {w:World} (h:SR tb B w₀ ρ H w) {i:Nat} {x:Nat×Nat} (hi:ρ i=some x) :
  SR tb B w₀ ρ (H.adopt i) w∧Kept ρ H ρ (H.adopt i)∧(∀ j,(H.adopt i).get j=H.get j):=by
 unfold AH.adopt
 split
 ·exact ⟨h,.refl _ _,fun _=>rfl⟩
 ·next hno =>
  obtain ⟨h1,h2⟩:=h.join (ro:=(i,0)) (js:=i::match H.fam.get i with | some js=>js | none=>[]) hi hi hno (by simp) (by
   intro j hj
   simp only [List.mem_cons] at hj
   rcases hj with rfl | hj
   ·exact ⟨x,hi⟩
   ·split at hj
    ·next e=>exact h.fam i _ e j hj
    ·cases hj) (by
   intro ks e k hk
   simp only at e
   rw [e]
   simp [hk])
  exact ⟨h1,h2,fun _=>rfl⟩
theorem SR.marked {tb:Tab} {B:Nat} {w₀:World} {ρ:Ren} {H:AH} {w:World} (h:SR tb B w₀ ρ H w) {i lo hi:Nat} {js:List Nat} (hjs:∀ j∈js,∃ z,ρ j=some z) :
  SR tb B w₀ ρ (xW i lo hi js H) w∧Kept ρ H ρ (xW i lo hi js H)∧Killed i lo hi js H (xW i lo hi js H):=by
 have K:=vU i lo hi js H (fun j hj=>by obtain ⟨z,hz⟩:=hjs j hj; exact h.claimed hz)
 refine ⟨⟨h.below,h.room,?_,by rw [K.next]; exact h.fresh,?_,?_,by rw [K.fam]; exact h.fam,by rw [K.org,K.fam]; exact h.home,by rw [K.fam]; exact h.root,h.rows,(fun j b s e c el ro hc=>by
  obtain ⟨o,o',e1,e2,e3⟩:=h.obj j b s e
  obtain ⟨o2,e4,wn⟩:=K.worn j o e1
  rw [hc] at e4; cases e4
  obtain ⟨c0,rfl⟩:=wn.cells_rev
  exact h.elem j b s e _ _ _ e1),by rw [K.next]; exact h.bnd⟩,
  ⟨ρ.le_refl,by rw [K.next]; exact Nat.le_refl _,fun j _ e=>⟨e,K.same j (.inr fun hm=>by obtain ⟨z,hz⟩:=hjs j hm; rw [e] at hz; cases hz)⟩⟩,K⟩
 ·intro j b s e
  obtain ⟨o,o',e1,e2,e3⟩:=h.obj j b s e
  obtain ⟨o2,e4,wn⟩:=K.worn j o e1
  refine ⟨o2,o',e4,e2,wn.or e3 ?_⟩
  intro cc el ro hcc
  subst hcc
  cases o' with
  | cells c'' e'' fr''=>exact ⟨c'',e'',fr'',rfl,fun k v hk=>by obtain ⟨v',e',_⟩:=e3.1 k v hk; exact ⟨v',e'⟩⟩
  | _=>exact e3.elim
 ·intro j b s e hlt
  obtain ⟨c,el,e1⟩:=h.low j b s e hlt
  obtain ⟨o2,e4,wn⟩:=K.worn j _ e1
  obtain ⟨c2,rfl,_⟩:=wn.cells
  exact ⟨c2,el,e4⟩
 ·intro j k b s t ej ek hjk
  obtain ⟨⟨r,o,p,ks,a1,a2,a3,a4,a5,a6⟩,c,el,e1⟩:=h.kin j k b s t ej ek hjk
  obtain ⟨o2,e4,wn⟩:=K.worn j _ e1
  obtain ⟨c2,rfl,_⟩:=wn.cells
  exact ⟨⟨r,o,p,ks,by rw [K.org]; exact a1,by rw [K.org]; exact a2,a3,by rw [K.fam]; exact a4,a5,a6⟩,c2,el,e4⟩
theorem SR.grow_new {tb:Tab} {B:Nat} {w₀:World} {ρ:Ren} {H:AH} {w:World} (h:SR tb B w₀ ρ H w) {base:Option Addr} {len n i:Nat} {cells:List Value} {elem:TypeId} {H':AH}
  (e:H.grow base len cells elem n=some (i,H')) (hb:∀ a,base=some a→∃ x,ρ a.block=some x) {o':Obj} (ho:OR ρ (.cells cells elem false) 0 o')
  {r:Nat×Nat} (hr:∀ c e fr,o' = .cells c e fr→c.size=r.1) (he:tb.size elem=some r.2) :
  SR tb B w₀ (ρ.put i (w.heap.size,0) r) H' (w.alloc o')∧Kept ρ H (ρ.put i (w.heap.size,0) r) H':=by
 unfold AH.grow at e
 cases base with
 | none=>exact h.alloc e ho hr (fun c e ro hc=>by cases hc; exact he)
 | some a =>
   have he':∀ c e ro,AObj.cells cells elem false = .cells c e ro→tb.size e=some r.2:=fun c e ro hc=>by cases hc; exact he
   obtain ⟨x,hx⟩:=hb a rfl
   obtain ⟨h1,k1,g1⟩:=h.adopt hx
   simp only at e
   split at e
   ·next rr o eo =>
    split at e
    ·next js ef =>
     obtain ⟨h2,k2,K⟩:=h1.marked (i:=(H.adopt a.block).next) (lo:=o+a.off+len) (hi:=o+a.off+len+n) (h1.fam rr js ef)
     split at e
     ·next j H2 ea =>
      cases e
      obtain ⟨rfl,hbd,hn,hg,horg,hfam⟩:=vC ea
      obtain ⟨h3,k3⟩:=h2.alloc ea ho hr he'
      obtain ⟨y,hy⟩:=h1.root rr js ef
      have hnone:H2.org.get (xW (H.adopt a.block).next (o+a.off+len) (o+a.off+len+n) js (H.adopt a.block)).next=none:=by
       rw [horg]
       cases hq:(xW (H.adopt a.block).next (o+a.off+len) (o+a.off+len+n) js (H.adopt a.block)).org.get (xW (H.adopt a.block).next (o+a.off+len) (o+a.off+len+n) js (H.adopt a.block)).next with
       | none=>rfl
       | some p =>
         obtain ⟨ks,f1,f2⟩:=h2.home _ p.1 p.2 hq
         obtain ⟨z,hz⟩:=h2.fam _ ks f1 _ f2
         rw [h2.fresh _ (Nat.le_refl _)] at hz; cases hz
      obtain ⟨h4,k4⟩:=h3.join (ro:=(rr,o+a.off)) (js:=(xW (H.adopt a.block).next (o+a.off+len) (o+a.off+len+n) js (H.adopt a.block)).next::js)
       (Ren.put_same _ _ _ _) (k3.le.map _ _ hy) hnone (by simp) (by
        intro j hj
        simp only [List.mem_cons] at hj
        rcases hj with rfl | hj
        ·exact ⟨_,Ren.put_same _ _ _ _⟩
        ·obtain ⟨z,hz⟩:=h1.fam rr js ef j hj
         exact ⟨z,k3.le.map _ _ hz⟩) (by
        intro ks e1 k hk
        simp only [hfam,K.fam,ef,Option.some.injEq] at e1
        subst e1
        simp [hk])
      exact ⟨h4,(k1.trans k2).trans (k3.trans k4)⟩
     ·cases e
    ·cases e
   ·cases e
theorem SR.claim_kin {tb:Tab} {B:Nat} {w₀:World} {ρ:Ren} {H:AH} {w:World} (h:SR tb B w₀ ρ H w) {i b s ja sa r o p:Nat} {cs ca:List Value} {e ea:TypeId} {o':Obj} {js:List Nat}
  (hn:ρ i=none) (hlt:i < H.next) (hg:H.get i=some (.cells cs e false)) (hw:w.heap[b]?=some o') (ho:OR ρ (.cells cs e false) s o') (hB:B≤b)
  (ha:ρ ja=some (b,sa)) (hga:H.get ja=some (.cells ca ea false)) (horg:H.org.get ja=some (r,o)) (hfam:H.fam.get r=some js) (hs:s+o=sa+p) (hee:e=ea) :
  SR tb B w₀ (ρ.put i (b,s) (ρ.row b)) (H.join i (r,p) (i::js)) w:=by
 have hle:ρ.le (ρ.put i (b,s) (ρ.row b)):=Ren.le_put hn (fun j b' t _ hb=>by rw [hb])
 have hrow:∀ x,(ρ.put i (b,s) (ρ.row b)).row x=ρ.row x:=fun x=>by
  rw [Ren.put_row]
  split
  ·next hx=>rw [hx]
  ·rfl
 have hib:i < zY:=Nat.lt_of_lt_of_le hlt h.bnd
 obtain ⟨y,hy⟩:=h.root r js hfam
 have hrb:=h.claimed hy
 have og:=fun j=>join_org H (r,p) (i::js) j hib
 have fm:=fun r'=>join_fam H i (ro:=(r,p)) (i::js) r' hrb
 have hja:ja≠i:=fun e=>by subst e; rw [hn] at ha; cases ha
 have cases':∀ j b' t,ρ.put i (b,s) (ρ.row b) j=some (b',t)→(j=i∧b'=b∧t=s)∨(j≠i∧ρ j=some (b',t)):=fun j b' t e=>by
  rw [Ren.put_map] at e
  split at e
  ·next hj=>cases e; exact .inl ⟨hj,rfl,rfl⟩
  ·next hj=>exact .inr ⟨hj,e⟩
 have jin:ja∈js:=by
  obtain ⟨ks,f1,f2⟩:=h.home ja r o horg
  rw [hfam] at f1; cases f1
  exact f2
 have other:∀ k t,k≠i→ρ k=some (b,t)→(∃ q,H.org.get k=some (r,q)∧s+q=t+p∧k∈js)∧∃ c e,H.get k=some (.cells c e false):=by
  intro k t hki ek
  by_cases hk:k=ja
  ·subst hk
   rw [ha] at ek; cases ek
   exact ⟨⟨o,horg,hs,jin⟩,ca,ea,hga⟩
  ·obtain ⟨⟨r',o2,q,ks,a1,a2,a3,a4,a5,a6⟩,_⟩:=h.kin ja k b sa t ha ek (fun e=>hk e.symm)
   rw [horg] at a1; cases a1
   rw [hfam] at a4; cases a4
   exact ⟨⟨q,a2,by omega,a6⟩,(h.kin k ja b t sa ek ha hk).2⟩
 refine ⟨h.below,h.room,?_,?_,?_,?_,?_,?_,?_,?_,?_,h.bnd⟩
 ·intro j b' t ej
  rcases cases' j b' t ej with ⟨rfl,rfl,rfl⟩ | ⟨hj,ej⟩
  ·exact ⟨_,o',hg,hw,ho.mono hle⟩
  ·obtain ⟨x,x',e1,e2,e3⟩:=h.obj j b' t ej
   exact ⟨x,x',e1,e2,e3.mono hle⟩
 ·intro j hj
  have:j≠i:=by have:(H.join i (r,p) (i::js)).next=H.next:=rfl; omega
  rw [Ren.put_other _ _ _ this]
  exact h.fresh j hj
 ·intro j b' t ej hlow
  rcases cases' j b' t ej with ⟨rfl,rfl,rfl⟩ | ⟨hj,ej⟩
  ·omega
  ·exact h.low j b' t ej hlow
 ·intro j k b' t u ej ek hjk
  rcases cases' j b' t ej with ⟨rfl,rfl,rfl⟩ | ⟨hj,ej2⟩
  ·rcases cases' k _ u ek with ⟨rfl,_,_⟩ | ⟨hk,ek⟩
   ·exact absurd rfl hjk
   ·obtain ⟨⟨q,a1,a2,a3⟩,_⟩:=other k u hk ek
    exact ⟨⟨r,p,q,j::js,by rw [og,if_pos rfl],by rw [og,if_neg hk]; exact a1,a2,by rw [fm,if_pos rfl],by simp,by simp [a3]⟩,cs,e,hg⟩
  ·rcases cases' k _ u ek with ⟨rfl,rfl,rfl⟩ | ⟨hk,ek⟩
   ·obtain ⟨⟨q,a1,a2,a3⟩,hc⟩:=other j t hj ej2
    exact ⟨⟨r,q,p,k::js,by rw [og,if_neg hj]; exact a1,by rw [og,if_pos rfl],a2.symm,by rw [fm,if_pos rfl],by simp [a3],by simp⟩,hc⟩
   ·obtain ⟨⟨r',o2,q,ks,a1,a2,a3,a4,a5,a6⟩,hc⟩:=h.kin j k b' t u ej2 ek hjk
    by_cases hr:r'=r
    ·subst hr
     rw [hfam] at a4; cases a4
     exact ⟨⟨r',o2,q,i::js,by rw [og,if_neg hj]; exact a1,by rw [og,if_neg hk]; exact a2,a3,by rw [fm,if_pos rfl],by simp [a5],by simp [a6]⟩,hc⟩
    ·exact ⟨⟨r',o2,q,ks,by rw [og,if_neg hj]; exact a1,by rw [og,if_neg hk]; exact a2,a3,by rw [fm,if_neg hr]; exact a4,a5,a6⟩,hc⟩
 ·intro r' ks e1 j hj
  rw [fm] at e1
  split at e1
  ·cases e1
   simp only [List.mem_cons] at hj
   rcases hj with rfl | hj
   ·exact ⟨_,Ren.put_same _ _ _ _⟩
   ·obtain ⟨z,hz⟩:=h.fam r js hfam j hj; exact ⟨z,hle.map _ _ hz⟩
  ·obtain ⟨z,hz⟩:=h.fam r' ks e1 j hj; exact ⟨z,hle.map _ _ hz⟩
 ·intro j r' q e1
  rw [og] at e1
  split at e1
  ·next hji=>cases e1; exact ⟨i::js,by rw [fm,if_pos rfl],by simp [hji]⟩
  ·obtain ⟨ks,f1,f2⟩:=h.home j r' q e1
   by_cases hr:r'=r
   ·subst hr; rw [hfam] at f1; cases f1
    exact ⟨i::js,by rw [fm,if_pos rfl],by simp [f2]⟩
   ·exact ⟨ks,by rw [fm,if_neg hr]; exact f1,f2⟩
 ·intro r' ks e1
  rw [fm] at e1
  split at e1
  ·next hr=>obtain ⟨z,hz⟩:=h.root r js hfam; exact ⟨z,by rw [hr]; exact hle.map _ _ hz⟩
  ·obtain ⟨z,hz⟩:=h.root r' ks e1; exact ⟨z,hle.map _ _ hz⟩
 ·intro j b' t ej c el fr hc
  rw [hrow]
  rcases cases' j b' t ej with ⟨rfl,rfl,rfl⟩ | ⟨hj,ej2⟩
  ·exact h.rows ja _ sa ha c el fr hc
  ·exact h.rows j b' t ej2 c el fr hc
 ·intro j b' t ej c el ro hc
  rw [hrow]
  rcases cases' j b' t ej with ⟨rfl,rfl,rfl⟩ | ⟨hj,ej2⟩
  ·have hc':H.get j=some (.cells c el ro):=hc
   rw [hg] at hc'; cases hc'
   exact h.elem ja _ sa ha ca _ false (hee ▸ hga)
  ·exact h.elem j b' t ej2 c el ro hc
theorem zAG:∀ (n:Nat) (l:List Value) (k:Nat),(cut n l)[k]?=l[n+k]?
 | 0,l,k=>by simp [cut]
 | n+1,[],k=>by simp [cut]
 | n+1,_::l,k=>by simp only [cut,zAG n l]; rw [show n+1+k=(n+k)+1 by omega,List.getElem?_cons_succ]
theorem vY:∀ (n:Nat) (l r:List Value),wh n l=some r→r.length=n∧∀ k,k < n→r[k]?=l[k]?
 | 0,l,r,h=>by simp [wh] at h; subst h; simp
 | n+1,[],r,h=>by simp [wh] at h
 | n+1,v::l,r,h=>by
   simp only [wh] at h
   split at h
   ·next x e =>
    cases h
    obtain ⟨h1,h2⟩:=vY n l x e
    refine ⟨by simp [h1],fun k hk=>?_⟩
    cases k with
    | zero=>simp
    | succ k=>simp only [List.getElem?_cons_succ]; exact h2 k (by omega)
   ·cases h
theorem SR.grow_in {tb:Tab} {B:Nat} {w₀:World} {ρ:Ren} {H:AH} {w:World} (h:SR tb B w₀ ρ H w) {j off b s len i:Nat} {c old new new':List Value} {elem el e':TypeId} {fr:Nat×Nat} {c':Array Value} {H':AH}
  (e:H.grow (some ⟨j,off,none⟩) len (old++new) elem new.length=some (i,H')) (hj:ρ j=some (b,s)) (hg:H.get j=some (.cells c el false)) (hold:wh len (cut off c)=some old)
  (hw:w.heap[b]?=some (.cells c' e' fr)) (hv:VRs ρ new new') (hcap:s+off+len+new.length≤c'.size) (hel:elem=el) :
  SR tb B w₀ (ρ.put i (b,s+off) (ρ.row b)) H' (w.putObj b (.cells (wN (s+off+len) new' c') e' fr))∧Kept ρ H (ρ.put i (b,s+off) (ρ.row b)) H'∧i=H.next:=by
 have hbs:=h.block hj
 have hB:B≤b:=by
  rcases Nat.lt_or_ge b B with hlt | hge
  ·obtain ⟨_,_,e1⟩:=h.low j b s hj hlt
   rw [hg] at e1; cases e1
  ·exact hge
 have hlen:=hv.length
 have oj:(∀ k v,c[k]?=some v→∃ v',c'[s+k]?=some v'∧VR ρ v v')∧(false=false→fr=(0,0)):=by
  obtain ⟨o,o',e1,e2,e3⟩:=h.obj j b s hj
  rw [hg] at e1; cases e1
  rw [hw] at e2; cases e2
  exact e3
 obtain ⟨p1,p2⟩:=vY _ _ _ hold
 unfold AH.grow at e
 obtain ⟨h1,k1,g1⟩:=h.adopt hj
 simp only at e
 split at e
 ·next r o eo =>
  split at e
  ·next js ef =>
   obtain ⟨H1,hH1⟩:∃ H1,xW (H.adopt j).next (o+off+len) (o+off+len+new.length) js (H.adopt j)=H1:=⟨_,rfl⟩
   rw [hH1] at e
   obtain ⟨h2,k2,K⟩:=h1.marked (i:=(H.adopt j).next) (lo:=o+off+len) (hi:=o+off+len+new.length) (h1.fam r js ef)
   rw [hH1] at h2 k2 K
   have jin:j∈js:=by
    obtain ⟨ks,f1,f2⟩:=h1.home j r o eo
    rw [ef] at f1; cases f1
    exact f2
   have hjn:∀ k x,ρ k=some x→k≠(H.adopt j).next:=fun k x ek hk=>by subst hk; rw [h1.fresh _ (Nat.le_refl _)] at ek; cases ek
   have h3:SR tb B w₀ ρ H1 (w.putObj b (.cells (wN (s+off+len) new' c') e' fr)):=by
    refine ⟨Below.putObj h2.below hB _,by simpa using h2.room,?_,h2.fresh,h2.low,h2.kin,h2.fam,h2.home,h2.root,?_,h2.elem,h2.bnd⟩
    rotate_left
    ·intro k b' t ek cc el2 fr' hc
     by_cases hbb:b'=b
     ·subst hbb
      rw [World.putObj_heap_same hbs] at hc
      cases hc
      rw [wW]
      exact h2.rows k b' t ek _ _ _ hw
     ·rw [World.putObj_heap_other hbb] at hc
      exact h2.rows k b' t ek _ _ _ hc
    intro k b' t ek
    obtain ⟨x,x',e1,e2,e3⟩:=h2.obj k b' t ek
    by_cases hbb:b'=b
    ·subst hbb
     rw [hw] at e2; cases e2
     have hkin:∃ q,H1.org.get k=some (r,q)∧s+q=t+o∧k∈js:=by
      by_cases hkj:k=j
      ·subst hkj; rw [hj] at ek; cases ek
       exact ⟨o,by rw [K.org]; exact eo,rfl,jin⟩
      ·obtain ⟨⟨r',o2,q,ks,a1,a2,a3,a4,a5,a6⟩,_⟩:=h2.kin j k b' s t hj ek (fun e=>hkj e.symm)
       rw [K.org,eo] at a1; cases a1
       rw [K.fam,ef] at a4; cases a4
       exact ⟨q,a2,a3,a6⟩
     obtain ⟨q,q1,q2,q3⟩:=hkin
     cases x with
     | cells cc el2 ro =>
       refine ⟨_,_,e1,World.putObj_heap_same hbs,⟨fun m v hm=>?_,e3.2⟩⟩
       obtain ⟨u,hu,ru⟩:=e3.1 m v hm
       rw [wm]
       have hsz:t+m < c'.size:=(Array.getElem?_eq_some_iff.1 hu).1
       by_cases hr:s+off+len≤t+m∧t+m < s+off+len+new'.length
       ·have hdead:=K.dead k q3 (hjn k _ ek) r q cc el2 ro (by rw [← K.org]; exact q1) e1 m v (by omega) (by omega) hm
        subst hdead
        rw [if_pos ⟨hr.1,hr.2,hsz⟩]
        exact ⟨new'[t+m - (s+off+len)]'(by omega),by simp,.dead _⟩
       ·rw [if_neg (by omega)]
        exact ⟨u,hu,ru⟩
     | mapIter m _ _ _=>cases m <;> exact e3.elim
     | shut=>exact ⟨.shut,_,e1,World.putObj_heap_same hbs,trivial⟩
     | _=>exact e3.elim
    ·exact ⟨x,x',e1,by rw [World.putObj_heap_other hbb]; exact e2,e3⟩
   split at e
   ·next i' H2 ea =>
    cases e
    obtain ⟨ei,hbd,hn,hgt,horg,hfam⟩:=vC ea
    obtain ⟨h4,k4,hnone⟩:=h3.owed ea
    have hnx:H1.next=H.next:=K.next.trans (by unfold AH.adopt; split <;> rfl)
    have hji:j≠i:=fun e=>by subst e; rw [hnone] at hj; cases hj
    obtain ⟨o2,ej2,wn⟩:=K.worn j _ (by rw [g1]; exact hg)
    obtain ⟨c2,rfl,_⟩:=wn.cells
    have h5:=h4.claim_kin (i:=i) (b:=b) (s:=s+off) (ja:=j) (sa:=s) (r:=r) (o:=o) (p:=o+off) (cs:=old++new) (e:=elem) (js:=js)
     (o':=.cells (wN (s+off+len) new' c') e' fr) hnone (by omega) (by rw [hgt,if_pos rfl]) (World.putObj_heap_same hbs) (by
      refine ⟨fun k v hk=>?_,fun _=>oj.2 rfl⟩
      rw [wm]
      by_cases hkl:k < len
      ·rw [List.getElem?_append_left (by omega),p2 k hkl,zAG] at hk
       obtain ⟨u,hu,ru⟩:=oj.1 _ _ hk
       refine ⟨u,?_,ru⟩
       rw [if_neg (by omega),show s+off+k=s+(off+k) by omega]
       exact hu
      ·rw [List.getElem?_append_right (by omega),p1] at hk
       obtain ⟨u,hu,ru⟩:=hv.get _ _ hk
       have:k - len < new'.length:=(List.getElem?_eq_some_iff.1 hu).1
       refine ⟨u,?_,ru⟩
       rw [if_pos ⟨by omega,by omega,by omega⟩,show s+off+k - (s+off+len)=k - len by omega]
       exact hu) hB hj (by rw [hgt,if_neg hji]; exact ej2) (by rw [horg,K.org]; exact eo) (by rw [hfam,K.fam]; exact ef) (by omega) hel
    refine ⟨h5,?_,by omega⟩
    have k5:Kept ρ H ρ H2:=(k1.trans k2).trans k4
    refine ⟨Ren.le_put hnone (fun _ _ _ _ hb=>by rw [hb]),?_,fun m hm em=>?_⟩
    ·have:=k5.next; exact this
    ·obtain ⟨_,g⟩:=k5.left m hm em
     exact ⟨by rw [Ren.put_other _ _ _ (by omega)]; exact em,g⟩
   ·cases e
  ·cases e
 ·cases e
end Go.Am
namespace Go.Am
open Go.RowKit
inductive DR (ρ:Ren):Deferred→Deferred→Prop
 | fn {f:FuncId} {c c' a a':Array Value} (hc:VRs ρ c.toList c'.toList) (ha:VRs ρ a.toList a'.toList) :
    DR ρ { target:=.fn (.func f) c,args:=a } { target:=.fn (.func f) c',args:=a' }
 | collected {r r':Nat} (h:ρ r=some (r',0)):DR ρ { target:=.collected r,args:=#[] } { target:=.collected r',args:=#[] }
theorem DR.mono {ρ σ:Ren} (l:ρ.le σ) {d d':Deferred} (h:DR ρ d d'):DR σ d d':=by
 cases h with
 | fn hc ha=>exact .fn (hc.mono l) (ha.mono l)
 | collected h=>exact .collected (l.map _ _ h)
structure AR (ρ:Ren) (n:Nat) (a:AAct) (b:Act):Prop where
 tmps:TR ρ n a.tmps b.tmps
 defers:All2 (DR ρ) a.defers b.defers
 small:n≤zY
theorem AR.mono {ρ σ:Ren} (l:ρ.le σ) {n:Nat} {a:AAct} {b:Act} (h:AR ρ n a b):AR σ n a b:=⟨h.tmps.mono l,h.defers.mono fun _ _=>DR.mono l,h.small⟩
def Glob (tb:Tab) (ρ:Ren):Prop:=∀ g,tb.glob g=true→ρ g=some (g,0)
theorem Glob.mono {tb:Tab} {ρ σ:Ren} (l:ρ.le σ) (h:Glob tb ρ):Glob tb σ:=fun g e=>l.map _ _ (h g e)
theorem VR.flat {ρ:Ren} {v:Value} (h:flat v=true):VR ρ v v:=by
 unfold Am.flat at h
 split at h
 ·exact .bool _
 ·exact .int _ _
 ·exact .string _
 ·exact .nilPtr
 ·exact .nilSlice _ _
 ·exact .nilMap
 ·exact .nilFunc
 ·exact .nilIface
 ·cases h
theorem VRs.flat {ρ:Ren}:∀ {l:List Value},zBR l=true→VRs ρ l l
 | [],_=>.nil
 | v::l,h=>by
   unfold zBR at h
   cases hv:Am.flat v
   ·rw [hv] at h; cases h
   ·rw [hv] at h; exact .cons (.flat hv) (VRs.flat h)
theorem VR.const (ρ:Ren) (v:Value):VR ρ (constV v) v:=by
 have rest:∀ u,VR ρ (cond (Am.flat u) u undef) u:=fun u=>by
  cases hv:Am.flat u
  ·exact .dead _
  ·exact .flat hv
 cases v with
 | iface t v =>
   simp only [constV]
   cases hv:Am.flat v
   ·exact .dead _
   ·exact .iface _ (.flat hv)
 | agg cs =>
   simp only [constV]
   cases hv:zBR cs.toList
   ·exact .dead _
   ·exact VR.agg_of (VRs.flat hv)
 | bool b=>exact rest (.bool b)
 | int k x=>exact rest (.int k x)
 | float k x=>exact rest (.float k x)
 | complex k x y=>exact rest (.complex k x y)
 | string x=>exact rest (.string x)
 | pointer x=>exact rest (.pointer x)
 | slice x y z=>exact rest (.slice x y z)
 | map x=>exact rest (.map x)
 | chan x=>exact rest (.chan x)
 | func x y z=>exact rest (.func x y z)
 | nilFunc=>exact rest .nilFunc
 | nilIface=>exact rest .nilIface
 | tuple x=>exact rest (.tuple x)
theorem AR.val {tb:Tab} {ρ:Ren} {n:Nat} {a:AAct} {b:Act} (h:AR ρ n a b) (hg:Glob tb ρ) (x:Operand):VR ρ (a.val tb x) (b.eval x):=by
 cases x with
 | tmp t =>
   simp only [AAct.val,Act.eval]
   split
   ·next v e =>
    obtain ⟨v',e',r⟩:=h.tmps.get t v e
    rw [Array.getD_eq_getD_getElem?,e']
    exact r
   ·exact .dead _
 | const v=>exact VR.const ρ v
 | global g =>
   simp only [AAct.val,Act.eval]
   cases e:tb.glob g
   ·exact .dead _
   ·exact .ptr (s:=0) (off:=0) (hg g e)
 | func f=>exact .func rfl (fun i x=>by simp at x) rfl (fun i x=>by simp at x)
theorem TR.set {ρ:Ren} {n:Nat} {t:T Value} {b:Array Value} (h:TR ρ n t b) (hn:n≤zY) {d:Nat} {v v':Value} (hv:VR ρ v v') :
  TR ρ n (cond (Nat.blt d n) (t.set depth d v) t) (b.setIfInBounds d v'):=by
 refine ⟨by simpa using h.size,?_⟩
 cases hd:Nat.blt d n
 ·have:¬ d < n:=by intro h; rw [← Nat.blt_eq,hd] at h; cases h
  rw [cond_false,show b.setIfInBounds d v'=b by simp [Array.setIfInBounds,h.size,this]]
  exact h.get
 ·have hlt:d < n:=by simpa [Nat.blt_eq] using hd
  intro i u e
  rw [cond_true,T.get_set' _ _ _ (by omega)] at e
  split at e
  ·next hi=>cases e; subst hi; exact ⟨v',by simp [h.size,hlt],hv⟩
  ·next hi =>
   obtain ⟨u',e',r⟩:=h.get i u e
   exact ⟨u',by rw [Array.getElem?_setIfInBounds_ne (fun e=>hi e.symm)]; exact e',r⟩
theorem AR.put {ρ:Ren} {n:Nat} {a:AAct} {b:Act} (h:AR ρ n a b) (d:Option Tmp) {v v':Value} (hv:VR ρ v v'):AR ρ n (a.put n d v) (b.put d v'):=by
 cases d with
 | none=>exact h
 | some d=>exact ⟨h.tmps.set h.small hv,h.defers,h.small⟩
theorem AR.defer {ρ:Ren} {n:Nat} {a:AAct} {b:Act} (h:AR ρ n a b) {d d':Deferred} (hd:DR ρ d d'):AR ρ n (a.defer d) { b with defers:=d'::b.defers } :=
 ⟨h.tmps,.cons hd h.defers,h.small⟩
end Go.Am
namespace Go.Am
open Go.RowKit
structure TabOk (tb:Tab) (P:Program):Prop where
 info:∀ t i,tb.info t=some i→P.info? t=some i
 func:∀ f fn,tb.func f=some fn→P.funcs[f]?=some fn
 name : ∀ f fn, tb.func f = some fn → (fn.name == "runtime.NumGoroutine") = false
 eqs : ∀ t, tb.eqs t = true → P.stoodInHeld t = false ∧ ∀ fs, P.underlying t = some (.struct fs) → ∀ f ∈ fs.toList, f.name ≠ "_"
 mixed:P.follows .mixedOrders=true
 flds:∀ t fs,tb.under t=some (.struct fs)→∀ f∈fs.toList,∃ n,tb.size f.type=some n
section
variable {tb:Tab} {P:Program} (hT:TabOk tb P)
include hT
theorem run_typeInfo {t:TypeId} {i:TypeInfo} (h:tb.info t=some i) (w:World):(typeInfo t).run P w = .ok i w:=by
 have h':P.info? t=some i:=hT.info t i h
 show Sem.run P (do match (← program).info? t with | some i => pure i | none => stuck "no such type") w = _
 simp only [program,Sem.run_bind,Sem.run,Result.andThen]
 rw [h']
 rfl
theorem run_underlying {t:TypeId} {d:TypeDesc} (h:tb.under t=some d):P.underlying t=some d:=by
 unfold Tab.under at h
 unfold Program.underlying
 cases hi:tb.info t with
 | none=>rw [hi] at h; cases h
 | some i =>
   rw [hi] at h
   rw [hT.info t i hi]
   obtain ⟨desc,_⟩:=i
   cases desc <;> simp only [] at h ⊢ <;> first | exact h | skip
   rename_i n u
   cases hu:tb.info u with
   | none=>rw [hu] at h; cases h
   | some j=>rw [hu] at h; rw [hT.info u j hu]; exact h
theorem zF {t:TypeId} {d:TypeDesc} (h:tb.under t=some d) (w:World):(underlying t).run P w = .ok d w:=by
 have h':=run_underlying hT h
 show Sem.run P (do match (← program).underlying t with | some d => pure d | none => stuck "no such type") w = _
 simp only [program,Sem.run_bind,Sem.run,Result.andThen]
 rw [h']
 rfl
theorem run_size {t:TypeId} {n:Nat} (h:tb.size t=some n) (w:World):(sizeOf t).run P w = .ok n w:=by
 unfold Tab.size at h
 cases hi:tb.info t with
 | none=>rw [hi] at h; cases h
 | some i =>
   rw [hi] at h; cases h
   simp only [sizeOf,Sem.run_bind,run_typeInfo hT hi,Result.andThen]
   rfl
theorem zBX {t:TypeId} {v:Value} (h:xx tb t=some v) (w:World) (ρ:Ren):∃ z,(zeroValue t).run P w = .ok z w∧VR ρ v z:=by
 unfold xx at h
 cases hi:tb.info t with
 | none=>rw [hi] at h; cases h
 | some i =>
   rw [hi] at h
   simp only at h
   cases hz:i.zero with
   | none=>rw [hz] at h; cases h
   | some z =>
     rw [hz] at h; cases h
     refine ⟨z,?_,VR.const ρ z⟩
     simp only [zeroValue,Sem.run_bind,run_typeInfo hT hi,Result.andThen]
     rw [hz]
     rfl
theorem xq {t:TypeId} {b:Bool} (h:tb.isAgg t=some b) (w:World):(isAgg t).run P w = .ok b w:=by
 unfold Tab.isAgg at h
 cases hu:tb.under t with
 | none=>rw [hu] at h; cases h
 | some d =>
   rw [hu] at h
   simp only [isAgg,Sem.run_bind,zF hT hu,Result.andThen]
   cases d <;> first | (cases h; rfl) | skip
end
theorem SR.cell {tb:Tab} {B:Nat} {w₀:World} {ρ:Ren} {H:AH} {w:World} (h:SR tb B w₀ ρ H w) {i b s:Nat} (hi:ρ i=some (b,s)) {c:List Value} {e:TypeId} {ro:Bool} (hg:H.get i=some (.cells c e ro))
  {k:Nat} {v:Value} (hk:c[k]?=some v):∃ v',w.cell? ⟨b,s+k,none⟩=some v'∧VR ρ v v':=by
 obtain ⟨o,o',e1,e2,e3⟩:=h.obj i b s hi
 rw [hg] at e1; cases e1
 cases o' with
 | cells c' e' fr =>
   obtain ⟨v',hv,r⟩:=e3.1 k v hk
   exact ⟨v',by simp only [World.cell?,e2]; simpa using hv,r⟩
 | _=>exact e3.elim
theorem Addr.add_eq (b s n:Nat):Addr.add ⟨b,s,none⟩ n=⟨b,s+n,none⟩:=by
 unfold Addr.add
 split
 ·next h=>subst h; rfl
 ·rfl
theorem run_loadCellsFrom {P:Program} {w:World} (b o:Nat):∀ (n i:Nat) (acc:Array Value) (vs:List Value),vs.length=n→(∀ k v,vs[k]?=some v→w.cell? ⟨b,o+(i+k),none⟩=some v) →
  (loadCellsFrom ⟨b,o,none⟩ i n acc).run P w = .ok (acc++vs.toArray) w
 | 0,i,acc,vs,hl,_=>by
   have:vs=[]:=List.length_eq_zero_iff.1 hl
   subst this
   simp [loadCellsFrom]
 | n+1,i,acc,[],hl,_=>by simp at hl
 | n+1,i,acc,v::vs,hl,hc=>by
   have h0:=hc 0 v (by simp)
   unfold loadCellsFrom
   simp only [Sem.run_bind,load,Sem.run,Addr.add_eq]
   rw [show o+i=o+(i+0) by omega,h0]
   simp only [Result.andThen]
   rw [run_loadCellsFrom b o n (i+1) (acc.push v) vs (by simpa using hl) (fun k u hk=>by rw [show i+1+k=i+(k+1) by omega]; exact hc (k+1) u (by simpa using hk))]
   simp
theorem zAs {tb:Tab} {B:Nat} {w₀:World} {ρ:Ren} {H:AH} {w:World} (h:SR tb B w₀ ρ H w) {i off b s n:Nat} {cs:List Value} (hi:ρ i=some (b,s)) (e:H.load ⟨i,off,none⟩ n=some cs) :
  ∃ cs',VRs ρ cs cs'∧cs.length=n∧∀ k v,cs'[k]?=some v→w.cell? ⟨b,s+off+k,none⟩=some v:=by
 unfold AH.load at e
 simp only at e
 split at e
 ·next c el ro hg =>
  obtain ⟨h1,h2⟩:=vY _ _ _ e
  have each:∀ k,k < n→∃ v v',cs[k]?=some v∧w.cell? ⟨b,s+off+k,none⟩=some v'∧VR ρ v v':=by
   intro k hk
   have e1:cs[k]?=some cs[k]:=by simp [h1,hk]
   have e2:=(h2 k hk).symm.trans e1
   rw [zAG] at e2
   obtain ⟨v',e3,r⟩:=h.cell hi hg e2
   exact ⟨_,v',e1,by rw [show s+off+k=s+(off+k) by omega]; exact e3,r⟩
  refine ⟨(List.range n).map fun k=>(w.cell? ⟨b,s+off+k,none⟩).getD undef,All2.of_get (by simp [h1]) (fun k hk hk'=>?_),h1,fun k v hk=>?_⟩
  ·obtain ⟨v,v',e1,e2,r⟩:=each k (by omega)
   have:cs[k]=v:=by simpa [hk] using e1
   simp only [List.getElem_map,List.getElem_range,e2,Option.getD_some,this]
   exact r
  ·simp only [List.getElem?_map,Option.map_eq_some_iff] at hk
   obtain ⟨j,hj,rfl⟩:=hk
   have hjk:k < n∧j=k:=by
    have:=List.getElem?_eq_some_iff.1 hj
    obtain ⟨hl,hh⟩:=this
    simp at hl hh
    exact ⟨hl,hh.symm⟩
   obtain ⟨hkn,rfl⟩:=hjk
   obtain ⟨v,v',e1,e2,r⟩:=each j hkn
   rw [e2]; rfl
 ·cases e
theorem zAf {tb:Tab} {P:Program} (hT:TabOk tb P) {B:Nat} {w₀:World} {ρ:Ren} {H:AH} {w:World} (h:SR tb B w₀ ρ H w) {t:TypeId} {i off b s:Nat} {v:Value} (hi:ρ i=some (b,s))
  (e:loadVar tb H t ⟨i,off,none⟩=some v):∃ v',(Go.loadVar t ⟨b,s+off,none⟩).run P w = .ok v' w∧VR ρ v v':=by
 unfold loadVar at e
 split at e
 ·next n ha hs =>
  split at e
  ·next cs hl =>
   cases e
   obtain ⟨cs',r,hn,hc⟩:=zAs h hi hl
   refine ⟨.agg cs'.toArray,?_,VR.agg_of (by simpa using r)⟩
   simp only [Go.loadVar,Sem.run_bind,xq hT ha,run_size hT hs,Result.andThen,if_true,loadCells]
   rw [run_loadCellsFrom b (s+off) n 0 #[] cs' (by rw [← r.length,hn]) (fun k v hk=>by rw [Nat.zero_add]; exact hc k v hk)]
   simp [Sem.run_pure]
  ·cases e
 ·next x ha =>
  split at e
  ·next u hl =>
   cases e
   obtain ⟨cs',r,hn,hc⟩:=zAs h hi hl
   cases r with
   | cons r1 r2 =>
     cases r2
     rename_i u'
     refine ⟨u',?_,r1⟩
     simp only [Go.loadVar,Sem.run_bind,xq hT ha,Result.andThen,Bool.false_eq_true,if_false,Go.load,Sem.run]
     have:=hc 0 u' (by simp)
     rw [Nat.add_zero] at this
     rw [this]
  ·cases e
 ·cases e
theorem isCell_of {ρ:Ren} {v v':Value} (h:VR ρ v v') (hc:isCell v=true):isCell v'=true:=by
 cases h <;> first | rfl | (simp [isCell] at hc)
theorem zAt {ρ:Ren}:∀ {l l':List Value},VRs ρ l l'→yo l=true→∀ v∈l',isCell v=true
 | _,_,.nil,_,_,hm=>by cases hm
 | _,_,.cons (a:=a) r rs,h,v,hm=>by
   unfold yo at h
   cases hv:isCell a
   ·rw [hv] at h; cases h
   ·rw [hv] at h
    cases hm with
    | head=>exact isCell_of r hv
    | tail _ hm=>exact zAt rs h v hm
theorem zD8 {w:World} {b k:Nat} {c:Array Value} {e:TypeId} {fr:Nat×Nat} {v:Value} (hw:w.heap[b]?=some (.cells c e fr)) :
  w.setCell ⟨b,k,none⟩ v=w.putObj b (.cells (c.setIfInBounds k v) e fr):=by
 unfold World.setCell World.putObj
 congr 1
 apply Array.ext_getElem?
 intro j
 rw [Array.getElem?_modify]
 by_cases hj:b=j
 ·subst hj
  have hb:b < w.heap.size:=(Array.getElem?_eq_some_iff.1 hw).1
  rw [if_pos rfl,hw,Array.getElem?_setIfInBounds_self_of_lt hb]
  rfl
 ·rw [if_neg hj,Array.getElem?_setIfInBounds_ne hj]
theorem putObj_putObj {w:World} {b:Nat} {o o':Obj}:(w.putObj b o).putObj b o'=w.putObj b o':=by
 unfold World.putObj
 congr 1
 apply Array.ext_getElem?
 intro j
 by_cases hj:b=j
 ·subst hj
  by_cases hb:b < w.heap.size
  ·rw [Array.getElem?_setIfInBounds_self_of_lt (by simpa using hb),Array.getElem?_setIfInBounds_self_of_lt hb]
  ·simp [hb]
 ·rw [Array.getElem?_setIfInBounds_ne hj,Array.getElem?_setIfInBounds_ne hj,Array.getElem?_setIfInBounds_ne hj]
theorem kM {w:World} {b:Nat} {o:Obj} (hw:w.heap[b]?=some o):w.putObj b o=w:=by
 unfold World.putObj
 have:w.heap.setIfInBounds b o=w.heap:=by
  apply Array.ext_getElem?
  intro j
  by_cases hj:b=j
  ·subst hj
   rw [Array.getElem?_setIfInBounds_self_of_lt (Array.getElem?_eq_some_iff.1 hw).1,hw]
  ·rw [Array.getElem?_setIfInBounds_ne hj]
 rw [this]
theorem xD {P:Program} {b o:Nat} {e:TypeId}:∀ (vs:List Value) (i:Nat) (w:World) (c:Array Value),w.heap[b]?=some (.cells c e (0,0))→(∀ v∈vs,isCell v=true)→o+i+vs.length≤c.size →
  (storeCells ⟨b,o,none⟩ vs i).run P w = .ok () (w.putObj b (.cells (wN (o+i) vs c) e (0,0)))
 | [],i,w,c,hw,_,_=>by
   simp only [storeCells,wN,kM hw]
   rfl
 | v::vs,i,w,c,hw,hv,hl=>by
   have hb:b < w.heap.size:=(Array.getElem?_eq_some_iff.1 hw).1
   have hsz:o+i < c.size:=by simp at hl; omega
   have hcell:w.cell? ⟨b,o+i,none⟩=some c[o+i]:=by simp [World.cell?,hw,hsz]
   have hfr:w.frozen? ⟨b,o+i,none⟩=false:=by simp [World.frozen?,hw]
   have hcv:=hv v (by simp)
   have hone:(Go.store ((⟨b,o,none⟩:Addr).add i) v).run P w = .ok () (w.putObj b (.cells (c.setIfInBounds (o+i) v) e (0,0))):=by
    rw [Addr.add_eq]
    rw [← zD8 hw]
    unfold Go.store
    cases v <;> first | (simp [isCell] at hcv; done) | (simp only [Sem.run,hcell,hfr]; rfl)
   simp only [storeCells,Sem.run_bind,hone,Result.andThen]
   rw [xD vs (i+1) _ (c.setIfInBounds (o+i) v) (World.putObj_heap_same hb) (fun u hu=>hv u (by simp [hu])) (by simp at hl ⊢; omega)]
   rw [putObj_putObj]
   simp only [wN,Nat.add_assoc]
end Go.Am
namespace Go.Am
open Go.RowKit
theorem cells_of {ρ:Ren} {v v':Value} (h:VR ρ v v') (hc:yo (cellsOf v)=true):VRs ρ (cellsOf v) v'.cells.toList:=by
 have hh:=h
 cases h with
 | agg ha k=>exact VRs.of_array ha k
 | dead=>simp [cellsOf,yo,isCell] at hc
 | skip=>simp [cellsOf,yo,isCell] at hc
 | tuple=>simp [cellsOf,yo,isCell] at hc
 | _=>exact .cons hh .nil
theorem uL {H H':AH} {i off:Nat} {vs:List Value} (e:H.store ⟨i,off,none⟩ vs=some H') :
  ∃ c el cl,H.get i=some (.cells c el false)∧lay off vs c=some cl∧yo vs=true∧H'=(H.put i (.cells cl el false)).killFam i off vs.length:=by
 unfold AH.store at e
 simp only at e
 split at e
 ·next c el hg =>
  split at e
  ·next cl hl =>
   cases ha:yo vs
   ·rw [ha] at e; cases e
   ·rw [ha] at e; cases e
    exact ⟨c,el,cl,hg,hl,rfl,rfl⟩
  ·cases e
 ·cases e
theorem zCx {P:Program} {tb:Tab} {B:Nat} {w₀:World} {ρ:Ren} {H:AH} {w:World} (h:SR tb B w₀ ρ H w) {i off b s:Nat} {vs vs':List Value} {H':AH} (hi:ρ i=some (b,s))
  (e:H.store ⟨i,off,none⟩ vs=some H') (hv:VRs ρ vs vs') :
  ∃ w',(storeCells ⟨b,s+off,none⟩ vs').run P w = .ok () w'∧SR tb B w₀ ρ H' w'∧Kept ρ H ρ H':=by
 obtain ⟨c,el,cl,hg,hl,ha,rfl⟩:=uL e
 obtain ⟨o,o',e1,e2,e3⟩:=h.obj i b s hi
 rw [hg] at e1; cases e1
 cases o' with
 | cells c' e' fr =>
   obtain rfl:fr=(0,0):=e3.2 rfl
   obtain ⟨hs,hk⟩:=h.store hi hg hl hv e2
   have hlen:=hv.length
   by_cases hn:vs=[]
   ·subst hn
    cases hv
    refine ⟨w,rfl,?_,hk⟩
    have:wN (s+off) [] c'=c':=rfl
    rw [this,kM e2] at hs
    exact hs
   ·refine ⟨_,?_,hs,hk⟩
    have hb:=(zAF off vs c cl hl).2.1 hn
    have hlast:∃ v,c[off+vs.length - 1]?=some v:=by
     have:0 < vs.length:=List.length_pos_iff.2 hn
     exact ⟨c[off+vs.length - 1],by simp⟩
    obtain ⟨v,hv1⟩:=hlast
    obtain ⟨v',hv2,_⟩:=e3.1 _ _ hv1
    have hsz:=(Array.getElem?_eq_some_iff.1 hv2).1
    have:=xD (P:=P) (b:=b) (o:=s+off) vs' 0 w c' e2 (zAt hv ha) (by
     have:0 < vs.length:=List.length_pos_iff.2 hn
     omega)
    rw [Nat.add_zero] at this
    exact this
 | _=>exact e3.elim
theorem zD9 {tb:Tab} {P:Program} (hT:TabOk tb P) {B:Nat} {w₀:World} {ρ:Ren} {H:AH} {w:World} (h:SR tb B w₀ ρ H w) {t:TypeId} {i off b s:Nat} {v v':Value} {H':AH} (hi:ρ i=some (b,s))
  (e:storeVar tb H t ⟨i,off,none⟩ v=some H') (hv:VR ρ v v') :
  ∃ w',(Go.storeVar t ⟨b,s+off,none⟩ v').run P w = .ok () w'∧SR tb B w₀ ρ H' w'∧Kept ρ H ρ H':=by
 unfold storeVar at e
 split at e
 ·next n hs =>
  cases hl:Nat.beq (cellsOf v).length n
  ·rw [hl] at e; cases e
  ·rw [hl] at e
   have hn:(cellsOf v).length=n:=Nat.eq_of_beq_eq_true hl
   obtain ⟨_,_,_,_,_,ha,_⟩:=uL e
   have hc:=cells_of hv ha
   obtain ⟨w',r,s1,k⟩:=zCx (P:=P) h hi e hc
   refine ⟨w',?_,s1,k⟩
   have hsz:v'.cells.size=n:=by rw [← hn,hc.length]; simp
   simp only [Go.storeVar,Sem.run_bind,run_size hT hs,Result.andThen]
   rw [if_neg (by simp [hsz])]
   exact r
 ·cases e
theorem zDd {tb:Tab} {P:Program} (hT:TabOk tb P) {t:TypeId} {c:List Value} (h:zeroCells tb t=some c) (w:World) (ρ:Ren) :
  ∃ z,(zeroValue t).run P w = .ok z w∧VRs ρ c z.cells.toList∧yo c=true:=by
 unfold zeroCells at h
 cases hz:xx tb t with
 | none=>rw [hz] at h; cases h
 | some v =>
   rw [hz] at h
   simp only at h
   cases ha:yo (cellsOf v)
   ·rw [ha] at h; cases h
   ·rw [ha] at h; cases h
    obtain ⟨z,r,hv⟩:=zBX hT hz w ρ
    exact ⟨z,r,cells_of hv ha,ha⟩
theorem size_of_info {tb:Tab} {t:TypeId} {v:Value} (h:xx tb t=some v):∃ n,tb.size t=some n:=by
 unfold xx at h
 unfold Tab.size
 cases hi:tb.info t with
 | none=>rw [hi] at h; cases h
 | some i=>exact ⟨_,rfl⟩
theorem size_of_cells {tb:Tab} {t:TypeId} {c:List Value} (h:zeroCells tb t=some c):∃ n,tb.size t=some n:=by
 unfold zeroCells at h
 cases hz:xx tb t with
 | none=>rw [hz] at h; cases h
 | some v=>exact size_of_info hz
theorem OR.row {ρ:Ren} {c c':List Value} (h:VRs ρ c c') (e e':TypeId):OR ρ (.cells c e false) 0 (.cells c'.toArray e'):=by
 refine ⟨fun k v hk=>?_,fun _=>rfl⟩
 obtain ⟨v',e1,r⟩:=h.get k v hk
 exact ⟨v',by simpa using e1,r⟩
theorem xd {P:Program} (e:TypeId) (c:Array Value) (w:World):(newRow e c).run P w = .ok ⟨w.heap.size,0,none⟩ (w.alloc (.cells c e)):=rfl
theorem uU {P:Program} (t:TypeId) (v:Value) (w:World):(newVar t v).run P w = .ok ⟨w.heap.size,0,none⟩ (w.alloc (.cells v.cells t)):=rfl
end Go.Am
namespace Go.Am
open Go.RowKit
theorem SR.claim {tb:Tab} {B:Nat} {w₀:World} {ρ:Ren} {H:AH} {w:World} (h:SR tb B w₀ ρ H w) {o:AObj} {o':Obj} {i:Nat} {r:Nat×Nat} (hn:ρ i=none) (hi:i < H.next) (hg:H.get i=some o)
  (ho:OR ρ o 0 o') (hr:∀ c e fr,o' = .cells c e fr→c.size=r.1) (he:∀ c e ro,o = .cells c e ro→tb.size e=some r.2) :
  SR tb B w₀ (ρ.put i (w.heap.size,0) r) H (w.alloc o')∧ρ.le (ρ.put i (w.heap.size,0) r):=by
 have hlt:∀ j b s,ρ j=some (b,s)→b < w.heap.size:=fun j b s e=>h.block e
 have hle:ρ.le (ρ.put i (w.heap.size,0) r):=Ren.le_put hn (fun j b s e hb=>absurd (hlt j b s e) (by simp at hb; omega))
 have rowold:∀ j b s,ρ j=some (b,s)→(ρ.put i (w.heap.size,0) r).row b=ρ.row b:=fun j b s e=>hle.row j b s e
 have rownew:(ρ.put i (w.heap.size,0) r).row w.heap.size=r:=by rw [Ren.put_row,if_pos rfl]
 have cases':∀ j b s,ρ.put i (w.heap.size,0) r j=some (b,s)→(j=i∧b=w.heap.size∧s=0)∨(j≠i∧ρ j=some (b,s)):=fun j b s e=>by
  rw [Ren.put_map] at e
  split at e
  ·next hj=>cases e; exact .inl ⟨hj,rfl,rfl⟩
  ·next hj=>exact .inr ⟨hj,e⟩
 refine ⟨⟨h.below.alloc h.room o',by simpa using Nat.le_succ_of_le h.room,?_,?_,?_,?_,?_,h.home,fun r js e=>by obtain ⟨x,ex⟩:=h.root r js e; exact ⟨x,hle.map _ _ ex⟩,?_,?_,h.bnd⟩,hle⟩
 ·intro j b s e
  rcases cases' j b s e with ⟨rfl,rfl,rfl⟩ | ⟨_,e⟩
  ·exact ⟨o,o',hg,World.alloc_heap_new w o',ho.mono hle⟩
  ·obtain ⟨x,x',e1,e2,e3⟩:=h.obj j b s e
   exact ⟨x,x',e1,by rw [Below.heap_alloc _ _ _ (hlt j b s e)]; exact e2,e3.mono hle⟩
 ·intro j hj
  rw [Ren.put_other _ _ _ (by omega)]
  exact h.fresh j hj
 ·intro j b s e hB
  rcases cases' j b s e with ⟨rfl,rfl,rfl⟩ | ⟨_,e⟩
  ·exact absurd h.room (by omega)
  ·exact h.low j b s e hB
 ·intro j k b s t ej ek hjk
  rcases cases' j b s ej with ⟨h1,h2,h3⟩ | ⟨hj,ej'⟩
  ·rcases cases' k _ t ek with ⟨h4,_,_⟩ | ⟨hk,ek'⟩
   ·exact absurd (h1.trans h4.symm) hjk
   ·exact absurd (hlt _ _ _ ek') (by omega)
  ·rcases cases' k _ t ek with ⟨h4,h5,_⟩ | ⟨hk,ek'⟩
   ·exact absurd (hlt _ _ _ ej') (by omega)
   ·exact h.kin j k b s t ej' ek' hjk
 ·intro r js e j hj
  obtain ⟨x,ex⟩:=h.fam r js e j hj
  exact ⟨x,hle.map _ _ ex⟩
 ·intro j b s e c el fr hc
  rcases cases' j b s e with ⟨rfl,rfl,rfl⟩ | ⟨_,e⟩
  ·rw [rownew]
   rw [World.alloc_heap_new w o'] at hc
   exact hr c el fr (Option.some.inj hc)
  ·rw [rowold j b s e]
   rw [Below.heap_alloc _ _ _ (hlt j b s e)] at hc
   exact h.rows j b s e c el fr hc
 ·intro j b s e c el ro hc
  rcases cases' j b s e with ⟨rfl,rfl,rfl⟩ | ⟨_,e⟩
  ·rw [rownew]
   rw [hg] at hc
   exact he c el ro (Option.some.inj hc)
  ·rw [rowold j b s e]
   exact h.elem j b s e c el ro hc
theorem SR.turn {tb:Tab} {B:Nat} {w₀:World} {ρ:Ren} {H:AH} {w:World} (h:SR tb B w₀ ρ H w) {i b s:Nat} {o o1:AObj} {o1':Obj} (hi:ρ i=some (b,s)) (hg:H.get i=some o)
  (hno:∀ c e ro,o≠.cells c e ro) (hno1:∀ c e ro,o1≠.cells c e ro) (hno':∀ c e fr,o1'≠.cells c e fr) (ho:OR ρ o1 s o1') :
  SR tb B w₀ ρ (H.put i o1) (w.putObj b o1')∧Kept ρ H ρ (H.put i o1):=by
 have hib:=h.claimed hi
 have hbs:=h.block hi
 have hg':∀ j,(H.put i o1).get j=if j=i then some o1 else H.get j:=fun j=>xM hib
 have hB:B≤b:=by
  rcases Nat.lt_or_ge b B with hlt | hge
  ·obtain ⟨c,e,e1⟩:=h.low i b s hi hlt
   rw [hg] at e1
   exact absurd (Option.some.inj e1) (hno c e true)
  ·exact hge
 have alone:∀ j t,ρ j=some (b,t)→j=i:=fun j t ej=>by
  rcases Nat.decEq j i with hne | he
  ·obtain ⟨_,c,e,e1⟩:=h.kin i j b s t hi ej (fun e=>hne e.symm)
   rw [hg] at e1
   exact absurd (Option.some.inj e1) (hno c e false)
  ·exact he
 refine ⟨⟨Am.Below.putObj h.below hB _,by simpa using h.room,?_,h.fresh,?_,?_,h.fam,h.home,h.root,?_,?_,h.bnd⟩,⟨ρ.le_refl,Nat.le_refl _,fun j hj e=>⟨e,?_⟩⟩⟩
 ·intro j b' t e
  by_cases hji:j=i
  ·subst hji
   rw [hi] at e; cases e
   exact ⟨o1,o1',by rw [hg',if_pos rfl],World.putObj_heap_same hbs,ho⟩
  ·obtain ⟨x,x',e1,e2,e3⟩:=h.obj j b' t e
   have hbb:b'≠b:=fun hb=>by subst hb; exact hji (alone j t e)
   exact ⟨x,x',by rw [hg',if_neg hji]; exact e1,by rw [World.putObj_heap_other hbb]; exact e2,e3⟩
 ·intro j b' t e hlt
  by_cases hji:j=i
  ·subst hji
   rw [hi] at e; cases e
   omega
  ·obtain ⟨c,el,e1⟩:=h.low j b' t e hlt
   exact ⟨c,el,by rw [hg',if_neg hji]; exact e1⟩
 ·intro j k b' t u ej ek hjk
  obtain ⟨h1,c,el,e1⟩:=h.kin j k b' t u ej ek hjk
  refine ⟨h1,c,el,?_⟩
  rw [hg']
  split
  ·next hji =>
   subst hji
   rw [hg] at e1
   exact absurd (Option.some.inj e1) (hno _ _ _)
  ·exact e1
 ·intro j b' t e c el fr hc
  by_cases hbb:b'=b
  ·subst hbb
   rw [World.putObj_heap_same hbs] at hc
   exact absurd (Option.some.inj hc) (hno' _ _ _)
  ·rw [World.putObj_heap_other hbb] at hc
   exact h.rows j b' t e c el fr hc
 ·intro j b' t e c el ro hc
  rw [hg'] at hc
  split at hc
  ·exact absurd (Option.some.inj hc) (hno1 _ _ _)
  ·exact h.elem j b' t e c el ro hc
 ·rw [hg',if_neg (fun hji=>by subst hji; rw [hi] at e; cases e)]
theorem SR.later {tb:Tab} {B:Nat} {w₀:World} {ρ:Ren} {H:AH} {w w':World} (h:SR tb B w₀ ρ H w) (hb:Below w.heap.size w w'):SR tb B w₀ ρ H w':=by
 have old:∀ j b s,ρ j=some (b,s)→w'.heap[b]?=w.heap[b]?:=fun j b s e=>hb.block b (h.block e)
 refine ⟨h.below.trans (hb.mono h.room),Nat.le_trans h.room hb.size,fun j b s e=>?_,h.fresh,h.low,h.kin,h.fam,h.home,h.root,fun j b s e c el fr hc=>?_,h.elem,h.bnd⟩
 ·obtain ⟨x,x',e1,e2,e3⟩:=h.obj j b s e
  exact ⟨x,x',e1,by rw [old j b s e]; exact e2,e3⟩
 ·rw [old j b s e] at hc
  exact h.rows j b s e c el fr hc
theorem vZ {ρ:Ren} {v v':Value} (h:VR ρ v v') (hc:solid v=true):VRs ρ (cellsOf v) v'.cells.toList:=by
 have hh:=h
 cases h with
 | agg ha k=>exact VRs.of_array ha k
 | dead=>simp [solid] at hc
 | skip=>simp [solid] at hc
 | tuple=>simp [solid] at hc
 | _=>exact .cons hh .nil
theorem solid_of {v:Value} (h:yo (cellsOf v)=true):solid v=true:=by
 cases v <;> first | rfl | (simp [cellsOf,yo,isCell] at h)
end Go.Am
namespace Go.Am
open Go.RowKit
def NR (P:Program) (ρ:Ren) (nx:ANext) (res:Result Next) (w:World):Prop :=
 match nx with
 | .value v=>∃ v',res = .ok (.value v') w∧VR ρ v v'
 | .skip=>res = .ok .skip w
 | .enter f args=>∃ args':Array Value,VRs ρ args args'.toList∧res=(callFunc f args').run P w
 | .round l args=>∃ l' args',ρ l=some (l',0)∧VRs ρ args args'.toList∧res=(Instr.yield l' args').run P w
 | .defer d=>∃ d',res = .ok (.defer d') w∧DR ρ d d'
 | .recover=>res = .ok .recover w
def OpOK (tb:Tab) (P:Program) (B:Nat) (w₀:World) (ρ:Ren) (H:AH) (w:World) (r:Sem Next) (nx:ANext) (H':AH):Prop :=
 ∃ ρ' w',Kept ρ H ρ' H'∧SR tb B w₀ ρ' H' w'∧NR P ρ' nx (r.run P w) w'
section
variable {tb:Tab} {P:Program} {B:Nat} {w₀:World} {ρ:Ren} {H:AH} {w:World}
theorem OpOK.pure (h:SR tb B w₀ ρ H w) {r:Sem Next} {v v':Value} (e:r.run P w = .ok (.value v') w) (hv:VR ρ v v'):OpOK tb P B w₀ ρ H w r (.value v) H :=
 ⟨ρ,w,.refl _ _,h,v',e,hv⟩
theorem VR.bool_inv {b:Bool} {v':Value} (h:VR ρ (.bool b) v'):v' = .bool b:=by cases h; rfl
theorem VR.int_inv {k:IntKind} {n:Int} {v':Value} (h:VR ρ (.int k n) v'):v' = .int k n:=by cases h; rfl
theorem VR.string_inv {s:ByteArray} {v':Value} (h:VR ρ (.string s) v'):v' = .string s:=by cases h; rfl
theorem VR.ptr_inv {a:Addr} {v':Value} (h:VR ρ (.pointer (some a)) v'):∃ i off b s,a=⟨i,off,none⟩∧ρ i=some (b,s)∧v' = .pointer (some ⟨b,s+off,none⟩):=by
 cases h with
 | ptr h=>exact ⟨_,_,_,_,rfl,h,rfl⟩
variable {va vb:Operand→Value} {o:Oper} {nx:ANext} {H':AH}
theorem op_load (hT:TabOk tb P) (h:SR tb B w₀ ρ H w) (hv:∀ x,VR ρ (va x) (vb x)) {t:TypeId} {a:Operand} (ho:o.op = .load t a) (e:yH tb va o H=some (nx,H')) :
  OpOK tb P B w₀ ρ H w (execOp vb o) nx H':=by
 simp only [yH,ho] at e
 split at e
 ·next ad ha =>
  have hp:=hv a
  rw [ha] at hp
  obtain ⟨i,off,b,s,rfl,hi,hb⟩:=hp.ptr_inv
  cases hl:loadVar tb H t ⟨i,off,none⟩ with
  | none=>rw [hl] at e; cases e
  | some v =>
    rw [hl] at e
    simp only [one,Option.some.injEq,Prod.mk.injEq] at e
    obtain ⟨rfl,rfl⟩:=e
    obtain ⟨v',r,hr⟩:=zAf (P:=P) hT h hi hl
    refine OpOK.pure h ?_ hr
    simp only [execOp,ho,hb,Instr.loadAt,Instr.sureAddr,Sem.run_bind,Sem.run_pure,Result.andThen,r]
 ·cases e
theorem op_store (hT:TabOk tb P) (h:SR tb B w₀ ρ H w) (hv:∀ x,VR ρ (va x) (vb x)) {t:TypeId} {a x:Operand} (ho:o.op = .store t a x) (e:yH tb va o H=some (nx,H')) :
  OpOK tb P B w₀ ρ H w (execOp vb o) nx H':=by
 simp only [yH,ho] at e
 split at e
 ·next ad ha =>
  have hp:=hv a
  rw [ha] at hp
  obtain ⟨i,off,b,s,rfl,hi,hb⟩:=hp.ptr_inv
  cases hl:storeVar tb H t ⟨i,off,none⟩ (va x) with
  | none=>rw [hl] at e; cases e
  | some H2 =>
    rw [hl] at e
    simp only [Option.some.injEq,Prod.mk.injEq] at e
    obtain ⟨rfl,rfl⟩:=e
    obtain ⟨w',r,h1,k1⟩:=zD9 (P:=P) hT h hi hl (hv x)
    refine ⟨ρ,w',k1,h1,?_⟩
    simp only [NR,execOp,ho,hb,Instr.storeAt,Instr.sureAddr,Sem.run_bind,Sem.run_pure,Result.andThen,r]
 ·cases e
theorem op_move (h:SR tb B w₀ ρ H w) (hv:∀ x,VR ρ (va x) (vb x)) {x:Operand} (ho:o.op = .move x∨o.op = .assign x) (e:yH tb va o H=some (nx,H')) :
  OpOK tb P B w₀ ρ H w (execOp vb o) nx H':=by
 rcases ho with ho | ho <;>
 ·simp only [yH,ho,Option.some.injEq,Prod.mk.injEq] at e
  obtain ⟨rfl,rfl⟩:=e
  refine OpOK.pure h ?_ (hv x)
  simp only [execOp,ho,Sem.run_pure]
theorem op_pick (h:SR tb B w₀ ρ H w) (hv:∀ x,VR ρ (va x) (vb x)) {c x y:Operand} (ho:o.op = .pick c x y) (e:yH tb va o H=some (nx,H')) :
  OpOK tb P B w₀ ρ H w (execOp vb o) nx H':=by
 have hc:=hv c
 simp only [yH,ho] at e
 split at e
 ·next hb =>
  rw [hb] at hc
  simp only [Option.some.injEq,Prod.mk.injEq] at e
  obtain ⟨rfl,rfl⟩:=e
  refine OpOK.pure h ?_ (hv x)
  simp only [execOp,ho,hc.bool_inv,asBool,Sem.run_bind,Sem.run_pure,Result.andThen,if_true]
 ·next hb =>
  rw [hb] at hc
  simp only [Option.some.injEq,Prod.mk.injEq] at e
  obtain ⟨rfl,rfl⟩:=e
  refine OpOK.pure h ?_ (hv y)
  simp only [execOp,ho,hc.bool_inv,asBool,Sem.run_bind,Sem.run_pure,Result.andThen,Bool.false_eq_true,if_false]
 ·cases e
theorem op_extract (h:SR tb B w₀ ρ H w) (hv:∀ x,VR ρ (va x) (vb x)) {x:Operand} {k:Nat} (ho:o.op = .extract x k) (e:yH tb va o H=some (nx,H')) :
  OpOK tb P B w₀ ρ H w (execOp vb o) nx H':=by
 have hx:=hv x
 simp only [yH,ho] at e
 split at e
 ·next vs hvs =>
  rw [hvs] at hx
  split at e
  ·next v hk =>
   simp only [Option.some.injEq,Prod.mk.injEq] at e
   obtain ⟨rfl,rfl⟩:=e
   generalize hb:vb x=u at hx
   cases hx with
   | dead=>simp at hk
   | tuple ha hr =>
     next a' =>
     obtain ⟨hlt,rfl⟩:=Array.getElem?_eq_some_iff.1 hk
     have hlt':k < a'.size:=by omega
     refine OpOK.pure h (v':=a'[k]) ?_ (hr k hlt hlt')
     simp only [execOp,ho,Instr.extract,hb,Sem.run_bind]
     rw [Array.getElem?_eq_getElem hlt']
     rfl
  ·cases e
 ·cases e
theorem qd (i off n:Nat):vw ⟨i,off,none⟩ n=⟨i,off+n,none⟩:=by
 unfold vw
 cases hn:Nat.beq n 0
 ·rfl
 ·have:n=0:=Nat.eq_of_beq_eq_true hn
  subst this; rfl
theorem VR.place {i off b s:Nat} (h:ρ i=some (b,s)) (n:Nat):VR ρ (.pointer (some (vw ⟨i,off,none⟩ n))) (.pointer (some (Addr.add ⟨b,s+off,none⟩ n))):=by
 rw [qd,Addr.add_eq,Nat.add_assoc]
 exact .ptr h
theorem op_fieldAddr (hT:TabOk tb P) (h:SR tb B w₀ ρ H w) (hv:∀ x,VR ρ (va x) (vb x)) {t:TypeId} {x:Operand} {f:Nat} (ho:o.op = .fieldAddr t x f) (e:yH tb va o H=some (nx,H')) :
  OpOK tb P B w₀ ρ H w (execOp vb o) nx H':=by
 have hx:=hv x
 simp only [yH,ho] at e
 split at e
 ·next fs a hu ha =>
  rw [ha] at hx
  obtain ⟨i,off,b,s,rfl,hi,hb⟩:=hx.ptr_inv
  split at e
  ·next fd hf =>
   split at e
   ·cases e
   ·next n hsz hne =>
    simp only [Option.some.injEq,Prod.mk.injEq] at e
    obtain ⟨rfl,rfl⟩:=e
    refine OpOK.pure h ?_ (VR.place hi fd.offset)
    simp only [execOp,ho,hb,Instr.fieldAt,Instr.sureAddr,fieldPlace,Sem.run_bind,Sem.run_pure,Result.andThen,zF hT hu,hf,run_size hT hne]
    rw [if_neg (by intro h0; exact hsz (by simpa using h0))]
    rfl
   ·cases e
  ·cases e
 ·cases e
theorem op_nilCheck (h:SR tb B w₀ ρ H w) (hv:∀ x,VR ρ (va x) (vb x)) {x:Operand} (ho:o.op = .nilCheck x) (e:yH tb va o H=some (nx,H')) :
  OpOK tb P B w₀ ρ H w (execOp vb o) nx H':=by
 have hx:=hv x
 simp only [yH,ho] at e
 split at e
 ·next a ha =>
  rw [ha] at hx
  obtain ⟨i,off,b,s,rfl,hi,hb⟩:=hx.ptr_inv
  simp only [Option.some.injEq,Prod.mk.injEq] at e
  obtain ⟨rfl,rfl⟩:=e
  refine OpOK.pure h (v':=vb x) ?_ (hb ▸ hx)
  simp only [execOp,ho,hb,Sem.run_pure]
 ·next g a c ha =>
  rw [ha] at hx
  simp only [Option.some.injEq,Prod.mk.injEq] at e
  obtain ⟨rfl,rfl⟩:=e
  refine OpOK.pure h (v':=vb x) ?_ hx
  generalize hb:vb x=u at hx ⊢
  cases hx <;> simp only [execOp,ho,hb,Sem.run_pure]
 ·cases e
theorem op_not (h:SR tb B w₀ ρ H w) (hv:∀ x,VR ρ (va x) (vb x)) {u:UnOp} {t:TypeId} {x:Operand} (hu:u = .not) (ho:o.op = .unOp u t x) (e:yH tb va o H=some (nx,H')) :
  OpOK tb P B w₀ ρ H w (execOp vb o) nx H':=by
 subst hu
 have hx:=hv x
 simp only [yH,ho] at e
 split at e
 ·next b hq ha =>
  rw [ha] at hx
  simp only [Option.some.injEq,Prod.mk.injEq] at e
  obtain ⟨rfl,rfl⟩:=e
  refine OpOK.pure h ?_ (.bool _)
  simp only [execOp,ho,hx.bool_inv,Op.unary,Sem.run_bind,Sem.run_pure,Result.andThen]
 ·next hq _=>cases hq
 ·cases e
theorem zCM (hT:TabOk tb P) (h:SR tb B w₀ ρ H w) (hv:∀ x,VR ρ (va x) (vb x)) {t:TypeId} {x:Operand} (ho:o.op = .makeInterface t x) (e:yH tb va o H=some (nx,H')) :
  OpOK tb P B w₀ ρ H w (execOp vb o) nx H':=by
 simp only [yH,ho] at e
 split at e
 ·cases e
 ·next d hu hne =>
  simp only [Option.some.injEq,Prod.mk.injEq] at e
  obtain ⟨rfl,rfl⟩:=e
  refine OpOK.pure h ?_ (.iface t (hv x))
  simp only [execOp,ho,Instr.makeInterface,Sem.run_bind,zF hT hne,Result.andThen]
  cases d <;> first | rfl | exact absurd hne (by simpa using hu _)
 ·cases e
end
end Go.Am
namespace Go.Am
open Go.RowKit
theorem vp {tb:Tab} {P:Program} {cst:Bool} {op:BinOp} {t:TypeId} {k k':IntKind} {a b:Int} {v:Value} (h:wU tb cst op t (.int k a) (.int k' b)=some v) (w:World) :
  (Go.binOp op t (.int k a) (.int k' b)).run P w = .ok v w:=by
 cases op
 case shl =>
  simp only [wU,wM] at h
  by_cases hb:b < 0
  ·simp [hb] at h
  ·simp only [hb,decide_false,cond_false,Option.some.injEq] at h
   subst h
   simp only [Go.binOp,Op.shift,if_neg hb]
   rfl
 case shr =>
  simp only [wU,wM] at h
  by_cases hb:b < 0
  ·simp [hb] at h
  ·simp only [hb,decide_false,cond_false,Option.some.injEq] at h
   subst h
   simp only [Go.binOp,Op.shift,if_neg hb]
   rfl
 case quo =>
  simp only [wU,wM] at h
  by_cases hk:k=k'
  ·subst hk
   by_cases hb:b=0
   ·simp [uq,hb] at h
   ·simp only [decide_true,cond_true,uq,hb,decide_false,cond_false,Option.some.injEq] at h
    subst h
    simp only [Go.binOp,ne_eq,not_true_eq_false,if_false,Op.intDiv,if_neg hb]
    rfl
  ·simp [hk] at h
 case rem =>
  simp only [wU,wM] at h
  by_cases hk:k=k'
  ·subst hk
   by_cases hb:b=0
   ·simp [uq,hb] at h
   ·simp only [decide_true,cond_true,uq,hb,decide_false,cond_false,Option.some.injEq] at h
    subst h
    simp only [Go.binOp,ne_eq,not_true_eq_false,if_false,Op.intDiv,if_neg hb]
    rfl
  ·simp [hk] at h
 all_goals
  simp only [wU,wM] at h
  by_cases hk:k=k'
  ·subst hk
   simp only [decide_true,cond_true,uq,Option.some.injEq] at h
   try subst h
   simp only [Go.binOp,ne_eq,not_true_eq_false,if_false]
   rfl
  ·simp [hk] at h
def plainV:Value→Bool
 | .int _ _=>true
 | .string _=>true
 | .bool _=>true
 | _=>false
theorem wP {P:Program} {op:BinOp} {t:TypeId} {x y:Operand} {a b:Value} (h:plainV a=true) (w:World):(eqGuard op t x y a b).run P w = .ok () w:=by
 cases a <;> first | (simp [plainV] at h; done) | (cases op <;> rfl)
theorem zEA {tb:Tab} {cst:Bool} {op:BinOp} {t:TypeId} {k k':IntKind} {a b:Int} {v:Value} (h:wU tb cst op t (.int k a) (.int k' b)=some v):flat v=true:=by
 cases op
 case shl =>
  simp only [wU,wM] at h
  by_cases hb:b < 0
  ·simp [hb] at h
  ·simp only [hb,decide_false,cond_false,Option.some.injEq] at h
   subst h; rfl
 case shr =>
  simp only [wU,wM] at h
  by_cases hb:b < 0
  ·simp [hb] at h
  ·simp only [hb,decide_false,cond_false,Option.some.injEq] at h
   subst h; rfl
 case quo =>
  simp only [wU,wM] at h
  by_cases hk:k=k'
  ·subst hk
   by_cases hb:b=0
   ·simp [uq,hb] at h
   ·simp only [decide_true,cond_true,uq,hb,decide_false,cond_false,Option.some.injEq] at h
    subst h; rfl
  ·simp [hk] at h
 case rem =>
  simp only [wU,wM] at h
  by_cases hk:k=k'
  ·subst hk
   by_cases hb:b=0
   ·simp [uq,hb] at h
   ·simp only [decide_true,cond_true,uq,hb,decide_false,cond_false,Option.some.injEq] at h
    subst h; rfl
  ·simp [hk] at h
 all_goals
  simp only [wU,wM] at h
  by_cases hk:k=k'
  ·subst hk
   simp only [decide_true,cond_true,uq,Option.some.injEq] at h
   subst h; rfl
  ·simp [hk] at h
theorem op_binInt {tb:Tab} {P:Program} {B:Nat} {w₀:World} {ρ:Ren} {H:AH} {w:World} {va vb:Operand→Value} {o:Oper} {nx:ANext} {H':AH}
  (h:SR tb B w₀ ρ H w) (hv:∀ x,VR ρ (va x) (vb x)) {op:BinOp} {t:TypeId} {x y:Operand} {z:TypeId} {k k':IntKind} {a b:Int}
  (ho:o.op = .binOp op t x y z) (hx:va x = .int k a) (hy:va y = .int k' b) (e:yH tb va o H=some (nx,H')):OpOK tb P B w₀ ρ H w (execOp vb o) nx H':=by
 have h1:=hv x
 have h2:=hv y
 rw [hx] at h1
 rw [hy] at h2
 simp only [yH,ho,hx,hy] at e
 cases hb:wU tb (wE x || wE y) op t (.int k a) (.int k' b) with
 | none=>rw [hb] at e; cases e
 | some v =>
   rw [hb] at e
   simp only [one,Option.some.injEq,Prod.mk.injEq] at e
   obtain ⟨rfl,rfl⟩:=e
   have r:=vp (P:=P) hb w
   refine OpOK.pure h (v':=v) ?_ (.flat (zEA hb))
   simp only [execOp,ho,h1.int_inv,h2.int_inv,Sem.run_bind,wP (a:=.int k a) rfl,Result.andThen,r,Sem.run_pure]
end Go.Am
namespace Go.Am
open Go.RowKit
section
variable {tb:Tab} {P:Program} {B:Nat} {w₀:World} {ρ:Ren} {H:AH} {w:World} {va vb:Operand→Value} {o:Oper} {nx:ANext} {H':AH}
theorem VRs.operands (hv:∀ x,VR ρ (va x) (vb x)) (l:Array Operand):VRs ρ (l.map va).toList (l.map vb).toList:=by
 rw [Array.toList_map,Array.toList_map]
 exact All2.same hv l.toList
theorem op_makeFunc (h:SR tb B w₀ ρ H w) (hv:∀ x,VR ρ (va x) (vb x)) {g:Fn} {a c:Array Operand} (ho:o.op = .makeFunc g a c) (e:yH tb va o H=some (nx,H')) :
  OpOK tb P B w₀ ρ H w (execOp vb o) nx H':=by
 cases g with
 | func f =>
   simp only [yH,ho,Option.some.injEq,Prod.mk.injEq] at e
   obtain ⟨rfl,rfl⟩:=e
   have ha:=(VRs.operands hv a).array
   have hc:=(VRs.operands hv c).array
   refine OpOK.pure h ?_ (.func ha.1 ha.2 hc.1 hc.2)
   simp only [execOp,ho,Instr.makeFunc,Sem.run_bind,Sem.run_pure,Result.andThen]
 | _=>simp only [yH,ho] at e; cases e
theorem op_call (h:SR tb B w₀ ρ H w) (hv:∀ x,VR ρ (va x) (vb x)) {c:Call} {f:Operand} (ho:o.op = .call c) (hf:c.callee = .value f) (e:yH tb va o H=some (nx,H')) :
  OpOK tb P B w₀ ρ H w (execOp vb o) nx H':=by
 have hx:=hv f
 have hargs:=VRs.operands hv c.args
 simp only [yH,ho,hf] at e
 cases hc:callVal (va f) (c.args.toList.map va) with
 | none=>rw [hc] at e; cases e
 | some n =>
   rw [hc] at e
   simp only [Option.some.injEq,Prod.mk.injEq] at e
   obtain ⟨rfl,rfl⟩:=e
   unfold callVal at hc
   split at hc
   ·next g first captured hva =>
    cases hc
    rw [hva] at hx
    generalize hb:vb f=u at hx
    cases hx with
    | func ha hr hcs hk =>
      next a' c' =>
      refine ⟨ρ,w,.refl _ _,h,(a'++c.args.map vb)++c',?_,?_⟩
      ·simp only [Array.toList_append]
       refine All2.append (All2.append (VRs.of_array ha hr) ?_) (VRs.of_array hcs hk)
       simpa using hargs
      ·simp only [execOp,ho,resolve,hf,hb,Deferred.ofValue,Sem.run_bind,Sem.run_pure,Result.andThen,invoke]
   ·next l first captured hva =>
    cases hc
    rw [hva] at hx
    generalize hb:vb f=u at hx
    cases hx with
    | yield hl =>
      next l' =>
      refine ⟨ρ,w,.refl _ _,h,l',#[]++c.args.map vb,hl,?_,?_⟩
      ·simpa using hargs
      ·simp only [execOp,ho,resolve,hf,hb,Deferred.ofValue,Sem.run_bind,Sem.run_pure,Result.andThen,invoke]
   ·cases hc
theorem op_defer (h:SR tb B w₀ ρ H w) (hv:∀ x,VR ρ (va x) (vb x)) {c:Call} {f:Operand} (ho:o.op = .defer c) (hf:c.callee = .value f) (e:yH tb va o H=some (nx,H')) :
  OpOK tb P B w₀ ρ H w (execOp vb o) nx H':=by
 have hx:=hv f
 have hargs:=VRs.operands hv c.args
 simp only [yH,ho,hf] at e
 split at e
 ·next g first captured hva =>
  simp only [Option.some.injEq,Prod.mk.injEq] at e
  obtain ⟨rfl,rfl⟩:=e
  rw [hva] at hx
  generalize hb:vb f=u at hx
  cases hx with
  | func ha hr hcs hk =>
    next a' c' =>
    refine ⟨ρ,w,.refl _ _,h,_,?_,.fn (VRs.of_array hcs hk) (a':=a'++c.args.map vb) ?_⟩
    ·simp only [execOp,ho,resolve,hf,hb,Deferred.ofValue,Sem.run_bind,Sem.run_pure,Result.andThen]
    ·simp only [Array.toList_append]
     exact All2.append (VRs.of_array ha hr) hargs
 ·cases e
end
end Go.Am
namespace Go.Am
open Go.RowKit
theorem eqB_eq:∀ (a b:List UInt8),eqB a b=(a == b)
 | [],[]=>rfl
 | [],_::_=>rfl
 | _::_,[]=>rfl
 | x::a,y::b=>by
   unfold eqB
   cases h:Nat.beq x.toNat y.toNat
   ·have hne:x≠y:=fun e=>by subst e; simp at h
    simp [hne]
   ·have he:x=y:=UInt8.toNat_inj.1 (Nat.eq_of_beq_eq_true h)
    subst he
    simp [eqB_eq a b]
theorem lessB_eq:∀ (a b:List UInt8),lessB a b=Op.bytesLess a b
 | [],[]=>rfl
 | [],_::_=>rfl
 | _::_,[]=>rfl
 | x::a,y::b=>by
   unfold lessB Op.bytesLess
   rw [lessB_eq a b]
   cases h:Nat.blt x.toNat y.toNat
   ·have hn:¬ x.toNat < y.toNat:=by intro h2; rw [← Nat.blt_eq,h] at h2; cases h2
    have hl:¬ x < y:=hn
    cases h2:Nat.beq x.toNat y.toNat
    ·have hne:x≠y:=fun e=>by subst e; simp at h2
     simp [hl,hne]
    ·have he:x=y:=UInt8.toNat_inj.1 (Nat.eq_of_beq_eq_true h2)
     subst he
     simp
   ·have hl:x < y:=by rw [Nat.blt_eq] at h; exact h
    simp [hl]
theorem strOf_append (a b:ByteArray):zw (bytes a++bytes b)=a++b:=by
 apply ByteArray.ext
 apply Array.toList_inj.1
 simp [zw,bytes]
theorem uV {tb:Tab} {P:Program} {cst:Bool} {op:BinOp} {t:TypeId} {a b:ByteArray} {v:Value} (h:wU tb cst op t (.string a) (.string b)=some v) (w:World) :
  (Go.binOp op t (.string a) (.string b)).run P w = .ok v w∧flat v=true:=by
 have e1:(eqB (bytes a) (bytes b))=(a.toList == b.toList):=by rw [eqB_eq,ByteArray.toList_eq,ByteArray.toList_eq]; rfl
 have e2:(lessB (bytes a) (bytes b))=Op.bytesLess a.toList b.toList:=by rw [lessB_eq,ByteArray.toList_eq,ByteArray.toList_eq]; rfl
 cases op
 case add =>
  simp only [wU,strOp] at h
  cases hl:Nat.blt (len a+len b) zY
  ·rw [hl] at h; cases h
  ·rw [hl] at h
   cases h
   rw [strOf_append]
   refine ⟨?_,rfl⟩
   simp only [Go.binOp,Op.stringOp]
   rw [if_neg]
   ·rfl
   ·have hlt:len a+len b < zY:=by rw [Nat.blt_eq] at hl; exact hl
    have ha:len a=a.size:=Array.length_toList
    have hb:len b=b.size:=Array.length_toList
    have hm:IntKind.i64.max=9223372036854775807:=by decide
    rw [hm]
    unfold zY at hlt
    omega
 all_goals
  simp only [wU,strOp,Option.some.injEq,reduceCtorEq] at h
  try subst h
  first
  | (refine ⟨?_,rfl⟩; simp only [Go.binOp,Op.stringOp,e1,e2]; rfl)
  | skip
end Go.Am
namespace Go.Am
open Go.RowKit
section
variable {tb:Tab} {P:Program} {B:Nat} {w₀:World} {ρ:Ren} {H:AH} {w:World} {va vb:Operand→Value} {o:Oper} {nx:ANext} {H':AH}
theorem lenOf_sound (hT:TabOk tb P) (h:SR tb B w₀ ρ H w) {t:TypeId} {x x':Value} {n:Nat} {ats:Array TypeId} {args:Array Value} {ty:TypeId} (ht:ats[0]?=some t) (ha:args[0]?=some x') (hx:VR ρ x x') (e:lenOf tb H t x=some n) :
  (Builtin.len_ ats ty args).run P w = .ok (zAq n) w:=by
 unfold Builtin.len_
 rw [ht,ha]
 unfold lenOf at e
 split at e
 ·next s hu =>
  cases e
  cases hx
  simp only [Sem.run_bind,zF hT hu,Result.andThen]
  have:len s=s.size:=Array.length_toList
  rw [this]
  rfl
 ·next el b m c hu =>
  cases e
  cases hx <;> (simp only [Sem.run_bind,zF hT hu,Result.andThen]; rfl)
 ·next m el y hu =>
  cases e
  simp only [Sem.run_bind,zF hT hu,Result.andThen]
  rfl
 ·next k v hu =>
  cases e
  cases hx
  simp only [Sem.run_bind,zF hT hu,Result.andThen]
  rfl
 ·next k v r hu =>
  split at e
  ·next es clock hg =>
   cases e
   cases hx with
   | map hr =>
     obtain ⟨o,o',e1,e2,e3⟩:=h.obj _ _ _ hr
     rw [hg] at e1; cases e1
     cases o' with
     | map es' clock' =>
       simp only [Sem.run_bind,zF hT hu,Result.andThen,getObj,Sem.run,e2,Sem.run_pure]
       rw [e3.2.2.length]
       simp [zAq,goInt]
     | _=>exact e3.elim
  ·cases e
 ·cases e
end
end Go.Am
namespace Go.Am
open Go.RowKit
section
variable {tb:Tab} {P:Program} {B:Nat} {w₀:World} {ρ:Ren} {H:AH} {w:World} {va vb:Operand→Value} {o:Oper} {nx:ANext} {H':AH}
theorem vD {v v':Value} {n:Nat} (hv:VR ρ v v') (h:natOf v=some n):∃ k,v = .int k (.ofNat n)∧v' = .int k (.ofNat n):=by
 unfold natOf at h
 split at h
 ·cases h; cases hv; exact ⟨_,rfl,rfl⟩
 ·cases h
theorem op_indexAddr (hT:TabOk tb P) (h:SR tb B w₀ ρ H w) (hv:∀ x,VR ρ (va x) (vb x)) {t:TypeId} {x ix:Operand} (ho:o.op = .indexAddr t x ix) (e:yH tb va o H=some (nx,H')) :
  OpOK tb P B w₀ ρ H w (execOp vb o) nx H':=by
 have hx:=hv x
 have hix:=hv ix
 simp only [yH,ho] at e
 split at e
 ·next el a len cp i hu ha hi =>
  obtain ⟨k,_,hb⟩:=vD hix hi
  rw [ha] at hx
  generalize hbx:vb x=u at hx
  split at e
  ·next n hs =>
   cases hlt:Nat.blt i len
   ·rw [hlt] at e; cases e
   ·rw [hlt] at e
    simp only [cond_true,Option.some.injEq,Prod.mk.injEq] at e
    obtain ⟨rfl,rfl⟩:=e
    have hil:i < len:=by rw [Nat.blt_eq] at hlt; exact hlt
    cases hx with
    | slice hr hc hxx _ =>
      rcases hxx with ⟨_,h0⟩ | rfl
      ·omega
      ·refine OpOK.pure h ?_ (VR.place hr (i * n))
       simp only [execOp,ho,hb,hbx,Instr.indexAt,asIntOf,Sem.run_bind,Sem.run_pure,Result.andThen,zF hT hu]
       rw [if_pos ⟨Int.natCast_nonneg _,by simpa using hil⟩]
       simp only [Sem.run_bind,run_size hT hs,Result.andThen,Sem.run_pure]
       rfl
  ·cases e
 ·next len el a i hu ha hi =>
  obtain ⟨k,_,hb⟩:=vD hix hi
  rw [ha] at hx
  obtain ⟨j,off,b,s,rfl,hr,hbx⟩:=hx.ptr_inv
  split at e
  ·next n hs =>
   cases hlt:Nat.blt i len
   ·rw [hlt] at e; cases e
   ·rw [hlt] at e
    simp only [cond_true,Option.some.injEq,Prod.mk.injEq] at e
    obtain ⟨rfl,rfl⟩:=e
    have hil:i < len:=by rw [Nat.blt_eq] at hlt; exact hlt
    refine OpOK.pure h ?_ (VR.place hr (i * n))
    simp only [execOp,ho,hb,hbx,Instr.indexAt,Instr.sureAddr,asIntOf,Sem.run_bind,Sem.run_pure,Result.andThen,zF hT hu]
    rw [if_pos ⟨Int.natCast_nonneg _,by simpa using hil⟩]
    simp only [Sem.run_bind,run_size hT hs,Result.andThen,Sem.run_pure]
    rfl
  ·cases e
 ·cases e
end
end Go.Am
namespace Go.Am
open Go.RowKit
section
variable {tb:Tab} {P:Program} {B:Nat} {w₀:World} {ρ:Ren} {H:AH} {w:World} {va vb:Operand→Value} {o:Oper} {nx:ANext} {H':AH}
theorem zCN {α:Type}:∀ (n:Nat) (l:List α),dropN n l=l.drop n
 | 0,l=>by simp [dropN]
 | _+1,[]=>by simp [dropN]
 | n+1,_::l=>by simp [dropN,zCN n l]
theorem take_eq {α:Type}:∀ (n:Nat) (l:List α),take n l=l.take n
 | 0,l=>by simp [take]
 | _+1,[]=>by simp [take]
 | n+1,_::l=>by simp [take,take_eq n l]
theorem xN (hT:TabOk tb P) {t:TypeId} {cs:List Value} {cs':Array Value} {off:Nat} {v:Value} (hc:VRs ρ cs cs'.toList) (e:vo tb t cs off=some v) :
  ∃ v',(part t cs' off).run P w = .ok v' w∧VR ρ v v':=by
 unfold vo at e
 split at e
 ·next n ha hs =>
  split at e
  ·next r hp =>
   cases e
   obtain ⟨h1,h2⟩:=vY _ _ _ hp
   refine ⟨.agg (cs'.extract off (off+n)),?_,VR.agg_of (All2.of_get ?_ ?_)⟩
   ·simp only [part,Sem.run_bind,xq hT ha,run_size hT hs,Result.andThen,if_true]
    rfl
   ·have hl:=hc.length
    by_cases hn:n=0
    ·subst hn; simp; simpa using h1
    ·have e1:=h2 (n - 1) (by omega)
     rw [zAG] at e1
     have:off+(n - 1) < cs.length:=by
      have hr:(n - 1) < r.length:=by omega
      rw [List.getElem?_eq_getElem hr] at e1
      exact (List.getElem?_eq_some_iff.1 e1.symm).1
     simp at hl
     simp
     omega
   ·intro i hi hi'
    have e1:=h2 i (by simp at hi; omega)
    rw [zAG] at e1
    have e2:r[i]?=some r[i]:=by simp at hi; simp [hi]
    obtain ⟨u,hu,ru⟩:=hc.get _ _ (e1.symm.trans e2)
    have:u=(cs'.extract off (off+n)).toList[i]:=by
     simp at hu
     have h3:=(Array.getElem?_eq_some_iff.1 hu).2
     simp [h3]
    rw [← this]
    simpa using ru
  ·cases e
 ·next x ha =>
  split at e
  ·next u hp =>
   cases e
   obtain ⟨h1,h2⟩:=vY _ _ _ hp
   have e1:=h2 0 (by omega)
   rw [zAG] at e1
   obtain ⟨u',hu,ru⟩:=hc.get (off+0) v (by rw [← e1]; rfl)
   refine ⟨u',?_,ru⟩
   simp only [part,Sem.run_bind,xq hT ha,Result.andThen,Bool.false_eq_true,if_false]
   have:cs'[off]?=some u':=by simpa using hu
   rw [this]
   rfl
  ·cases e
 ·cases e
theorem op_field (hT:TabOk tb P) (h:SR tb B w₀ ρ H w) (hv:∀ x,VR ρ (va x) (vb x)) {t:TypeId} {x:Operand} {f:Nat} (ho:o.op = .field t x f) (e:yH tb va o H=some (nx,H')) :
  OpOK tb P B w₀ ρ H w (execOp vb o) nx H':=by
 have hx:=hv x
 simp only [yH,ho] at e
 split at e
 ·next fs cs hu ha =>
  rw [ha] at hx
  split at e
  ·next fd hf =>
   cases hp:vo tb fd.type cs.toList fd.offset with
   | none=>rw [hp] at e; cases e
   | some v =>
     rw [hp] at e
     simp only [one,Option.some.injEq,Prod.mk.injEq] at e
     obtain ⟨rfl,rfl⟩:=e
     generalize hb:vb x=u at hx
     cases hx with
     | agg hs hk =>
       next cs' =>
       obtain ⟨v',r,hr⟩:=xN (P:=P) (w:=w) hT (VRs.of_array hs hk) hp
       refine OpOK.pure h ?_ hr
       simp only [execOp,ho,hb,Instr.field,Sem.run_bind,zF hT hu,Result.andThen,hf,asAgg,Sem.run_pure,r]
  ·cases e
 ·cases e
end
end Go.Am
namespace Go.Am
open Go.RowKit
section
variable {tb:Tab} {P:Program} {B:Nat} {w₀:World} {ρ:Ren} {H:AH} {w:World} {va vb:Operand→Value} {o:Oper} {nx:ANext} {H':AH}
theorem op_index (hT:TabOk tb P) (h:SR tb B w₀ ρ H w) (hv:∀ x,VR ρ (va x) (vb x)) {t:TypeId} {x ix:Operand} (ho:o.op = .index t x ix) (e:yH tb va o H=some (nx,H')) :
  OpOK tb P B w₀ ρ H w (execOp vb o) nx H':=by
 have hx:=hv x
 have hix:=hv ix
 simp only [yH,ho] at e
 split at e
 ·next s i hu ha hi =>
  obtain ⟨k,_,hb⟩:=vD hix hi
  rw [ha] at hx
  have hbx:=hx.string_inv
  split at e
  ·next b r hd =>
   simp only [Option.some.injEq,Prod.mk.injEq] at e
   obtain ⟨rfl,rfl⟩:=e
   refine OpOK.pure h ?_ (.int _ _)
   have hd':(bytes s)[i]?=some b:=by
    rw [zCN] at hd
    have:=congrArg List.head? hd
    simpa using this
   have hs:s[i]?=some b:=by
    obtain ⟨hl,hh⟩:=List.getElem?_eq_some_iff.1 hd'
    have hl':i < s.size:=by
     have:(bytes s).length=s.size:=Array.length_toList
     omega
    rw [ByteArray.getElem?_lt' s i hl',← hh]
    rfl
   simp only [execOp,ho,hb,hbx,Instr.index,asIntOf,Sem.run_bind,Sem.run_pure,Result.andThen,zF hT hu]
   have h0:(0:Int)≤Int.ofNat i:=Int.natCast_nonneg i
   have h1:s[(Int.ofNat i).toNat]?=some b:=hs
   rw [if_pos h0,h1]
   rfl
  ·cases e
 ·next len el cs i hu ha hi =>
  obtain ⟨k,_,hb⟩:=vD hix hi
  rw [ha] at hx
  generalize hbx:vb x=u at hx
  split at e
  ·next n hs =>
   cases hlt:Nat.blt i len
   ·rw [hlt] at e; cases e
   ·rw [hlt] at e
    simp only [cond_true] at e
    have hil:i < len:=by rw [Nat.blt_eq] at hlt; exact hlt
    cases hp:vo tb el cs.toList (i * n) with
    | none=>rw [hp] at e; cases e
    | some v =>
      rw [hp] at e
      simp only [one,Option.some.injEq,Prod.mk.injEq] at e
      obtain ⟨rfl,rfl⟩:=e
      cases hx with
      | agg hs' hk =>
        obtain ⟨v',r,hr⟩:=xN (P:=P) (w:=w) hT (VRs.of_array hs' hk) hp
        refine OpOK.pure h ?_ hr
        simp only [execOp,ho,hb,hbx,Instr.index,asIntOf,Sem.run_bind,Sem.run_pure,Result.andThen,zF hT hu]
        rw [if_pos ⟨Int.natCast_nonneg _,by simpa using hil⟩]
        simp only [Sem.run_bind,run_size hT hs,Result.andThen,Int.ofNat_eq_natCast,Int.toNat_natCast,r]
  ·cases e
 ·cases e
end
end Go.Am
