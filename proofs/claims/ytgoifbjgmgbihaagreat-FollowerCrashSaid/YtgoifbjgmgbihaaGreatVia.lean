import Derived.Orders
import Derived.LoopN
import Derived.Laws.AppendOwn
import Derived.Laws.Rows
import Derived.Laws.Tables
import Derived.Laws.IdiomCopy
import Derived.Laws.BytesString
import Derived.Laws.Entries
import Derived.Laws.Small
import Derived.ChangeKeysEq
import Derived.WideShapes
import Derived.Laws.StructEq
import Derived.Laws.Cover3
import Derived.Laws.Pointers
import Derived.WalkSpells
import Derived.Laws.MakeOwn
import Derived.Lib.Strings
import Derived.Great.BuildSlice
import Derived.Laws.IdiomStrings
import Derived.MapKept
set_option linter.unusedSimpArgs false
set_option linter.unusedVariables false
set_option maxRecDepth 20000
set_option maxHeartbeats 16000000
/- An interpreter of values: what it answers the program answers. -/
namespace Go.Vi
theorem zo {p:Prop} (h:p:=by omega):p:=h
theorem Xj {p:Prop} (h:p:=by simp):p:=h
theorem Xi {p:Prop} (h:p:=by decide):p:=h
inductive D where
 | b (x:Bool)|i (k:IntKind) (n:Int)|s (x:List UInt8)|l (rows:List (List D))
 /-- a function,with what it captured: variables that never change -/
 | fn (f:FuncId) (caps:List (List D))
 deriving Inhabited
inductive L where
 | d (x:D)|p (i off:Nat)|ap (i k j:Nat)|ip (cs:List D)|np|nf
 | sl (i sz off len:Nat)|cl (rows:List (List D))|nn (rows:List (List D))|ns|f (fn:FuncId) (caps:List Nat)|y (q k:Nat)|sp (i n:Nat)|u|m (i:Nat)|nm
 deriving Inhabited
inductive V where
 | one (x:L)|agg (xs:List L)|tup (xs:List (Bool × List L))|any
 deriving Inhabited
inductive Box where
 | dead|cells (xs:List L)|arr (sz:Nat) (rows:List (List D)) (fz:Nat)|mp (rows:List (List UInt8 × Bool))
 deriving Inhabited
abbrev Fr:=List V
abbrev Hp:=List Box
inductive X where
 | t (n:Nat)|c (x:V)
 deriving Inhabited
inductive A where
 | mv (x:X)|own (sz:Nat)|pick (c a b:X)
 | alloc (zs:List L)|box (x:X)
 | build (zs:List L) (ps:List (Nat × Nat × X))
 | bsl (sz:Nat) (zrows:List (List D)) (ps:List (Nat × X))
 | bsp (n:Nat) (zs:List L) (ps:List (Nat × Nat × X))|bs1 (sz:Nat) (x:X)
 | ld (ag:Option Nat) (a:X)
 | st (n:Nat) (a v:X)
 | nck (x:X)
 | bin (op:BinOp) (x y:X)
 | eqb (neg:Bool) (x y:X)
 | eqa (neg:Bool) (ks:List Nat) (x y:X)
 | nilc (k:Nat) (neg:Bool) (x:X)
 | un (op:UnOp) (x:X)
 | cvi (k:IntKind) (x:X)|cvs (x:X)|b2s (x:X)|s2b (x:X)
 | mkf (f:FuncId) (caps:List X)
 | mks (sz bytes:Nat) (zrow:List D) (l c:X)
 | sls (x:X) (lo hi:Option X)
 | slc (sz:Nat) (x:X) (lo hi mx:Option X)|slar (n:Nat) (x:X)
 | fa (off:Nat) (x:X)|fld (ag:Option Nat) (off:Nat) (x:X)
 | ixs (x i:X)|ia (sz:Nat) (x i:X)|iar (len sz:Nat) (x i:X)
 | ext (x:X) (i:Nat)
 | mkm|mset (m k v:X)|mget (m k:X)
 | len (str:Bool) (x:X)|app (str:Bool) (sz bytes:Nat) (s x:X)|mm (mx:Bool) (x y:X)
 | call (f:FuncId) (xs:List X)|calln (f:FuncId) (xs:List X)|callp (f:FuncId) (xs:List X)|callz (f:FuncId) (xs:List X)|callv (x:X) (xs:List X)
 deriving Inhabited
structure AOp where
 dst:Option Nat
 a:A
 g:Option (Nat × Bool)
 pre:List Nat
 fz:Bool
 deriving Inhabited
inductive AC where
 | skip|reg (ops:List AOp) (dr:Bool)|seq (a b:AC)|cond (c:X) (a b:AC)|block (id:Nat) (c:AC)
 | loop (lv:List Nat) (c:AC)|exit (id:Nat)|ret
 /-- a region in which yield is called -/
 | yld (ops1:List AOp) (d:Option Nat) (y:X) (xs:List X) (ops2:List AOp)
 /-- a range over a function -/
 | rng (g:X) (ps:List Nat) (asg body:AC)
 deriving Inhabited
inductive RV where
 | t (n:Nat)|c (ag:Option Nat) (n:Nat)
 deriving Inhabited
structure AF where
 ntmps:Nat
 body:AC
 res:List RV
 keep:Bool
 deriving Inhabited
def X.ev (fr:Fr):X->Option V
 | .t n=>fr[n]?
 | .c x=>some x
def V.cs:V->Option (List L)
 | .one x=>some [x] | .agg xs=>some xs | .tup _=>none | .any=>none
def mW (fr:Fr):List X->Option (List V)
 | []=>some []
 | x::r=>match x.ev fr,mW fr r with|some v,some vs=>some (v::vs)|_,_=>none
def G0 (fr:Fr) (x:X):Option (IntKind × Int):=match x.ev fr with|some (.one (.d (.i k n)))=>some (k,n)|_=>none
def i7 (fr:Fr):Option X->Option (Option Int)
 | none=>some none
 | some x=>match x.ev fr with|some (.one (.d (.i _ n)))=>some (some n)|_=>none
def QA:L->Option D
 | .d x=>some x
 | _=>none
def ow:List L->Option (List D)
 | []=>some []
 | x::r=>match QA x,ow r with|some d,some ds=>some (d::ds)|_,_=>none
def dy:BinOp->D->D->Option D
 | .shl,.i k a,.i _ n=>if n<0 then none else some (.i k (k.wrap (a*2 ^ (min n.toNat k.bits))))
 | .shr,.i k a,.i _ n=>if n<0 then none else some (.i k (a.fdiv (2 ^ (min n.toNat k.bits))))
 | op,.i k a,.i k' c=>if k≠k' then none else match op with
  | .add=>some (.i k (k.wrap (a+c)))
  | .sub=>some (.i k (k.wrap (a-c)))
  | .mul=>some (.i k (k.wrap (a*c)))
  | .quo=>if c=0 then none else some (.i k (k.wrap (a.tdiv c)))
  | .rem=>if c=0 then none else some (.i k (a.tmod c))
  | .and=>some (.i k (k.wrap (BitVec.ofInt k.bits a &&& BitVec.ofInt k.bits c).toNat))
  | .or=>some (.i k (k.wrap (BitVec.ofInt k.bits a ||| BitVec.ofInt k.bits c).toNat))
  | .xor=>some (.i k (k.wrap (BitVec.ofInt k.bits a ^^^ BitVec.ofInt k.bits c).toNat))
  | .andNot=>some (.i k (k.wrap (BitVec.ofInt k.bits a &&& ~~~BitVec.ofInt k.bits c).toNat))
  | .eql=>some (.b (a == c))
  | .neq=>some (.b (a != c))
  | .lss=>some (.b (decide (a<c)))
  | .leq=>some (.b (decide (a<=c)))
  | .gtr=>some (.b (decide (c<a)))
  | .geq=>some (.b (decide (c<=a)))
  | _=>none
 | op,.s a,.s c=>match op with
  | .add=>if a.length+c.length<=9223372036854775807 then some (.s (a++c)) else none
  | .eql=>some (.b (a == c))
  | .neq=>some (.b (!(a == c)))
  | .lss=>some (.b (Op.bytesLess a c))
  | .leq=>some (.b (Op.bytesLess a c || a == c))
  | .gtr=>some (.b (!(Op.bytesLess a c || a == c)))
  | .geq=>some (.b (!(Op.bytesLess a c)))
  | _=>none
 | _,_,_=>none
def Om:UnOp->D->Option D
 | .neg,.i k n=>some (.i k (k.wrap (0-n)))
 | .xor,.i k n=>some (.i k (k.wrap (BitVec.ofInt k.bits (if k.signed then -1 else k.max) ^^^ BitVec.ofInt k.bits n).toNat))
 | .not,.b x=>some (.b !x)
 | _,_=>none
def uO:Nat->D->D->Option Bool
 | 0,.i k a,.i k' c=>if k=k' then some (a == c) else none
 | 1,.b a,.b c=>some (a == c)
 | 2,.s a,.s c=>some (a == c)
 | _,_,_=>none
def kT:List Nat->List L->List L->Option Bool
 | [],[],[]=>some true
 | k::ks,.d x::r,.d y::s=>match uO k x y,kT ks r s with|some a,some c=>some (a && c)|_,_=>none
 | _,_,_=>none
def v6 (x:L) (H:Hp):Option (L × Hp) :=
 match x with
 | .sl i _ off n=>match H[i]? with
  | some (.arr sz rows fz)=>if off+n<=rows.length then some (.d (.l ((rows.drop off).take n)),H.set i (.arr sz rows (max fz (off+n)))) else none
  | _=>none
 | .cl rows=>some (.d (.l rows),H)
 | .nn rows=>some (.d (.l rows),H)
 | .ns=>some (.d (.l []),H)
 | x=>some (x,H)
def gU:List L->Hp->Option (List L × Hp)
 | [],H=>some ([],H)
 | x::r,H=>match v6 x H with
  | some (y,H1)=>match gU r H1 with|some (ys,H2)=>some (y::ys,H2)|none=>none
  | none=>none
def DH:List (Bool × List L)->Hp->Option (List (Bool × List L) × Hp)
 | [],H=>some ([],H)
 | (c,x)::r,H=>match gU x H with
  | some (y,H1)=>match DH r H1 with|some (ys,H2)=>some ((c,y)::ys,H2)|none=>none
  | none=>none
def pj (v:V) (H:Hp):Option (V × Hp) :=
 match v with
 | .one x=>match v6 x H with|some (y,H1)=>some (.one y,H1)|none=>none
 | .agg xs=>match gU xs H with|some (ys,H1)=>some (.agg ys,H1)|none=>none
 | .tup xs=>match DH xs H with|some (ys,H1)=>some (.tup ys,H1)|none=>none
 | .any=>none
def oU:List V->Hp->Option (List V × Hp)
 | [],H=>some ([],H)
 | x::r,H=>match pj x H with
  | some (y,H1)=>match oU r H1 with|some (ys,H2)=>some (y::ys,H2)|none=>none
  | none=>none
def L.refs:L->List Nat
 | .p i _ | .ap i _ _ | .sl i _ _ _ | .y i _ | .sp i _ | .m i=>[i]
 | .f _ caps=>caps
 | _=>[]
def V.refs:V->List Nat
 | .one x=>x.refs
 | .agg xs=>xs.flatMap L.refs
 | .tup xs=>xs.flatMap fun c=>c.2.flatMap L.refs
 | .any=>[]
def Box.refs:Box->List Nat
 | .cells xs=>xs.flatMap L.refs
 | _=>[]
def aD (H:Hp):Nat->List Nat->List Nat->List Nat
 | 0,_,seen=>seen
 | _+1,[],seen=>seen
 | n+1,i::todo,seen=>match H[i]? with
  | some .dead=>aD H n todo seen
  | none=>aD H n todo seen
  | some b=>if seen.contains i then aD H n todo seen else aD H n (b.refs++todo) (seen++[i])
def lh (ρ:Nat->Option Nat):List Nat->Option (List Nat)
 | []=>some []
 | i::r=>match ρ i,lh ρ r with|some j,some js=>some (j::js)|_,_=>none
def L.ren (ρ:Nat->Option Nat):L->L
 | .p i o=>match ρ i with|some j=>.p j o|none=>.u
 | .ap i k o=>match ρ i with|some j=>.ap j k o|none=>.u
 | .sl i z o n=>match ρ i with|some j=>.sl j z o n|none=>.u
 | .f fn caps=>match lh ρ caps with|some js=>.f fn js|none=>.u
 | .y i k=>match ρ i with|some j=>.y j k|none=>.u
 | .sp i n=>match ρ i with|some j=>.sp j n|none=>.u
 | .m i=>match ρ i with|some j=>.m j|none=>.u
 | x=>x
def V.ren (ρ:Nat->Option Nat):V->V
 | .one x=>.one (x.ren ρ)
 | .agg xs=>.agg (xs.map (L.ren ρ))
 | .tup xs=>.tup (xs.map fun c=>(c.1,c.2.map (L.ren ρ)))
 | .any=>.any
def Box.ren (ρ:Nat->Option Nat):Box->Box
 | .cells xs=>.cells (xs.map (L.ren ρ))
 | b=>b
def aG (ids:List Nat) (i:Nat):Option Nat:=ids.findIdx? (· == i)
def aI (H:Hp) (roots:List Nat):List Nat:=aD H 1000 roots []
def aw (H:Hp) (ids:List Nat):Hp:=ids.map fun i=>(H.getD i .dead).ren (aG ids)
def bf (lv:List Nat) (fr:Fr):Fr:=fr.mapIdx fun i v=>if lv.contains i then v else .any
def sr (m:Nat) (H:Hp) (roots:List Nat):List Nat :=
 aD H 1000 ((List.range (min m H.length)).flatMap (fun i=>(H.getD i .dead).refs)++roots) (List.range (min m H.length))
def canon (m:Nat) (lv:List Nat) (fr:Fr) (H:Hp):Fr × Hp :=
 let fr:=bf lv fr
 let ids:=sr m H (fr.flatMap V.refs)
 (fr.map (V.ren (aG ids)),aw H ids)
def cu (H:Hp):List Nat->List Box->Hp
 | i::ids,b::bs=>cu (H.set i b) ids bs
 | _,_=>H
def ak (φ:FuncId->List V->Hp->Option (V × Hp)) (f:FuncId) (args:List V) (H:Hp):Option (V × Hp) :=
 let ids:=aI H (args.flatMap V.refs)
 match φ f (args.map (V.ren (aG ids))) (aw H ids) with
 | none=>none
 | some (r,H1) =>
  let m:=ids.length
  let β:Nat->Option Nat:=fun j=>if j<m then ids[j]? else some (H.length+(j-m))
  some (r.ren β,cu H ids ((H1.take m).map (Box.ren β))++(H1.drop m).map (Box.ren β))
def L.data:L->Option L
 | .d x=>some (.d x)
 | .ns=>some (.d (.l []))
 | .cl rows=>some (.d (.l rows))
 | .nn rows=>some (.d (.l rows))
 | .np=>some .np
 | .nf=>some .nf
 | _=>none
def dK:List L->Option (List L)
 | []=>some []
 | x::r=>match x.data,dK r with|some y,some ys=>some (y::ys)|_,_=>none
def V.data:V->Option V
 | .one x=>match x.data with|some y=>some (.one y)|none=>none
 | .agg xs=>match dK xs with|some ys=>some (.agg ys)|none=>none
 | _=>none
def f7:List V->Option (List V)
 | []=>some []
 | x::r=>match x.data,f7 r with|some y,some ys=>some (y::ys)|_,_=>none
def KK (rows:List (List UInt8 × Bool)) (k:List UInt8):Bool:=match rows with
 | []=>false
 | r::t=>if r.1=k then r.2 else KK t k
def wu (rows:List (List UInt8 × Bool)) (k:List UInt8) (b:Bool):List (List UInt8 × Bool):=match rows with
 | []=>[(k,b)]
 | r::t=>if r.1=k then(k,b)::t else r::wu t k b
def cS (len cap:Nat) (lo hi mx:Option Int):Option (Nat × Nat × Nat) :=
 match (match mx with|some m=>if 0<=m∧m<=cap then some m.toNat else none|none=>some cap) with
 | none=>none
 | some m =>
  match (match hi with|some h=>if 0<=h∧h<=(m:Int) then some h.toNat else none|none=>if mx.isSome then none else some len) with
  | none=>none
  | some h =>
   match (match lo with|some l=>if 0<=l∧l<=(h:Int) then some l.toNat else none|none=>some 0) with
   | none=>none
   | some l=>some (l,h,m)
def nc:List L->List (Nat × Nat × V)->Option (List L)
 | cs,[]=>some cs
 | cs,(off,sz,v)::r=>match v.cs with
  | some xs=>if xs.length=sz∧off+sz<=cs.length then nc (cs.take off++xs++cs.drop (off+sz)) r else none
  | none=>none
def HN (fr:Fr):List (Nat × Nat × X)->Option (List (Nat × Nat × V))
 | []=>some []
 | (a,b,x)::r=>match x.ev fr,HN fr r with|some v,some vs=>some ((a,b,v)::vs)|_,_=>none
def kO (fr:Fr) (sz:Nat):List (List D)->List (Nat × X)->Hp->Option (List (List D) × Hp)
 | rows,[],H=>some (rows,H)
 | rows,(k,x)::r,H=>match x.ev fr with
  | some v=>match v.cs with
   | some xs=>match gU xs H with
    | some (ys,H1)=>match ow ys with
     | some ds=>if ds.length=sz∧k<rows.length then kO fr sz (rows.set k ds) r H1 else none
     | none=>none
    | none=>none
   | none=>none
  | none=>none
def nv:List Nat->Hp->Option (List (List D) × Hp)
 | [],H=>some ([],H)
 | i::r,H=>match H[i]? with
  | some (.cells xs)=>match ow xs with
   | some ds=>match nv r (H.set i .dead) with|some (css,H1)=>some (ds::css,H1)|none=>none
   | none=>none
  | _=>none
def uU:List L->Hp->Option (List D × Hp)
 | [],H=>some ([],H)
 | .f g caps::r,H=>match nv caps H with
  | some (css,H1)=>match uU r H1 with|some (ds,H2)=>some (.fn g css::ds,H2)|none=>none
  | none=>none
 | x::r,H=>match v6 x H with
  | some (.d d,H1)=>match uU r H1 with|some (ds,H2)=>some (d::ds,H2)|none=>none
  | _=>none
def gk:List (List D)->Option (List UInt8)
 | []=>some []
 | [.i .u8 n]::r=>match gk r with|some bs=>some (UInt8.ofNat n.toNat::bs)|none=>none
 | _=>none
def ay (l:List UInt8):List (List D):=l.map fun x=>[.i .u8 x.toNat]
def cO (H:Hp) (sz:Nat):L->Option (List (List D))
 | .d (.l rows)=>some rows
 | .cl rows=>some rows
 | .nn rows=>some rows
 | .ns=>some []
 | .sl i _ off n=>match H[i]? with
  | some (.arr sz' rows _)=>if(sz'=sz∨(sz'=0∧sz=1)∨rows=[])∧off+n<=rows.length then some ((rows.drop off).take n) else none
  | _=>none
 | _=>none
def aV (sz:Nat) (rows:List (List D)):Bool:=rows.all fun r=>r.length == sz
def A.run (φ:FuncId->List V->Hp->Option (V × Hp)) (fr:Fr) (H:Hp):A->Option (V × Hp)
 | .mv x=>match x.ev fr with|some v=>some (v,H)|none=>none
 | .own sz=>some (.one (.sl H.length sz 0 0),H++[.arr sz [] 0])
 | .pick c a b=>match c.ev fr,a.ev fr,b.ev fr with
  | some (.one (.d (.b t))),some v,some w=>some (bif t then v else w,H)
  | some (.one (.d (.b true))),some v,_=>some (v,H)
  | some (.one (.d (.b false))),_,some w=>some (w,H)
  | _,_,_=>none
 | .alloc zs=>some (.one (.p H.length 0),H++[.cells zs])
 | .box x=>match x.ev fr with
  | some v=>match v.cs with|some xs=>some (.one (.p H.length 0),H++[.cells xs])|none=>none
  | none=>none
 | .build zs ps=>match HN fr ps with
  | some l=>match nc zs l with|some cs=>some (.agg cs,H)|none=>none
  | none=>none
 | .bsl sz zrows ps=>match kO fr sz zrows ps H with
  | some (rows,H1)=>some (.one (.sl H1.length sz 0 rows.length),H1++[.arr sz rows 0])
  | none=>none
 | .bsp n zs ps=>match HN fr ps with
  | some l=>match nc zs l with|some cs=>some (.one (.sp H.length n),H++[.cells cs])|none=>none
  | none=>none
 | .bs1 sz x=>match x.ev fr with
  | some v=>match v.cs with
   | some xs=>match uU xs H with
    | some (ds,H1)=>if ds.length=sz then some (.one (.sl H1.length sz 0 1),H1++[.arr sz [ds] 0]) else none
    | none=>none
   | none=>none
  | none=>none
 | .ld ag a=>match a.ev fr with
  | some (.one (.p i off))=>match H[i]? with
   | some (.cells xs)=>match ag with
    | none=>match xs[off]? with|some x=>some (.one x,H)|none=>none
    | some n=>if off+n<=xs.length then some (.agg ((xs.drop off).take n),H) else none
   | _=>none
  | some (.one (.ap i k j))=>match H[i]? with
   | some (.arr _ rows _)=>match rows[k]? with
    | some r=>match ag with
     | none=>match r[j]? with|some x=>some (.one (.d x),H)|none=>none
     | some n=>if j+n<=r.length then some (.agg (((r.drop j).take n).map .d),H) else none
    | none=>none
   | _=>none
  | some (.one (.ip cs))=>match ag with
   | none=>match cs[0]? with|some x=>some (.one (.d x),H)|none=>none
   | some n=>if n<=cs.length then some (.agg ((cs.take n).map .d),H) else none
  | _=>none
 | .st n a v=>match a.ev fr,v.ev fr with
  | some (.one (.p i off)),some w=>match w.cs,H[i]? with
   | some ys,some (.cells xs)=>if ys.length=n∧off+n<=xs.length then some (.tup [],H.set i (.cells (xs.take off++ys++xs.drop (off+n)))) else none
   | _,_=>none
  | some (.one (.ap i k j)),some w=>match w.cs with
   | some ys=>match gU ys H with
    | some (zs,H1)=>match ow zs,H1[i]? with
     | some ds,some (.arr sz rows fz)=>match rows[k]? with
      | some r=>if ds.length=n∧j+n<=r.length∧fz<=k then some (.tup [],H1.set i (.arr sz (rows.set k (r.take j++ds++r.drop (j+n))) fz)) else none
      | none=>none
     | _,_=>none
    | none=>none
   | none=>none
  | _,_=>none
 | .nck x=>match x.ev fr with
  | some (.one (.p i o))=>some (.one (.p i o),H)
  | some (.one (.ap i k o))=>some (.one (.ap i k o),H)
  | some (.one (.ip cs))=>some (.one (.ip cs),H)
  | some (.one (.f g caps))=>some (.one (.f g caps),H)
  | some (.one (.d (.fn g caps)))=>some (.one (.d (.fn g caps)),H)
  | _=>none
 | .bin op x y=>match x.ev fr,y.ev fr with
  | some (.one (.d a)),some (.one (.d c))=>match dy op a c with|some r=>some (.one (.d r),H)|none=>none
  | _,_=>none
 | .eqb neg x y=>match x.ev fr,y.ev fr with
  | some (.one (.d (.b s))),some (.one (.d (.b t)))=>some (.one (.d (.b ((s == t) != neg))),H)
  | _,_=>none
 | .eqa neg ks x y=>match x.ev fr,y.ev fr with
  | some (.agg xs),some (.agg ys)=>match kT ks xs ys with|some r=>some (.one (.d (.b (r != neg))),H)|none=>none
  | _,_=>none
 | .nilc 0 neg x=>match x.ev fr with
  | some (.one (.d (.l rows)))=>if rows.isEmpty then none else some (.one (.d (.b neg)),H)
  | some (.one (.sl _ _ _ n))=>if n=0 then none else some (.one (.d (.b neg)),H)
  | some (.one .ns)=>some (.one (.d (.b !neg)),H)
  | some (.one (.nn _))=>some (.one (.d (.b neg)),H)
  | _=>none
 | .nilc 1 neg x=>match x.ev fr with
  | some (.one (.p _ _))|some (.one (.ap _ _ _))|some (.one (.ip _))=>some (.one (.d (.b neg)),H)
  | some (.one .np)=>some (.one (.d (.b !neg)),H)
  | _=>none
 | .nilc _ neg x=>match x.ev fr with
  | some (.one (.f _ _))=>some (.one (.d (.b neg)),H)
  | some (.one .nf)=>some (.one (.d (.b !neg)),H)
  | _=>none
 | .un op x=>match x.ev fr with
  | some (.one (.d a))=>match Om op a with|some r=>some (.one (.d r),H)|none=>none
  | _=>none
 | .cvi k x=>match x.ev fr with|some (.one (.d (.i _ n)))=>some (.one (.d (.i k (k.wrap n))),H)|_=>none
 | .cvs x=>match x.ev fr with|some (.one (.d (.s l)))=>some (.one (.d (.s l)),H)|_=>none
 | .b2s x=>match x.ev fr with
  | some (.one v)=>match cO H 1 v with
   | some rows=>match gk rows with|some l=>some (.one (.d (.s l)),H)|none=>none
   | none=>none
  | _=>none
 | .s2b x=>match x.ev fr with
  | some (.one (.d (.s l)))=>if l.length<=140737488355328 then some (.one (.sl H.length 1 0 l.length),H++[.arr 0 (ay l) 0]) else none
  | _=>none
 | .mkf f caps=>match mW fr caps with
  | some vs=>match vs.mapM (fun v=>match v with | .one (.p i 0)=>some i|_=>none) with
   | some l=>some (.one (.f f l),H)
   | none=>none
  | none=>none
 | .mks sz bytes zrow l c=>match G0 fr l,G0 fr c with
  | some (_,n),some (_,m)=>if 0<=n∧n<=m∧m*bytes<=140737488355328∧m<=9223372036854775807 then
    some (.one (.sl H.length sz 0 n.toNat),H++[.arr sz (List.replicate n.toNat zrow) 0]) else none
  | _,_=>none
 | .sls x lo hi=>match x.ev fr,i7 fr lo,i7 fr hi with
  | some (.one (.d (.s l))),some a,some c=>match cS l.length l.length a c none with
   | some (i,j,_)=>some (.one (.d (.s ((l.take j).drop i))),H)
   | none=>none
  | _,_,_=>none
 | .slc sz x lo hi mx=>match x.ev fr,i7 fr lo,i7 fr hi,i7 fr mx with
  | some (.one (.d (.l rows))),some a,some c,some none=>match cS rows.length rows.length a c none with
   | some (i,j,_)=>if aV sz rows then some (.one (.d (.l ((rows.take j).drop i))),H) else none
   | none=>none
  | some (.one .ns),some a,some c,some none=>match cS 0 0 a c none with
   | some _=>some (.one .ns,H)
   | none=>none
  | some (.one (.cl rows)),some a,some c,some none=>match cS rows.length rows.length a c none with
   | some (i,j,_)=>if aV sz rows then some (.one (.d (.l ((rows.take j).drop i))),H) else none
   | none=>none
  | some (.one (.d (.l rows))),some a,some c,some (some m)=>match cS rows.length rows.length a c (some m) with
   | some (i,j,k)=>if j=k∧aV sz rows then some (.one (.cl ((rows.take j).drop i)),H) else none
   | none=>none
  | some (.one (.sl b z off n)),some a,some c,some none=>match cS n n a c none with
   | some (i,j,_)=>if z=sz∨n=0 then some (.one (.sl b z (off+i) (j-i)),H) else none
   | none=>none
  | _,_,_,_=>none
 | .slar n x=>match x.ev fr with
  | some (.one (.p i 0))=>match H[i]? with
   | some (.cells xs)=>match ow xs with
    | some ds=>if xs.length=n∧0<n∧n<=9223372036854775807 then some (.one (.sl H.length 1 0 n),H.set i .dead++[.arr 1 (ds.map fun d=>[d]) 0]) else none
    | none=>none
   | _=>none
  | _=>none
 | .fa off x=>match x.ev fr with
  | some (.one (.p i o))=>some (.one (.p i (o+off)),H)
  | some (.one (.ap i k j))=>some (.one (.ap i k (j+off)),H)
  | some (.one (.ip cs))=>if off<=cs.length then some (.one (.ip (cs.drop off)),H) else none
  | _=>none
 | .fld ag off x=>match x.ev fr with
  | some (.agg xs)=>match ag with
   | none=>match xs[off]? with|some y=>some (.one y,H)|none=>none
   | some n=>if off+n<=xs.length then some (.agg ((xs.drop off).take n),H) else none
  | _=>none
 | .ixs x i=>match x.ev fr,G0 fr i with
  | some (.one (.d (.s l))),some (_,n)=>if 0<=n then match l[n.toNat]? with|some c=>some (.one (.d (.i .u8 c.toNat)),H)|none=>none else none
  | _,_=>none
 | .ia sz x i=>match x.ev fr,G0 fr i with
  | some (.one (.d (.l rows))),some (_,n)=>if 0<=n then match rows[n.toNat]? with|some r=>if r.length=sz then some (.one (.ip r),H) else none|none=>none else none
  | some (.one (.cl rows)),some (_,n)=>if 0<=n then match rows[n.toNat]? with|some r=>if r.length=sz then some (.one (.ip r),H) else none|none=>none else none
  | some (.one (.sl b z off m)),some (_,n)=>if 0<=n∧n<(m:Int)∧z=sz then some (.one (.ap b (off+n.toNat) 0),H) else none
  | some (.one (.sp b m)),some (_,n)=>if 0<=n∧n<(m:Int) then some (.one (.p b (n.toNat*sz)),H) else none
  | _,_=>none
 | .iar ln sz x i=>match x.ev fr,G0 fr i with
  | some (.one (.p b off)),some (_,n)=>if 0<=n∧n<(ln:Int) then some (.one (.p b (off+n.toNat*sz)),H) else none
  | _,_=>none
 | .ext x i=>match x.ev fr with
  | some (.tup xs)=>match xs[i]? with
   | some (true,ys)=>some (.agg ys,H)
   | some (false,[y])=>some (.one y,H)
   | _=>none
  | _=>none
 | .len true x=>match x.ev fr with
  | some (.one (.d (.s l)))=>some (.one (.d (.i .i64 l.length)),H)
  | _=>none
 | .len false x=>match x.ev fr with
  | some (.one (.d (.l rows)))=>some (.one (.d (.i .i64 rows.length)),H)
  | some (.one (.cl rows))=>some (.one (.d (.i .i64 rows.length)),H)
  | some (.one .ns)=>some (.one (.d (.i .i64 0)),H)
  | some (.one (.sl _ _ _ n))=>some (.one (.d (.i .i64 n)),H)
  | some (.one (.sp _ n))=>some (.one (.d (.i .i64 n)),H)
  | _=>none
 | .app str sz bytes s x=>match s.ev fr,x.ev fr with
  | some (.one sv),some (.one xv) =>
   match (bif str then(match xv with | .d (.s l)=>some (ay l)|_=>none) else cO H sz xv) with
   | none=>none
   | some news=>match sv with
    | .sl b _ 0 n=>match H[b]? with
     | some (.arr sz' rows fz) =>
      if(sz'=sz∨(sz'=0∧sz=1))∧n=rows.length∧(rows.length+news.length)*bytes<=140737488355328∧rows.length+news.length<=9223372036854775807∧aV sz news then
       some (.one (.sl H.length sz 0 (rows.length+news.length)),H.set b .dead++[.arr sz' (rows++news) fz]) else none
     | _=>none
    | .ns =>
      if news.length*bytes<=140737488355328∧news.length<=9223372036854775807∧aV sz news then
       some (.one (.sl H.length sz 0 news.length),H++[.arr sz news 0]) else none
    | .cl rows =>
      if(rows.length+news.length)*bytes<=140737488355328∧rows.length+news.length<=9223372036854775807∧aV sz news∧aV sz rows then
       some (.one (.d (.l (rows++news))),H) else none
    | _=>none
  | _,_=>none
 | .mm mx x y=>match x.ev fr,y.ev fr with
  | some (.one (.d (.i k a))),some (.one (.d (.i k' c)))=>if k=k' then some (.one (.d (.i k (bif mx then(if c > a then c else a) else(if c<a then c else a)))),H) else none
  | _,_=>none
 | .mkm=>some (.one (.m H.length),H++[.mp []])
 | .mset m k v=>match m.ev fr,k.ev fr,v.ev fr with
  | some (.one (.m i)),some (.one (.d (.s ks))),some (.one (.d (.b b)))=>match H[i]? with
   | some (.mp rows)=>some (.tup [],H.set i (.mp (wu rows ks b)))
   | _=>none
  | _,_,_=>none
 | .mget m k=>match m.ev fr,k.ev fr with
  | some (.one .nm),some (.one (.d (.s _)))=>some (.one (.d (.b false)),H)
  | some (.one (.m i)),some (.one (.d (.s ks)))=>match H[i]? with
   | some (.mp rows)=>some (.one (.d (.b (KK rows ks))),H)
   | _=>none
  | _,_=>none
 | .call f xs | .calln f xs=>match mW fr xs with|some vs=>ak φ f vs H|none=>none
 | .callp f xs=>match mW fr xs with
  | some vs=>match f7 vs with
   | some ds=>match φ f ds [] with|some (r,[])=>some (r,H)|_=>none
   | none=>none
  | none=>none
 | .callz f xs=>match mW fr xs with
  | some vs=>match oU vs H with
   | some (us,H1)=>match f7 us with
    | some ds=>match φ f ds [] with|some (r,[])=>some (r,H1)|_=>none
    | none=>none
   | none=>none
  | none=>none
 | .callv x xs=>match x.ev fr,mW fr xs with
  | some (.one (.f g caps)),some vs=>ak φ g (vs++caps.map fun i=>.one (.p i 0)) H
  | some (.one (.d (.fn g caps))),some vs=>ak φ g (vs++caps.map fun cs=>.one (.ip cs)) H
  | _,_=>none
def put (fr:Fr) (dst:Option Nat) (v:V):Fr:=match dst with|some d=>fr.set d v|none=>fr
def wantedV (fr:Fr):Option (Nat × Bool)->Option Bool
 | none=>some true
 | some (t,want)=>match fr[t]? with
  | some (.one (.d (.b x)))=>some (x == want)
  | some (.tup [])=>some false
  | _=>none
def AOp.step (φ:FuncId->List V->Hp->Option (V × Hp)) (o:AOp) (fr:Fr) (H:Hp):Option (Fr × Hp) :=
  match wantedV fr o.g with
  | none=>none
  | some w=>bif w then
      (match o.a.run φ fr H with
       | some (v,H1)=>(match (bif o.fz then pj v H1 else some (v,H1)) with
         | some (v,H2)=>some (put fr o.dst v,H2)
         | none=>none)
       | none=>none)
    else some (put fr o.dst (.tup []),H)
def bP (φ:FuncId->List V->Hp->Option (V × Hp)):List AOp->Fr->Hp->Option (Fr × Hp)
 | [],fr,H=>some (fr,H)
 | o::r,fr,H=>match o.step φ fr H with|some (fr,H)=>bP φ r fr H|none=>none
def vj (fr:Fr) (x:X):List Nat:=match x.ev fr with|some v=>v.refs|none=>[]
def xk (fr:Fr):X->Nat
 | .t n=>bif (vj fr (.t n)).isEmpty then 0 else 1
 | .c v=>bif v.refs.isEmpty then 0 else 2
def A.kind (fr:Fr):A->Nat
 | .ld _ a=>xk fr a
 | .b2s a=>xk fr a
 | .app _ _ _ s x=>match s.ev fr with|some (.one (.cl _))=>xk fr x|_=>2
 | .s2b _ | .st _ _ _ | .call _ _ | .calln _ _ | .callz _ _ | .callv _ _ | .alloc _ | .box _ | .own _ | .mks _ _ _ _ _ | .bsl _ _ _ | .bsp _ _ _ | .bs1 _ _ | .slar _ _ | .mkm | .mset _ _ _ | .mget _ _=>2
 | _=>0
def co:Option X->List X
 | some x=>[x]
 | none=>[]
def A.xs:A->List X
 | .mv x | .box x | .bs1 _ x | .slar _ x | .ld _ x | .nck x | .nilc _ _ x | .un _ x | .cvi _ x | .cvs x | .b2s x | .s2b x | .fa _ x | .fld _ _ x | .ext x _ | .len _ x=>[x]
 | .pick a b c | .mset a b c=>[a,b,c]
 | .build _ ps | .bsp _ _ ps=>ps.map fun q=>q.2.2
 | .bsl _ _ ps=>ps.map fun q=>q.2
 | .st _ a b | .bin _ a b | .eqb _ a b | .eqa _ _ a b | .mks _ _ _ a b | .ixs a b | .ia _ a b | .iar _ _ a b | .app _ _ _ a b | .mm _ a b | .mget a b=>[a,b]
 | .mkf _ xs | .call _ xs | .calln _ xs | .callp _ xs | .callz _ xs=>xs
 | .callv x xs=>x::xs
 | .sls x lo hi=>x::(co lo++co hi)
 | .slc _ x lo hi mx=>x::(co lo++co hi++co mx)
 | .own _ | .alloc _ | .mkm=>[]
def X.slot:X->List Nat
 | .t n=>[n]
 | .c _=>[]
def AOp.slots (o:AOp):List Nat:=o.a.xs.flatMap X.slot++(match o.g with|some (t,_)=>[t]|none=>[])
def ct (ids:List Nat) (q d:Nat):Nat->Option Nat:=fun j=>if j<ids.length then ids[j]? else if j<ids.length+d then some (q+(j-ids.length)) else none
def aB (fr:Fr) (l:List Nat):List Nat:=l.flatMap fun t=>match fr[t]? with|some v=>v.refs|none=>[]
def aM (o:AOp) (fr:Fr) (H:Hp):List Nat:=aI H (aB fr o.slots)
def aY (φ:FuncId->List V->Hp->Option (V × Hp)) (o:AOp) (fr:Fr) (H:Hp):Option (V × Hp) :=
 let ids:=aM o fr H
 match o.a.run φ ((bf o.slots fr).map (V.ren (aG ids))) (aw H ids) with
 | none=>none
 | some (r,H1) =>
  let β:=ct ids H.length (H1.length-ids.length)
  some (r.ren β,cu H ids ((H1.take ids.length).map (Box.ren β))++(H1.drop ids.length).map (Box.ren β))
structure Log0 where
 kind:Nat
 dst:Option Nat
 rds:List Nat
def Log0.free (x y:Log0):Bool :=
 (match x.dst with|some d => !y.rds.contains d && y.dst != some d|none=>true) && (match y.dst with|some d => !x.rds.contains d|none=>true) &&
 (x.kind == 0 || y.kind == 0 || (x.kind == 1 && y.kind == 1))
def kh (pre:List Nat) (e:Log0):Nat->List Log0->Bool
 | _,[]=>true
 | j,l::r=>(pre.contains j || l.free e) && kh pre e (j+1) r
def dx (φ:FuncId->List V->Hp->Option (V × Hp)):List AOp->List Log0->Fr->Hp->Option (Fr × Hp)
 | [],_,fr,H=>some (fr,H)
 | o::r,lg,fr,H=>match wantedV fr o.g with
  | none=>none
  | some w =>
   let e:Log0:=⟨bif w then o.a.kind fr else 0,o.dst,o.slots⟩
   if !o.fz && (o.pre.all (fun j=>decide (j<lg.length)) && kh o.pre e 0 lg) then
    match (bif w then o.a.run φ fr H else some (.tup [],H)) with
    | some (v,H1)=>dx φ r (lg++[e]) (put fr o.dst v) H1
    | none=>none
   else none
def QK:X->Nat
 | .t _=>1
 | .c v=>bif v.refs.isEmpty then 0 else 2
def A.kindS:A->Nat
 | .ld _ x=>QK x
 | .b2s x=>QK x
 | .s2b _ | .app _ _ _ _ _ | .st _ _ _ | .call _ _ | .calln _ _ | .callz _ _ | .callv _ _ | .alloc _ | .box _ | .own _ | .mks _ _ _ _ _ | .bsl _ _ _ | .bsp _ _ _ | .bs1 _ _ | .slar _ _ | .mkm | .mset _ _ _ | .mget _ _=>2
 | _=>0
def AOp.logS (o:AOp):Log0:=⟨o.a.kindS,o.dst,o.slots⟩
def Log0.freeS (x y:Log0):Bool :=
 (match x.dst with|some d => !y.rds.contains d && y.dst != some d|none=>true) && (match y.dst with|some d => !x.rds.contains d|none=>true) &&
 (x.kind == 0 || y.kind == 0 || (decide (x.kind<=1) && decide (y.kind<=1)))
def qx (pre:List Nat) (e:Log0):Nat->List Log0->Bool
 | _,[]=>true
 | j,l::r=>(pre.contains j || l.freeS e) && qx pre e (j+1) r
def jN:List AOp->List Log0->Bool
 | [],_=>true
 | o::r,lg => !o.fz && (o.pre.all (fun j=>decide (j<lg.length)) && qx o.pre o.logS 0 lg) && jN r (lg++[o.logS])
structure Tc where
 ids:List Nat
 un:Bool
 news:List Nat
def Tc.all (t:Tc):List Nat:=t.ids++t.news
def Tc.chg (t:Tc):List Nat:=(bif t.un then[] else t.ids)++t.news
structure Log where
 kind:Nat
 dst:Option Nat
 rds:List Nat
 tch:Tc
def Sz (a b:List Nat):Bool:=a.all fun x => !b.contains x
def Log.free (x y:Log):Bool :=
 (match x.dst with|some d => !y.rds.contains d && y.dst != some d|none=>true) && (match y.dst with|some d => !x.rds.contains d|none=>true) &&
 (x.kind == 0 || y.kind == 0 || (x.kind == 1 && y.kind == 1) || (Sz x.tch.all y.tch.chg && Sz x.tch.chg y.tch.all))
def gi (pre:List Nat) (e:Log):Nat->List Log->Bool
 | _,[]=>true
 | j,l::r=>(pre.contains j || l.free e) && gi pre e (j+1) r
def A.isN:A->Bool
 | .calln _ _=>true
 | _=>false
open Classical in
noncomputable def PH (c:Bool) (H H1:Hp):Bool:=bif c then decide (H1.take H.length=H) else false
noncomputable def touch (k:Nat) (o:AOp) (fr:Fr) (H H1:Hp):Tc:=match k with
 | 0=>⟨[],true,[]⟩
 | 1=>⟨aB fr o.slots,true,[]⟩
 | _=>⟨aM o fr H,PH o.a.isN H H1,List.range' H.length (H1.length-H.length)⟩
def drawStep (φ:FuncId->List V->Hp->Option (V × Hp)) (o:AOp) (k:Nat) (w:Bool) (fr:Fr) (H:Hp):Option (V × Hp) :=
 match w,k with
 | false,_=>some (.tup [],H)
 | true,2=>aY φ o fr H
 | true,_=>o.a.run φ fr H
noncomputable def cX (φ:FuncId->List V->Hp->Option (V × Hp)):List AOp->List Log->Fr->Hp->Option (Fr × Hp)
 | [],_,fr,H=>some (fr,H)
 | o::r,lg,fr,H=>match wantedV fr o.g with
  | none=>none
  | some w =>
   match drawStep φ o (bif w then o.a.kind fr else 0) w fr H with
   | some (v,H1) =>
    let e:Log:=⟨bif w then o.a.kind fr else 0,o.dst,o.slots,touch (bif w then o.a.kind fr else 0) o fr H H1⟩
    bif !o.fz && (o.pre.all (fun j=>decide (j<lg.length)) && gi o.pre e 0 lg) then cX φ r (lg++[e]) (put fr o.dst v) H1 else none
   | none=>none
noncomputable def dk (φ:FuncId->List V->Hp->Option (V × Hp)) (ops:List AOp) (fr:Fr) (H:Hp):Option (Fr × Hp) :=
 bif jN ops [] then dx φ ops [] fr H else cX φ ops [] fr H
inductive Ex where
 | normal|exit (id:Nat)|ret
def jB {α:Type} (body:Fr->Hp->(Ex->Fr->Hp->Option α)->Option α) (m:Nat) (lv:List Nat) (K:Ex->Fr->Hp->Option α):Nat->Fr->Hp->Option α
 | 0,_,_=>none
 | n+1,fr,H=>body (canon m lv fr H).1 (canon m lv fr H).2 fun e fr' H'=>match e with
  | .normal=>jB body m lv K n fr' H'
  | e=>K e fr' H'
noncomputable def gg {α:Type} (φ:FuncId->List V->Hp->Option (V × Hp)) (n m:Nat):AC->Fr->Hp->(Ex->Fr->Hp->Option α)->Option α
 | .skip,fr,H,K=>K .normal fr H
 | .reg ops dr,fr,H,K=>match (bif dr then dk φ ops fr H else bP φ ops fr H) with|some (fr,H)=>K .normal fr H|none=>none
 | .seq a b,fr,H,K=>gg φ n m a fr H fun e fr H=>match e with | .normal=>gg φ n m b fr H K|e=>K e fr H
 | .cond c a b,fr,H,K=>match c.ev fr with
  | some (.one (.d (.b x)))=>bif x then gg φ n m a fr H K else gg φ n m b fr H K
  | _=>none
 | .block id c,fr,H,K=>gg φ n m c fr H fun e fr H=>match e with | .exit i=>if i=id then K .normal fr H else K (.exit i) fr H|e=>K e fr H
 | .loop lv c,fr,H,K=>jB (gg φ n m c) m lv K n fr H
 | .exit id,fr,H,K=>K (.exit id) fr H
 | .ret,fr,H,K=>K .ret fr H
 | .yld _ _ _ _ _,_,_,_=>none
 | .rng _ _ _ _,_,_,_=>none
noncomputable def fc {α:Type} (φ:FuncId->List V->Hp->Option (V × Hp)) (ψ:List V->Hp->Option (Nat × Hp)) (n m:Nat):AC->Fr->Hp->(Ex->Fr->Hp->Option α)->Option α
 | .skip,fr,H,K=>K .normal fr H
 | .reg ops dr,fr,H,K=>match (bif dr then dk φ ops fr H else bP φ ops fr H) with|some (fr,H)=>K .normal fr H|none=>none
 | .seq a b,fr,H,K=>fc φ ψ n m a fr H fun e fr H=>match e with | .normal=>fc φ ψ n m b fr H K|e=>K e fr H
 | .cond c a b,fr,H,K=>match c.ev fr with
  | some (.one (.d (.b x)))=>bif x then fc φ ψ n m a fr H K else fc φ ψ n m b fr H K
  | _=>none
 | .block id c,fr,H,K=>fc φ ψ n m c fr H fun e fr H=>match e with | .exit i=>if i=id then K .normal fr H else K (.exit i) fr H|e=>K e fr H
 | .loop lv c,fr,H,K=>jB (fc φ ψ n m c) m lv K n fr H
 | .exit id,fr,H,K=>K (.exit id) fr H
 | .ret,fr,H,K=>K .ret fr H
 | .rng _ _ _ _,_,_,_=>none
 | .yld ops1 d y xs ops2,fr,H,K=>match bP φ ops1 fr H with
  | some (fr1,H1)=>match fr1.head?,y.ev fr1,mW fr1 xs with
   | some (.one (.y q 0)),some (.one (.y q' _)),some vs=>if q'=q then
     (match ψ vs H1 with
     | some (k,H2)=>match bP φ ops2 (put (put fr1 (some 0) (.one (.y q k))) d (.one (.d (.b (k == 0))))) H2 with
      | some (fr3,H3)=>K .normal fr3 H3
      | none=>none
     | none=>none) else none
   | _,_,_=>none
  | none=>none
def qS (ops:List AOp):Bool:=ops.all fun o=>o.dst != some 0
def AC.zok:AC->Bool
 | .reg ops _=>qS ops
 | .seq a b=>a.zok && b.zok
 | .cond _ a b=>a.zok && b.zok
 | .block _ c=>c.zok
 | .loop lv c=>lv.contains 0 && c.zok
 | .yld a d _ _ b=>qS a && (d != some 0 && qS b)
 | .rng _ _ _ _=>false
 | _=>true
def AC.nd:AC->Bool
 | .reg _ dr => !dr
 | .seq a b=>a.nd && b.nd
 | .cond _ a b=>a.nd && b.nd
 | .block _ c=>c.nd
 | .loop _ c=>c.nd
 | _=>true
def AC.hasR:AC->Bool
 | .seq a b=>a.hasR || b.hasR
 | .cond _ a b=>a.hasR || b.hasR
 | .block _ c=>c.hasR
 | .rng _ _ _ _=>true
 | _=>false
def pa:Ex->Nat
 | .normal=>0
 | .ret=>1
 | .exit i=>i+2
def mX:Nat->Ex
 | 0=>.normal
 | 1=>.ret
 | i+2=>.exit i
def me:AC->Bool
 | .seq a b=>(me a && !b.hasR) || (!a.hasR && me b)
 | .cond _ a b=>me a && me b
 | .block _ c=>me c
 | _=>true
def oE:List Nat->List V->Fr->Fr
 | t::ts,v::vs,fr=>oE ts vs (fr.set t v)
 | _,_,fr=>fr
noncomputable def m0 (φ:FuncId->List V->Hp->Option (V × Hp)) (n:Nat) (fr:Fr) (ps:List Nat) (asg body:AC) (args:List V) (H:Hp):Option (Nat × Hp) :=
 if args.length=ps.length then
  gg φ n H.length asg (oE ps args fr) H fun e fr1 H1=>match e with
   | .normal=>gg φ n H.length body fr1 H1 fun e2 _ H2=>some (pa e2,H2)
   | _=>none
 else none
def nD {α:Type} (fr:Fr) (K:Ex->Fr->Hp->Option α):Ex->Fr->Hp->Option α:=fun e frg H=>match e with
 | .exit _=>none
 | _=>match frg.head? with
  | some (.one (.y _ k))=>K (mX k) fr H
  | _=>none
noncomputable def vZ {α:Type} (φ:FuncId->List V->Hp->Option (V × Hp)) (prog:FuncId->Option AF) (n:Nat) (g:X) (ps:List Nat) (asg body:AC) (fr:Fr) (H:Hp) (K:Ex->Fr->Hp->Option α):Option α :=
 match g.ev fr with
 | some (.one (.f gf caps))=>match prog gf with
  | some af=>bif (af.res.isEmpty && af.body.zok) && (asg.nd && body.nd) then
    fc φ (m0 φ n fr ps asg body) n (H.length+1) af.body
     ((.one (.y H.length 0)::caps.map fun i=>V.one (.p i 0))++List.replicate (af.ntmps-(caps.length+1)) (.tup [])) (H++[Box.dead]) (nD fr K)
   else none
  | none=>none
 | _=>none
noncomputable def fS {α:Type} (φ:FuncId->List V->Hp->Option (V × Hp)) (prog:FuncId->Option AF) (n m:Nat):AC->Fr->Hp->(Ex->Fr->Hp->Option α)->Option α
 | .seq a b,fr,H,K=>fS φ prog n m a fr H fun e fr H=>match e with | .normal=>fS φ prog n m b fr H K|e=>K e fr H
 | .cond c a b,fr,H,K=>match c.ev fr with
  | some (.one (.d (.b x)))=>bif x then fS φ prog n m a fr H K else fS φ prog n m b fr H K
  | _=>none
 | .block id c,fr,H,K=>fS φ prog n m c fr H fun e fr H=>match e with | .exit i=>if i=id then K .normal fr H else K (.exit i) fr H|e=>K e fr H
 | .rng g ps asg body,fr,H,K=>vZ φ prog n g ps asg body fr H K
 | .loop lv c,fr,H,K=>gg φ n m (.loop lv c) fr H K
 | .skip,fr,H,K=>K .normal fr H
 | .reg ops dr,fr,H,K=>match (bif dr then dk φ ops fr H else bP φ ops fr H) with|some (fr,H)=>K .normal fr H|none=>none
 | .exit id,fr,H,K=>K (.exit id) fr H
 | .ret,fr,H,K=>K .ret fr H
 | .yld _ _ _ _ _,_,_,_=>none
def RV.get (fr:Fr) (H:Hp):RV->Option V
 | .t n=>fr[n]?
 | .c ag n=>match A.run (fun _ _ _=>none) fr H (.ld ag (.t n)) with|some (v,_)=>some v|none=>none
def FW:V->Option (Bool × List L)
 | .one x=>some (false,[x])
 | .agg xs=>some (true,xs)
 | _=>none
def wv (fr:Fr) (H:Hp):List RV->Option (List (Bool × List L))
 | []=>some []
 | t::r=>match t.get fr H with
  | some v=>match FW v,wv fr H r with|some x,some xs=>some (x::xs)|_,_=>none
  | none=>none
def rC (fr:Fr) (H:Hp):List RV->Option V
 | []=>some (.tup [])
 | [t]=>t.get fr H
 | ts=>match wv fr H ts with
  | some l=>some (.tup l)
  | none=>none
def trim (m:Nat) (r:V) (H:Hp):V × Hp :=
 if(r.refs++(H.take m).flatMap Box.refs).all (· < m) then(r,H.take m) else(r,H)
def gy (af:AF) (m:Nat):Ex->Fr->Hp->Option (V × Hp)
 | .exit _,_,_=>none
 | _,fr,H=>match rC fr H af.res with
  | none=>none
  | some r=>match (bif af.keep then some (r,H) else pj r H) with
   | some (r,H)=>some (trim m r H)
   | none=>none
noncomputable def kM (prog:FuncId->Option AF) (pr:FuncId->List V->Hp->Option (V × Hp)):Nat->FuncId->List V->Hp->Option (V × Hp)
 | 0,_,_,_=>none
 | n+1,f,args,H=>match prog f with
  | none=>pr f args H
  | some af=>bif af.body.hasR then(bif me af.body then fS (kM prog pr n) prog n H.length af.body (args++List.replicate (af.ntmps-args.length) (.tup [])) H (gy af H.length) else none)
   else gg (kM prog pr n) n H.length af.body (args++List.replicate (af.ntmps-args.length) (.tup [])) H (gy af H.length)
structure Loc where
 blk:Option Nat
 sz:Nat
 len:Nat
 cap:Nat
abbrev Mu:=Nat->Option Loc
abbrev St:=Nat->Nat->Prop
inductive RelD (S:St) (w:World):D->Value->Prop where
 | b (x:Bool):RelD S w (.b x) (.bool x)
 | i (k:IntKind) (n:Int):RelD S w (.i k n) (.int k n)
 | s (x:List UInt8):RelD S w (.s x) (.string ⟨x.toArray⟩)
 | nil (a:Option Addr) (c:Nat) (h:a=none->c=0):RelD S w (.l []) (.slice a 0 c)
 | l (rows:List (List D)) (sz B off c:Nat) (u:Nat->Nat->Value) (hc:rows.length<=c) (hs:∀ r∈rows,r.length=sz)
   (hS:∀ i j,i<rows.length->j<sz->S B (off+i*sz+j))
   (hcell:∀ i j,i<rows.length->j<sz->w.cell? ⟨B,off+i*sz+j,none⟩=some (u i j))
   (hrel:∀ (i j:Nat) (r:List D) (d:D),rows[i]?=some r->r[j]?=some d->RelD S w d (u i j)) :
   RelD S w (.l rows) (.slice (some ⟨B,off,none⟩) rows.length c)
 | fn (f:FuncId) (caps:List (List D)) (B off:Nat->Nat) (u:Nat->Nat->Value)
   (hS:∀ (j k:Nat) (cs:List D),caps[j]?=some cs->k<cs.length->S (B j) (off j+k))
   (hcell:∀ (j k:Nat) (cs:List D),caps[j]?=some cs->k<cs.length->w.cell? ⟨B j,off j+k,none⟩=some (u j k))
   (hrel:∀ (j k:Nat) (cs:List D) (d:D),caps[j]?=some cs->cs[k]?=some d->RelD S w d (u j k)) :
   RelD S w (.fn f caps) (.func (.func f) #[] ((List.range caps.length).map fun j=>Value.pointer (some ⟨B j,off j,none⟩)).toArray)
def ptrTo (mu:Mu) (i off:Nat) (v:Value):Prop:=∃ l B,mu i=some l∧l.blk=some B∧v=.pointer (some ⟨B,off,none⟩)
def SlOk (l:Loc) (off len:Nat) (v:Value):Prop :=
 ∃ a c,v=.slice a len c∧match l.blk with
  | none=>a=none∧c=0∧len=0∧l.cap=0
  | some B=>(off=0->a=some ⟨B,0,none⟩)∧(0<len->a=some ⟨B,off*l.sz,none⟩)∧c+off=l.cap∧(∃ o,a=some ⟨B,o,none⟩)∧len<=c
def flat:Value->Prop
 | .agg _=>False
 | .tuple _=>False
 | _=>True
def RelL (mu:Mu) (S:St) (w:World):L->Value->Prop
 | .d x,v=>RelD S w x v
 | .p i off,v=>ptrTo mu i off v
 | .ap i k j,v=>∃ l B,mu i=some l∧l.blk=some B∧v=.pointer (some ⟨B,k*l.sz+j,none⟩)
 | .ip cs,v=>∃ B off,v=.pointer (some ⟨B,off,none⟩)∧∀ (j:Nat) (d:D),cs[j]?=some d->S B (off+j)∧∃ x,w.cell? ⟨B,off+j,none⟩=some x∧RelD S w d x
 | .np,v=>v=.pointer none
 | .nf,v=>v=.nilFunc
 | .ns,v=>v=.slice none 0 0
 | .sl i sz off len,v=>∃ l,mu i=some l∧l.sz=sz∧off+len<=l.len∧SlOk l off len v
 | .nn rows,v=>(∃ a n c,v=.slice (some a) n c)∧RelD S w (.l rows) v
 | .cl rows,v=>(∃ a,v=.slice a rows.length rows.length)∧RelD S w (.l rows) v
 | .f fn caps,v=>∃ vs:List Value,v=.func (.func fn) #[] vs.toArray∧vs.length=caps.length∧∀ (j i:Nat),caps[j]?=some i->∃ x,vs[j]?=some x∧ptrTo mu i 0 x
 | .y q _,v=>∃ l B,mu q=some l∧l.blk=some B∧v=.func (.yield B) #[] #[]
 | .sp i n,v=>∃ l B,mu i=some l∧l.blk=some B∧v=.slice (some ⟨B,0,none⟩) n n
 | .u,v=>flat v
 | .m i,v=>∃ l B,mu i=some l∧l.blk=some B∧v=.map (some B)
 | .nm,v=>v=.map none
def RelLs (mu:Mu) (S:St) (w:World) (xs:List L) (vs:List Value):Prop :=
 vs.length=xs.length∧∀ (j:Nat) (x:L),xs[j]?=some x->∃ v,vs[j]?=some v∧RelL mu S w x v
def RelC (mu:Mu) (S:St) (w:World):Bool × List L->Value->Prop
 | (true,xs),v=>∃ cs:Array Value,v=.agg cs∧RelLs mu S w xs cs.toList
 | (false,xs),v=>∃ x,xs=[x]∧RelL mu S w x v
def RelV (mu:Mu) (S:St) (w:World):V->Value->Prop
 | .one x,v=>RelL mu S w x v
 | .agg xs,v=>∃ cs:Array Value,v=.agg cs∧RelLs mu S w xs cs.toList
 | .any,_=>True
 | .tup xs,v=>∃ vs:Array Value,v=.tuple vs∧vs.size=xs.length∧∀ (j:Nat) (c:Bool × List L),xs[j]?=some c->∃ x,vs[j]?=some x∧RelC mu S w c x
structure RelFr (mu:Mu) (S:St) (w:World) (fr:Fr) (a:Act):Prop where
 size:a.tmps.size=fr.length
 rel:∀ (t:Nat) (v:V),fr[t]?=some v->∃ x,a.tmps[t]?=some x∧RelV mu S w v x
def zj (f:Nat × Nat) (n:Nat):Prop:=∀ o,o<n->¬ (f.1<=o∧o<f.2)
theorem oq (n:Nat):zj (0,0) n:=fun o _ h=>by simp at h
def Iw (f:Nat × Nat) (n sz:Nat):Prop:=zj f n∧(sz≠0->f=(0,0))
theorem qZ (n sz:Nat):Iw (0,0) n sz:=⟨oq n,fun _=>rfl⟩
def iJ (j:Nat):List (List UInt8 × Bool)->List MapEntry
 | []=>[]
 | r::t=>⟨.string ⟨r.1.toArray⟩,.bool r.2,j⟩::iJ (j+1) t
def lU (rows:List (List UInt8 × Bool)):Array MapEntry:=(iJ 0 rows).toArray
def RelB (mu:Mu) (S:St) (TB:Nat->Prop) (w:World) (i:Nat):Box->Prop
 | .dead=>True
 | .cells xs=>∃ l B cur e,mu i=some l∧l.blk=some B∧w.heap[B]?=some (.cells cur e (0,0))∧RelLs mu S w xs cur.toList ∧
   ¬ TB B∧(∀ o,¬ S B o)
 | .arr sz rows fz=>∃ l,mu i=some l∧(l.sz=sz∨sz=0∧l.sz=1)∧l.len=rows.length∧(∀ r∈rows,r.length=l.sz)∧fz<=rows.length ∧
   match l.blk with
   | none=>rows=[]∧l.cap=0
   | some B=>∃ cur e f,w.heap[B]?=some (.cells cur e f)∧(cur.size=l.cap*l.sz∧Iw f cur.size sz)∧rows.length<=l.cap∧l.cap<=maxLen∧0<l.sz ∧
     (∀ (k j:Nat) (r:List D) (d:D),rows[k]?=some r->r[j]?=some d->∃ v:Value,cur[k*l.sz+j]?=some v∧RelD S w d v) ∧
     ¬ TB B∧(∀ o,S B o->o<fz*l.sz)∧(∀ o,o<fz*l.sz->S B o)
 | .mp rows=>∃ l B,mu i=some l∧l.blk=some B∧w.heap[B]?=some (.map (lU rows) rows.length)∧¬ TB B∧(∀ o,¬ S B o)
def alive:Box->Bool
 | .dead=>false
 | _=>true
structure Inv (mu:Mu) (S:St) (TB:Nat->Prop) (w:World) (H:Hp):Prop where
 box:∀ (i:Nat) (b:Box) (l:Loc),H[i]?=some b->mu i=some l->RelB mu S TB w i b
 dom:∀ i l,mu i=some l->i<H.length
 old:∀ i l B,mu i=some l->l.blk=some B->B<w.heap.size
 sl:∀ b o,S b o->b<w.heap.size
 tl:∀ b,TB b->b<w.heap.size
 one:∀ i j bi bj li lj B,i≠j->H[i]?=some bi->H[j]?=some bj->alive bi=true->alive bj=true->mu i=some li->mu j=some lj->li.blk=some B->lj.blk≠some B
structure Ext (TB:Nat->Prop) (mu:Mu) (S:St) (w:World) (mu':Mu) (S':St) (w':World):Prop where
 mu:∀ i l,mu i=some l->mu' i=some l
 ss:∀ b o,S b o->S' b o
 avoid:∀ b o,TB b->S' b o->S b o
 cell:∀ b o,S b o->w'.cell? ⟨b,o,none⟩=w.cell? ⟨b,o,none⟩
 blk:∀ b,TB b->w'.heap[b]?=w.heap[b]?
 size:w.heap.size<=w'.heap.size
 os:w'.os=w.os
 tape:w'.tape=w.tape
 output:w'.output=w.output
theorem Ext.refl (TB:Nat->Prop) (mu:Mu) (S:St) (w:World):Ext TB mu S w mu S w :=
 ⟨fun _ _ h=>h,fun _ _ h=>h,fun _ _ _ h=>h,fun _ _ _=>rfl,fun _ _=>rfl,Nat.le_refl _,rfl,rfl,rfl⟩
theorem Ext.trans {TB:Nat->Prop} {mu mu1 mu2:Mu} {S S1 S2:St} {w w1 w2:World} (h:Ext TB mu S w mu1 S1 w1) (k:Ext TB mu1 S1 w1 mu2 S2 w2):Ext TB mu S w mu2 S2 w2 :=
 ⟨fun i l x=>k.mu i l (h.mu i l x),fun b o x=>k.ss b o (h.ss b o x),fun b o t x=>h.avoid b o t (k.avoid b o t x),
  fun b o x=>(k.cell b o (h.ss b o x)).trans (h.cell b o x),fun b t=>(k.blk b t).trans (h.blk b t),Nat.le_trans h.size k.size,
  k.os.trans h.os,k.tape.trans h.tape,k.output.trans h.output⟩
section mono
variable {TB:Nat->Prop} {mu mu':Mu} {S S':St} {w w':World}
theorem RelD.mono (hss:∀ b o,S b o->S' b o) (hcell:∀ b o,S b o->w'.cell? ⟨b,o,none⟩=w.cell? ⟨b,o,none⟩) {x:D} {v:Value} (h:RelD S w x v):RelD S' w' x v:=by
 induction h with
 | b x=>exact .b x
 | i k n=>exact .i k n
 | s x=>exact .s x
 | nil a c h=>exact .nil a c h
 | l rows sz B off c u hc hs hS hce _ ih =>
  refine .l rows sz B off c u hc hs (fun i j hi hj=>hss _ _ (hS i j hi hj)) (fun i j hi hj=>?_) ih
  rw[hcell _ _ (hS i j hi hj)];exact hce i j hi hj
 | fn f caps B off u hS hce _ ih =>
  refine .fn f caps B off u (fun j k cs a b=>hss _ _ (hS j k cs a b)) (fun j k cs a b=>?_) ih
  rw[hcell _ _ (hS j k cs a b)];exact hce j k cs a b
theorem ptrTo.mono (hmu:∀ i l,mu i=some l->mu' i=some l) {i off:Nat} {v:Value} (h:ptrTo mu i off v):ptrTo mu' i off v:=by
 obtain⟨l,B,h1,h2⟩:=h;exact⟨l,B,hmu _ _ h1,h2⟩
theorem RelL.mono' (hmu:∀ i l,mu i=some l->mu' i=some l) (hss:∀ b o,S b o->S' b o) (hcell:∀ b o,S b o->w'.cell? ⟨b,o,none⟩=w.cell? ⟨b,o,none⟩)
  {x:L} {v:Value} (h:RelL mu S w x v):RelL mu' S' w' x v:=by
 cases x with
 | d x=>exact RelD.mono hss hcell h
 | p i off=>exact ptrTo.mono hmu h
 | ap i k j=>obtain⟨l,B,h1,h2⟩:=h;exact⟨l,B,hmu _ _ h1,h2⟩
 | ip cs =>
  obtain⟨B,off,rfl,h⟩:=h;refine⟨B,off,rfl,fun j d hj=>?_⟩
  obtain⟨hs,x,hx,hr⟩:=h j d hj;exact⟨hss _ _ hs,x,by rw[hcell _ _ hs];exact hx,RelD.mono hss hcell hr⟩
 | np=>exact h
 | nf=>exact h
 | ns=>exact h
 | sl i sz off len=>obtain⟨l,h1,h2⟩:=h;exact⟨l,hmu _ _ h1,h2⟩
 | cl rows=>exact⟨h.1,RelD.mono hss hcell h.2⟩
 | nn rows=>exact⟨h.1,RelD.mono hss hcell h.2⟩
 | f fn caps =>
  obtain⟨vs,h1,h2,h3⟩:=h;refine⟨vs,h1,h2,fun j i hj=>?_⟩
  obtain⟨x,hx,hp⟩:=h3 j i hj;exact⟨x,hx,ptrTo.mono hmu hp⟩
 | y q k=>obtain⟨l,B,h1,h2⟩:=h;exact⟨l,B,hmu _ _ h1,h2⟩
 | sp i n=>obtain⟨l,B,h1,h2⟩:=h;exact⟨l,B,hmu _ _ h1,h2⟩
 | m i=>obtain⟨l,B,h1,h2⟩:=h;exact⟨l,B,hmu _ _ h1,h2⟩
 | nm=>exact h
 | u=>trivial
theorem RelL.ext (e:Ext TB mu S w mu' S' w') {x:L} {v:Value} (h:RelL mu S w x v):RelL mu' S' w' x v:=h.mono' e.mu e.ss e.cell
theorem RelD.ext (e:Ext TB mu S w mu' S' w') {x:D} {v:Value} (h:RelD S w x v):RelD S' w' x v:=h.mono e.ss e.cell
theorem RelLs.ext (e:Ext TB mu S w mu' S' w') {x:List L} {v:List Value} (h:RelLs mu S w x v):RelLs mu' S' w' x v :=
 ⟨h.1,fun j x hj=>let ⟨v,hv,hr⟩:=h.2 j x hj;⟨v,hv,hr.ext e⟩⟩
theorem RelC.ext (e:Ext TB mu S w mu' S' w') {c:Bool × List L} {v:Value} (h:RelC mu S w c v):RelC mu' S' w' c v:=by
 obtain⟨t,xs⟩:=c;cases t with
 | true=>obtain⟨cs,h1,h2⟩:=h;exact⟨cs,h1,h2.ext e⟩
 | false=>obtain⟨x,h1,h2⟩:=h;exact⟨x,h1,h2.ext e⟩
theorem RelV.ext (e:Ext TB mu S w mu' S' w') {x:V} {v:Value} (h:RelV mu S w x v):RelV mu' S' w' x v:=by
 cases x with
 | one x=>exact RelL.ext e h
 | agg xs=>obtain⟨cs,h1,h2⟩:=h;exact⟨cs,h1,h2.ext e⟩
 | tup xs =>
  obtain⟨vs,h1,h2,h3⟩:=h;exact⟨vs,h1,h2,fun j c hj=>let ⟨x,hx,hr⟩:=h3 j c hj;⟨x,hx,hr.ext e⟩⟩
 | any=>trivial
theorem RelFr.ext (e:Ext TB mu S w mu' S' w') {fr:Fr} {a:Act} (h:RelFr mu S w fr a):RelFr mu' S' w' fr a :=
 ⟨h.size,fun t v ht=>let ⟨x,hx,hr⟩:=h.rel t v ht;⟨x,hx,hr.ext e⟩⟩
end mono
theorem RelFr.put {mu:Mu} {S:St} {w:World} {fr:Fr} {a:Act} (h:RelFr mu S w fr a) (dst:Option Nat) {v:V} {x:Value} (hv:RelV mu S w v x) :
  RelFr mu S w (put fr dst v) (a.put dst x):=by
 cases dst with
 | none=>exact h
 | some d =>
  refine⟨by simp[Act.put,Vi.put,h.size],fun t u ht=>?_⟩
  simp only[Vi.put] at ht;simp only[Act.put];by_cases e:d=t
  ·subst e;rw[List.getElem?_set] at ht;split at ht
   ·rename_i hlt;simp at hlt;split at ht
    ·have hu:v=u:=by simpa using ht
     subst hu;exact⟨x,by simp[Array.getElem?_setIfInBounds,h.size];assumption,hv⟩
    ·simp at ht
   ·omega
  ·rw[List.getElem?_set_ne e] at ht;obtain⟨y,hy,hr⟩:=h.rel t u ht;exact⟨y,by rw[Array.getElem?_setIfInBounds_ne e];exact hy,hr⟩
def v5:Value->Option L
 | .bool b=>some (.d (.b b))
 | .int k n=>some (.d (.i k n))
 | .string s=>some (.d (.s s.data.toList))
 | .slice none 0 0=>some .ns
 | .pointer none=>some .np
 | .nilFunc=>some .nf
 | .map none=>some .nm
 | _=>none
def gj:List Value->Option (List L)
 | []=>some []
 | v::r=>match v5 v,gj r with|some x,some xs=>some (x::xs)|_,_=>none
def DU:Value->Option V
 | .agg cs=>match gj cs.toList with|some xs=>some (.agg xs)|none=>none
 | .tuple _=>none
 | v=>match v5 v with|some x=>some (.one x)|none=>none
def constDs:List Value->Option (List D)
 | []=>some []
 | v::r=>match v5 v,constDs r with
  | some (.d x),some xs=>some (x::xs)
  | some .ns,some xs=>some (.l []::xs)
  | _,_=>none
def aA:Operand->Option X
 | .tmp t=>some (.t t)
 | .const v=>match DU v with|some x=>some (.c x)|none=>none
 | .func f=>some (.c (.one (.f f [])))
 | .global _=>none
def gV:List Operand->Option (List X)
 | []=>some []
 | x::r=>match aA x,gV r with|some y,some ys=>some (y::ys)|_,_=>none
def lY:Option Operand->Option (Option X)
 | none=>some none
 | some x=>match aA x with|some y=>some (some y)|none=>none
def pB (P:Program) (t:TypeId):Option (Option Nat) :=
 match P.underlying t,P.info? t with
 | some (.struct _),some i=>some (some i.size)
 | some (.array _ _),some i=>some (some i.size)
 | some _,some _=>some none
 | _,_=>none
def lP (pl:List (Nat × Nat)):List (Nat × Operand)->Option (List (Nat × Nat × X))
 | []=>some []
 | (i,x)::r=>match pl[i]?,aA x,lP pl r with
  | some f,some y,some ys=>some ((f.1,f.2,y)::ys)
  | _,_,_=>none
def gq (sz:Nat):List (Nat × Operand)->Option (List (Nat × Nat × X))
 | []=>some []
 | (i,x)::r=>match aA x,gq sz r with|some y,some ys=>some ((i*sz,sz,y)::ys)|_,_=>none
def j7:List (Nat × Operand)->Option (List (Nat × X))
 | []=>some []
 | (i,x)::r=>match aA x,j7 r with|some y,some ys=>some ((i,y)::ys)|_,_=>none
def v1 (P:Program) (t:TypeId):Option Nat:=match P.underlying t with|some (.int _)=>some 0|some .bool=>some 1|some .string=>some 2|_=>none
def iC (P:Program):Nat->List Field->Option (List Nat)
 | _,[]=>some []
 | i,f::fs=>if f.name = "_" ∨ f.offset≠i then none else match v1 P f.type,iC P (i+1) fs with|some k,some ks=>some (k::ks)|_,_=>none
def xX (P:Program) (t:TypeId) (y:Operand):Option Nat:=match P.underlying t,y with
 | some (.slice _),.const (.slice none 0 0)=>some 0
 | some (.pointer _),.const (.pointer none)=>some 1
 | some (.func _ _ _),.const .nilFunc=>some 2
 | _,_=>none
def yT (P:Program) (neg:Bool) (t:TypeId) (x y:Operand):Option A :=
 match P.underlying t with
 | some .bool=>match aA x,aA y with|some x,some y=>some (.eqb neg x y)|_,_=>none
 | some (.struct fs)=>if P.stoodInHeld t || P.eqGuardType P.depth t then none else match iC P 0 fs.toList,aA x,aA y with|some (k::ks),some x,some y=>some (.eqa neg (k::ks) x y)|_,_,_=>none
 | some (.int _)=>match aA x,aA y with|some x,some y=>some (.bin (bif neg then .neq else .eql) x y)|_,_=>none
 | some .string=>match aA x,aA y with|some x,some y=>some (.bin (bif neg then .neq else .eql) x y)|_,_=>none
 | _=>match xX P t y with|some k=>(aA x).map (.nilc k neg)|none=>none
def callable (P:Program) (f:FuncId):Bool:=match P.funcs[f]? with|some fn=>fn.body.isSome && fn.name != "runtime.NumGoroutine" | none=>false
def vv (P:Program) (t:TypeId):Bool:=match P.underlying t with
 | some (.map k e)=>(match P.underlying k,P.info? e with|some .string,some i=>(match i.zero with|some (.bool false)=>true|_=>false)|_,_=>false)
 | _=>false
def bQ (P:Program) (fl:Nat) (o:Op):Option A :=
 match o with
 | .move x | .assign x=>if 100<=fl then(match x with | .const (.slice none 0 0)=>some (.own (fl-100))|_=>none) else(aA x).map .mv
 | .pick c a b=>match aA c,aA a,aA b with|some c,some a,some b=>some (.pick c a b)|_,_,_=>none
 | .alloc e=>match P.info? e with
  | some i=>match i.zero with|some z=>(gj z.cells.toList).map .alloc|none=>none
  | none=>none
 | .box _ x=>(aA x).map .box
 | .build t ps=>match P.info? t,P.underlying t with
  | some i,some (.struct fs)=>match i.zero with
   | some z=>match gj z.cells.toList,fs.toList.mapM (fun f=>(P.info? f.type).map fun i=>(f.offset,i.size)) with
    | some zs,some pl=>match lP pl ps.toList with|some qs=>some (.build zs qs)|none=>none
    | _,_=>none
   | none=>none
  | some i,some (.array _ e)=>match i.zero,P.info? e with
   | some z,some ei=>match gj z.cells.toList,gq ei.size ps.toList with|some zs,some qs=>some (.build zs qs)|_,_=>none
   | _,_=>none
  | _,_=>none
 | .buildSlice t n ps=>match P.underlying t with
  | some (.slice e)=>match P.info? e with
   | some i=>match i.zero with
    | some z=>if fl=30 then(match ps.toList with
      | [(0,x)]=>if n=1∧0<i.size∧i.size<=16777216∧z.cells.size=i.size then(aA x).map (.bs1 i.size) else none
      | _=>none)
     else match constDs z.cells.toList,j7 ps.toList with
     | some zr,some qs=>if n*i.size<=16777216∧zr.length=i.size∧0<i.size then some (.bsl i.size (List.replicate n zr) qs) else none
     | none,_=>match gj z.cells.toList,gq i.size ps.toList with
      | some zl,some qs=>if n*i.size<=16777216∧zl.length=i.size∧0<i.size∧0<n then some (.bsp n (List.replicate n zl).flatten qs) else none
      | _,_=>none
     | _,_=>none
    | none=>none
   | none=>none
  | _=>none
 | .load t a=>match pB P t,aA a with|some g,some x=>some (.ld g x)|_,_=>none
 | .store t a v=>match P.info? t,aA a,aA v with|some i,some x,some y=>some (.st i.size x y)|_,_,_=>none
 | .nilCheck x=>(aA x).map .nck
 | .binOp .eql t x y _=>yT P false t x y
 | .binOp .neq t x y _=>yT P true t x y
 | .binOp op _ x y _=>match aA x,aA y with|some x,some y=>some (.bin op x y)|_,_=>none
 | .unOp op _ x=>(aA x).map (.un op)
 | .convert s d x=>match P.underlying s,P.underlying d with
  | some _,some (.int k)=>(aA x).map (.cvi k)
  | some .string,some .string=>(aA x).map .cvs
  | some (.slice e),some .string=>match P.underlying e with|some (.int .u8)=>(aA x).map .b2s|_=>none
  | some .string,some (.slice e)=>match P.underlying e with|some (.int .u8)=>(aA x).map .s2b|_=>none
  | _,_=>none
 | .makeFunc (.func f) first caps=>if first.isEmpty then(gV caps.toList).map (.mkf f) else none
 | .makeSlice t l c=>match P.underlying t with
  | some (.slice e)=>match P.info? e with
   | some i=>match i.zero with
    | some z=>match constDs z.cells.toList,aA l,aA c with
     | some zr,some l,some c=>if zr.length=i.size∧0<i.size then some (.mks i.size i.bytes zr l c) else none
     | _,_,_=>none
    | none=>none
   | none=>none
  | _=>none
 | .slice t x lo hi mx=>match P.underlying t,aA x,lY lo,lY hi,lY mx with
  | some .string,some x,some a,some b,some none=>some (.sls x a b)
  | some (.slice e),some x,some a,some b,some m=>match P.info? e with|some i=>some (.slc i.size x a b m)|none=>none
  | some (.array n e),some x,some none,some none,some none=>match P.info? e with|some i=>if i.size=1 then some (.slar n x) else none|none=>none
  | _,_,_,_,_=>none
 | .fieldAddr s x f=>match P.underlying s,aA x with
  | some (.struct fs),some y=>match fs[f]? with
   | some fd=>match P.info? fd.type with|some i=>if i.size≠0 then some (.fa fd.offset y) else none|none=>none
   | none=>none
  | _,_=>none
 | .field t x f=>match P.underlying t,aA x with
  | some (.struct fs),some y=>match fs[f]? with
   | some fd=>match pB P fd.type with|some g=>some (.fld g fd.offset y)|none=>none
   | none=>none
  | _,_=>none
 | .indexAddr t x i=>match P.underlying t,aA x,aA i with
  | some (.slice e),some x,some i=>match P.info? e with|some inf=>some (.ia inf.size x i)|none=>none
  | some (.array n e),some x,some i=>match P.info? e with|some inf=>some (.iar n inf.size x i)|none=>none
  | _,_,_=>none
 | .index t x i=>match P.underlying t,aA x,aA i with
  | some .string,some x,some i=>some (.ixs x i)
  | _,_,_=>none
 | .extract x i=>(aA x).map fun y=>.ext y i
 | .makeMap t none=>if vv P t then some .mkm else none
 | .mapUpdate t m k v | .insert t m k v=>match aA m,aA k,aA v with|some m,some k,some v=>if vv P t then some (.mset m k v) else none|_,_,_=>none
 | .lookup t m k false=>match aA m,aA k with|some m,some k=>if vv P t then some (.mget m k) else none|_,_=>none
 | .call c=>match c.callee with
  | .builtin .len=>match c.args.toList,c.argTypes.toList with
   | [x],[t]=>match P.underlying t with
    | some .string=>(aA x).map (.len true)
    | some (.slice _)=>(aA x).map (.len false)
    | _=>none
   | _,_=>none
  | .builtin .append=>match c.args.toList,c.argTypes.toList with
   | [s,x],[t,t']=>match P.underlying t,P.underlying t' with
    | some (.slice e),some (.slice _)=>match P.info? e,aA s,aA x with
     | some i,some s,some x=>if i.zero.isSome∧0<i.size∧(i.zero.map (·.cells.size))=some i.size then some (.app false i.size i.bytes s x) else none
     | _,_,_=>none
    | some (.slice e),some .string=>match P.info? e,aA s,aA x with
     | some i,some s,some x=>if i.zero.isSome∧i.size=1∧(i.zero.map (·.cells.size))=some i.size then some (.app true i.size i.bytes s x) else none
     | _,_,_=>none
    | _,_=>none
   | _,_=>none
  | .builtin .min=>match c.args.toList with|[x,y]=>(match aA x,aA y with|some x,some y=>some (.mm false x y)|_,_=>none)|_=>none
  | .builtin .max=>match c.args.toList with|[x,y]=>(match aA x,aA y with|some x,some y=>some (.mm true x y)|_,_=>none)|_=>none
  | .value (.func f)=>if callable P f then(gV c.args.toList).map (if fl=8 then .call f else if fl=9 then .callz f else if fl=7 then .calln f else .callp f) else none
  | .value (.tmp t)=>(gV c.args.toList).map (.callv (.t t))
  | _=>none
 | _=>none
section
variable {P:Program} {mu:Mu} {S:St} {TB:Nat->Prop} {w:World} {H:Hp} {fr:Fr} {a:Act}
def OpOK (P:Program) (o:Oper) (a:Act) (mu:Mu) (S:St) (TB:Nat->Prop) (w:World) (v:V) (H':Hp):Prop :=
 ∀ (next:Act->World->Prop) (Q:Exit->Act->World->Prop),
  (∀ x w' mu' S',Ext TB mu S w mu' S' w'->Inv mu' S' TB w' H'->RelV mu' S' w' v x->next (a.put o.dst x) w')->o.wp P a w next Q
theorem OpOK.of_value {o:Oper} {v:V} {H':Hp} {x:Value} {w':World} {mu':Mu} {S':St} (hr:(execOp a.eval o).run P w=.ok (.value x) w')
  (he:Ext TB mu S w mu' S' w') (hi:Inv mu' S' TB w' H') (hv:RelV mu' S' w' v x):OpOK P o a mu S TB w v H':=by
 intro next Q hn;unfold Oper.wp;rw[hr];exact hn x w' mu' S' he hi hv
theorem OpOK.of_same {o:Oper} {v:V} {x:Value} (hr:(execOp a.eval o).run P w=.ok (.value x) w)
  (hi:Inv mu S TB w H) (hv:RelV mu S w v x):OpOK P o a mu S TB w v H:=.of_value hr (.refl _ _ _ _) hi hv
theorem mA {v:Value} {x:L} (h:v5 v=some x):RelL mu S w x v:=by
 unfold v5 at h;split at h <;> (try (cases h)) <;> simp only[RelL]
 ·exact .b _
 ·exact .i _ _
 ·rename_i s;have:s=⟨s.data.toList.toArray⟩:=by cases s;simp
  rw[this];exact .s _
theorem gA:∀ {vs:List Value} {xs:List L},gj vs=some xs->RelLs mu S w xs vs
 | [],xs,h=>by cases h;exact⟨rfl,fun j x hj=>by simp at hj⟩
 | v::r,xs,h=>by
  simp only[gj] at h;split at h
  ·rename_i x ys hx hys;cases h;have ih:=gA hys;refine⟨by simp[ih.1],fun j y hj=>?_⟩
   cases j with
   | zero=>simp at hj;subst hj;exact⟨v,rfl,mA hx⟩
   | succ j=>simpa using ih.2 j y (by simpa using hj)
  ·cases h
theorem Cc {v:Value} {x:V} (h:DU v=some x):RelV mu S w x v:=by
 unfold DU at h;split at h
 ·split at h
  ·rename_i cs xs hx;cases h;exact⟨_,rfl,gA hx⟩
  ·cases h
 ·cases h
 ·split at h
  ·rename_i hx;cases h;exact mA hx
  ·cases h
theorem aj {o:Operand} {x:X} {v:V} (hc:aA o=some x) (hfr:RelFr mu S w fr a) (hv:x.ev fr=some v):RelV mu S w v (a.eval o):=by
 unfold aA at hc;split at hc
 ·cases hc;simp only[X.ev] at hv;obtain⟨y,hy,hr⟩:=hfr.rel _ _ hv;simpa[Act.eval,hy] using hr
 ·split at hc
  ·rename_i hx;cases hc;simp only[X.ev] at hv;cases hv;exact Cc hx
  ·cases hc
 ·cases hc;simp only[X.ev] at hv;cases hv;exact⟨[],rfl,rfl,fun j i hj=>by simp at hj⟩
 ·cases hc
theorem RelL.flat {x:L} {v:Value} (h:RelL mu S w x v):flat v:=by
 cases x with
 | d x=>cases h <;> trivial
 | p i off=>obtain⟨_,_,_,_,rfl⟩:=h;trivial
 | ap i k j=>obtain⟨_,_,_,_,rfl⟩:=h;trivial
 | ip cs=>obtain⟨_,_,rfl,_⟩:=h;trivial
 | np=>cases h;trivial
 | nf=>cases h;trivial
 | ns=>cases h;trivial
 | sl i sz off len=>obtain⟨_,_,_,_,_,_,rfl,_⟩:=h;trivial
 | cl rows=>obtain⟨⟨_,rfl⟩,_⟩:=h;trivial
 | nn rows=>obtain⟨⟨_,_,_,rfl⟩,_⟩:=h;trivial
 | f fn caps=>obtain⟨_,rfl,_⟩:=h;trivial
 | y q k=>obtain⟨_,_,_,_,rfl⟩:=h;trivial
 | sp i n=>obtain⟨_,_,_,_,rfl⟩:=h;trivial
 | m i=>obtain⟨_,_,_,_,rfl⟩:=h;trivial
 | nm=>cases h;trivial
 | u=>exact h
theorem flat.cells {v:Value} (h:Vi.flat v):v.cells = #[v]:=by cases v <;> first|rfl|cases h
theorem flat.one {v:Value} (h:Vi.flat v):v.oneCell'=true:=by cases v <;> first|rfl|cases h
theorem RelLs.flat {xs:List L} {vs:List Value} (h:RelLs mu S w xs vs):∀ v∈vs,Vi.flat v:=by
 intro v hv;obtain⟨j,hj,rfl⟩:=List.getElem_of_mem hv;have hx:j<xs.length:=h.1 ▸ hj;obtain⟨y,hy,hr⟩:=h.2 j xs[j] (by simp[hx])
 rw[List.getElem?_eq_getElem hj] at hy;cases hy;exact hr.flat
theorem rI {v:V} {x:Value} {xs:List L} (hc:v.cs=some xs) (hv:RelV mu S w v x):RelLs mu S w xs x.cells.toList:=by
 cases v with
 | one y =>
  cases hc;rw[hv.flat.cells];refine⟨rfl,fun j z hj=>?_⟩
  cases j with
  | zero=>simp at hj;subst hj;exact⟨x,rfl,hv⟩
  | succ j=>simp at hj
 | agg ys=>cases hc;obtain⟨cs,rfl,h⟩:=hv;exact h
 | tup ys=>cases hc
 | any=>cases hc
end
theorem Hz (w:World) (o:Obj):(w.alloc o).heap[w.heap.size]?=some o:=by
 show(w.heap.push o)[w.heap.size]?=some o;simp
theorem AT (w:World) (o:Obj) (i:Nat) (h:i<w.heap.size):(w.alloc o).heap[i]?=w.heap[i]?:=by
 show(w.heap.push o)[i]?=w.heap[i]?;simp[Array.getElem?_push,Nat.ne_of_lt h]
section
variable {P:Program} {mu mu':Mu} {S S':St} {TB:Nat->Prop} {w w':World} {H:Hp} {fr:Fr} {a:Act}
theorem RelB.keep (e:Ext TB mu S w mu' S' w') {i:Nat} {b:Box} (hblk:∀ l B,mu i=some l->l.blk=some B->w'.heap[B]?=w.heap[B]?)
  (hS:∀ l B o,mu i=some l->l.blk=some B->S' B o->S B o) (h:RelB mu S TB w i b):RelB mu' S' TB w' i b:=by
 cases b with
 | dead=>trivial
 | mp rows =>
  obtain⟨l,B,h1,h2,h3,h5,h6⟩:=h;exact⟨l,B,e.mu _ _ h1,h2,by rw[hblk l B h1 h2];exact h3,h5,fun o ho=>h6 o (hS l B o h1 h2 ho)⟩
 | cells xs =>
  obtain⟨l,B,cur,el,h1,h2,h3,h4,h5,h6⟩:=h;exact⟨l,B,cur,el,e.mu _ _ h1,h2,by rw[hblk l B h1 h2];exact h3,h4.ext e,h5,fun o ho=>h6 o (hS l B o h1 h2 ho)⟩
 | arr sz rows fz =>
  obtain⟨l,h1,h2,h3,h4,h5,h6⟩:=h;refine⟨l,e.mu _ _ h1,h2,h3,h4,h5,?_⟩;cases hb:l.blk with
  | none=>rw[hb] at h6;exact h6
  | some B =>
   rw[hb] at h6;obtain⟨cur,el,ff,g1,g2,g3,g4,g5,g6,g7,g8,g9⟩:=h6;refine⟨cur,el,ff,by rw[hblk l B h1 hb];exact g1,g2,g3,g4,g5,fun k j r d hr hd=>?_,g7,fun o ho=>g8 o (hS l B o h1 hb ho),fun o ho=>e.ss _ _ (g9 o ho)⟩
   obtain⟨v,hv,hrel⟩:=g6 k j r d hr hd;exact⟨v,hv,hrel.ext e⟩
theorem f9 {w w':World} {b o:Nat} (h:w'.heap[b]?=w.heap[b]?):w'.cell? ⟨b,o,none⟩=w.cell? ⟨b,o,none⟩:=World.cell?_of_block (a:=⟨b,o,none⟩) h
def cK (mu:Mu) (n:Nat) (l:Loc):Mu:=fun i=>if i=n then some l else mu i
theorem bK (mu:Mu) (n:Nat) (l:Loc):cK mu n l n=some l:=by simp[cK]
theorem iZ (mu:Mu) {n i:Nat} (l:Loc) (h:i≠n):cK mu n l i=mu i:=by simp[cK,h]
theorem Inv.fresh (hi:Inv mu S TB w H):mu H.length=none:=by
 cases h:mu H.length with
 | none=>rfl
 | some l=>have:=hi.dom _ _ h;omega
theorem iD (hi:Inv mu S TB w H) (l:Loc):∀ i k,mu i=some k->cK mu H.length l i=some k:=by
 intro i k h;rw[iZ];exact h;intro e;subst e;rw[hi.fresh] at h;cases h
theorem ol (hi:Inv mu S TB w H) (o:Obj) (l:Loc):Ext TB mu S w (cK mu H.length l) S (w.alloc o) :=
 ⟨iD hi l,fun _ _ h=>h,fun _ _ _ h=>h,fun b o' h=>f9 (AT w o b (hi.sl _ _ h)),fun b h=>AT w o b (hi.tl _ h),by simp,rfl,rfl,rfl⟩
theorem Inv.new (hi:Inv mu S TB w H) (o:Obj) (l:Loc) (b:Box) (hl:∀ B,l.blk=some B->B=w.heap.size)
  (hb:RelB (cK mu H.length l) S TB (w.alloc o) H.length b):Inv (cK mu H.length l) S TB (w.alloc o) (H++[b]):=by
 have e:=ol hi o l;refine⟨fun i c l0 hc hl0=>?_,fun i k hk=>?_,fun i k B hk hB=>?_,fun b o' h=>?_,fun b h=>?_,?_⟩
 ·rw[List.getElem?_append] at hc;split at hc
  ·rename_i hlt;rw[iZ _ _ (by omega)] at hl0
   exact(hi.box i c l0 hc hl0).keep e (fun l' B h1 h2=>AT w o B (hi.old _ _ _ h1 h2)) (fun _ _ _ _ _ h=>h)
  ·rename_i hlt;have hii:i=H.length:=by
    rcases Nat.lt_or_ge (i-H.length) 1 with h|h
    ·omega
    ·simp[List.getElem?_eq_none (l:=[b]) (by simpa using h)] at hc
   subst hii;simp at hc;subst hc;exact hb
 ·rw[List.length_append];simp only[cK] at hk;split at hk
  ·rename_i h;subst h;simp
  ·have:=hi.dom _ _ hk;simp;omega
 ·simp only[cK] at hk;split at hk
  ·cases hk;rw[hl B hB];simp
  ·have:=hi.old _ _ _ hk hB;simp;omega
 ·have:=hi.sl _ _ h;simp;omega
 ·have:=hi.tl _ h;simp;omega
 ·intro i j bi bj li lj B hij hbi hbj hai haj hmi hmj hBi hBj;simp only[cK] at hmi hmj;rw[List.getElem?_append] at hbi hbj;split at hmi
  ·split at hmj
   ·omega
   ·cases hmi;have h1:=hl B hBi;have h2:=hi.old _ _ _ hmj hBj;omega
  ·split at hmj
   ·cases hmj;have h1:=hl B hBj;have h2:=hi.old _ _ _ hmi hBi;omega
   ·have d1:=hi.dom _ _ hmi;have d2:=hi.dom _ _ hmj;rw[if_pos d1] at hbi;rw[if_pos d2] at hbj;exact hi.one i j bi bj li lj B hij hbi hbj hai haj hmi hmj hBi hBj
theorem Inv.free (hi:Inv mu S TB w H):¬ TB w.heap.size∧∀ o,¬ S w.heap.size o :=
 ⟨fun h=>by have:=hi.tl _ h;omega,fun o h=>by have:=hi.sl _ _ h;omega⟩
theorem Inv.new_cells (hi:Inv mu S TB w H) (xs:List L) (cs:Array Value) (el:TypeId) (h:RelLs mu S w xs cs.toList) :
  ∃ mu',Ext TB mu S w mu' S (w.alloc (.cells cs el))∧Inv mu' S TB (w.alloc (.cells cs el)) (H++[.cells xs]) ∧
   RelL mu' S (w.alloc (.cells cs el)) (.p H.length 0) (.pointer (some ⟨w.heap.size,0,none⟩)):=by
 let l:Loc:=⟨some w.heap.size,1,xs.length,xs.length⟩
 have e:=ol hi (.cells cs el) l;refine⟨cK mu H.length l,e,Inv.new hi _ l _ (fun B h=>by cases h;rfl) ?_,?_⟩
 ·exact⟨l,w.heap.size,cs,el,bK _ _ _,rfl,Hz w _,h.ext e,hi.free.1,hi.free.2⟩
 ·exact⟨l,w.heap.size,bK _ _ _,rfl,rfl⟩
theorem Inv.put (hi:Inv mu S TB w H) (e:Ext TB mu S w mu S' w') {i:Nat} {b:Box} {l:Loc} {B:Nat} (ho:∃ b0,H[i]?=some b0∧alive b0=true) (hl:mu i=some l) (hB:l.blk=some B)
  (hblk:∀ k,k≠B->w'.heap[k]?=w.heap[k]?) (hS:∀ k o,k≠B->S' k o->S k o) (hsz:w'.heap.size=w.heap.size) (hb:RelB mu S' TB w' i b):Inv mu S' TB w' (H.set i b):=by
 obtain⟨b0,hb0,ha0⟩:=ho;have hlt:i<H.length:=by
  rcases Nat.lt_or_ge i H.length with h|h
  ·exact h
  ·rw[List.getElem?_eq_none h] at hb0;cases hb0
 refine⟨fun j c l0 hc hl0=>?_,fun j k hk=>by simpa using hi.dom _ _ hk,fun j k B hk hB=>by rw[hsz];exact hi.old _ _ _ hk hB,fun b o h=>?_,fun b h=>by rw[hsz];exact hi.tl _ h,?_⟩
 ·by_cases hij:i=j
  ·subst hij;rw[List.getElem?_set_self hlt] at hc;cases hc;exact hb
  ·rw[List.getElem?_set_ne hij] at hc;cases hal:alive c with
   | false=>cases c <;> first|trivial|cases hal
   | true =>
    have hne:∀ l' B',mu j=some l'->l'.blk=some B'->B'≠B:=fun l' B' h1 h2 h3 =>
     hi.one i j b0 c l l' B hij hb0 hc ha0 hal hl h1 hB (h3 ▸ h2)
    exact(hi.box j c l0 hc hl0).keep e (fun l' B' h1 h2=>hblk _ (hne l' B' h1 h2)) (fun l' B' o h1 h2=>hS _ o (hne l' B' h1 h2))
 ·by_cases hk:b=B
  ·subst hk;rw[hsz];exact hi.old _ _ _ hl hB
  ·rw[hsz];exact hi.sl _ _ (hS _ _ hk h)
 ·intro p q bp bq lp lq C hpq hbp hbq hap haq hmp hmq hCp hCq;by_cases h1:i=p
  ·subst h1;rw[List.getElem?_set_ne hpq] at hbq;exact hi.one _ _ b0 bq lp lq C hpq hb0 hbq ha0 haq hmp hmq hCp hCq
  ·rw[List.getElem?_set_ne h1] at hbp;by_cases h2:i=q
   ·subst h2;exact hi.one _ _ bp b0 lp lq C hpq hbp hb0 hap ha0 hmp hmq hCp hCq
   ·rw[List.getElem?_set_ne h2] at hbq;exact hi.one _ _ bp bq lp lq C hpq hbp hbq hap haq hmp hmq hCp hCq
theorem Inv.kill (hi:Inv mu S TB w H) (i:Nat):Inv mu S TB w (H.set i .dead):=by
 refine⟨fun j c l0 hc hl0=>?_,fun j k hk=>by simpa using hi.dom _ _ hk,hi.old,hi.sl,hi.tl,?_⟩
 ·by_cases hij:i=j
  ·subst hij;rw[List.getElem?_set] at hc;split at hc
   ·split at hc
    ·cases hc;trivial
    ·cases hc
   ·omega
  ·rw[List.getElem?_set_ne hij] at hc;exact hi.box j c l0 hc hl0
 ·intro p q bp bq lp lq C hpq hbp hbq hap haq hmp hmq hCp hCq;have f:∀ (k:Nat) (bk:Box),(H.set i .dead)[k]?=some bk->alive bk=true->H[k]?=some bk:=by
   intro k bk hk ha;by_cases hik:i=k
   ·subst hik;rw[List.getElem?_set] at hk;split at hk
    ·split at hk
     ·cases hk;cases ha
     ·cases hk
    ·omega
   ·rwa [List.getElem?_set_ne hik] at hk
  exact hi.one p q bp bq lp lq C hpq (f _ _ hbp hap) (f _ _ hbq haq) hap haq hmp hmq hCp hCq
theorem dQ (mu:Mu) (S:St) (TB:Nat->Prop) (w:World):Ext TB mu S w mu S w.drew:=⟨fun _ _ h=>h,fun _ _ h=>h,fun _ _ _ h=>h,fun _ _ _=>rfl,fun _ _=>rfl,Nat.le_refl _,rfl,rfl,rfl⟩
theorem Inv.drew (hi:Inv mu S TB w H):Inv mu S TB w.drew H :=
 ⟨fun i b l h hl=>(hi.box i b l h hl).keep (dQ mu S TB w) (fun _ _ _ _=>rfl) (fun _ _ _ _ _ h=>h),hi.dom,hi.old,hi.sl,hi.tl,hi.one⟩
end
set_option linter.unusedSimpArgs false
section
variable {P:Program} {mu:Mu} {S:St} {TB:Nat->Prop} {w:World} {H:Hp} {fr:Fr} {a:Act}
variable {φ:FuncId->List V->Hp->Option (V × Hp)} {o:Oper} {v:V} {H':Hp}
theorem RelV.b_inv {t:Bool} {x:Value} (h:RelV mu S w (.one (.d (.b t))) x):x=.bool t:=by cases h;rfl
theorem RelV.i_inv {k:IntKind} {n:Int} {x:Value} (h:RelV mu S w (.one (.d (.i k n))) x):x=.int k n:=by cases h;rfl
theorem RelV.s_inv {l:List UInt8} {x:Value} (h:RelV mu S w (.one (.d (.s l))) x):x=.string ⟨l.toArray⟩:=by cases h;rfl
theorem RelD.l_len {rows:List (List D)} {x:Value} (h:RelD S w (.l rows) x):∃ a c,x=.slice a rows.length c:=by cases h <;> exact⟨_,_,rfl⟩
theorem jC:∀ {vs:List Value} {ds:List D},constDs vs=some ds->ds.length=vs.length∧∀ (j:Nat) (d:D),ds[j]?=some d->∃ x,vs[j]?=some x∧RelD S w d x
 | [],ds,h=>by cases h;exact⟨rfl,fun j d hj=>by simp at hj⟩
 | x::r,ds,h=>by
  simp only[constDs] at h;split at h
  ·rename_i y ys hx hys;cases h;have ih:=jC hys;refine⟨by simp[ih.1],fun j z hj=>?_⟩
   cases j with
   | zero=>simp at hj;subst hj;exact⟨x,rfl,mA (mu:=fun _=>none) hx⟩
   | succ j=>simpa using ih.2 j z (by simpa using hj)
  ·rename_i ys hx hys;cases h;have ih:=jC hys;refine⟨by simp[ih.1],fun j z hj=>?_⟩
   cases j with
   | zero =>
    simp at hj;subst hj;have:=mA (mu:=fun _=>none) (S:=S) (w:=w) hx
    simp only[RelL] at this;subst this;exact⟨_,rfl,.nil _ _ (fun _=>rfl)⟩
   | succ j=>simpa using ih.2 j z (by simpa using hj)
  ·cases h
theorem ur (t:TypeId) (x:Value):(newVar t x).run P w=.ok ⟨w.heap.size,0,none⟩ (w.alloc (.cells x.cells t)):=rfl
theorem Q8 {x:Operand} {y:X} (hop:o.op=.move x∨o.op=.assign x) (hc:aA x=some y) (hi:Inv mu S TB w H) (hf:RelFr mu S w fr a)
  (hr:(A.mv y).run φ fr H=some (v,H')):OpOK P o a mu S TB w v H':=by
 simp only[A.run] at hr;split at hr
 ·rename_i u hu;cases hr;refine .of_same (x:=a.eval x) ?_ hi (aj hc hf hu);rcases hop with h|h <;> simp[execOp,h,go_sem]
 ·cases hr
theorem Pe {x:Operand} {sz:Nat} (hop:o.op=.move x∨o.op=.assign x) (hx:x=.const (.slice none 0 0)) (hi:Inv mu S TB w H)
  (hr:(A.own sz).run φ fr H=some (v,H')):OpOK P o a mu S TB w v H':=by
 simp only[A.run] at hr;cases hr;let l:Loc:=⟨none,sz,0,0⟩
 have e:Ext TB mu S w (cK mu H.length l) S w:=⟨iD hi l,fun _ _ h=>h,fun _ _ _ h=>h,fun _ _ _=>rfl,fun _ _=>rfl,Nat.le_refl _,rfl,rfl,rfl⟩
 have hi':Inv (cK mu H.length l) S TB w (H++[Box.arr sz [] 0]):=by
  refine⟨fun i c l0 hc hl0=>?_,fun i k hk=>?_,fun i k B hk hB=>?_,hi.sl,hi.tl,?_⟩
  ·rw[List.getElem?_append] at hc;split at hc
   ·rename_i hlt;rw[iZ _ _ (by omega)] at hl0
    exact(hi.box i c l0 hc hl0).keep e (fun _ _ _ _=>rfl) (fun _ _ _ _ _ h=>h)
   ·rename_i hlt;have hii:i=H.length:=by
     rcases Nat.lt_or_ge (i-H.length) 1 with h|h
     ·omega
     ·simp[List.getElem?_eq_none (l:=[Box.arr sz [] 0]) (by simpa using h)] at hc
    subst hii;simp at hc;subst hc;exact⟨l,bK _ _ _,.inl rfl,rfl,by simp,by simp,rfl,rfl⟩
  ·simp only[cK] at hk;split at hk
   ·rename_i h;subst h;simp
   ·have:=hi.dom _ _ hk;simp;omega
  ·simp only[cK] at hk;split at hk
   ·cases hk;cases hB
   ·exact hi.old _ _ _ hk hB
  ·intro i j bi bj li lj B hij hbi hbj hai haj hmi hmj hBi hBj;simp only[cK] at hmi hmj;rw[List.getElem?_append] at hbi hbj;split at hmi
   ·cases hmi;cases hBi
   ·split at hmj
    ·cases hmj;cases hBj
    ·rw[if_pos (hi.dom _ _ hmi)] at hbi;rw[if_pos (hi.dom _ _ hmj)] at hbj;exact hi.one i j bi bj li lj B hij hbi hbj hai haj hmi hmj hBi hBj
 refine .of_value (x:=.slice none 0 0) ?_ e hi' ?_
 ·subst hx;rcases hop with h|h <;> simp[execOp,h,go_sem,Act.eval]
 ·exact⟨l,bK _ _ _,rfl,by simp[l],none,0,rfl,rfl,rfl,rfl,rfl⟩
theorem L9 {c x y:Operand} {c' x' y':X} (hop:o.op=.pick c x y) (h1:aA c=some c') (h2:aA x=some x') (h3:aA y=some y') (hi:Inv mu S TB w H) (hf:RelFr mu S w fr a)
  (hr:(A.pick c' x' y').run φ fr H=some (v,H')):OpOK P o a mu S TB w v H':=by
 simp only[A.run] at hr;split at hr
 ·rename_i t u1 u2 e1 e2 e3;cases hr;have hb:a.eval c=.bool t:=(aj h1 hf e1).b_inv;cases t with
  | true=>exact .of_same (x:=a.eval x) (by simp[execOp,hop,hb,asBool]) hi (aj h2 hf e2)
  | false=>exact .of_same (x:=a.eval y) (by simp[execOp,hop,hb,asBool]) hi (aj h3 hf e3)
 ·rename_i u1 e1 e2 _;cases hr;have hb:a.eval c=.bool true:=(aj h1 hf e1).b_inv;exact .of_same (x:=a.eval x) (by simp[execOp,hop,hb,asBool]) hi (aj h2 hf e2)
 ·rename_i u1 e1 e2 _;cases hr;have hb:a.eval c=.bool false:=(aj h1 hf e1).b_inv;exact .of_same (x:=a.eval y) (by simp[execOp,hop,hb,asBool]) hi (aj h3 hf e2)
 ·cases hr
theorem KW {e:TypeId} {i:TypeInfo} {z:Value} {zs:List L} (hop:o.op=.alloc e) (h1:P.info? e=some i) (h2:i.zero=some z) (h3:gj z.cells.toList=some zs) (hi:Inv mu S TB w H)
  (hr:(A.alloc zs).run φ fr H=some (v,H')):OpOK P o a mu S TB w v H':=by
 simp only[A.run] at hr;cases hr;obtain⟨mu',he,hi',hv⟩:=hi.new_cells zs z.cells e (gA h3);refine .of_value (w':=w.alloc (.cells z.cells e)) ?_ he hi' hv;simp only[execOp,hop,Instr.alloc,zeroValue,Sem.run_bind,run_typeInfo w h1,h2,Result.andThen,Sem.run_pure,ur]
theorem Oq {e:TypeId} {x:Operand} {y:X} (hop:o.op=.box e x) (h1:aA x=some y) (hi:Inv mu S TB w H) (hf:RelFr mu S w fr a)
  (hr:(A.box y).run φ fr H=some (v,H')):OpOK P o a mu S TB w v H':=by
 simp only[A.run] at hr;split at hr
 ·rename_i u hu;split at hr
  ·rename_i xs hxs;cases hr;obtain⟨mu',he,hi',hv⟩:=hi.new_cells xs (a.eval x).cells e (rI hxs (aj h1 hf hu));refine .of_value (w':=w.alloc (.cells (a.eval x).cells e)) ?_ he hi' hv;simp only[execOp,hop,Instr.box,Sem.run_bind,Result.andThen,Sem.run_pure,ur]
  ·cases hr
 ·cases hr
theorem wP {t:TypeId} (h:pB P t=some none) (w:World):(isAgg t).run P w=.ok false w:=by
 unfold pB at h;split at h <;> try (cases h)
 rename_i d i hn hs hu hinf;simp only[isAgg,Sem.run_bind,run_underlying hu,Result.andThen];cases d <;> first|rfl|exact(hn _ rfl).elim|exact(hs _ _ rfl).elim
end
set_option linter.unusedVariables false
section
variable {P:Program} {mu:Mu} {S:St} {TB:Nat->Prop} {w:World} {H:Hp} {fr:Fr} {a:Act}
variable {φ:FuncId->List V->Hp->Option (V × Hp)} {o:Oper} {v:V} {H':Hp}
theorem fP (B off j:Nat):(⟨B,off,none⟩:Addr).add j=⟨B,off+j,none⟩:=by
 unfold Addr.add;split <;> simp_all
theorem w4 {t:TypeId} {n:Nat} (h:pB P t=some (some n)):∃ i,P.info? t=some i∧i.size=n∧∀ w,(isAgg t).run P w=.ok true w:=by
 unfold pB at h;split at h <;> cases h
 ·rename_i i fs hu hinf;exact⟨_,hinf,rfl,fun w=>by simp only[isAgg,Sem.run_bind,run_underlying hu,Result.andThen];rfl⟩
 ·rename_i i l e hu hinf;exact⟨_,hinf,rfl,fun w=>by simp only[isAgg,Sem.run_bind,run_underlying hu,Result.andThen];rfl⟩
theorem qV {t:TypeId} (h:pB P t=some none) {ad:Addr} {x:Value} (hc:w.cell? ad=some x) :
  (Instr.loadAt t (.pointer (some ad))).run P w=.ok x w:=by
 simp only[Instr.loadAt,Instr.sureAddr,loadVar,Sem.run_bind,Sem.run_pure,Result.andThen,wP h,run_load,hc];simp[run_load,hc,go_sem]
theorem rA {t:TypeId} {n:Nat} (h:pB P t=some (some n)) {ad:Addr} {cs:List Value} (hn:cs.length=n) (hc:∀ j v,cs[j]?=some v->w.cell? (ad.add j)=some v) :
  (Instr.loadAt t (.pointer (some ad))).run P w=.ok (.agg cs.toArray) w:=by
 obtain⟨i,hi,hs,ha⟩:=w4 h;subst hn;simp only[Instr.loadAt,Instr.sureAddr,loadVar,Sem.run_bind,Sem.run_pure,Result.andThen,ha,if_true,sizeOf,run_typeInfo w hi,hs,run_loadCells_list (P:=P) w ad cs hc]
theorem RelLs.sub {xs:List L} {vs:List Value} (h:RelLs mu S w xs vs) (off n:Nat):RelLs mu S w ((xs.drop off).take n) ((vs.drop off).take n):=by
 refine⟨by simp[h.1],fun j x hj=>?_⟩
 rw[List.getElem?_take] at hj ⊢;split at hj
 ·rename_i hlt;rw[List.getElem?_drop] at hj ⊢;rw[if_pos hlt];exact h.2 _ _ hj
 ·cases hj
theorem RelLs.append {xs ys:List L} {vs us:List Value} (h:RelLs mu S w xs vs) (k:RelLs mu S w ys us):RelLs mu S w (xs++ys) (vs++us):=by
 refine⟨by simp[h.1,k.1],fun j x hj=>?_⟩
 rw[List.getElem?_append] at hj ⊢;rw[h.1];split at hj
 ·rename_i hlt;rw[if_pos hlt];exact h.2 _ _ hj
 ·rename_i hlt;rw[if_neg hlt];exact k.2 _ _ hj
theorem RelLs.take {xs:List L} {vs:List Value} (h:RelLs mu S w xs vs) (n:Nat):RelLs mu S w (xs.take n) (vs.take n):=by
 have:=h.sub 0 n;simpa using this
theorem RelLs.drop {xs:List L} {vs:List Value} (h:RelLs mu S w xs vs) (n:Nat):RelLs mu S w (xs.drop n) (vs.drop n):=by
 have:=h.sub n (xs.length-n);rw[List.take_of_length_le (by simp),List.take_of_length_le (by simp[h.1])] at this
 exact this
theorem NX {xs:List D} {vs:List Value} (hl:vs.length=xs.length) (h:∀ (j:Nat) (d:D),xs[j]?=some d->∃ x,vs[j]?=some x∧RelD S w d x):RelLs mu S w (xs.map .d) vs:=by
 refine⟨by simp[hl],fun j x hj=>?_⟩
 rw[List.getElem?_map] at hj;cases hx:xs[j]? with
 | none=>rw[hx] at hj;cases hj
 | some d=>rw[hx] at hj;cases hj;exact h j d hx
theorem uQ (hi:Inv mu S TB w H) {i off:Nat} {xs:List L} {x:Value} (hb:H[i]?=some (.cells xs)) (hp:RelL mu S w (.p i off) x) :
  ∃ l B cur e,mu i=some l∧l.blk=some B∧x=.pointer (some ⟨B,off,none⟩)∧w.heap[B]?=some (.cells cur e (0,0))∧RelLs mu S w xs cur.toList∧¬ TB B∧∀ o,¬ S B o:=by
 obtain⟨l,B,g1,g2,rfl⟩:=hp;obtain⟨l',B',cur,e,h1,h2,h3,h4,h5,h6⟩:=hi.box i _ _ hb g1;rw[g1] at h1;cases h1;rw[g2] at h2;cases h2;exact⟨l,B,cur,e,g1,g2,rfl,h3,h4,h5,h6⟩
theorem tO {B:Nat} {cur:Array Value} {e:TypeId} {f:Nat × Nat} (h:w.heap[B]?=some (.cells cur e f)) (off j:Nat):w.cell? ((⟨B,off,none⟩:Addr).add j)=cur.toList[off+j]?:=by
 rw[fP,cell_of_row w B (off+j) cur e f h];simp
theorem ua (hi:Inv mu S TB w H) {i sz fz:Nat} {l0:Loc} {rows:List (List D)} (hb:H[i]?=some (.arr sz rows fz)) (hl0:mu i=some l0) (hne:rows≠[]) :
  ∃ rz,(rz=sz∨sz=0∧rz=1)∧∃ l B cur e f,mu i=some l∧l.blk=some B∧l.sz=rz∧l.len=rows.length∧(∀ r∈rows,r.length=rz)∧fz<=rows.length∧w.heap[B]?=some (.cells cur e f)∧(cur.size=l.cap*rz∧Iw f cur.size sz)∧rows.length<=l.cap ∧
   l.cap<=maxLen∧0<rz∧(∀ (k j:Nat) (r:List D) (d:D),rows[k]?=some r->r[j]?=some d->∃ v:Value,cur[k*rz+j]?=some v∧RelD S w d v) ∧
   ¬ TB B∧(∀ o,S B o->o<fz*rz)∧(∀ o,o<fz*rz->S B o):=by
 obtain⟨l,h1,h2,h3,h4,h5,h6⟩:=hi.box i _ _ hb hl0;refine⟨l.sz,h2,?_⟩;cases hl:l.blk with
 | none=>rw[hl] at h6;exact absurd h6.1 hne
 | some B =>
  rw[hl] at h6;obtain⟨cur,e,f,g⟩:=h6;exact⟨l,B,cur,e,f,h1,hl,rfl,h3,h4,h5,g⟩
theorem Kq {t:TypeId} {x:Operand} {y:X} {g:Option Nat} (h1:pB P t=some g) (h2:aA x=some y) (hi:Inv mu S TB w H) (hf:RelFr mu S w fr a)
  (hr:(A.ld g y).run φ fr H=some (v,H')):∃ ad u,a.eval x=.pointer (some ad)∧(Instr.loadAt t (.pointer (some ad))).run P w=.ok u w∧H'=H∧RelV mu S w v u:=by
 simp only[A.run] at hr;split at hr
 ·rename_i i off hy;have hp:=aj h2 hf hy;split at hr
  ·rename_i xs hb;obtain⟨l,B,cur,e,_,_,hx,hblk,hrel,_,_⟩:=uQ hi hb hp;split at hr
   ·split at hr
    ·rename_i z hz;cases hr;obtain⟨u,hu,hru⟩:=hrel.2 _ _ hz;refine⟨_,u,hx,qV h1 ?_,rfl,hru⟩;rw[cell_of_row w B off cur e _ hblk];simpa using hu
    ·cases hr
   ·rename_i n;split at hr
    ·rename_i hlt;cases hr;have hs:=hrel.sub off n;refine⟨_,_,hx,rA h1 (cs:=(cur.toList.drop off).take n) ?_ fun j u hu=>?_,rfl,⟨_,rfl,by simpa using hs⟩⟩
     ·have:=hs.1;simp at this ⊢;have:=hrel.1;simp at this;omega
     ·rw[tO hblk];rw[List.getElem?_take] at hu;split at hu
      ·rwa [List.getElem?_drop] at hu
      ·cases hu
    ·cases hr
  ·cases hr
 ·rename_i i k j hy;have hp:=aj h2 hf hy;split at hr
  ·rename_i sz rows fz hb;split at hr
   ·rename_i r hk;have hne:rows≠[]:=by intro h;rw[h] at hk;simp at hk
    obtain⟨l,B,g1,g2,hx⟩:=hp;obtain⟨rz,hrz,l',B',cur,e,ff,m1,m2,m3,m4,m5,m6,hblk,⟨m7,_⟩,m8,m9,m10,hcell,_,_,_⟩:=ua hi hb g1 hne;rw[g1] at m1;cases m1;rw[g2] at m2;cases m2;rw[m3] at hx;split at hr
    ·split at hr
     ·rename_i z hz;cases hr;obtain⟨u,hu,hru⟩:=hcell k j r z hk hz;refine⟨_,u,hx,qV h1 ?_,rfl,hru⟩;rw[cell_of_row w B _ cur e _ hblk];exact hu
     ·cases hr
    ·rename_i n;split at hr
     ·rename_i hlt;cases hr;refine⟨_,_,hx,rA h1 (cs:=(cur.toList.drop (k*rz+j)).take n) ?_ fun q u hu=>?_,rfl,⟨_,rfl,NX ?_ ?_⟩⟩
      ·have hrl:r.length=rz:=m5 r (List.mem_of_getElem? hk);have hkl:k<rows.length:=(List.getElem?_eq_some_iff.1 hk).1;have:(k+1)*rz<=l.cap*rz:=Nat.mul_le_mul_right _ (by omega)
       rw[Nat.add_mul] at this;simp;omega
      ·rw[tO hblk];rw[List.getElem?_take] at hu;split at hu
       ·rwa [List.getElem?_drop] at hu
       ·cases hu
      ·have hrl:r.length=rz:=m5 r (List.mem_of_getElem? hk);have hkl:k<rows.length:=(List.getElem?_eq_some_iff.1 hk).1;have:(k+1)*rz<=l.cap*rz:=Nat.mul_le_mul_right _ (by omega)
       rw[Nat.add_mul] at this;simp;omega
      ·intro q d hq;rw[List.getElem?_take] at hq;split at hq
       ·rename_i hqn;rw[List.getElem?_drop] at hq;obtain⟨u,hu,hru⟩:=hcell k (j+q) r d hk hq;refine⟨u,?_,hru⟩;rw[List.getElem?_take,if_pos hqn,List.getElem?_drop];rw[show k*rz+j+q=k*rz+(j+q) by omega]
        simpa using hu
       ·cases hq
     ·cases hr
   ·cases hr
  ·cases hr
 ·rename_i cs hy;obtain⟨B,off,hx,hcs⟩:=aj h2 hf hy;split at hr
  ·split at hr
   ·rename_i z hz;cases hr;obtain⟨_,u,hu,hru⟩:=hcs 0 z hz;exact⟨_,u,hx,qV h1 (by simpa using hu),rfl,hru⟩
   ·cases hr
  ·rename_i n;split at hr
   ·rename_i hn;cases hr;have hex:∀ j,j<n->∃ u,w.cell? ⟨B,off+j,none⟩=some u∧∀ d,cs[j]?=some d->RelD S w d u:=by
     intro j hj;obtain⟨_,u,hu,hru⟩:=hcs j cs[j] (by simp[show j<cs.length by omega])
     exact⟨u,hu,fun d hd=>by simp[show j<cs.length by omega] at hd;subst hd;exact hru⟩
    let us:List Value:=(List.range n).map fun j=>(w.cell? ⟨B,off+j,none⟩).getD undef
    refine⟨_,_,hx,rA h1 (cs:=us) (by simp[us]) fun j u hu=>?_,rfl,⟨_,rfl,NX ?_ ?_⟩⟩
    ·rw[fP];have hj:j<n:=by
      rcases Nat.lt_or_ge j n with h|h
      ·exact h
      ·simp[us,List.getElem?_eq_none (show((List.range n).map fun j=>(w.cell? ⟨B,off+j,none⟩).getD undef).length<=j by simpa using h)] at hu
     obtain⟨u',hu',_⟩:=hex j hj;simp[us,hj,hu'] at hu;subst hu;exact hu'
    ·simp[us];omega
    ·intro j d hd;rw[List.getElem?_take] at hd;split at hd
     ·rename_i hj;obtain⟨u',hu',hr'⟩:=hex j hj;exact⟨u',by simp[us,hj,hu'],hr' d hd⟩
     ·cases hd
   ·cases hr
 ·cases hr
theorem RO {t:TypeId} {x:Operand} {y:X} {g:Option Nat} (hop:o.op=.load t x) (h1:pB P t=some g) (h2:aA x=some y) (hi:Inv mu S TB w H) (hf:RelFr mu S w fr a)
  (hr:(A.ld g y).run φ fr H=some (v,H')):OpOK P o a mu S TB w v H':=by
 obtain⟨ad,u,he,hl,rfl,hv⟩:=Kq h1 h2 hi hf hr;refine .of_same (x:=u) ?_ hi hv;simp only[execOp,hop,he,Sem.run_bind,hl,Result.andThen,Sem.run_pure]
end
theorem SM {l:Loc} {off len c:Nat} {ad:Option Addr} (h:match l.blk with
  | none=>ad=none∧c=0∧len=0∧l.cap=0
  | some B=>(off=0->ad=some ⟨B,0,none⟩)∧(0<len->ad=some ⟨B,off*l.sz,none⟩)∧c+off=l.cap∧(∃ o,ad=some ⟨B,o,none⟩)∧len<=c) (he:ad=none):c=0:=by
 cases hb:l.blk with
 | none=>rw[hb] at h;exact h.2.1
 | some B =>
  rw[hb] at h;obtain⟨_,_,_,⟨o,ho⟩,_⟩:=h;rw[he] at ho;cases ho
section
variable {P:Program} {mu:Mu} {S:St} {TB:Nat->Prop} {w:World} {H:Hp} {fr:Fr} {a:Act}
variable {φ:FuncId->List V->Hp->Option (V × Hp)} {o:Oper} {v:V} {H':Hp}
theorem nj:∀ {xs:List L} {ds:List D},ow xs=some ds->ds.length=xs.length
 | [],ds,h=>by cases h;rfl
 | x::r,ds,h=>by
  simp only[ow] at h;split at h
  ·rename_i d es _ hes;cases h;simp[nj hes]
  ·cases h
theorem mZ:∀ {xs:List L} {ds:List D} {vs:List Value},ow xs=some ds->RelLs mu S w xs vs->∀ (j:Nat) (d:D),ds[j]?=some d->∃ x,vs[j]?=some x∧RelD S w d x
 | [],ds,vs,h,hr,j,d,hj=>by cases h;simp at hj
 | x::r,ds,vs,h,hr,j,d,hj=>by
  simp only[ow] at h;split at h
  ·rename_i d' es hd hes;cases h;cases x <;> simp only[ow,QA] at hd <;> cases hd
   cases vs with
   | nil=>have:=hr.1;simp at this
   | cons u us =>
    have hr':RelLs mu S w r us:=⟨by have:=hr.1;simpa using this,fun k z hk=>by have:=hr.2 (k+1) z (by simpa using hk);simpa using this⟩
    cases j with
    | zero =>
     simp at hj;subst hj;obtain⟨y,hy,hry⟩:=hr.2 0 _ rfl;exact⟨y,hy,hry⟩
    | succ j=>simpa using mZ hes hr' j d (by simpa using hj)
  ·cases h
theorem N5 (hi:Inv mu S TB w H) {i off n sz fz:Nat} {rows:List (List D)} (hb:H[i]?=some (.arr sz rows fz)) (hle:off+n<=rows.length) :
  ∃ S',Ext TB mu S w mu S' w∧Inv mu S' TB w (H.set i (.arr sz rows (max fz (off+n))))∧∀ z x,RelL mu S w (.sl i z off n) x->RelD S' w (.l ((rows.drop off).take n)) x:=by
 cases hl0:mu i with
 | none =>
  refine⟨S,.refl _ _ _ _,⟨fun j c l0 hc hl=>?_,fun j l hl=>by simpa using hi.dom j l hl,hi.old,hi.sl,hi.tl,?_⟩,fun z x hx=>by obtain⟨l,h1,_⟩:=hx;rw[hl0] at h1;cases h1⟩
  ·by_cases hij:i=j
   ·subst hij;rw[hl0] at hl;cases hl
   ·rw[List.getElem?_set_ne hij] at hc;exact hi.box j c l0 hc hl
  ·intro p q bp bq lp lq B hpq hbp hbq hap haq hmp hmq hBp hBq;have h1:i≠p:=fun e=>by rw[<- e,hl0] at hmp;cases hmp
   have h2:i≠q:=fun e=>by rw[<- e,hl0] at hmq;cases hmq
   rw[List.getElem?_set_ne h1] at hbp;rw[List.getElem?_set_ne h2] at hbq;exact hi.one p q bp bq lp lq B hpq hbp hbq hap haq hmp hmq hBp hBq
 | some l0 =>
  by_cases hne:rows=[]
  ·subst hne;simp only[List.length_nil] at hle;have h0:off=0∧n=0:=by omega
   obtain⟨rfl,rfl⟩:=h0;refine⟨S,.refl _ _ _ _,?_,fun z x hx=>?_⟩
   ·have:H.set i (.arr sz [] (max fz (0+0)))=H:=by
     have:max fz (0+0)=fz:=by simp
     rw[this];exact List.ext_getElem? fun j=>by
      by_cases hij:i=j
      ·subst hij;have hlt:i<H.length:=(List.getElem?_eq_some_iff.1 hb).1;rw[List.getElem?_set_self hlt,hb]
      ·rw[List.getElem?_set_ne hij]
    rw[this];exact hi
   ·obtain⟨l,h1,_,h2,ad,c,rfl,h3⟩:=hx;exact .nil _ _ (fun he=>SM h3 he)
  ·obtain⟨rz,hrz,l,B,cur,e,ff,m1,m2,m3,m4,m5,m6,hblk,m7,m8,m9,m10,hcell,m11,m12,m13⟩:=ua hi hb hl0 hne;let S':St:=fun b q=>S b q∨(b=B∧q<(max fz (off+n))*rz)
   have e1:Ext TB mu S w mu S' w:=⟨fun _ _ h=>h,fun _ _ h=>.inl h,fun b q ht h=>h.resolve_right (fun h=>m11 (h.1 ▸ ht)),fun _ _ _=>rfl,fun _ _=>rfl,Nat.le_refl _,rfl,rfl,rfl⟩
   refine⟨S',e1,?_,fun z x hx=>?_⟩
   ·refine hi.put e1 ⟨_,hb,rfl⟩ m1 m2 (fun _ _=>rfl) (fun k q hk h=>h.resolve_right (fun h=>hk h.1)) rfl ?_
    refine⟨l,m1,by rw[m3];exact hrz,m4,by rw[m3];exact m5,by omega,?_⟩
    rw[m2,m3];refine⟨cur,e,ff,hblk,m7,m8,m9,m10,fun k j r d hr hd=>?_,m11,fun q hq=>?_,fun q hq=>.inr ⟨rfl,hq⟩⟩
    ·obtain⟨u,hu,hru⟩:=hcell k j r d hr hd;exact⟨u,hu,hru.ext e1⟩
    ·rcases hq with hq|hq
     ·exact Nat.lt_of_lt_of_le (m12 q hq) (Nat.mul_le_mul_right _ (by omega))
     ·exact hq.2
   ·obtain⟨l',h1,_,h2,ad,c,rfl,h3⟩:=hx;rw[m1] at h1;cases h1;rw[m2] at h3;obtain⟨h3,h4,h5,⟨q,h6⟩,h7⟩:=h3;have hlen:((rows.drop off).take n).length=n:=by simp;omega
    by_cases hn:n=0
    ·subst hn;exact .nil _ _ (fun he=>by rw[he] at h6;cases h6)
    ·have had:=h4 (by omega)
     subst had;rw[m3];have key:∀ k j,k<n->j<rz->∃ u,cur[(off+k)*rz+j]?=some u∧∀ r d,((rows.drop off).take n)[k]?=some r->r[j]?=some d->RelD S w d u:=by
      intro k j hk hj;have hkl:off+k<rows.length:=by omega
      have hrl:(rows[off+k]).length=rz:=m5 _ (List.getElem_mem hkl);obtain⟨u,hu,hru⟩:=hcell (off+k) j rows[off+k] (rows[off+k])[j] (by simp) (by simp)
      refine⟨u,hu,fun r d hr hd=>?_⟩
      rw[List.getElem?_take,if_pos hk,List.getElem?_drop] at hr;rw[List.getElem?_eq_getElem hkl] at hr;cases hr;rw[List.getElem?_eq_getElem (by omega)] at hd
      cases hd;exact hru
     have:RelD S' w (.l ((rows.drop off).take n)) (.slice (some ⟨B,off*rz,none⟩) ((rows.drop off).take n).length c):=by
      refine .l _ rz B (off*rz) c (fun k j=>(cur[(off+k)*rz+j]?).getD undef) (by rw[hlen];omega) (fun r hr=>m5 r (List.mem_of_mem_drop (List.mem_of_mem_take hr))) ?_ ?_ ?_
      ·intro k j hk hj;rw[hlen] at hk;refine .inr ⟨rfl,?_⟩;have:(off+k+1)*rz<=max fz (off+n)*rz:=Nat.mul_le_mul_right _ (by omega)
       rw[Nat.add_mul,Nat.add_mul] at this;omega
      ·intro k j hk hj;rw[hlen] at hk;obtain⟨u,hu,_⟩:=key k j hk hj;rw[show off*rz+k*rz+j=(off+k)*rz+j by rw[Nat.add_mul]]
       rw[cell_of_row w B _ cur e _ hblk,hu];rfl
      ·intro k j r d hr hd;have hk:k<n:=by
        rcases Nat.lt_or_ge k n with h|h
        ·exact h
        ·rw[List.getElem?_eq_none (by rw[hlen];exact h)] at hr;cases hr
       have hj:j<rz:=by
        have h1:=m5 r (List.mem_of_mem_drop (List.mem_of_mem_take (List.mem_of_getElem? hr)));have h2:=(List.getElem?_eq_some_iff.1 hd).1;omega
       obtain⟨u,hu,hru⟩:=key k j hk hj;rw[hu];exact(hru r d hr hd).ext e1
     rw[hlen] at this;exact this
theorem Dp {x y:L} (h:v6 x H=some (y,H')) (hi:Inv mu S TB w H):∃ S',Ext TB mu S w mu S' w∧Inv mu S' TB w H'∧∀ u,RelL mu S w x u->RelL mu S' w y u:=by
 unfold v6 at h;split at h
 ·split at h
  ·split at h
   ·rename_i hle;cases h;rename_i hb;obtain⟨S',h1,h2,h3⟩:=N5 hi hb hle;exact⟨S',h1,h2,fun u hu=>h3 _ u hu⟩
   ·cases h
  ·cases h
 ·cases h;exact⟨S,.refl _ _ _ _,hi,fun u hu=>hu.2⟩
 ·cases h;exact⟨S,.refl _ _ _ _,hi,fun u hu=>hu.2⟩
 ·cases h;exact⟨S,.refl _ _ _ _,hi,fun u hu=>by cases hu;exact .nil _ _ (fun _=>rfl)⟩
 ·cases h;exact⟨S,.refl _ _ _ _,hi,fun u hu=>hu⟩
theorem qu:∀ {xs ys:List L} {H H':Hp} {S:St},gU xs H=some (ys,H')->Inv mu S TB w H->∃ S',Ext TB mu S w mu S' w∧Inv mu S' TB w H'∧∀ us,RelLs mu S w xs us->RelLs mu S' w ys us
 | [],ys,H,H',S,h,hi=>by cases h;exact⟨S,.refl _ _ _ _,hi,fun us hu=>hu⟩
 | x::r,ys,H,H',S,h,hi=>by
  simp only[gU] at h;split at h
  ·rename_i y H1 hx;split at h
   ·rename_i zs H2 hr;cases h;obtain⟨S1,e1,i1,k1⟩:=Dp hx hi;obtain⟨S2,e2,i2,k2⟩:=qu hr i1;refine⟨S2,e1.trans e2,i2,fun us hu=>?_⟩
    cases us with
    | nil=>have:=hu.1;simp at this
    | cons u us =>
     have hr':RelLs mu S w r us:=⟨by have:=hu.1;simpa using this,fun k z hk=>by have:=hu.2 (k+1) z (by simpa using hk);simpa using this⟩
     obtain⟨u0,hu0,hru0⟩:=hu.2 0 x rfl;cases hu0;have a1:=(k1 _ hru0).ext e2;have a2:=k2 us (hr'.ext e1);refine⟨by simp[a2.1],fun j z hj=>?_⟩
     cases j with
     | zero=>simp at hj;subst hj;exact⟨_,rfl,a1⟩
     | succ j=>simpa using a2.2 j z (by simpa using hj)
   ·cases h
  ·cases h
theorem Ek:∀ {xs ys:List (Bool × List L)} {H H':Hp} {S:St},DH xs H=some (ys,H')->Inv mu S TB w H ->
  ∃ S',Ext TB mu S w mu S' w∧Inv mu S' TB w H'∧ys.length=xs.length∧∀ (j:Nat) (c:Bool × List L) (u:Value),xs[j]?=some c->RelC mu S w c u->∃ c',ys[j]?=some c'∧RelC mu S' w c' u
 | [],ys,H,H',S,h,hi=>by cases h;exact⟨S,.refl _ _ _ _,hi,rfl,fun j c u hj=>by simp at hj⟩
 | (t,x)::r,ys,H,H',S,h,hi=>by
  simp only[DH] at h;split at h
  ·rename_i y H1 hx;split at h
   ·rename_i zs H2 hr;cases h;obtain⟨S1,e1,i1,k1⟩:=qu hx hi;obtain⟨S2,e2,i2,l2,k2⟩:=Ek hr i1;refine⟨S2,e1.trans e2,i2,by simp[l2],fun j c u hj hc=>?_⟩
    cases j with
    | zero =>
     simp at hj;subst hj;refine⟨_,rfl,?_⟩;cases t with
     | true =>
      obtain⟨cs,rfl,hcs⟩:=hc;exact⟨cs,rfl,(k1 _ hcs).ext e2⟩
     | false =>
      obtain⟨z,rfl,hz⟩:=hc;have:=(k1 [u] ⟨rfl,fun j q hq=>by
       cases j with
       | zero=>simp at hq;subst hq;exact⟨u,rfl,hz⟩
       | succ j=>simp at hq⟩).ext e2
      have hl:=this.1;match y,hl with
      | [q],_ =>
       obtain⟨_,h1,h2⟩:=this.2 0 q rfl;cases h1;exact⟨q,rfl,h2⟩
    | succ j=>simpa using k2 j c u (by simpa using hj) (hc.ext e1)
   ·cases h
  ·cases h
theorem um {v v':V} (h:pj v H=some (v',H')) (hi:Inv mu S TB w H):∃ S',Ext TB mu S w mu S' w∧Inv mu S' TB w H'∧∀ u,RelV mu S w v u->RelV mu S' w v' u:=by
 cases v with
 | one x =>
  simp only[pj] at h;split at h
  ·rename_i hx;cases h;exact Dp hx hi
  ·cases h
 | agg xs =>
  simp only[pj] at h;split at h
  ·rename_i hx;cases h;obtain⟨S1,e1,i1,k1⟩:=qu hx hi;exact⟨S1,e1,i1,fun u ⟨cs,hc,hu⟩=>⟨cs,hc,k1 _ hu⟩⟩
  ·cases h
 | tup xs =>
  simp only[pj] at h;split at h
  ·rename_i hx;cases h;obtain⟨S1,e1,i1,l1,k1⟩:=Ek hx hi;refine⟨S1,e1,i1,fun u ⟨vs,h1,h2,h3⟩=>⟨vs,h1,by rw[h2,l1],fun j c hj=>?_⟩⟩
   have hjl:j<xs.length:=by rw[<- l1];exact(List.getElem?_eq_some_iff.1 hj).1
   obtain⟨z,hz,hrz⟩:=h3 j xs[j] (by simp)
   obtain⟨c',hc',hr'⟩:=k1 j xs[j] z (by simp) hrz
   rw[hj] at hc';cases hc';exact⟨z,hz,hr'⟩
  ·cases h
 | any=>simp only[pj] at h;cases h
theorem Ow (hi:Inv mu S TB w H) {i:Nat} {xs:List L} {ds:List D} {x:Value} (hb:H[i]?=some (.cells xs)) (hd:ow xs=some ds) (hp:ptrTo mu i 0 x) :
  ∃ S',Ext TB mu S w mu S' w∧Inv mu S' TB w (H.set i .dead)∧RelL mu S' w (.ip ds) x:=by
 obtain⟨l0,B0,g1,g2,rfl⟩:=hp;obtain⟨l,B,cur,e,m1,m2,m3,m4,m5,m6⟩:=hi.box i _ _ hb g1;rw[g1] at m1;cases m1;rw[g2] at m2;cases m2;let S':St:=fun b q=>S b q∨(b=B0∧q<xs.length)
 have e1:Ext TB mu S w mu S' w:=⟨fun _ _ h=>h,fun _ _ h=>.inl h,fun b q ht h=>h.resolve_right (fun h=>m5 (h.1 ▸ ht)),fun _ _ _=>rfl,fun _ _=>rfl,Nat.le_refl _,rfl,rfl,rfl⟩
 refine⟨S',e1,hi.put e1 ⟨_,hb,rfl⟩ g1 g2 (fun _ _=>rfl) (fun k q hk h=>h.resolve_right (fun h=>hk h.1)) rfl trivial,B0,0,rfl,fun j d hj=>?_⟩
 obtain⟨u,hu,hr⟩:=mZ hd m4 j d hj;have hl:=nj hd;have hjl:j<ds.length:=(List.getElem?_eq_some_iff.1 hj).1;refine⟨.inr ⟨rfl,by omega⟩,u,?_,hr.ext e1⟩
 rw[Nat.zero_add,cell_of_row w B0 _ cur e _ m3];simpa using hu
theorem wL:∀ {caps:List Nat} {css:List (List D)} {H H':Hp} {S:St} {vs:List Value},nv caps H=some (css,H')->Inv mu S TB w H->vs.length=caps.length ->
  (∀ (j i:Nat),caps[j]?=some i->∃ x,vs[j]?=some x∧ptrTo mu i 0 x) ->
  ∃ S',Ext TB mu S w mu S' w∧Inv mu S' TB w H'∧css.length=caps.length∧∀ (j:Nat) (cs:List D),css[j]?=some cs->∃ x,vs[j]?=some x∧RelL mu S' w (.ip cs) x
 | [],css,H,H',S,vs,h,hi,_,_=>by cases h;exact⟨S,.refl _ _ _ _,hi,rfl,fun j cs h=>by simp at h⟩
 | i::r,css,H,H',S,vs,h,hi,hl,hv=>by
  simp only[nv] at h;split at h
  ·rename_i xs hb;split at h
   ·rename_i ds hds;split at h
    ·rename_i css1 H1 h1;cases h;obtain⟨x,hx,hp⟩:=hv 0 i rfl;obtain⟨S1,e1,i1,r1⟩:=Ow hi hb hds hp;match vs,hx,hl with
     | v0::vs',hx,hl =>
      simp at hx;subst hx;obtain⟨S2,e2,i2,l2,r2⟩:=wL (vs:=vs') h1 i1 (by simpa using hl) (fun j k hk=>by
       have:=hv (j+1) k (by simpa using hk)
       simpa using this)
      refine⟨S2,e1.trans e2,i2,by simp[l2],fun j cs hj=>?_⟩
      cases j with
      | zero=>simp at hj;subst hj;exact⟨_,rfl,r1.ext e2⟩
      | succ j=>simpa using r2 j cs (by simpa using hj)
    ·cases h
   ·cases h
  ·cases h
theorem RelD.fn_of {f:FuncId} {caps:List (List D)} {vs:List Value} (hl:vs.length=caps.length) (h:∀ (j:Nat) (cs:List D),caps[j]?=some cs->∃ x,vs[j]?=some x∧RelL mu S w (.ip cs) x) :
  RelD S w (.fn f caps) (.func (.func f) #[] vs.toArray):=by
 have h1:∀ j:Nat,∃ p:Nat × Nat,∀ cs:List D,caps[j]?=some cs->vs[j]?=some (Value.pointer (some ⟨p.1,p.2,none⟩))∧∀ (k:Nat) (d:D),cs[k]?=some d->S p.1 (p.2+k)∧∃ x,w.cell? ⟨p.1,p.2+k,none⟩=some x∧RelD S w d x:=by
  intro j;cases hc:caps[j]? with
  | none=>exact⟨(0,0),fun cs h=>by cases h⟩
  | some cs =>
   obtain⟨x,hx,B,off,rfl,hk⟩:=h j cs hc;exact⟨(B,off),fun cs' h=>by cases h;exact⟨hx,hk⟩⟩
 obtain⟨Q,hQ⟩:∃ Q:Nat->Nat × Nat,∀ (j:Nat) (cs:List D),caps[j]?=some cs->vs[j]?=some (Value.pointer (some ⟨(Q j).1,(Q j).2,none⟩))∧∀ (k:Nat) (d:D),cs[k]?=some d->S (Q j).1 ((Q j).2+k)∧∃ x,w.cell? ⟨(Q j).1,(Q j).2+k,none⟩=some x∧RelD S w d x :=
  ⟨fun j=>Classical.choose (h1 j),fun j=>Classical.choose_spec (h1 j)⟩
 have h2:∀ j k:Nat,∃ u:Value,∀ (cs:List D) (d:D),caps[j]?=some cs->cs[k]?=some d->w.cell? ⟨(Q j).1,(Q j).2+k,none⟩=some u∧RelD S w d u:=by
  intro j k;cases hc:caps[j]? with
  | none=>exact⟨undef,fun cs d h=>by cases h⟩
  | some cs =>
   cases hk:cs[k]? with
   | none=>exact⟨undef,fun cs' d h h'=>by cases h;rw[hk] at h';cases h'⟩
   | some d =>
    obtain⟨_,u,hu,hr⟩:=(hQ j cs hc).2 k d hk;exact⟨u,fun cs' d' h h'=>by cases h;rw[hk] at h';cases h';exact⟨hu,hr⟩⟩
 obtain⟨u,hu⟩:∃ u:Nat->Nat->Value,∀ (j k:Nat) (cs:List D) (d:D),caps[j]?=some cs->cs[k]?=some d->w.cell? ⟨(Q j).1,(Q j).2+k,none⟩=some (u j k)∧RelD S w d (u j k) :=
  ⟨fun j k=>Classical.choose (h2 j k),fun j k=>Classical.choose_spec (h2 j k)⟩
 have e:vs=(List.range caps.length).map fun j=>Value.pointer (some ⟨(Q j).1,(Q j).2,none⟩):=by
  refine List.ext_getElem (by simp[hl]) fun j hj1 hj2=>?_
  have hj:j<caps.length:=by omega
  have:=(hQ j caps[j] (List.getElem?_eq_getElem hj)).1;rw[List.getElem?_eq_getElem hj1] at this;simpa using this
 rw[e];refine .fn f caps (fun j=>(Q j).1) (fun j=>(Q j).2) u (fun j k cs hc hk=>?_) (fun j k cs hc hk=>?_) (fun j k cs d hc hk=>?_)
 ·exact((hQ j cs hc).2 k cs[k] (List.getElem?_eq_getElem hk)).1
 ·exact(hu j k cs cs[k] hc (List.getElem?_eq_getElem hk)).1
 ·exact(hu j k cs d hc hk).2
theorem RelD.fn_inv {f:FuncId} {caps:List (List D)} {x:Value} (h:RelD S w (.fn f caps) x):∃ vs:List Value,x=.func (.func f) #[] vs.toArray∧vs.length=caps.length∧∀ (j:Nat) (cs:List D),caps[j]?=some cs->∃ y,vs[j]?=some y∧RelL mu S w (.ip cs) y:=by
 cases h with
 | fn _ _ B off u hS hc hr =>
  refine⟨_,rfl,by simp,fun j cs hj=>?_⟩
  have hjl:j<caps.length:=(List.getElem?_eq_some_iff.1 hj).1;refine⟨.pointer (some ⟨B j,off j,none⟩),by simp[hjl],B j,off j,rfl,fun k d hk=>?_⟩
  have hkl:k<cs.length:=(List.getElem?_eq_some_iff.1 hk).1;exact⟨hS j k cs hj hkl,u j k,hc j k cs hj hkl,hr j k cs d hj hk⟩
theorem zd:∀ {xs:List L} {ds:List D} {H H':Hp} {S:St} {us:List Value},uU xs H=some (ds,H')->Inv mu S TB w H->RelLs mu S w xs us ->
  ∃ S',Ext TB mu S w mu S' w∧Inv mu S' TB w H'∧ds.length=xs.length∧∀ (j:Nat) (d:D),ds[j]?=some d->∃ x,us[j]?=some x∧RelD S' w d x
 | [],ds,H,H',S,us,h,hi,_=>by cases h;exact⟨S,.refl _ _ _ _,hi,rfl,fun j d h=>by simp at h⟩
 | x::r,ds,H,H',S,us,h,hi,hr=>by
  match us,hr with
  | [],hr=>simp[RelLs] at hr
  | u0::us',hr =>
   obtain⟨y,hy,ry⟩:=hr.2 0 x rfl;simp at hy;subst hy;have htail:RelLs mu S w r us':=⟨by have:=hr.1;simpa using this,fun j z hz=>by
    have:=hr.2 (j+1) z (by simpa using hz)
    simpa using this⟩
   have plain:∀ {d0:D} {H1 H2:Hp} {ds1:List D},v6 x H=some (.d d0,H1)->uU r H1=some (ds1,H2) ->
     ∃ S',Ext TB mu S w mu S' w∧Inv mu S' TB w H2∧(d0::ds1).length=(x::r).length∧∀ (j:Nat) (d:D),(d0::ds1)[j]?=some d->∃ x,(u0::us')[j]?=some x∧RelD S' w d x:=by
    intro d0 H1 H2 ds1 h1 h2;obtain⟨S1,e1,i1,r1⟩:=Dp h1 hi;obtain⟨S2,e2,i2,l2,r2⟩:=zd h2 i1 (htail.ext e1);refine⟨S2,e1.trans e2,i2,by simp[l2],fun j d hj=>?_⟩
    cases j with
    | zero=>simp at hj;subst hj;exact⟨_,rfl,RelD.ext e2 (r1 _ ry)⟩
    | succ j=>simpa using r2 j d (by simpa using hj)
   cases x with
   | f g caps =>
    simp only[uU] at h;split at h
    ·rename_i css H1 h1;split at h
     ·rename_i ds1 H2 h2;cases h;obtain⟨vs,rfl,hvl,hv⟩:=ry;obtain⟨S1,e1,i1,l1,r1⟩:=wL h1 hi hvl hv;obtain⟨S2,e2,i2,l2,r2⟩:=zd h2 i1 (htail.ext e1);refine⟨S2,e1.trans e2,i2,by simp[l2],fun j d hj=>?_⟩
      cases j with
      | zero =>
       simp at hj;subst hj;exact⟨_,rfl,RelD.ext e2 (RelD.fn_of (by omega) r1)⟩
      | succ j=>simpa using r2 j d (by simpa using hj)
     ·cases h
    ·cases h
   | _ =>
    simp only[uU] at h;split at h
    ·rename_i d0 H1 h1;split at h
     ·rename_i ds1 H2 h2;cases h;exact plain h1 h2
     ·cases h
    ·cases h
end
section
variable {P:Program} {mu:Mu} {S:St} {TB:Nat->Prop} {w:World} {H:Hp} {fr:Fr} {a:Act}
variable {φ:FuncId->List V->Hp->Option (V × Hp)} {o:Oper} {v:V} {H':Hp}
theorem OpOK.of_skip {o:Oper} {H':Hp} {w':World} {mu':Mu} {S':St} (hr:(execOp a.eval o).run P w=.ok .skip w')
  (he:Ext TB mu S w mu' S' w') (hi:Inv mu' S' TB w' H'):OpOK P o a mu S TB w (.tup []) H':=by
 intro next Q hn;unfold Oper.wp;rw[hr];exact hn undef w' mu' S' he hi ⟨#[],rfl,rfl,fun j c hj=>by simp at hj⟩
theorem dC (g o:Nat) (t:TypeId) (fz:Nat × Nat):∀ (vs:List Value) (i:Nat) (cur:Array Value) (w:World),w.heap[g]?=some (.cells cur t fz)->zj fz cur.size->o+i+vs.length<=cur.size->(∀ v∈vs,v.oneCell'=true) ->
  (storeCells ⟨g,o,none⟩ vs i).run P w=.ok () (w.setRow g (cur.toList.take (o+i)++vs++cur.toList.drop (o+i+vs.length)).toArray)
 | [],i,cur,w,hg,_,_,_=>by
  simp only[storeCells,List.append_nil,List.length_nil,Nat.add_zero,List.take_append_drop,Array.toArray_toList];rw[setRow_self w g cur t fz hg];rfl
 | v::rest,i,cur,w,hg,hof,hl,h1=>by
  have hi:o+i<cur.size:=by simp at hl;omega
  have hadd:(⟨g,o,none⟩:Addr).add i=⟨g,o+i,none⟩:=by unfold Addr.add;split <;> simp_all
  have hcell:w.cell? ⟨g,o+i,none⟩=some cur[o+i]:=by simp[World.cell?,hg,hi]
  have hfro:w.frozen? ⟨g,o+i,none⟩=false:=by
   have:=hof (o+i) hi;obtain⟨lo,hi'⟩:=fz;simp only[World.frozen?,hg,Bool.and_eq_false_iff,decide_eq_false_iff_not];simp only at this;omega
  have hst:(store ((⟨g,o,none⟩:Addr).add i) v).run P w=.ok () (w.setRow g (cur.setIfInBounds (o+i) v)):=by
   rw[hadd,run_store P w _ v _ (h1 v (by simp)),hcell]
   simp[hfro,setCell_eq_setRow w g (o+i) cur t fz v hg]
  have ih:=dC g o t fz rest (i+1) (cur.setIfInBounds (o+i) v) (w.setRow g (cur.setIfInBounds (o+i) v)) (setRow_heap w g cur _ t _ hg) (by simpa using hof) (by simp at hl ⊢;omega) (fun x hx=>h1 x (by simp[hx]))
  simp only[storeCells,Sem.run_bind,hst,Result.andThen_ok,ih,setRow_setRow];congr 3
  have e:=list_seg_step cur.toList (o+i) v rest (by simp at hl ⊢;omega)
  simpa[Array.toList_setIfInBounds,Nat.add_assoc] using e
theorem jL (hi:Inv mu S TB w H) {B:Nat} {old cs:Array Value} {el:TypeId} {f:Nat × Nat} (hb:w.heap[B]?=some (.cells old el f)) (hT:¬ TB B) (hS:∀ o,S B o->cs[o]?=old[o]?):Ext TB mu S w mu S (w.setRow B cs):=by
 refine⟨fun _ _ h=>h,fun _ _ h=>h,fun _ _ _ h=>h,fun b q h=>?_,fun b h=>setRow_other w B b cs (fun e=>hT (e ▸ h)),by simp[World.setRow],rfl,rfl,rfl⟩
 by_cases hbB:b=B
 ·subst hbB;rw[cell_of_row _ b q cs el f (setRow_heap w b old cs el f hb),cell_of_row w b q old el f hb];exact hS q h
 ·exact f9 (setRow_other w B b cs hbB)
theorem iN (B:Nat) (cs:Array Value):(w.setRow B cs).heap.size=w.heap.size:=by simp[World.setRow]
theorem mT {t:TypeId} {i:TypeInfo} {n B off:Nat} {cur:Array Value} {el:TypeId} {f:Nat × Nat} {x:Value} (h1:P.info? t=some i) (hn:i.size=n) (hb:w.heap[B]?=some (.cells cur el f)) (hof:zj f cur.size)
  (hl:x.cells.toList.length=n) (hle:off+n<=cur.size) (hf:∀ v∈x.cells.toList,flat v) :
  (Instr.storeAt t (.pointer (some ⟨B,off,none⟩)) x).run P w=.ok () (w.setRow B (cur.toList.take off++x.cells.toList++cur.toList.drop (off+n)).toArray):=by
 have hs:=dC (P:=P) B off el f x.cells.toList 0 cur w hb hof (by simp at hl ⊢;omega) (fun v hv=>(hf v hv).one)
 simp only[Nat.add_zero,hl] at hs;have hsz:x.cells.size=i.size:=by simp at hl;omega
 simp only[Instr.storeAt,Instr.sureAddr,storeVar,Sem.run_bind,Sem.run_pure,Result.andThen,sizeOf,run_typeInfo w h1];rw[if_neg (by simp[hsz])]
 simpa using hs
theorem SE {t:TypeId} {x y:Operand} {x' y':X} {i:TypeInfo} (hop:o.op=.store t x y) (h0:P.info? t=some i) (h1:aA x=some x') (h2:aA y=some y') (hi:Inv mu S TB w H) (hf:RelFr mu S w fr a)
  (hr:(A.st i.size x' y').run φ fr H=some (v,H')):OpOK P o a mu S TB w v H':=by
 simp only[A.run] at hr;split at hr
 ·rename_i k off u hx hy;split at hr
  ·rename_i ys xs hcs hb;split at hr
   ·rename_i hc;obtain⟨hlen,hle⟩:=hc;cases hr;obtain⟨l,B,cur,e,hl,hB,hxe,hblk,hrel,hT,hS⟩:=uQ hi hb (aj h1 hf hx);have hyr:=rI hcs (aj h2 hf hy);have hcl:cur.size=xs.length:=by have:=hrel.1;simpa using this
    have hst:=mT h0 rfl hblk (oq _) (x:=a.eval y) (off:=off) (by rw[hyr.1,hlen]) (by omega) hyr.flat
    have hext:Ext TB mu S w mu S (w.setRow B (cur.toList.take off++(a.eval y).cells.toList++cur.toList.drop (off+i.size)).toArray):=jL hi hblk hT (fun q hq=>absurd hq (hS q))
    refine .of_skip (w':=w.setRow B (cur.toList.take off++(a.eval y).cells.toList++cur.toList.drop (off+i.size)).toArray) ?_ hext ?_
    ·simp only[execOp,hop,hxe,Sem.run_bind,hst,Result.andThen,Sem.run_pure]
    ·refine hi.put hext ⟨_,hb,rfl⟩ hl hB (fun q hq=>setRow_other w B q _ hq) (fun _ _ _ h=>h) (iN _ _) ?_
     refine⟨l,B,_,e,hl,hB,setRow_heap w B cur _ e (0,0) hblk,?_,hT,hS⟩;have h3:=((hrel.take off).append hyr).append (hrel.drop (off+i.size));exact(by simpa using h3:RelLs mu S w _ _).ext hext
   ·cases hr
  ·cases hr
 ·rename_i k r j u hx hy;split at hr
  ·rename_i ys hcs;split at hr
   ·rename_i zs H1 hfz;split at hr
    ·rename_i ds sz rows fz hds hb;split at hr
     ·rename_i row hrow;split at hr
      ·rename_i hc;obtain⟨hdl,hjl,hfr⟩:=hc;cases hr;have hne:rows≠[]:=by intro h;rw[h] at hrow;simp at hrow
       have hyr:=rI hcs (aj h2 hf hy);obtain⟨S1,e1,i1,k1⟩:=qu hfz hi;have hzr:=k1 _ hyr;obtain⟨l,B,g1,g2,hxe⟩:=aj h1 hf hx;obtain⟨rz,hrz,l',B',cur,e,ff,m1,m2,m3,m4,m5,m6,hblk,⟨m7,moff⟩,m8,m9,m10,hcell,hT,hS,hS'⟩:=ua i1 hb g1 hne;rw[g1] at m1;cases m1;rw[g2] at m2;cases m2;rw[m3] at hxe;have hdz:=nj hds;have hrl:row.length=rz:=m5 row (List.mem_of_getElem? hrow);have hrk:r<rows.length:=(List.getElem?_eq_some_iff.1 hrow).1;have hcap:(r+1)*rz<=l.cap*rz:=Nat.mul_le_mul_right _ (by omega)
       rw[Nat.add_mul] at hcap;have hul:(a.eval y).cells.toList.length=i.size:=by rw[hzr.1,<- hdz,hdl]
       have hst:=mT h0 rfl hblk moff.1 (x:=a.eval y) (off:=r*rz+j) hul (by omega) hyr.flat
       have hbig:∀ q:Nat,q<fz*rz->q<r*rz:=fun q hq=>Nat.lt_of_lt_of_le hq (Nat.mul_le_mul_right _ hfr)
       have hget:∀ q,(cur.toList.take (r*rz+j)++(a.eval y).cells.toList++cur.toList.drop (r*rz+j+i.size)).toArray[q]? =
         if q<r*rz+j then cur[q]? else if q<r*rz+j+i.size then(a.eval y).cells.toList[q-(r*rz+j)]? else cur[q]?:=by
        intro q;simp only[List.getElem?_toArray];have hmin:min (r*rz+j) cur.toList.length=r*rz+j:=by simp;omega
        rw[List.append_assoc,List.getElem?_append,List.length_take,hmin];split
        ·rename_i hq;rw[List.getElem?_take,if_pos hq];simp
        ·rename_i hq;rw[List.getElem?_append,hul];split
         ·rename_i hq2;rw[if_pos (by omega)]
         ·rename_i hq2;rw[if_neg (by omega),List.getElem?_drop]
          rw[show r*rz+j+i.size+(q-(r*rz+j)-i.size)=q by omega]
          simp
       have hext:Ext TB mu S1 w mu S1 (w.setRow B (cur.toList.take (r*rz+j)++(a.eval y).cells.toList++cur.toList.drop (r*rz+j+i.size)).toArray) :=
        jL i1 hblk hT (fun q hq=>by rw[hget,if_pos (by have:=hbig q (hS q hq);omega)])
       refine .of_skip (w':=w.setRow B (cur.toList.take (r*rz+j)++(a.eval y).cells.toList++cur.toList.drop (r*rz+j+i.size)).toArray) ?_ (e1.trans hext) ?_
       ·simp only[execOp,hop,hxe,Sem.run_bind,hst,Result.andThen,Sem.run_pure]
       ·refine i1.put hext ⟨_,hb,rfl⟩ g1 g2 (fun q hq=>setRow_other w B q _ hq) (fun _ _ _ h=>h) (iN _ _) ?_
        refine⟨l,g1,by rw[m3];exact hrz,by rw[m4];simp,?_,by simpa using m6,?_⟩
        ·intro p hp;rw[m3];rcases List.mem_or_eq_of_mem_set hp with h|h
         ·exact m5 p h
         ·subst h;simp;omega
        ·rw[g2,m3];refine⟨_,e,ff,setRow_heap w B cur _ e ff hblk,⟨?_,⟨fun q hq=>moff.1 q (Nat.lt_of_lt_of_eq hq ?_),moff.2⟩⟩,by simpa using m8,m9,m10,?_,hT,hS,hS'⟩
         ·simp at hul ⊢;omega
         ·simp at hul ⊢;omega
         ·intro p q rr d hp hq;have hd:q<rz:=by
           have h1:rr.length=rz:=by
            rcases List.mem_or_eq_of_mem_set (List.mem_of_getElem? hp) with h|h
            ·exact m5 rr h
            ·subst h;simp;omega
           have:=(List.getElem?_eq_some_iff.1 hq).1;omega
          rw[hget];by_cases hpr:r=p
          ·subst hpr;rw[List.getElem?_set_self hrk] at hp;cases hp;rw[List.append_assoc,List.getElem?_append,List.length_take,Nat.min_eq_left (by omega)] at hq
           split at hq
           ·rename_i hqj;rw[if_pos (by omega)]
            rw[List.getElem?_take,if_pos hqj] at hq;obtain⟨z,hz,hrz⟩:=hcell r q row d hrow hq;exact⟨z,hz,hrz.ext hext⟩
           ·rename_i hqj;rw[if_neg (by omega)]
            rw[List.getElem?_append] at hq;split at hq
            ·rename_i hqd;rw[if_pos (by omega)]
             obtain⟨z,hz,hrz⟩:=mZ hds hzr _ _ hq;exact⟨z,by rw[show r*rz+q-(r*rz+j)=q-j by omega];exact hz,hrz.ext hext⟩
            ·rename_i hqd;rw[if_neg (by omega)]
             rw[List.getElem?_drop,show j+i.size+(q-j-ds.length)=q by omega] at hq
             obtain⟨z,hz,hrz⟩:=hcell r q row d hrow hq;exact⟨z,hz,hrz.ext hext⟩
          ·rw[List.getElem?_set_ne hpr] at hp;obtain⟨z,hz,hrz⟩:=hcell p q rr d hp hq;refine⟨z,?_,hrz.ext hext⟩;rcases Nat.lt_or_gt_of_ne hpr with h|h
           ·have h2:(r+1)*rz<=p*rz:=Nat.mul_le_mul_right _ h;rw[Nat.add_mul] at h2;rw[if_neg (by omega),if_neg (by omega)];exact hz
           ·have h2:(p+1)*rz<=r*rz:=Nat.mul_le_mul_right _ h;rw[Nat.add_mul] at h2;rw[if_pos (by omega)];exact hz
      ·cases hr
     ·cases hr
    ·cases hr
   ·cases hr
  ·cases hr
 ·cases hr
theorem OE {x:Operand} {x':X} (hop:o.op=.nilCheck x) (h1:aA x=some x') (hi:Inv mu S TB w H) (hf:RelFr mu S w fr a)
  (hr:(A.nck x').run φ fr H=some (v,H')):OpOK P o a mu S TB w v H':=by
 simp only[A.run] at hr;split at hr
 ·rename_i i off hx;cases hr;have hrel:=aj h1 hf hx;have hrel2:=hrel;obtain⟨l,B,_,_,he⟩:=hrel;exact .of_same (by simp only[execOp,hop,he];rfl) hi hrel2
 ·rename_i i k off hx;cases hr;have hrel:=aj h1 hf hx;have hrel2:=hrel;obtain⟨l,B,_,_,he⟩:=hrel;exact .of_same (by simp only[execOp,hop,he];rfl) hi hrel2
 ·rename_i cs hx;cases hr;have hrel:=aj h1 hf hx;have hrel2:=hrel;obtain⟨B,off,he,_⟩:=hrel;exact .of_same (by simp only[execOp,hop,he];rfl) hi hrel2
 ·rename_i g caps hx;cases hr;have hrel:=aj h1 hf hx;have hrel2:=hrel;obtain⟨vs,he,_⟩:=hrel;exact .of_same (by simp only[execOp,hop,he];rfl) hi hrel2
 ·rename_i g caps hx;cases hr;have hrel:=aj h1 hf hx;have hrel2:=hrel;obtain⟨vs,he,_⟩:=RelD.fn_inv (mu:=mu) hrel;exact .of_same (by simp only[execOp,hop,he];rfl) hi hrel2
 ·cases hr
end
section
variable {P:Program} {mu:Mu} {S:St} {TB:Nat->Prop} {w:World} {H:Hp} {fr:Fr} {a:Act}
variable {φ:FuncId->List V->Hp->Option (V × Hp)} {o:Oper} {v:V} {H':Hp}
def Mp:Value->Prop
 | .bool _ | .int _ _ | .string _=>True
 | _=>False
theorem pA (op:BinOp) (t:TypeId) (x y:Operand) {p q:Value} (hp:Mp p) (hq:Mp q):(eqGuard op t x y p q).run P w=.ok () w:=by
 cases p <;> cases hp <;> cases q <;> cases hq <;> cases op <;> rfl
theorem zm (m n:List UInt8):(⟨m.toArray⟩:ByteArray)++⟨n.toArray⟩=⟨(m++n).toArray⟩:=by
 apply WideShapes.bytes_inj;simp
theorem HF {op:BinOp} {t:TypeId} {x y r:D} {p q:Value} (h:dy op x y=some r) (hx:RelD S w x p) (hy:RelD S w y q) :
    ∃ u,(binOp op t p q).run P w=.ok u w∧RelD S w r u∧Mp p∧Mp q:=by
  cases hx with
  | i k m =>
    cases hy with
    | i k' n =>
      cases op <;> simp only[dy] at h
      case shl =>
        split at h
        · cases h
        · rename_i hn
          cases h
          exact⟨_,by simp[binOp,Op.shift,hn,go_sem],.i _ _,trivial,trivial⟩
      case shr =>
        split at h
        · cases h
        · rename_i hn
          cases h
          exact⟨_,by simp[binOp,Op.shift,hn,go_sem],.i _ _,trivial,trivial⟩
      all_goals
        split at h
        · cases h
        · rename_i hk
          have hk':k=k':=by simpa using hk
          subst hk'
          first
          | (cases h;exact⟨_,by simp only[binOp,ne_eq,not_true_eq_false,if_false,Op.intArith,Op.intBits,Op.intCmp];rfl,by constructor,trivial,trivial⟩)
          | (split at h
             · cases h
             · rename_i hz
               cases h
               exact⟨_,by simp only[binOp,ne_eq,not_true_eq_false,if_false,Op.intDiv,hz];rfl,by constructor,trivial,trivial⟩)
    | _=>cases op <;> simp[dy] at h
  | s m =>
    cases hy with
    | s n =>
      cases op <;> simp only[dy] at h
      case add =>
        split at h
        · rename_i hl
          cases h
          refine⟨.string ⟨(m++n).toArray⟩,?_,.s _,trivial,trivial⟩
          have hb:¬ (((⟨m.toArray⟩:ByteArray).size+(⟨n.toArray⟩:ByteArray).size:Nat):Int) > IntKind.i64.max:=by
            simp only[ByteArray.size,List.size_toArray]
            simp[IntKind.max,IntKind.bits,IntKind.signed]
            omega
          simp only[binOp,Op.stringOp,if_neg hb,zm]
          rfl
        · cases h
      all_goals first
        | (cases h;exact⟨_,by simp only[binOp,Op.stringOp,ByteArray.toList_mk];rfl,by constructor,trivial,trivial⟩)
        | cases h
    | _=>cases op <;> simp[dy] at h
  | b m=>cases hy <;> cases op <;> simp[dy] at h
  | nil=>cases op <;> simp[dy] at h
  | l=>cases op <;> simp[dy] at h
  | fn=>cases op <;> simp[dy] at h
theorem DD {op:BinOp} {t yt:TypeId} {x y:Operand} {x' y':X} (hop:o.op=.binOp op t x y yt) (h1:aA x=some x') (h2:aA y=some y') (hi:Inv mu S TB w H) (hf:RelFr mu S w fr a)
  (hr:(A.bin op x' y').run φ fr H=some (v,H')):OpOK P o a mu S TB w v H':=by
 simp only[A.run] at hr;split at hr
 ·rename_i p q hx hy;split at hr
  ·rename_i r hb;cases hr;obtain⟨u,hu,hru,s1,s2⟩:=HF (P:=P) (t:=t) hb (aj h1 hf hx) (aj h2 hf hy);refine .of_same (x:=u) ?_ hi hru;simp only[execOp,hop,Sem.run_bind,pA _ _ _ _ s1 s2,Result.andThen,hu,Sem.run_pure]
  ·cases hr
 ·cases hr
theorem PP {neg:Bool} {t yt:TypeId} {x y:Operand} {x' y':X} (hop:o.op=.binOp (bif neg then .neq else .eql) t x y yt) (ht:P.underlying t=some .bool) (h1:aA x=some x') (h2:aA y=some y') (hi:Inv mu S TB w H) (hf:RelFr mu S w fr a)
  (hr:(A.eqb neg x' y').run φ fr H=some (v,H')):OpOK P o a mu S TB w v H':=by
 simp only[A.run] at hr;split at hr
 ·rename_i p q hx hy;cases hr;have e1:=(aj h1 hf hx).b_inv;have e2:=(aj h2 hf hy).b_inv;refine .of_same (x:=.bool ((p == q) != neg)) ?_ hi (.b _);simp only[execOp,hop,Sem.run_bind,e1,e2,pA (P:=P) (w:=w) _ t x y (p:=.bool p) (q:=.bool q) trivial trivial,Result.andThen];cases neg
  ·simp only[cond_false,run_eql_bool w t p q ht,Sem.run_pure,Result.andThen];simp
  ·simp only[cond_true,run_neq_bool w t p q ht,Sem.run_pure,Result.andThen];simp
 ·cases hr
theorem HG {t:TypeId} {k:Nat} (h:v1 P t=some k) {x y:D} {b:Bool} (hs:uO k x y=some b) {p q:Value} (hx:RelD S w x p) (hy:RelD S w y q) (d:Nat) :
  (Op.equalIn (d+1) t p q).run P w=.ok b w:=by
 unfold v1 at h;split at h <;> cases h
 ·rename_i kk hu;cases hx <;> cases hy <;> first|(simp[uO] at hs;done)|skip
  simp only[uO] at hs;split at hs
  ·rename_i hk;cases hs;simp[Op.equalIn,run_underlying hu,hk]
  ·cases hs
 ·rename_i hu;cases hx <;> cases hy <;> first|(simp[uO] at hs;done)|skip
  simp only[uO] at hs;cases hs;exact run_equalIn_bool w d t _ _ hu
 ·rename_i hu;cases hx <;> cases hy <;> first|(simp[uO] at hs;done)|skip
  simp only[uO] at hs;cases hs;rw[run_equalIn_string w d t _ _ hu];simp
theorem sQ {t:TypeId} {k:Nat} (h:v1 P t=some k) {cs:Array Value} {i:Nat} {x:Value} (hx:cs[i]?=some x):(part t cs i).run P w=.ok x w:=by
 have hn:(isAgg t).run P w=.ok false w:=by
  unfold v1 at h;split at h <;> cases h <;> (rename_i hu;simp only[isAgg,Sem.run_bind,run_underlying hu,Result.andThen];rfl)
 simp only[part,Sem.run_bind,hn,Result.andThen,hx];rfl
theorem qj {cx cy:Array Value} (d:Nat):∀ (fs:List Field) (i:Nat) (ks:List Nat) (xs ys:List L) (b:Bool),iC P i fs=some ks->kT ks xs ys=some b ->
  (∀ (j:Nat) (x:L),xs[j]?=some x->∃ u,cx[i+j]?=some u∧RelL mu S w x u)->(∀ (j:Nat) (x:L),ys[j]?=some x->∃ u,cy[i+j]?=some u∧RelL mu S w x u) ->
  (Op.eqFields (d+1) cx cy fs).run P w=.ok b w
 | [],i,ks,xs,ys,b,hk,hs,hx,hy=>by
  cases hk;cases xs <;> cases ys <;> simp[kT] at hs
  subst hs;simp[Op.eqFields]
 | f::fs,i,ks,xs,ys,b,hk,hs,hx,hy=>by
  simp only[iC] at hk;split at hk
  ·cases hk
  ·rename_i hcond;split at hk
   ·rename_i k ks' hkf hks;cases hk;have hname:f.name ≠ "_" := fun h=>hcond (.inl h)
    have hoff:f.offset=i:=Decidable.byContradiction fun h=>hcond (.inr h)
    cases xs with
    | nil=>cases ys <;> simp[kT] at hs
    | cons x xs =>
     cases ys with
     | nil=>cases x <;> simp[kT] at hs
     | cons y ys =>
      cases x <;> cases y <;> first|(simp[kT] at hs;done)|skip
      simp only[kT] at hs;split at hs
      ·rename_i b1 b2 h1 h2;cases hs;obtain⟨u,hu,hru⟩:=hx 0 _ rfl;obtain⟨z,hz,hrz⟩:=hy 0 _ rfl;have ih:=qj d fs (i+1) ks' xs ys b2 hks h2 (fun j q hj=>by have:=hx (j+1) q (by simpa using hj);rwa [show i+(j+1)=i+1+j by omega] at this)
        (fun j q hj=>by have:=hy (j+1) q (by simpa using hj);rwa [show i+(j+1)=i+1+j by omega] at this)
       simp only[Nat.add_zero] at hu hz;rw[Op.eqFields];simp only[if_pos hname,Sem.run_bind,hoff,sQ hkf hu,sQ hkf hz,Result.andThen,HG hkf h1 hru hrz d];cases b1
       ·simp
       ·simpa using ih
      ·cases hs
   ·cases hk
theorem tu {t:TypeId} (op:BinOp) (x y:Operand) {xs ys:Array Value} (h:P.eqGuardType P.depth t=false):(eqGuard op t x y (.agg xs) (.agg ys)).run P w=.ok () w:=by
 cases op <;> simp[eqGuard,h,go_sem]
theorem PX {neg:Bool} {t yt:TypeId} {x y:Operand} {x' y':X} {fs:Array Field} {ks:List Nat} (hop:o.op=.binOp (bif neg then .neq else .eql) t x y yt) (ht:P.underlying t=some (.struct fs))
  (hst:P.stoodInHeld t=false) (hg:P.eqGuardType P.depth t=false) (hk:iC P 0 fs.toList=some ks) (h1:aA x=some x') (h2:aA y=some y') (hi:Inv mu S TB w H) (hf:RelFr mu S w fr a)
  (hr:(A.eqa neg ks x' y').run φ fr H=some (v,H')):OpOK P o a mu S TB w v H':=by
 simp only[A.run] at hr;split at hr
 ·rename_i xs ys hx hy;split at hr
  ·rename_i r hs;cases hr;obtain⟨cx,hcx,hrx⟩:=aj h1 hf hx;obtain⟨cy,hcy,hry⟩:=aj h2 hf hy;have hfe:P.fieldsOf t=fs:=by simp[Program.fieldsOf,ht]
   have heq:(Op.equal t (.agg cx) (.agg cy)).run P w=.ok r w:=by
    show(Op.equalIn (9999+1) t (.agg cx) (.agg cy)).run P w=.ok r w;rw[run_equalIn_struct w 9999 t cx cy (by rw[hfe];exact ht) hst,hfe]
    exact qj (mu:=mu) (S:=S) 9998 fs.toList 0 ks xs ys r hk hs (fun j q hj=>by simpa using hrx.2 j q hj) (fun j q hj=>by simpa using hry.2 j q hj)
   refine .of_same (x:=.bool (r != neg)) ?_ hi (.b _);simp only[execOp,hop,Sem.run_bind,hcx,hcy,tu _ x y hg,Result.andThen];cases neg
   ·simp only[cond_false,binOp,Sem.run_bind,heq,Sem.run_pure,Result.andThen];simp
   ·simp only[cond_true,binOp,Sem.run_bind,heq,Sem.run_pure,Result.andThen];simp
  ·cases hr
 ·cases hr
end
section
variable {P:Program} {mu:Mu} {S:St} {TB:Nat->Prop} {w:World} {H:Hp} {fr:Fr} {a:Act}
variable {φ:FuncId->List V->Hp->Option (V × Hp)} {o:Oper} {v:V} {H':Hp}
theorem SlOk.shape {l:Loc} {off n:Nat} {x:Value} (h:SlOk l off n x):∃ ad c,x=.slice ad n c∧(0<n->ad.isSome=true):=by
 obtain⟨ad,c,rfl,h⟩:=h;refine⟨ad,c,rfl,fun hn=>?_⟩
 cases hl:l.blk with
 | none=>rw[hl] at h;omega
 | some B=>rw[hl] at h;rw[h.2.1 hn];rfl
theorem t6 {neg:Bool} {t yt:TypeId} {x y:Operand} {r:Bool} {p q:Value} (hop:o.op=.binOp (bif neg then .neq else .eql) t x y yt) (hp:a.eval x=p) (hq:a.eval y=q)
  (hg:∀ op,(eqGuard op t x y p q).run P w=.ok () w) (he:(binOp .eql t p q).run P w=.ok (.bool r) w) (hn:(binOp .neq t p q).run P w=.ok (.bool (!r)) w) :
  (execOp a.eval o).run P w=.ok (.value (.bool (r != neg))) w:=by
 simp only[execOp,hop,hp,hq,Sem.run_bind,hg,Result.andThen];cases neg
 ·simp only[cond_false,he,Result.andThen,Sem.run_pure];simp
 ·simp only[cond_true,hn,Result.andThen,Sem.run_pure];simp
theorem o4 {t:TypeId} {p q:Value} {r:Bool} (h:∀ op,op=BinOp.eql∨op=BinOp.neq->binOp op t p q=(if op=.eql then(do pure (.bool (<- Op.equal t p q))) else(do pure (.bool (!(<- Op.equal t p q))))))
  (he:(Op.equal t p q).run P w=.ok r w):(binOp .eql t p q).run P w=.ok (.bool r) w∧(binOp .neq t p q).run P w=.ok (.bool (!r)) w:=by
 rw[h _ (.inl rfl),h _ (.inr rfl)];simp[he,go_sem]
theorem Md {t:TypeId} {ps rs:Array TypeId} {vr:Bool} (hu:P.underlying t=some (.func ps rs vr)) (d:Nat):(Op.equalIn (d+1) t .nilFunc .nilFunc).run P w=.ok true w:=by
 simp[Op.equalIn,run_underlying hu]
theorem Ox {t:TypeId} {ps rs:Array TypeId} {vr:Bool} (hu:P.underlying t=some (.func ps rs vr)) (fn:Fn) (f1 cs:Array Value) (d:Nat):(Op.equalIn (d+1) t (.func fn f1 cs) .nilFunc).run P w=.ok false w:=by
 simp[Op.equalIn,run_underlying hu]
theorem NR {k:Nat} {neg:Bool} {t yt:TypeId} {x y:Operand} {x':X} (hop:o.op=.binOp (bif neg then .neq else .eql) t x y yt) (hk:xX P t y=some k) (h1:aA x=some x') (hi:Inv mu S TB w H) (hf:RelFr mu S w fr a)
  (hr:(A.nilc k neg x').run φ fr H=some (v,H')):OpOK P o a mu S TB w v H':=by
 unfold xX at hk;split at hk <;> cases hk
 ·rename_i e hu;have go:∀ (p:Value) ad n c,a.eval x=p->p=.slice ad n c->(execOp a.eval o).run P w=.ok (.value (.bool (ad.isNone != neg))) w:=by
   intro p ad n c h h';subst h';exact t6 hop h (rfl:a.eval (Operand.const (.slice none 0 0))=.slice none 0 0) (fun op=>by cases op <;> rfl) (Lib.run_eql_slice_nil w t e ad n c 0 0 hu) (run_neq_slice_nil_any w t e ad n c 0 0 hu)
  simp only[A.run] at hr;split at hr
  ·rename_i rows hx;split at hr
   ·cases hr
   ·rename_i hne;cases hr;have hrel:=aj h1 hf hx;generalize hp:a.eval x=p at hrel;cases hrel with
    | nil=>simp at hne
    | l rows sz B off c u=>exact .of_same (go _ _ _ _ hp rfl) hi (by cases neg <;> exact .b _)
  ·rename_i i z off n hx;split at hr
   ·cases hr
   ·rename_i hn;cases hr;obtain⟨l,hl,_,_,hs⟩:=aj h1 hf hx;obtain⟨ad,c,he,h0⟩:=hs.shape;have hs:=h0 (by omega)
    refine .of_same (go _ _ _ _ he rfl) hi ?_;have hnn:ad.isNone=false:=by cases ad <;> simp at hs ⊢
    rw[hnn];cases neg <;> exact .b _
  ·rename_i hx;cases hr;have he:=aj h1 hf hx;simp only[RelV,RelL] at he;refine .of_same (go _ _ _ _ he rfl) hi ?_;cases neg <;> exact .b _
  ·rename_i rows hx;cases hr;obtain⟨⟨ad,n,c,he⟩,_⟩:=aj h1 hf hx;refine .of_same (go _ _ _ _ he rfl) hi ?_;cases neg <;> exact .b _
  ·cases hr
 ·rename_i e hu;have hpt:P.underlying t=some (.pointer (P.pointee t)):=by simp[Program.pointee,hu]
  have go:∀ (p:Value) ad,a.eval x=p->p=.pointer ad->(execOp a.eval o).run P w=.ok (.value (.bool (ad.isNone != neg))) w:=by
   intro p ad h h';subst h';have:=o4 (P:=P) (w:=w) (t:=t) (p:=.pointer ad) (q:=.pointer none) (r:=ad.isNone) (fun op ho=>by rcases ho with rfl|rfl <;> rfl) (run_equal_pointer_nil w t ad hpt)
   exact t6 hop h (rfl:a.eval (Operand.const (.pointer none))=.pointer none) (fun op=>by cases op <;> rfl) this.1 this.2
  simp only[A.run] at hr;split at hr
  ·rename_i i off hx;cases hr;obtain⟨l,B,_,_,he⟩:=aj h1 hf hx;exact .of_same (go _ _ he rfl) hi (by cases neg <;> exact .b _)
  ·rename_i i k off hx;cases hr;obtain⟨l,B,_,_,he⟩:=aj h1 hf hx;exact .of_same (go _ _ he rfl) hi (by cases neg <;> exact .b _)
  ·rename_i cs hx;cases hr;obtain⟨B,off,he,_⟩:=aj h1 hf hx;exact .of_same (go _ _ he rfl) hi (by cases neg <;> exact .b _)
  ·rename_i hx;cases hr;have he:=aj h1 hf hx;simp only[RelV,RelL] at he;exact .of_same (go _ _ he rfl) hi (by cases neg <;> exact .b _)
  ·cases hr
 ·rename_i ps rs vr hu;have heq:∀ p,(p=.nilFunc->(Op.equal t p .nilFunc).run P w=.ok true w)∧(∀ fn f1 cs,p=.func fn f1 cs->(Op.equal t p .nilFunc).run P w=.ok false w):=by
   intro p;constructor
   ·rintro rfl;exact Md hu 9999
   ·rintro fn f1 cs rfl;exact Ox hu fn f1 cs 9999
  simp only[A.run] at hr;split at hr
  ·rename_i g caps hx;cases hr;obtain⟨vs,he,_⟩:=aj h1 hf hx;have:=o4 (P:=P) (w:=w) (t:=t) (q:=.nilFunc) (fun op ho=>by rcases ho with rfl|rfl <;> rfl) ((heq _).2 (Fn.func g) #[] vs.toArray rfl)
   exact .of_same (t6 hop he (rfl:a.eval (Operand.const .nilFunc)=.nilFunc) (fun op=>by cases op <;> rfl) this.1 this.2) hi (by cases neg <;> exact .b _)
  ·rename_i hx;cases hr;have he:=aj h1 hf hx;simp only[RelV,RelL] at he;have:=o4 (P:=P) (w:=w) (t:=t) (q:=.nilFunc) (fun op ho=>by rcases ho with rfl|rfl <;> rfl) ((heq _).1 rfl)
   exact .of_same (t6 hop he (rfl:a.eval (Operand.const .nilFunc)=.nilFunc) (fun op=>by cases op <;> rfl) this.1 this.2) hi (by cases neg <;> exact .b _)
  ·cases hr
theorem RJ {op:UnOp} {t:TypeId} {x:Operand} {x':X} (hop:o.op=.unOp op t x) (h1:aA x=some x') (hi:Inv mu S TB w H) (hf:RelFr mu S w fr a)
  (hr:(A.un op x').run φ fr H=some (v,H')):OpOK P o a mu S TB w v H':=by
 simp only[A.run] at hr;split at hr
 ·rename_i p hx;split at hr
  ·rename_i r hu;cases hr;have hrel:=aj h1 hf hx;generalize hp:a.eval x=q at hrel;have:∃ u,(Op.unary op q).run P w=.ok u w∧RelD S w r u:=by
    cases hrel <;> cases op <;> simp only[Om] at hu <;> first|(cases hu;done)|(cases hu;exact⟨_,rfl,by constructor⟩)
   obtain⟨u,hu',hru⟩:=this;exact .of_same (x:=u) (by simp only[execOp,hop,hp,Sem.run_bind,hu',Result.andThen,Sem.run_pure]) hi hru
  ·cases hr
 ·cases hr
theorem Ou {s d:TypeId} {k:IntKind} {x:Operand} {x':X} (hop:o.op=.convert s d x) (hs:(P.underlying s).isSome=true) (hd:P.underlying d=some (.int k)) (h1:aA x=some x') (hi:Inv mu S TB w H) (hf:RelFr mu S w fr a)
  (hr:(A.cvi k x').run φ fr H=some (v,H')):OpOK P o a mu S TB w v H':=by
 simp only[A.run] at hr;split at hr
 ·rename_i k' n hx;cases hr;have he:=(aj h1 hf hx).i_inv;refine .of_same (x:=.int k (k.wrap n)) ?_ hi (.i _ _);obtain⟨u,hu⟩:=Option.isSome_iff_exists.1 hs;have hc:(convert s d (.int k' n)).run P w=.ok (.int k (k.wrap n)) w:=by
   simp only[convert,Sem.run_bind,run_underlying hu,run_underlying hd,Result.andThen];cases u <;> rfl
  simp only[execOp,hop,he,Sem.run_bind,hc,Result.andThen,Sem.run_pure]
 ·cases hr
theorem PO {s d:TypeId} {x:Operand} {x':X} (hop:o.op=.convert s d x) (hs:P.underlying s=some .string) (hd:P.underlying d=some .string) (h1:aA x=some x') (hi:Inv mu S TB w H) (hf:RelFr mu S w fr a)
  (hr:(A.cvs x').run φ fr H=some (v,H')):OpOK P o a mu S TB w v H':=by
 simp only[A.run] at hr;split at hr
 ·rename_i l hx;cases hr;have he:=(aj h1 hf hx).s_inv;refine .of_same (x:=.string ⟨l.toArray⟩) ?_ hi (.s _);have hc:(convert s d (.string ⟨l.toArray⟩)).run P w=.ok (.string ⟨l.toArray⟩) w:=by
   simp only[convert,Sem.run_bind,run_underlying hs,run_underlying hd,Result.andThen];rfl
  simp only[execOp,hop,he,Sem.run_bind,hc,Result.andThen,Sem.run_pure]
 ·cases hr
theorem t9:∀ {xs:List Operand} {ys:List X} {vs:List V},gV xs=some ys->mW fr ys=some vs->RelFr mu S w fr a ->
  vs.length=xs.length∧∀ (j:Nat) (v:V),vs[j]?=some v->∃ x,(xs.map a.eval)[j]?=some x∧RelV mu S w v x
 | [],ys,vs,hc,he,hf=>by cases hc;cases he;exact⟨rfl,fun j v hj=>by simp at hj⟩
 | x::r,ys,vs,hc,he,hf=>by
  simp only[gV] at hc;split at hc
  ·rename_i y ys' hy hys;cases hc;simp only[mW] at he;split at he
   ·rename_i u us hu hus;cases he;have ih:=t9 hys hus hf;refine⟨by simp[ih.1],fun j v hj=>?_⟩
    cases j with
    | zero=>simp at hj;subst hj;exact⟨_,rfl,aj hy hf hu⟩
    | succ j=>simpa using ih.2 j v (by simpa using hj)
   ·cases he
  ·cases hc
theorem Pu {f:FuncId} {first caps:Array Operand} {ys:List X} (hop:o.op=.makeFunc (.func f) first caps) (h0:first.isEmpty=true) (h1:gV caps.toList=some ys) (hi:Inv mu S TB w H) (hf:RelFr mu S w fr a)
  (hr:(A.mkf f ys).run φ fr H=some (v,H')):OpOK P o a mu S TB w v H':=by
 simp only[A.run] at hr;split at hr
 ·rename_i vs hvs;split at hr
  ·rename_i l hl;cases hr;obtain⟨h2,h3⟩:=t9 h1 hvs hf;have hfe:first = #[]:=by simpa using h0
   subst hfe;refine .of_same (x:=.func (.func f) #[] (caps.toList.map a.eval).toArray) ?_ hi ⟨caps.toList.map a.eval,rfl,?_,?_⟩
   ·simp only[execOp,hop,Instr.makeFunc,Sem.run_bind,Sem.run_pure,Result.andThen];have:caps.map a.eval=(caps.toList.map a.eval).toArray:=by apply Array.ext';simp
    simp only[Array.map_empty];rw[<- this]
   ·have hlen:∀ (vs:List V) (l:List Nat),vs.mapM (fun v=>match v with | .one (.p i 0)=>some i|_=>none)=some l->l.length=vs.length:=by
     intro vs;induction vs with
     | nil=>intro l h;simp at h;subst h;rfl
     | cons v vs ih =>
      intro l h;simp only[List.mapM_cons,Option.bind_eq_bind,Option.bind_eq_some_iff] at h;obtain⟨i,_,l',hl',h⟩:=h;cases h;simp[ih l' hl']
    simp[hlen vs l hl,h2]
   ·have hget:∀ (vs:List V) (l:List Nat),vs.mapM (fun v=>match v with | .one (.p i 0)=>some i|_=>none)=some l->∀ (j i:Nat),l[j]?=some i->vs[j]?=some (.one (.p i 0)):=by
     intro vs;induction vs with
     | nil=>intro l h j i hj;simp at h;subst h;simp at hj
     | cons v vs ih =>
      intro l h j i hj;simp only[List.mapM_cons,Option.bind_eq_bind,Option.bind_eq_some_iff] at h;obtain⟨i',hi',l',hl',h⟩:=h;cases h;cases j with
      | zero =>
       simp at hj;subst hj;split at hi'
       ·cases hi';rfl
       ·cases hi'
      | succ j=>simpa using ih l' hl' j i (by simpa using hj)
    intro j i hj;obtain⟨x,hx,hrx⟩:=h3 j _ (hget vs l hl j i hj);exact⟨x,hx,hrx⟩
  ·cases hr
 ·cases hr
end
section
variable {P:Program} {mu:Mu} {S:St} {TB:Nat->Prop} {w:World} {H:Hp} {fr:Fr} {a:Act}
variable {φ:FuncId->List V->Hp->Option (V × Hp)} {o:Oper} {v:V} {H':Hp}
theorem gD {sz:Nat} {rows:List (List D)} (h:aV sz rows=true):∀ r∈rows,r.length=sz:=by
 intro r hr;have:=List.all_eq_true.1 h r hr;simpa using this
theorem oN (hi:Inv mu S TB w H) {sz:Nat} {x:L} {rows:List (List D)} {p:Value} (hx:RelL mu S w x p) (hr:cO H sz x=some rows) (hs:∀ r∈rows,r.length=sz) :
  ∃ ad n c,p=.slice ad n c∧n=rows.length∧(rows=[]∨∃ (B off:Nat) (news:List Value),ad=some ⟨B,off,none⟩∧news.length=rows.length*sz∧(∀ (j:Nat) (u:Value),news[j]?=some u->w.cell? ((⟨B,off,none⟩:Addr).add j)=some u) ∧
   (∀ (k j:Nat) (r:List D) (d:D),rows[k]?=some r->r[j]?=some d->∃ u:Value,news[k*sz+j]?=some u∧RelD S w d u)):=by
 have mk:∀ (B off:Nat),(∀ k j,k<rows.length->j<sz->∃ u,w.cell? ⟨B,off+k*sz+j,none⟩=some u∧∀ (r:List D) (d:D),rows[k]?=some r->r[j]?=some d->RelD S w d u) ->
   ∃ news:List Value,news.length=rows.length*sz∧(∀ (j:Nat) (u:Value),news[j]?=some u->w.cell? ((⟨B,off,none⟩:Addr).add j)=some u) ∧
   (∀ (k j:Nat) (r:List D) (d:D),rows[k]?=some r->r[j]?=some d->∃ u:Value,news[k*sz+j]?=some u∧RelD S w d u):=by
  intro B off hk;refine⟨(List.range (rows.length*sz)).map fun q=>(w.cell? ⟨B,off+q,none⟩).getD undef,by simp,fun j u hj=>?_,fun k j r d h1 h2=>?_⟩
  ·have hlt:j<rows.length*sz:=by
    have:=(List.getElem?_eq_some_iff.1 hj).1;simpa using this
   have hsz:0<sz:=by
    rcases Nat.eq_zero_or_pos sz with h|h
    ·subst h;omega
    ·exact h
   simp[hlt] at hj;obtain⟨u',hu',_⟩:=hk (j / sz) (j % sz) (by rw[Nat.div_lt_iff_lt_mul hsz];exact hlt) (Nat.mod_lt _ hsz)
   have he:off+j / sz*sz+j % sz=off+j:=by have:=Nat.div_add_mod' j sz;omega
   rw[he] at hu';rw[fP];rw[hu'] at hj ⊢;simp at hj;rw[hj]
  ·have hkl:=(List.getElem?_eq_some_iff.1 h1).1;have hjl:j<sz:=by
    have h3:=hs r (List.mem_of_getElem? h1);have:=(List.getElem?_eq_some_iff.1 h2).1;omega
   obtain⟨u,hu,hru⟩:=hk k j hkl hjl;have hlt:k*sz+j<rows.length*sz:=by
    have:(k+1)*sz<=rows.length*sz:=Nat.mul_le_mul_right _ hkl;rw[Nat.add_mul] at this;omega
   refine⟨u,?_,hru r d h1 h2⟩;simp[hlt];rw[<- Nat.add_assoc,hu];rfl
 have dl:∀ (rows':List (List D)) (q:Value),rows'=rows->RelD S w (.l rows') q->∃ ad n c,q=.slice ad n c∧n=rows.length∧(rows=[]∨∃ (B off:Nat) (news:List Value),ad=some ⟨B,off,none⟩∧news.length=rows.length*sz∧(∀ (j:Nat) (u:Value),news[j]?=some u->w.cell? ((⟨B,off,none⟩:Addr).add j)=some u) ∧
   (∀ (k j:Nat) (r:List D) (d:D),rows[k]?=some r->r[j]?=some d->∃ u:Value,news[k*sz+j]?=some u∧RelD S w d u)):=by
  intro rows' q hrw hq;subst hrw;cases hq with
  | nil ad c=>exact⟨ad,0,c,rfl,rfl,.inl rfl⟩
  | l _ sz0 B off c u hc hs0 hS hcell hrel =>
   by_cases hne:rows'=[]
   ·exact⟨_,_,_,rfl,rfl,.inl hne⟩
   ·have hsz:sz0=sz:=by
     obtain⟨r,hr⟩:=List.exists_mem_of_ne_nil _ hne;rw[<- hs0 r hr,hs r hr]
    subst hsz;obtain⟨news,n1,n2,n3⟩:=mk B off fun k j hk hj=>⟨u k j,hcell k j hk hj,fun r d h1 h2=>hrel k j r d h1 h2⟩
    exact⟨_,_,_,rfl,rfl,.inr ⟨B,off,news,rfl,n1,n2,n3⟩⟩
 unfold cO at hr;split at hr
 ·cases hr;exact dl _ _ rfl hx
 ·cases hr;exact dl _ _ rfl hx.2
 ·cases hr;exact dl _ _ rfl hx.2
 ·cases hr;have hx':p=.slice none 0 0:=hx;subst hx';exact⟨none,0,0,rfl,rfl,.inl rfl⟩
 ·rename_i i z off n;split at hr
  ·rename_i sz' rws fz hb;split at hr
   ·rename_i hc;obtain⟨hc1,hc2⟩:=hc;obtain⟨l,hl,_,hle,hsl⟩:=hx;obtain⟨ad,c,rfl,hsl⟩:=hsl;have hrows:rows=(rws.drop off).take n:=by cases hr;rfl
    have hlen:rows.length=n:=by rw[hrows];simp;omega
    refine⟨ad,n,c,rfl,hlen.symm,?_⟩;by_cases hn:n=0
    ·exact .inl (List.eq_nil_of_length_eq_zero (by omega))
    ·right
     have hne:rws≠[]:=by intro h;subst h;simp at hc2;omega
     obtain⟨rz,hrz,l',B,cur,e,ff,m1,m2,m3,m4,m5,m6,hblk,⟨m7,_⟩,m8,m9,m10,hcell,_⟩:=ua hi hb hl hne;have hszeq:rz=sz:=by
      have h0:off<rws.length:=by omega
      have h1:((rws.drop off).take n)[0]?=some rws[off]:=by rw[List.getElem?_take,if_pos (by omega),List.getElem?_drop];simp[h0]
      rw[<- hrows] at h1;have h2:=hs _ (List.mem_of_getElem? h1);rw[m5 _ (List.getElem_mem _)] at h2;exact h2
     subst hszeq;rw[hl] at m1;cases m1;rw[m2] at hsl;obtain⟨_,h2,_,_⟩:=hsl;rw[h2 (by omega),m3]
     obtain⟨news,n1,n2,n3⟩:=mk B (off*rz) fun k j hk hj=>by
      rw[hlen] at hk;have hkl:off+k<rws.length:=by omega
      have hrl:(rws[off+k]).length=rz:=m5 _ (List.getElem_mem hkl);obtain⟨u,hu,hru⟩:=hcell (off+k) j rws[off+k] (rws[off+k])[j] (by simp) (by simp)
      refine⟨u,?_,fun r d h1 h2=>?_⟩
      ·rw[cell_of_row w B _ cur e _ hblk,show off*rz+k*rz+j=(off+k)*rz+j by rw[Nat.add_mul]];exact hu
      ·rw[hrows,List.getElem?_take,if_pos hk,List.getElem?_drop,List.getElem?_eq_getElem hkl] at h1;cases h1;rw[List.getElem?_eq_getElem (by omega)] at h2
       cases h2;exact hru
     exact⟨B,_,news,rfl,n1,n2,n3⟩
   ·cases hr
  ·cases hr
 ·cases hr
theorem qo:∀ {rows:List (List D)} {l:List UInt8},gk rows=some l->(∀ r∈rows,r.length=1)∧l.length=rows.length∧∀ (k:Nat) (b:UInt8),l[k]?=some b->∃ n,rows[k]?=some [.i .u8 n]∧b=UInt8.ofNat n.toNat
 | [],l,h=>by simp[gk] at h;subst h;exact⟨by simp,rfl,fun k b hk=>by simp at hk⟩
 | r::rows,l,h=>by
  unfold gk at h;split at h
  ·rename_i heq;cases heq
  ·rename_i n r' heq;cases heq;split at h
   ·rename_i bs hb;cases h;obtain⟨h1,h2,h3⟩:=qo hb;refine⟨fun r hr=>?_,by simp[h2],fun k b hk=>?_⟩
    ·cases hr with
     | head=>rfl
     | tail _ h=>exact h1 r h
    ·cases k with
     | zero=>simp at hk;exact⟨n,rfl,hk.symm⟩
     | succ k=>simpa using h3 k b (by simpa using hk)
   ·cases h
  ·cases h
theorem wC:∀ (ns:List Int) (r:ByteArray),ns.foldl (fun r n=>r.push (UInt8.ofNat n.toNat)) r=⟨r.data++(ns.map fun n=>UInt8.ofNat n.toNat).toArray⟩
 | [],r=>by simp
 | n::ns,r=>by
  rw[List.foldl_cons,wC ns];congr 1
  simp[ByteArray.push]
theorem PR {s d e:TypeId} {x:Operand} {x':X} (hop:o.op=.convert s d x) (hs:P.underlying s=some (.slice e)) (hd:P.underlying d=some .string) (he:P.underlying e=some (.int .u8)) (h1:aA x=some x') (hi:Inv mu S TB w H) (hf:RelFr mu S w fr a)
  (hr:(A.b2s x').run φ fr H=some (v,H')):OpOK P o a mu S TB w v H':=by
 simp only[A.run] at hr;split at hr
 ·rename_i y hy;split at hr
  ·rename_i rows hrows;split at hr
   ·rename_i l hl;cases hr;obtain⟨b1,b2,b3⟩:=qo hl;obtain⟨ad,n,c,hp,hn,hor⟩:=oN hi (aj h1 hf hy) hrows b1;refine .of_same (x:=.string ⟨l.toArray⟩) ?_ hi (.s _);have hc:(convert s d (.slice ad n c)).run P w=.ok (.string ⟨l.toArray⟩) w:=by
     rw[run_convert_bytes_string w s d e ad n c hs he hd];rcases hor with h0|⟨B,off,news,rfl,n1,n2,n3⟩
     ·subst h0;have hl0:l=[]:=List.eq_nil_of_length_eq_zero (by simpa using b2)
      subst hl0;simp at hn;subst hn;cases ad with
      | none=>rfl
      | some ad=>rfl
     ·let ns:List Int:=rows.map fun r=>match r with|[.i .u8 n]=>n|_=>0
      have hnews:news=ns.map (Value.int .u8):=by
       apply List.ext_getElem?;intro k;rcases Nat.lt_or_ge k rows.length with hk|hk
       ·obtain⟨m,hm,_⟩:=b3 k l[k] (by simp)
        obtain⟨u,hu,hru⟩:=n3 k 0 _ _ hm rfl;rw[Nat.mul_one,Nat.add_zero] at hu;cases hru;rw[hu];simp[ns,hm]
       ·rw[List.getElem?_eq_none (by omega),List.getElem?_eq_none (by simp[ns];omega)]
      have hload:(loadCells ⟨B,off,none⟩ n).run P w=.ok (ns.map (Value.int .u8)).toArray w:=by
       have:=run_loadCells_list (P:=P) w ⟨B,off,none⟩ news n2;rw[n1,Nat.mul_one,<- hn] at this;rw[this,hnews]
      rw[run_bytesToString w _ n c ns hload,wC];congr 2
      have:ns.map (fun n=>UInt8.ofNat n.toNat)=l:=by
       apply List.ext_getElem?;intro k;rcases Nat.lt_or_ge k rows.length with hk|hk
       ·obtain⟨m,hm,hb⟩:=b3 k l[k] (by simp)
        rw[List.getElem?_eq_getElem (by omega:k<l.length),hb]
        simp[ns,hm]
       ·rw[List.getElem?_eq_none (by simp[ns];omega),List.getElem?_eq_none (by omega)]
      rw[this];simp
    simp only[execOp,hop,hp,Sem.run_bind,hc,Result.andThen,Sem.run_pure]
   ·cases hr
  ·cases hr
 ·cases hr
end
section
variable {P:Program} {mu:Mu} {S:St} {TB:Nat->Prop} {w:World} {H:Hp} {fr:Fr} {a:Act}
variable {φ:FuncId->List V->Hp->Option (V × Hp)} {o:Oper} {v:V} {H':Hp}
theorem kI {x:Operand} {x':X} {k:IntKind} {n:Int} (h1:aA x=some x') (hf:RelFr mu S w fr a) (h:G0 fr x'=some (k,n)):a.eval x=.int k n:=by
 unfold G0 at h;split at h
 ·rename_i hx;cases h;exact(aj h1 hf hx).i_inv
 ·cases h
theorem bU {x:Option Operand} {x':Option X} {n:Option Int} (h1:lY x=some x') (hf:RelFr mu S w fr a) (h:i7 fr x'=some n) :
  (n=none∧x.map a.eval=none)∨∃ k m,n=some m∧x.map a.eval=some (.int k m):=by
 unfold lY at h1;split at h1
 ·cases h1;simp only[i7] at h;cases h;exact .inl ⟨rfl,rfl⟩
 ·split at h1
  ·rename_i y hy;cases h1;simp only[i7] at h;split at h
   ·rename_i k m hx;cases h;exact .inr ⟨k,m,rfl,by simp only[Option.map_some];rw[(aj hy hf hx).i_inv]⟩
   ·cases h
  ·cases h1
theorem gN {k:IntKind} {n:Int} {y:Nat} {code:BoundsCode} (h0:0<=n) (h1:n<=(y:Int)):(Instr.sliceBound (.int k n) y code).run P w=.ok n.toNat w:=by
 simp only[Instr.sliceBound,asIntOf,Sem.run_bind,Sem.run_pure,Result.andThen];rw[if_pos ⟨h0,h1⟩];rfl
theorem gx {isS:Bool} {len cap:Nat} {lo hi' mx:Option Int} {vlo vhi vmx:Option Value} {i j m:Nat} (hc:len<=cap) (h:cS len len lo hi' mx=some (i,j,m))
  (hlo:(lo=none∧vlo=none)∨∃ k n,lo=some n∧vlo=some (.int k n)) (hhi:(hi'=none∧vhi=none)∨∃ k n,hi'=some n∧vhi=some (.int k n))
  (hmx:(mx=none∧vmx=none)∨∃ k n,mx=some n∧vmx=some (.int k n)) :
  (Instr.sliceBounds isS len cap vlo vhi vmx).run P w=.ok (i,j,if mx.isSome then m else cap) w∧i<=j∧j<=len∧(mx.isSome->j<=m∧m<=len):=by
 unfold cS at h;split at h
 ·cases h
 ·rename_i m' hm;split at h
  ·cases h
  ·rename_i h' hh;split at h
   ·cases h
   ·rename_i l' hl;cases h;have hl':i<=j∧(∀ s,((match vlo with|some v=>Instr.sliceBound v j s|none=>pure 0:Sem Nat)).run P w=.ok i w):=by
     rcases hlo with⟨rfl,rfl⟩|⟨k,n,rfl,rfl⟩
     ·cases hl;exact⟨Nat.zero_le _,fun s=>rfl⟩
     ·simp only at hl;split at hl
      ·rename_i hc;cases hl;exact⟨by omega,fun s=>gN hc.1 hc.2⟩
      ·cases hl
    rcases hmx with⟨rfl,rfl⟩|⟨k,n,rfl,rfl⟩
    ·simp only at hm;cases hm;have hh':j<=len∧((match vhi with|some v=>Instr.sliceBound v cap (if isS then .sliceAcap else .sliceAlen)|none=>pure len:Sem Nat)).run P w=.ok j w:=by
      rcases hhi with⟨rfl,rfl⟩|⟨k,n,rfl,rfl⟩
      ·simp at hh;subst hh;exact⟨Nat.le_refl _,rfl⟩
      ·simp only at hh;split at hh
       ·rename_i hc2;cases hh;exact⟨by omega,gN hc2.1 (by omega)⟩
       ·cases hh
     refine⟨?_,hl'.1,hh'.1,by simp⟩
     have e1:=hh'.2;have e2:=hl'.2 .sliceB;rcases hhi with⟨rfl,rfl⟩|⟨k,n,rfl,rfl⟩
     ·simp only[Sem.run_pure] at e1;cases e1;simp only[Instr.sliceBounds,Sem.run_bind,Sem.run_pure,Result.andThen];cases vlo with
      | none=>simp[go_sem] at e2 ⊢;exact e2
      | some v=>simp only at e2;simp[e2,go_sem]
     ·simp only[Instr.sliceBounds,Sem.run_bind,Sem.run_pure,Result.andThen];simp only at e1;cases vlo with
      | none =>
       have e2':0=i:=by simpa[go_sem] using e2
       subst e2';simp only[Sem.run_bind,e1,Result.andThen,Sem.run_pure];rfl
      | some v=>simp only at e2;simp[e1,e2,go_sem]
    ·simp only at hm;split at hm
     ·rename_i hcm;cases hm;rcases hhi with⟨rfl,rfl⟩|⟨k2,n2,rfl,rfl⟩
      ·simp at hh
      ·simp only at hh;split at hh
       ·rename_i hc2;cases hh;have b1:(Instr.sliceBound (.int k n) cap (if isS then .slice3Acap else .slice3Alen)).run P w=.ok n.toNat w:=gN hcm.1 (by omega)
        have b2:(Instr.sliceBound (.int k2 n2) n.toNat .slice3B).run P w=.ok n2.toNat w:=gN hc2.1 hc2.2;have e2:=hl'.2 .slice3C;refine⟨?_,hl'.1,by omega,fun _=>⟨by omega,by omega⟩⟩
        simp only[Instr.sliceBounds,Sem.run_bind,b1,b2,Result.andThen,Option.isSome_some,if_true];cases vlo with
      | none=>simp[go_sem] at e2 ⊢;exact e2
      | some v=>simp only at e2;simp[e2,go_sem]
       ·cases hh
     ·cases hm
theorem uS (l:List UInt8) (i j:Nat):(⟨l.toArray⟩:ByteArray).extract i j=⟨((l.take j).drop i).toArray⟩:=by
 rw[Lib.extract_eq];congr 2
 simp only[List.toList_toArray];rw[List.drop_take]
theorem Oi {t:TypeId} {x:Operand} {lo hi':Option Operand} {x':X} {l' h':Option X} (hop:o.op=.slice t x lo hi' none) (ht:P.underlying t=some .string) (h1:aA x=some x') (h2:lY lo=some l') (h3:lY hi'=some h') (hi:Inv mu S TB w H) (hf:RelFr mu S w fr a)
  (hr:(A.sls x' l' h').run φ fr H=some (v,H')):OpOK P o a mu S TB w v H':=by
 simp only[A.run] at hr;split at hr
 ·rename_i l p q hx hlo hhi;split at hr
  ·rename_i i j m hb;cases hr;have he:=(aj h1 hf hx).s_inv;have hbr:=gx (P:=P) (w:=w) (isS:=false) (vmx:=none) (Nat.le_refl l.length) hb (bU h2 hf hlo) (bU h3 hf hhi) (.inl ⟨rfl,rfl⟩);refine .of_same (x:=.string ⟨((l.take j).drop i).toArray⟩) ?_ hi (.s _);have hsz:(⟨l.toArray⟩:ByteArray).size=l.length:=by simp[ByteArray.size]
   have hs:(Instr.slice t (.string ⟨l.toArray⟩) (lo.map a.eval) (hi'.map a.eval) none).run P w=.ok (.string ⟨((l.take j).drop i).toArray⟩) w:=by
    have hb1:=hbr.1;simp only[Option.isSome_none,Bool.false_eq_true,if_false] at hb1;simp only[Instr.slice,Sem.run_bind,run_underlying ht,Result.andThen,Option.isSome_none,Bool.false_eq_true,if_false,Sem.run_pure,hsz,hb1,uS]
   simp only[execOp,hop,he,Instr.sliceAt,Sem.run_bind,run_underlying ht,Result.andThen,Option.map_none,hs,Sem.run_pure]
  ·cases hr
 ·cases hr
theorem RelD.sub {rows:List (List D)} {p:Value} {sz:Nat} (h:RelD S w (.l rows) p) (hs:∀ r∈rows,r.length=sz) {i j:Nat} (hij:i<=j) (hj:j<=rows.length) :
  ∃ ad c,p=.slice ad rows.length c∧rows.length<=c∧∀ m,j<=m->m<=c->RelD S w (.l ((rows.take j).drop i)) (.slice (if m=i then ad else ad.map (·.add (i*sz))) (j-i) (m-i)):=by
 cases h with
 | nil ad c hz =>
  have:i=0∧j=0:=by simp at hj;omega
  obtain⟨rfl,rfl⟩:=this;refine⟨ad,c,rfl,Nat.zero_le _,fun m _ hmc=>?_⟩
  simp only[List.take_nil,List.drop_nil,Nat.sub_zero];refine .nil _ _ (fun he=>?_)
  have:ad=none:=by
   split at he
   ·exact he
   ·cases ad <;> first|rfl|cases he
  have:=hz this;omega
 | l _ sz0 B off c u hc hs0 hS hcell hrel =>
  refine⟨_,c,rfl,hc,fun m hm hmc=>?_⟩
  have hlen:((rows.take j).drop i).length=j-i:=by simp;omega
  by_cases hij':i=j
  ·subst hij';have:(rows.take i).drop i=[]:=by simp
   rw[this,Nat.sub_self];refine .nil _ _ (fun he=>?_)
   split at he <;> cases he
  ·have hne:rows≠[]:=by intro h;subst h;simp at hj;omega
   have hsz:sz0=sz:=by
    obtain⟨r,hr⟩:=List.exists_mem_of_ne_nil _ hne;rw[<- hs0 r hr,hs r hr]
   subst hsz;rw[if_neg (by omega)]
   simp only[Option.map_some,fP];have:=RelD.l (S:=S) (w:=w) ((rows.take j).drop i) sz0 B (off+i*sz0) (m-i) (fun k q=>u (i+k) q) (by rw[hlen];omega)
    (fun r hr=>hs0 r (List.mem_of_mem_take (List.mem_of_mem_drop hr)))
    (fun k q hk hq=>by rw[hlen] at hk;have:=hS (i+k) q (by omega) hq;rwa [Nat.add_mul,<- Nat.add_assoc] at this)
    (fun k q hk hq=>by rw[hlen] at hk;have:=hcell (i+k) q (by omega) hq;rwa [Nat.add_mul,<- Nat.add_assoc] at this)
    (fun k q r d h1 h2=>by
     rw[List.getElem?_drop,List.getElem?_take] at h1;split at h1
     ·exact hrel _ _ r d h1 h2
     ·cases h1)
   rw[hlen] at this;exact this
theorem kH {t e:TypeId} {i:TypeInfo} {ad:Option Addr} {n c p q m:Nat} {vlo vhi vmx:Option Value} (ht:P.underlying t=some (.slice e)) (hi':P.info? e=some i)
  (hb:(Instr.sliceBounds true n c vlo vhi vmx).run P w=.ok (p,q,m) w):(Instr.sliceAt t (.slice ad n c) vlo vhi vmx).run P w=.ok (.slice (if m=p then ad else ad.map (·.add (p*i.size))) (q-p) (m-p)) w:=by
 simp only[Instr.sliceAt,Instr.slice,Sem.run_bind,run_underlying ht,Result.andThen,hb,sizeOf,run_typeInfo w hi',Sem.run_pure]
theorem OU {t e:TypeId} {inf:TypeInfo} {x:Operand} {lo hi' mx:Option Operand} {x':X} {l' h' m':Option X} (hop:o.op=.slice t x lo hi' mx) (ht:P.underlying t=some (.slice e)) (hinf:P.info? e=some inf)
  (h1:aA x=some x') (h2:lY lo=some l') (h3:lY hi'=some h') (h4:lY mx=some m') (hi:Inv mu S TB w H) (hf:RelFr mu S w fr a)
  (hr:(A.slc inf.size x' l' h' m').run φ fr H=some (v,H')):OpOK P o a mu S TB w v H':=by
 have go:∀ {ad n c r},a.eval x=.slice ad n c->(Instr.sliceAt t (.slice ad n c) (lo.map a.eval) (hi'.map a.eval) (mx.map a.eval)).run P w=.ok r w->(execOp a.eval o).run P w=.ok (.value r) w:=by
  intro ad n c r he hs;simp only[execOp,hop,he,Sem.run_bind,hs,Result.andThen,Sem.run_pure]
 have dl:∀ {rows:List (List D)} {lo1 hi1:Option Int} {i j k:Nat},RelD S w (.l rows) (a.eval x)->i7 fr l'=some lo1->i7 fr h'=some hi1->i7 fr m'=some none->cS rows.length rows.length lo1 hi1 none=some (i,j,k) ->
   aV inf.size rows=true->OpOK P o a mu S TB w (.one (.d (.l ((rows.take j).drop i)))) H:=by
  intro rows lo1 hi1 i j k hrel hlo hhi hmx hb hok;obtain⟨_,hij,hj,_⟩:=gx (P:=P) (w:=w) (isS:=true) (Nat.le_refl _) hb (bU h2 hf hlo) (bU h3 hf hhi) (bU h4 hf hmx);obtain⟨ad,c,he,hc,hs⟩:=hrel.sub (gD hok) hij hj;have hbr:=gx (P:=P) (w:=w) (isS:=true) hc hb (bU h2 hf hlo) (bU h3 hf hhi) (bU h4 hf hmx);exact .of_same (go he (kH ht hinf hbr.1)) hi (by show RelD S w _ _;simpa using(hs c (by omega) (Nat.le_refl _)))
 simp only[A.run] at hr;split at hr
 ·rename_i rows p q hx hlo hhi hmx;split at hr
  ·rename_i i j k hb;split at hr
   ·rename_i hok;cases hr;exact dl (aj h1 hf hx) hlo hhi hmx hb hok
   ·cases hr
  ·cases hr
 ·rename_i p q hx hlo hhi hmx;split at hr
  ·rename_i y hb;cases hr;obtain⟨i,j,k⟩:=y;have he:a.eval x=.slice none 0 0:=aj h1 hf hx;obtain⟨hb1,hb2,hb3,_⟩:=gx (P:=P) (w:=w) (isS:=true) (Nat.le_refl 0) hb (bU h2 hf hlo) (bU h3 hf hhi) (bU h4 hf hmx);refine .of_same (go he (kH ht hinf hb1)) hi ?_;have:i=0∧j=0:=by omega
   obtain⟨rfl,rfl⟩:=this;simp[RelV,RelL]
  ·cases hr
 ·rename_i rows p q hx hlo hhi hmx;split at hr
  ·rename_i i j k hb;split at hr
   ·rename_i hok;cases hr;exact dl (aj h1 hf hx).2 hlo hhi hmx hb hok
   ·cases hr
  ·cases hr
 ·rename_i rows p q m hx hlo hhi hmx;split at hr
  ·rename_i i j k hb;split at hr
   ·rename_i hok;obtain⟨hjk,hok⟩:=hok;subst hjk;cases hr;have hrel:RelD S w (.l rows) (a.eval x):=aj h1 hf hx;obtain⟨_,hij,hj,_⟩:=gx (P:=P) (w:=w) (isS:=true) (Nat.le_refl _) hb (bU h2 hf hlo) (bU h3 hf hhi) (bU h4 hf hmx);obtain⟨ad,c,he,hc,hs⟩:=hrel.sub (gD hok) hij hj;have hbr:=gx (P:=P) (w:=w) (isS:=true) hc hb (bU h2 hf hlo) (bU h3 hf hhi) (bU h4 hf hmx);refine .of_same (go he (kH ht hinf hbr.1)) hi ?_;simp only[Option.isSome_some,if_true];have hlen:((rows.take j).drop i).length=j-i:=by simp;omega
    exact⟨⟨_,by rw[hlen]⟩,(hs j (Nat.le_refl _) (by omega))⟩
   ·cases hr
  ·cases hr
 ·rename_i b z off n p q hx hlo hhi hmx;split at hr
  ·rename_i i j k hb;split at hr
   ·rename_i hsz;cases hr;obtain⟨l,hl,hlz,hle,ad,c,he,hsl⟩:=aj h1 hf hx;have hcn:n<=c:=by
     cases hbk:l.blk with
     | none=>rw[hbk] at hsl;omega
     | some B=>rw[hbk] at hsl;have:=hsl.2.2.1;have:=hsl.2.2.2.2;omega
    obtain⟨hb1,hb2,hb3,_⟩:=gx (P:=P) (w:=w) (isS:=true) hcn hb (bU h2 hf hlo) (bU h3 hf hhi) (bU h4 hf hmx);refine .of_same (go he (kH ht hinf hb1)) hi ⟨l,hl,hlz,by omega,?_⟩
    simp only[Option.isSome_none,Bool.false_eq_true,if_false];refine⟨_,_,rfl,?_⟩;cases hbk:l.blk with
    | none =>
     rw[hbk] at hsl;obtain⟨rfl,rfl,rfl,hcap⟩:=hsl;have:i=0∧j=0:=by omega
     obtain⟨rfl,rfl⟩:=this;simp[hcap]
    | some B =>
     rw[hbk] at hsl;obtain⟨s1,s2,s3,⟨oo,s4⟩,s5⟩:=hsl;subst s4;refine⟨fun h0=>?_,fun hpos=>?_,by omega,?_,by omega⟩
     ·have:off=0∧i=0:=by omega
      obtain⟨rfl,rfl⟩:=this;have:=s1 rfl;cases this;split
      ·rfl
      ·simp[fP]
     ·have hn:0<n:=by omega
      have h5:=s2 hn;cases h5;have hsz':l.sz=inf.size:=by rcases hsz with h|h <;> omega
      rw[if_neg (by omega)]
      simp only[Option.map_some,fP];rw[Nat.add_mul,hsz']
     ·split
      ·exact⟨_,rfl⟩
      ·simp only[Option.map_some,fP];exact⟨_,rfl⟩
   ·cases hr
  ·cases hr
 ·cases hr
end
section
variable {P:Program} {mu:Mu} {S:St} {TB:Nat->Prop} {w:World} {H:Hp} {fr:Fr} {a:Act}
variable {φ:FuncId->List V->Hp->Option (V × Hp)} {o:Oper} {v:V} {H':Hp}
theorem uL {f:Field} {i:TypeInfo} (h1:P.info? f.type=some i) (h2:i.size≠0) (ad:Addr):(fieldPlace ad f).run P w=.ok (ad.add f.offset) w:=by
 simp only[fieldPlace,sizeOf,Sem.run_bind,run_typeInfo w h1,Result.andThen,Sem.run_pure];rw[if_neg h2];rfl
theorem Rs {s:TypeId} {f:Nat} {fs:Array Field} {fd:Field} {inf:TypeInfo} {x:Operand} {x':X} (hop:o.op=.fieldAddr s x f) (ht:P.underlying s=some (.struct fs)) (hfd:fs[f]?=some fd) (hinf:P.info? fd.type=some inf) (hsz:inf.size≠0)
  (h1:aA x=some x') (hi:Inv mu S TB w H) (hf:RelFr mu S w fr a)
  (hr:(A.fa fd.offset x').run φ fr H=some (v,H')):OpOK P o a mu S TB w v H':=by
 have go:∀ {B off},a.eval x=.pointer (some ⟨B,off,none⟩)->(execOp a.eval o).run P w=.ok (.value (.pointer (some ⟨B,off+fd.offset,none⟩))) w:=by
  intro B off he;simp only[execOp,hop,he,Instr.fieldAt,Instr.sureAddr,Sem.run_bind,run_underlying ht,Result.andThen,hfd,Sem.run_pure,uL hinf hsz,fP]
 simp only[A.run] at hr;split at hr
 ·rename_i i off hx;cases hr;obtain⟨l,B,g1,g2,he⟩:=aj h1 hf hx;exact .of_same (go he) hi ⟨l,B,g1,g2,rfl⟩
 ·rename_i i k j hx;cases hr;obtain⟨l,B,g1,g2,he⟩:=aj h1 hf hx;exact .of_same (go he) hi ⟨l,B,g1,g2,by rw[Nat.add_assoc]⟩
 ·rename_i cs hx;split at hr
  ·cases hr;obtain⟨B,off,he,hcs⟩:=aj h1 hf hx;refine .of_same (go he) hi ⟨B,off+fd.offset,rfl,fun j d hj=>?_⟩
   rw[List.getElem?_drop] at hj;have:=hcs _ _ hj;rwa [<- Nat.add_assoc] at this
  ·cases hr
 ·cases hr
theorem yy {t:TypeId} (h:pB P t=some none) {cs:Array Value} {i:Nat} {x:Value} (hx:cs[i]?=some x):(part t cs i).run P w=.ok x w:=by
 simp only[part,Sem.run_bind,wP h,Result.andThen,hx];rfl
theorem yv {t:TypeId} {n:Nat} (h:pB P t=some (some n)) (cs:Array Value) (i:Nat):(part t cs i).run P w=.ok (.agg (cs.extract i (i+n))) w:=by
 obtain⟨inf,hi,hs,ha⟩:=w4 h;simp only[part,Sem.run_bind,ha,Result.andThen,if_true,sizeOf,run_typeInfo w hi,hs,Sem.run_pure]
theorem RelLs.extract {xs:List L} {cs:Array Value} (h:RelLs mu S w xs cs.toList) (i n:Nat):RelLs mu S w ((xs.drop i).take n) (cs.extract i (i+n)).toList:=by
 have:=h.sub i n;rw[Array.toList_extract];simp only[List.extract_eq_take_drop];rwa [Nat.add_sub_cancel_left]
theorem Qa {t:TypeId} {f:Nat} {fs:Array Field} {fd:Field} {g:Option Nat} {x:Operand} {x':X} (hop:o.op=.field t x f) (ht:P.underlying t=some (.struct fs)) (hfd:fs[f]?=some fd) (hg:pB P fd.type=some g)
  (h1:aA x=some x') (hi:Inv mu S TB w H) (hf:RelFr mu S w fr a)
  (hr:(A.fld g fd.offset x').run φ fr H=some (v,H')):OpOK P o a mu S TB w v H':=by
 have go:∀ {cs:Array Value} {r},a.eval x=.agg cs->(part fd.type cs fd.offset).run P w=.ok r w->(execOp a.eval o).run P w=.ok (.value r) w:=by
  intro cs r he hp;simp only[execOp,hop,he,Instr.field,asAgg,Sem.run_bind,run_underlying ht,Result.andThen,hfd,Sem.run_pure,hp]
 simp only[A.run] at hr;split at hr
 ·rename_i xs hx;obtain⟨cs,he,hrel⟩:=aj h1 hf hx;split at hr
  ·split at hr
   ·rename_i y hy;cases hr;obtain⟨u,hu,hru⟩:=hrel.2 _ _ hy;exact .of_same (go he (yy hg (by simpa using hu))) hi hru
   ·cases hr
  ·rename_i n;split at hr
   ·cases hr;exact .of_same (go he (yv hg cs fd.offset)) hi ⟨_,rfl,hrel.extract _ _⟩
   ·cases hr
 ·cases hr
theorem Qc {t:TypeId} {x y:Operand} {x' y':X} (hop:o.op=.index t x y) (ht:P.underlying t=some .string) (h1:aA x=some x') (h2:aA y=some y') (hi:Inv mu S TB w H) (hf:RelFr mu S w fr a)
  (hr:(A.ixs x' y').run φ fr H=some (v,H')):OpOK P o a mu S TB w v H':=by
 simp only[A.run] at hr;split at hr
 ·rename_i l k n hx hy;split at hr
  ·rename_i h0;split at hr
   ·rename_i c hc;cases hr;have e1:=(aj h1 hf hx).s_inv;have e2:=kI h2 hf hy;refine .of_same (x:=.int .u8 c.toNat) ?_ hi (.i _ _);have hc':(⟨l.toArray⟩:ByteArray)[n.toNat]?=some c:=by
     have hlt:=(List.getElem?_eq_some_iff.1 hc).1;have hv:=(List.getElem?_eq_some_iff.1 hc).2;rw[getElem?_pos (⟨l.toArray⟩:ByteArray) n.toNat (by simpa[ByteArray.size] using hlt)]
     exact congrArg some hv
    simp only[execOp,hop,e1,e2,Instr.index,asIntOf,Sem.run_bind,run_underlying ht,Result.andThen,Sem.run_pure,if_pos h0,hc']
   ·cases hr
  ·cases hr
 ·cases hr
theorem Ch {t e:TypeId} {inf:TypeInfo} {k:IntKind} {n:Int} {B off m c:Nat} (ht:P.underlying t=some (.slice e)) (hinf:P.info? e=some inf) (h0:0<=n) (h1:n<(m:Int)) :
  (Instr.indexAt t (.slice (some ⟨B,off,none⟩) m c) (.int k n)).run P w=.ok (.pointer (some ⟨B,off+n.toNat*inf.size,none⟩)) w:=by
 simp only[Instr.indexAt,asIntOf,Sem.run_bind,run_underlying ht,Result.andThen,Sem.run_pure,sizeOf,run_typeInfo w hinf,fP];rw[if_pos ⟨h0,h1⟩];simp only[Sem.run_bind,run_typeInfo w hinf,Result.andThen,Sem.run_pure,fP]
theorem RC {t e:TypeId} {inf:TypeInfo} {x y:Operand} {x' y':X} (hop:o.op=.indexAddr t x y) (ht:P.underlying t=some (.slice e)) (hinf:P.info? e=some inf) (h1:aA x=some x') (h2:aA y=some y') (hi:Inv mu S TB w H) (hf:RelFr mu S w fr a)
  (hr:(A.ia inf.size x' y').run φ fr H=some (v,H')):OpOK P o a mu S TB w v H':=by
 have dl:∀ {rows:List (List D)} {k:IntKind} {n:Int} {r:List D},RelD S w (.l rows) (a.eval x)->a.eval y=.int k n->0<=n->rows[n.toNat]?=some r->r.length=inf.size->OpOK P o a mu S TB w (.one (.ip r)) H:=by
  intro rows k n r hrel he h0 hrow hlen;generalize hp:a.eval x=p at hrel;have hlt:=(List.getElem?_eq_some_iff.1 hrow).1;cases hrel with
  | nil=>simp at hlt
  | l _ sz0 B off c u hc hs hS hcell hrl =>
   have hsz:sz0=inf.size:=by rw[<- hs r (List.mem_of_getElem? hrow),hlen]
   subst hsz;refine .of_same (x:=.pointer (some ⟨B,off+n.toNat*inf.size,none⟩)) ?_ hi ⟨B,_,rfl,fun j d hj=>?_⟩
   ·simp only[execOp,hop,hp,he,Sem.run_bind,Ch (P:=P) (w:=w) ht hinf h0 (by omega:n<(rows.length:Int)),Result.andThen,Sem.run_pure]
   ·have hj':j<inf.size:=by have:=(List.getElem?_eq_some_iff.1 hj).1;omega
    exact⟨hS _ _ hlt hj',_,hcell _ _ hlt hj',hrl _ _ _ _ hrow hj⟩
 simp only[A.run] at hr;split at hr
 ·rename_i rows k n hx hy;split at hr
  ·rename_i h0;split at hr
   ·rename_i r hrow;split at hr
    ·rename_i hlen;cases hr;exact dl (aj h1 hf hx) (kI h2 hf hy) h0 hrow hlen
    ·cases hr
   ·cases hr
  ·cases hr
 ·rename_i rows k n hx hy;split at hr
  ·rename_i h0;split at hr
   ·rename_i r hrow;split at hr
    ·rename_i hlen;cases hr;exact dl (aj h1 hf hx).2 (kI h2 hf hy) h0 hrow hlen
    ·cases hr
   ·cases hr
  ·cases hr
 ·rename_i b z off m k n hx hy;split at hr
  ·rename_i h0;obtain⟨h0,h0',hz⟩:=h0;cases hr;obtain⟨l,hl,hlz,hle,ad,c,he,hsl⟩:=aj h1 hf hx;have hm:0<m:=by omega
   cases hbk:l.blk with
   | none=>rw[hbk] at hsl;omega
   | some B =>
    rw[hbk] at hsl;have had:=hsl.2.1 hm;subst had;have e2:=kI h2 hf hy;refine .of_same (x:=.pointer (some ⟨B,off*l.sz+n.toNat*inf.size,none⟩)) ?_ hi ⟨l,B,hl,hbk,?_⟩
    ·simp only[execOp,hop,he,e2,Sem.run_bind,Ch (P:=P) (w:=w) ht hinf h0 h0',Result.andThen,Sem.run_pure]
    ·rw[hlz,hz,Nat.add_mul];rfl
  ·cases hr
 ·rename_i b m k n hx hy;split at hr
  ·rename_i h0;obtain⟨h0,h0'⟩:=h0;cases hr;obtain⟨l,B,hl,hbk,he⟩:=aj h1 hf hx;have e2:=kI h2 hf hy;refine .of_same (x:=.pointer (some ⟨B,0+n.toNat*inf.size,none⟩)) ?_ hi ⟨l,B,hl,hbk,?_⟩
   ·simp only[execOp,hop,he,e2,Sem.run_bind,Ch (P:=P) (w:=w) ht hinf h0 h0',Result.andThen,Sem.run_pure]
   ·rw[Nat.zero_add]
  ·cases hr
 ·cases hr
theorem PN {t e:TypeId} {ln:Nat} {inf:TypeInfo} {x y:Operand} {x' y':X} (hop:o.op=.indexAddr t x y) (ht:P.underlying t=some (.array ln e)) (hinf:P.info? e=some inf) (h1:aA x=some x') (h2:aA y=some y') (hi:Inv mu S TB w H) (hf:RelFr mu S w fr a)
  (hr:(A.iar ln inf.size x' y').run φ fr H=some (v,H')):OpOK P o a mu S TB w v H':=by
 simp only[A.run] at hr;split at hr
 ·rename_i b off k n hx hy;split at hr
  ·rename_i h0;cases hr;obtain⟨l,B,g1,g2,he⟩:=aj h1 hf hx;have e2:=kI h2 hf hy;refine .of_same (x:=.pointer (some ⟨B,off+n.toNat*inf.size,none⟩)) ?_ hi ⟨l,B,g1,g2,rfl⟩;have hs:(Instr.indexAt t (.pointer (some ⟨B,off,none⟩)) (.int k n)).run P w=.ok (.pointer (some ⟨B,off+n.toNat*inf.size,none⟩)) w:=by
    simp only[Instr.indexAt,Instr.sureAddr,asIntOf,Sem.run_bind,run_underlying ht,Result.andThen,Sem.run_pure,sizeOf,run_typeInfo w hinf,fP];rw[if_pos h0];simp only[Sem.run_bind,run_typeInfo w hinf,Result.andThen,Sem.run_pure,fP]
   simp only[execOp,hop,he,e2,Sem.run_bind,hs,Result.andThen,Sem.run_pure]
  ·cases hr
 ·cases hr
theorem Qe {x:Operand} {i:Nat} {x':X} (hop:o.op=.extract x i) (h1:aA x=some x') (hi:Inv mu S TB w H) (hf:RelFr mu S w fr a)
  (hr:(A.ext x' i).run φ fr H=some (v,H')):OpOK P o a mu S TB w v H':=by
 simp only[A.run] at hr;split at hr
 ·rename_i xs hx;obtain⟨vs,he,hlen,hvs⟩:=aj h1 hf hx;have go:∀ {r},vs[i]?=some r->(execOp a.eval o).run P w=.ok (.value r) w:=by
   intro r hr;simp only[execOp,hop,he,Instr.extract,hr,Sem.run_bind,Sem.run_pure,Result.andThen]
  split at hr
  ·rename_i ys hy;cases hr;obtain⟨u,hu,cs,rfl,hcs⟩:=hvs _ _ hy;exact .of_same (go hu) hi ⟨cs,rfl,hcs⟩
  ·rename_i y hy;cases hr;obtain⟨u,hu,z,hz,hrz⟩:=hvs _ _ hy;cases hz;exact .of_same (go hu) hi hrz
  ·cases hr
 ·cases hr
theorem Mv {c:Call} {t:TypeId} {x:Operand} {x':X} (hop:o.op=.call c) (hc:c.callee=.builtin .len) (ha:c.args.toList=[x]) (hat:c.argTypes.toList=[t]) (ht:P.underlying t=some .string) (h1:aA x=some x') (hi:Inv mu S TB w H) (hf:RelFr mu S w fr a)
  (hr:(A.len true x').run φ fr H=some (v,H')):OpOK P o a mu S TB w v H':=by
 simp only[A.run] at hr;split at hr
 ·rename_i l hx;cases hr;have e1:=(aj h1 hf hx).s_inv;have hargs:c.args = #[x]:=by apply Array.ext';simpa using ha
  have hty:c.argTypes = #[t]:=by apply Array.ext';simpa using hat
  refine .of_same (x:=.int .i64 l.length) ?_ hi (.i _ _);have hm : #[x].map a.eval = #[.string ⟨l.toArray⟩]:=by simp only[List.map_toArray,List.map_cons,List.map_nil,e1]
  simp only[execOp,hop,resolve,hc,hargs,hty,Sem.run_bind,Sem.run_pure,Result.andThen,invoke,builtin,Builtin.len_,hm];have hsz:(⟨l.toArray⟩:ByteArray).size=l.length:=by simp[ByteArray.size]
  simp[run_underlying ht,goInt,hsz,go_sem]
 ·cases hr
theorem LA {c:Call} {t e:TypeId} {x:Operand} {x':X} (hop:o.op=.call c) (hc:c.callee=.builtin .len) (ha:c.args.toList=[x]) (hat:c.argTypes.toList=[t]) (ht:P.underlying t=some (.slice e)) (h1:aA x=some x') (hi:Inv mu S TB w H) (hf:RelFr mu S w fr a)
  (hr:(A.len false x').run φ fr H=some (v,H')):OpOK P o a mu S TB w v H':=by
 have hargs:c.args = #[x]:=by apply Array.ext';simpa using ha
 have hty:c.argTypes = #[t]:=by apply Array.ext';simpa using hat
 have go:∀ {ad n cc},a.eval x=.slice ad n cc->(execOp a.eval o).run P w=.ok (.value (.int .i64 n)) w:=by
  intro ad n cc he;have hm : #[x].map a.eval = #[.slice ad n cc]:=by simp only[List.map_toArray,List.map_cons,List.map_nil,he]
  simp only[execOp,hop,resolve,hc,hargs,hty,Sem.run_bind,Sem.run_pure,Result.andThen,invoke,builtin,Builtin.len_,hm];simp[run_underlying ht,goInt,go_sem]
 simp only[A.run] at hr;split at hr
 ·rename_i rows hx;cases hr;obtain⟨ad,cc,he⟩:=RelD.l_len (aj h1 hf hx);exact .of_same (go he) hi (.i _ _)
 ·rename_i rows hx;cases hr;obtain⟨ad,cc,he⟩:=RelD.l_len (aj h1 hf hx).2;exact .of_same (go he) hi (.i _ _)
 ·rename_i hx;cases hr;have he:a.eval x=.slice none 0 0:=aj h1 hf hx;exact .of_same (go he) hi (.i _ _)
 ·rename_i b z off n hx;cases hr;obtain⟨l,hl,_,hle,ad,cc,he,hsl⟩:=aj h1 hf hx;exact .of_same (go he) hi (.i _ _)
 ·rename_i b n hx;cases hr;obtain⟨l,B,hl,hb,he⟩:=aj h1 hf hx;exact .of_same (go he) hi (.i _ _)
 ·cases hr
theorem Og {c:Call} {mx:Bool} {x y:Operand} {x' y':X} (hop:o.op=.call c) (hc:c.callee=.builtin (bif mx then .max else .min)) (ha:c.args.toList=[x,y]) (h1:aA x=some x') (h2:aA y=some y') (hi:Inv mu S TB w H) (hf:RelFr mu S w fr a)
  (hr:(A.mm mx x' y').run φ fr H=some (v,H')):OpOK P o a mu S TB w v H':=by
 simp only[A.run] at hr;split at hr
 ·rename_i k p k' q hx hy;split at hr
  ·rename_i hk;subst hk;cases hr;have e1:=(aj h1 hf hx).i_inv;have e2:=(aj h2 hf hy).i_inv;have hargs:c.args = #[x,y]:=by apply Array.ext';simpa using ha
   have hm : #[x,y].map a.eval = #[.int k p,.int k q]:=by simp only[List.map_toArray,List.map_cons,List.map_nil,e1,e2]
   refine .of_same (x:=.int k (bif mx then(if q > p then q else p) else(if q<p then q else p))) ?_ hi (.i _ _)
   cases mx
   ·simp only[cond_false] at hc;simp only[execOp,hop,resolve,hc,hargs,Sem.run_bind,Sem.run_pure,Result.andThen,invoke,builtin,Builtin.min_,hm];simp[Builtin.min2,go_sem]
   ·simp only[cond_true] at hc;simp only[execOp,hop,resolve,hc,hargs,Sem.run_bind,Sem.run_pure,Result.andThen,invoke,builtin,Builtin.max_,hm];simp[Builtin.max2,go_sem]
  ·cases hr
 ·cases hr
end
section
variable {P:Program} {mu:Mu} {S:St} {TB:Nat->Prop} {w:World} {H:Hp} {fr:Fr} {a:Act}
variable {φ:FuncId->List V->Hp->Option (V × Hp)} {o:Oper} {v:V} {H':Hp}
theorem wY:∀ (xs:List Value) (n off:Nat) (cs:Array Value),off+n+xs.length<=cs.size ->
  ((xs.zipIdx n).foldl (fun cs (c,j)=>cs.setIfInBounds (off+j) c) cs).toList=cs.toList.take (off+n)++xs++cs.toList.drop (off+n+xs.length)
 | [],n,off,cs,h=>by simp
 | x::xs,n,off,cs,h=>by
  simp only[List.zipIdx_cons,List.foldl_cons];simp only[List.length_cons] at h;rw[wY xs (n+1) off (cs.setIfInBounds (off+n) x) (by simp;omega)]
  have hlt:off+n<cs.toList.length:=by simp;omega
  simp only[Array.toList_setIfInBounds,List.length_cons];have e1:(cs.toList.set (off+n) x).take (off+(n+1))=cs.toList.take (off+n)++[x]:=by
   rw[<- Nat.add_assoc,List.take_add_one,List.take_set_of_le (Nat.le_refl _)];rw[List.getElem?_set_self hlt];rfl
  have e2:(cs.toList.set (off+n) x).drop (off+(n+1)+xs.length)=cs.toList.drop (off+n+(xs.length+1)):=by
   rw[List.drop_set_of_lt (by omega)]
   congr 1;omega
  rw[e1,e2];simp
theorem uf {xs:List Value} {off:Nat} {cs:Array Value} {v:Value} (hv:v.cells.toList=xs) (h:off+xs.length<=cs.size) :
  (v.cells.zipIdx.foldl (fun cs (c,j)=>cs.setIfInBounds (off+j) c) cs).toList=cs.toList.take off++xs++cs.toList.drop (off+xs.length):=by
 have:=wY xs 0 off cs (by omega)
 simp only[Nat.add_zero] at this;rw[<- this,<- Array.foldl_toList,Array.toList_zipIdx,hv]
theorem qF (aG:Nat->Option (Nat × Nat)):∀ (ps:List (Nat × Operand)) (qs:List (Nat × Nat × X)) (l:List (Nat × Nat × V)) (zs cs:List L) (cells:Array Value),
  (qs.length=ps.length∧∀ (j:Nat) (p:Nat × Operand) (q:Nat × Nat × X),ps[j]?=some p->qs[j]?=some q->aG p.1=some (q.1,q.2.1)∧aA p.2=some q.2.2) ->
  HN fr qs=some l->nc zs l=some cs->RelFr mu S w fr a->RelLs mu S w zs cells.toList ->
  ∃ cells',Instr.fill aG cells (ps.map fun p=>(p.1,a.eval p.2))=some cells'∧RelLs mu S w cs cells'.toList
 | [],qs,l,zs,cs,cells,hq,he,hfl,hf,hr=>by
  cases qs with
  | nil=>cases he;cases hfl;exact⟨cells,rfl,hr⟩
  | cons=>have:=hq.1;simp at this
 | (i,x)::ps,qs,l,zs,cs,cells,hq,he,hfl,hf,hr=>by
  cases qs with
  | nil=>have:=hq.1;simp at this
  | cons q qs =>
   obtain⟨off,sz,y⟩:=q;obtain⟨hpl,hcx⟩:=hq.2 0 _ _ rfl rfl;simp only at hpl hcx;simp only[HN] at he;split at he
   ·rename_i v vs hv hvs;cases he;simp only[nc] at hfl;split at hfl
    ·rename_i xs hxs;split at hfl
     ·rename_i hc;have hvr:=rI hxs (aj hcx hf hv);have hlen:=hvr.1;have hcl:=hr.1;have hone:=uf (cs:=cells) (off:=off) (v:=a.eval x) rfl (by simp at hlen hcl ⊢;omega)
      have hrel':RelLs mu S w (zs.take off++xs++zs.drop (off+sz)) (((a.eval x).cells.zipIdx.foldl (fun cs (c,j)=>cs.setIfInBounds (off+j) c) cells).toList):=by
       rw[hone];have:=((hr.take off).append hvr).append (hr.drop (off+sz));rw[hlen,hc.1];exact this
      obtain⟨cells',h1,h2⟩:=qF aG ps qs vs _ cs _ ⟨by have:=hq.1;simpa using this,fun j p q h1 h2=>hq.2 (j+1) p q (by simpa using h1) (by simpa using h2)⟩ hvs hfl hf hrel'
      refine⟨cells',?_,h2⟩;simp only[List.map_cons,Instr.fill,hpl];rw[if_neg (by simp at hlen hcl ⊢;omega)]
      exact h1
     ·cases hfl
    ·cases hfl
   ·cases he
theorem nB (pl:List (Nat × Nat)):∀ {ps:List (Nat × Operand)} {qs:List (Nat × Nat × X)},lP pl ps=some qs ->
  qs.length=ps.length∧∀ (j:Nat) (p:Nat × Operand) (q:Nat × Nat × X),ps[j]?=some p->qs[j]?=some q->pl[p.1]?=some (q.1,q.2.1)∧aA p.2=some q.2.2
 | [],qs,h=>by cases h;exact⟨rfl,fun j p q h=>by simp at h⟩
 | (i,x)::ps,qs,h=>by
  simp only[lP] at h;split at h
  ·rename_i f y ys hf hy hys;cases h;have ih:=nB pl hys;refine⟨by simp[ih.1],fun j p q h1 h2=>?_⟩
   cases j with
   | zero=>simp at h1 h2;subst h1;subst h2;exact⟨by simpa using hf,hy⟩
   | succ j=>exact ih.2 j p q (by simpa using h1) (by simpa using h2)
  ·cases h
theorem je (sz:Nat):∀ {ps:List (Nat × Operand)} {qs:List (Nat × Nat × X)},gq sz ps=some qs ->
  qs.length=ps.length∧∀ (j:Nat) (p:Nat × Operand) (q:Nat × Nat × X),ps[j]?=some p->qs[j]?=some q->some (p.1*sz,sz)=some (q.1,q.2.1)∧aA p.2=some q.2.2
 | [],qs,h=>by cases h;exact⟨rfl,fun j p q h=>by simp at h⟩
 | (i,x)::ps,qs,h=>by
  simp only[gq] at h;split at h
  ·rename_i y ys hy hys;cases h;have ih:=je sz hys;refine⟨by simp[ih.1],fun j p q h1 h2=>?_⟩
   cases j with
   | zero=>simp at h1 h2;subst h1;subst h2;exact⟨rfl,hy⟩
   | succ j=>exact ih.2 j p q (by simpa using h1) (by simpa using h2)
  ·cases h
theorem G4 {t:TypeId} {ps:Array (Nat × Operand)} {i:TypeInfo} {z:Value} {fs:Array Field} {pl:List (Nat × Nat)} {zs:List L} {qs:List (Nat × Nat × X)} (hop:o.op=.build t ps) (h1:P.info? t=some i) (h2:P.underlying t=some (.struct fs)) (h3:i.zero=some z)
  (h4:gj z.cells.toList=some zs) (h5:fs.toList.mapM (fun f=>(P.info? f.type).map fun i=>(f.offset,i.size))=some pl) (h6:lP pl ps.toList=some qs) (hi:Inv mu S TB w H) (hf:RelFr mu S w fr a)
  (hr:(A.build zs qs).run φ fr H=some (v,H')):OpOK P o a mu S TB w v H':=by
 simp only[A.run] at hr;split at hr
 ·rename_i l hl;split at hr
  ·rename_i cs hcs;cases hr;obtain⟨cells',hfill,hrel⟩:=qF (fun i=>pl[i]?) ps.toList qs l zs cs z.cells (nB pl h6) hl hcs hf (gA h4)
   refine .of_same (x:=.agg cells') ?_ hi ⟨cells',rfl,hrel⟩;have hb:=run_build (P:=P) w t (ps.map fun(i,x)=>(i,a.eval x)) cells' (by
    simp only[Program.built,h1,h2,h3,h5,Array.toList_map];simpa using hfill)
   simp only[execOp,hop,Sem.run_bind,hb,Result.andThen,Sem.run_pure]
  ·cases hr
 ·cases hr
theorem Gm {t e:TypeId} {n:Nat} {ps:Array (Nat × Operand)} {i ei:TypeInfo} {z:Value} {zs:List L} {qs:List (Nat × Nat × X)} (hop:o.op=.build t ps) (h1:P.info? t=some i) (h2:P.underlying t=some (.array n e)) (h3:i.zero=some z) (h4:P.info? e=some ei)
  (h5:gj z.cells.toList=some zs) (h6:gq ei.size ps.toList=some qs) (hi:Inv mu S TB w H) (hf:RelFr mu S w fr a)
  (hr:(A.build zs qs).run φ fr H=some (v,H')):OpOK P o a mu S TB w v H':=by
 simp only[A.run] at hr;split at hr
 ·rename_i l hl;split at hr
  ·rename_i cs hcs;cases hr;obtain⟨cells',hfill,hrel⟩:=qF (fun i=>some (i*ei.size,ei.size)) ps.toList qs l zs cs z.cells (je ei.size h6) hl hcs hf (gA h5)
   refine .of_same (x:=.agg cells') ?_ hi ⟨cells',rfl,hrel⟩;have hb:=run_build (P:=P) w t (ps.map fun(i,x)=>(i,a.eval x)) cells' (by
    simp only[Program.built,h1,h2,h3,h4,Array.toList_map];exact hfill)
   simp only[execOp,hop,Sem.run_bind,hb,Result.andThen,Sem.run_pure]
  ·cases hr
 ·cases hr
end
section
variable {P:Program} {mu:Mu} {S:St} {TB:Nat->Prop} {w:World} {H:Hp} {fr:Fr} {a:Act}
variable {φ:FuncId->List V->Hp->Option (V × Hp)} {o:Oper} {v:V} {H':Hp}
structure Src (P:Program) (w:World) (size:Nat) (t':TypeId) (x:Value) (n:Nat) (news:List Value):Prop where
 ty:(∃ e',P.underlying t'=some (.slice e'))∨P.underlying t'=some .string
 len:∀ w,(Builtin.lenOf x).run P w=.ok n w
 cells:(Builtin.firstCells size n x).run P w=.ok news.toArray w
 cells':(Builtin.firstCells size n x).run P w.drew=.ok news.toArray w.drew
 nlen:news.length=n*size
 one:∀ u∈news,flat u
theorem pQ {t t' ty e el:TypeId} {i:TypeInfo} {x:Value} {n:Nat} {news:List Value} (ht:P.underlying t=some (.slice e)) (hi:P.info? e=some i)
  {B sLen sCap:Nat} {cur:Array Value} {f:Nat × Nat} (hs:Src P w i.size t' x n news) (hg:w.heap[B]?=some (.cells cur el f)) (hof:zj f cur.size) (hroom:sLen+n<=sCap) (hfit:sLen*i.size+news.length<=cur.size) :
  (Builtin.append_ #[t,t'] ty #[.slice (some ⟨B,0,none⟩) sLen sCap,x]).run P w =
   .ok (.slice (some ⟨B,0,none⟩) (sLen+n) sCap) (w.setRow B (cur.toList.take (sLen*i.size)++news++cur.toList.drop (sLen*i.size+news.length)).toArray):=by
 have hst:=dC (P:=P) B (sLen*i.size) el f news 0 cur w hg hof (by simpa using hfit) (fun v hv=>(hs.one v hv).one)
 simp only[Nat.add_zero] at hst;rcases hs.ty with⟨e',hu⟩|hu <;> simp[Builtin.append_,run_underlying ht,run_underlying hu,sizeOf,typeInfo,hi,hs.len,hroom,hs.cells,Addr.add_lit,hst]
theorem zi {t t' ty e:TypeId} {i:TypeInfo} {x:Value} {news:List Value} (ht:P.underlying t=some (.slice e)) (hi:P.info? e=some i) (hs:Src P w i.size t' x 0 news) :
  (Builtin.append_ #[t,t'] ty #[.slice none 0 0,x]).run P w=.ok (.slice none 0 0) w:=by
 rcases hs.ty with⟨e',hu⟩|hu <;> simp[Builtin.append_,run_underlying ht,run_underlying hu,sizeOf,typeInfo,hi,hs.len,hs.cells,Addr.add_lit]
theorem mE {t t' ty e:TypeId} {i:TypeInfo} {z x:Value} {n:Nat} {news olds:List Value} (ht:P.underlying t=some (.slice e)) (hi:P.info? e=some i) (hz:i.zero=some z)
  {ad:Option Addr} {sLen sCap:Nat} (hs:Src P w i.size t' x n news) (hold:(Builtin.firstCells i.size sLen (.slice ad sLen sCap)).run P w.drew=.ok olds.toArray w.drew)
  (hg:sCap<sLen+n) (hle:sLen<=sCap) (h63:sLen+n<=9223372036854775807) (hfit:(sLen+n)*i.bytes<=140737488355328) :
  (Builtin.append_ #[t,t'] ty #[.slice ad sLen sCap,x]).run P w =
   .ok (.slice (some ⟨w.heap.size,0,none⟩) (sLen+n) (grownCap w (sLen+n) sCap e))
    (w.drew.alloc (.cells (olds.toArray++news.toArray++Builtin.zeroCells z.cells (grownCap w (sLen+n) sCap e-(sLen+n))) e)):=by
 have hn:¬ (sLen+n<=sCap):=by omega
 have h63':¬ (9223372036854775807<((sLen:Int)+(n:Int))):=by omega
 have hfit':=growslice_fits hg hfit;have h48':¬ (281474976710656<Builtin.nextslicecap (sLen+n) sCap*i.bytes):=by omega
 rcases hs.ty with⟨e',hu⟩|hu
 ·simp[Builtin.append_,run_underlying ht,run_underlying hu,sizeOf,typeInfo,zeroValue,hi,hz,hs.len,hn,h63',h48',Question.forced,hs.cells',hold,newRow,grownCap];congr 2
  apply Array.ext';simp[List.append_assoc]
 ·simp[Builtin.append_,run_underlying ht,run_underlying hu,sizeOf,typeInfo,zeroValue,hi,hz,hs.len,hn,h63',h48',Question.forced,hs.cells',hold,newRow,grownCap];congr 2
  apply Array.ext';simp[List.append_assoc]
structure RowsC (S:St) (w:World) (sz:Nat) (rows:List (List D)) (cs:List Value):Prop where
 len:cs.length=rows.length*sz
 row:∀ r∈rows,r.length=sz
 rel:∀ (k j:Nat) (r:List D) (d:D),rows[k]?=some r->r[j]?=some d->∃ v:Value,cs[k*sz+j]?=some v∧RelD S w d v
theorem mF {rows:List (List D)} {sz k j:Nat} {r:List D} {d:D} (hs:∀ r∈rows,r.length=sz) (h1:rows[k]?=some r) (h2:r[j]?=some d):k<rows.length∧j<sz∧k*sz+j<rows.length*sz:=by
 have hk:=(List.getElem?_eq_some_iff.1 h1).1;have hj:=(List.getElem?_eq_some_iff.1 h2).1;rw[hs r (List.mem_of_getElem? h1)] at hj;have:(k+1)*sz<=rows.length*sz:=Nat.mul_le_mul_right _ hk;rw[Nat.add_mul] at this;exact⟨hk,hj,by omega⟩
theorem RowsC.append {sz:Nat} {r1 r2:List (List D)} {c1 c2:List Value} (h1:RowsC S w sz r1 c1) (h2:RowsC S w sz r2 c2):RowsC S w sz (r1++r2) (c1++c2):=by
 refine⟨by rw[List.length_append,List.length_append,Nat.add_mul,h1.len,h2.len],fun r hr=>?_,fun k j r d hk hj=>?_⟩
 ·rcases List.mem_append.1 hr with h|h
  ·exact h1.row r h
  ·exact h2.row r h
 ·rw[List.getElem?_append] at hk;split at hk
  ·obtain⟨v,hv,hr⟩:=h1.rel k j r d hk hj;have:=(mF h1.row hk hj).2.2;exact⟨v,by rw[List.getElem?_append_left (by rw[h1.len];exact this)];exact hv,hr⟩
  ·rename_i hlt;obtain⟨v,hv,hr⟩:=h2.rel _ j r d hk hj;have hle:r1.length<=k:=by omega
   have:r1.length*sz<=k*sz:=Nat.mul_le_mul_right _ hle;refine⟨v,?_,hr⟩;rw[List.getElem?_append_right (by rw[h1.len];omega),h1.len]
   rw[Nat.sub_mul] at hv;rw[show k*sz+j-r1.length*sz=k*sz-r1.length*sz+j by omega]
   exact hv
theorem RowsC.ext {mu':Mu} {S':St} {w':World} (e:Ext TB mu S w mu' S' w') {sz:Nat} {rows:List (List D)} {cs:List Value} (h:RowsC S w sz rows cs):RowsC S' w' sz rows cs :=
 ⟨h.len,h.row,fun k j r d h1 h2=>let ⟨v,hv,hr⟩:=h.rel k j r d h1 h2;⟨v,hv,hr.ext e⟩⟩
theorem Inv.new_arrF (hi:Inv mu S TB w H) {sz cap:Nat} (rows:List (List D)) (fz:Nat) (cs:List Value) (cur:Array Value) (el:TypeId) (f:Nat × Nat) {bx:Nat} (hbx:sz=bx∨bx=0∧sz=1) (hof:Iw f cur.size bx) (hpre:cur.toList.take cs.length=cs) (hrc:RowsC S w sz rows cs)
  (hc:cur.size=cap*sz) (hle:rows.length<=cap) (hm:cap<=maxLen) (hsz:0<sz) (hfz:fz<=rows.length) :
  ∃ mu' S',Ext TB mu S w mu' S' (w.alloc (.cells cur el f))∧Inv mu' S' TB (w.alloc (.cells cur el f)) (H++[.arr bx rows fz]) ∧
   RelL mu' S' (w.alloc (.cells cur el f)) (.sl H.length sz 0 rows.length) (.slice (some ⟨w.heap.size,0,none⟩) rows.length cap):=by
 let l:Loc:=⟨some w.heap.size,sz,rows.length,cap⟩
 have e:=ol hi (.cells cur el f) l;have hi1:Inv (cK mu H.length l) S TB (w.alloc (.cells cur el f)) (H++[.arr bx rows 0]):=by
  refine Inv.new hi _ l _ (fun B h=>by cases h;rfl) ?_
  refine⟨l,bK _ _ _,hbx,rfl,hrc.row,Nat.zero_le _,?_⟩;refine⟨cur,el,_,Hz w _,⟨hc,hof⟩,hle,hm,hsz,fun k j r d h1 h2=>?_,hi.free.1,fun q hq=>absurd hq (hi.free.2 q),fun q hq=>by simp at hq⟩
  obtain⟨v,hv,hr⟩:=hrc.rel k j r d h1 h2;have hlt:=(mF hrc.row h1 h2).2.2;rw[<- hpre,List.getElem?_take,if_pos (by rw[hrc.len];exact hlt)] at hv
  exact⟨v,by simpa using hv,hr.ext e⟩
 have hrel:RelL (cK mu H.length l) S (w.alloc (.cells cur el f)) (.sl H.length sz 0 rows.length) (.slice (some ⟨w.heap.size,0,none⟩) rows.length cap) :=
  ⟨l,bK _ _ _,rfl,by simp[l],_,_,rfl,fun _=>rfl,fun _=>by simp,rfl,⟨_,rfl⟩,hle⟩
 by_cases h0:fz=0
 ·subst h0;exact⟨_,S,e,hi1,hrel⟩
 ·obtain⟨S',e2,hi2,_⟩:=N5 (i:=H.length) (off:=0) (n:=fz) (sz:=bx) (fz:=0) (rows:=rows) hi1 (by rw[List.getElem?_append_right (Nat.le_refl _)];simp) (by omega)
  refine⟨_,S',e.trans e2,?_,hrel.ext e2⟩;have:(H++[Box.arr bx rows 0]).set H.length (.arr bx rows (max 0 (0+fz)))=H++[.arr bx rows fz]:=by
   rw[List.set_append_right _ _ (Nat.le_refl _)];simp
  rw[this] at hi2;exact hi2
theorem Inv.new_arr (hi:Inv mu S TB w H) {sz cap:Nat} (rows:List (List D)) (fz:Nat) (cs:List Value) (cur:Array Value) (el:TypeId) (hpre:cur.toList.take cs.length=cs) (hrc:RowsC S w sz rows cs)
  (hc:cur.size=cap*sz) (hle:rows.length<=cap) (hm:cap<=maxLen) (hsz:0<sz) (hfz:fz<=rows.length) :
  ∃ mu' S',Ext TB mu S w mu' S' (w.alloc (.cells cur el))∧Inv mu' S' TB (w.alloc (.cells cur el)) (H++[.arr sz rows fz]) ∧
   RelL mu' S' (w.alloc (.cells cur el)) (.sl H.length sz 0 rows.length) (.slice (some ⟨w.heap.size,0,none⟩) rows.length cap) :=
 hi.new_arrF rows fz cs cur el (0,0) (.inl rfl) (qZ _ _) hpre hrc hc hle hm hsz hfz
theorem Inv.new_arrB (hi:Inv mu S TB w H) {sz bx cap:Nat} (hbx:sz=bx∨bx=0∧sz=1) (rows:List (List D)) (fz:Nat) (cs:List Value) (cur:Array Value) (el:TypeId) (hpre:cur.toList.take cs.length=cs) (hrc:RowsC S w sz rows cs)
  (hc:cur.size=cap*sz) (hle:rows.length<=cap) (hm:cap<=maxLen) (hsz:0<sz) (hfz:fz<=rows.length) :
  ∃ mu' S',Ext TB mu S w mu' S' (w.alloc (.cells cur el))∧Inv mu' S' TB (w.alloc (.cells cur el)) (H++[.arr bx rows fz]) ∧
   RelL mu' S' (w.alloc (.cells cur el)) (.sl H.length sz 0 rows.length) (.slice (some ⟨w.heap.size,0,none⟩) rows.length cap) :=
 hi.new_arrF rows fz cs cur el (0,0) hbx (qZ _ _) hpre hrc hc hle hm hsz hfz
theorem Inv.regrow (hi:Inv mu S TB w H) {w':World} {b:Nat} {b0:Box} {l l2:Loc} {B:Nat} (hb:H[b]?=some b0) (ha:alive b0=true) (hl:mu b=some l) (hB:l.blk=some B) (hB2:l2.blk=some B)
  (e:Ext TB mu S w (cK mu H.length l2) S w') (hblk:∀ k,k≠B->w'.heap[k]?=w.heap[k]?) (hsz:w'.heap.size=w.heap.size) {b':Box} (hb':RelB (cK mu H.length l2) S TB w' H.length b') :
  Inv (cK mu H.length l2) S TB w' (H.set b .dead++[b']):=by
 have hblt:b<H.length:=hi.dom _ _ hl;have hne:∀ (j:Nat) (c:Box) (l':Loc) (B':Nat),j≠b->H[j]?=some c->alive c=true->mu j=some l'->l'.blk=some B'->B'≠B:=fun j c l' B' hj hc hal h1 h2 h3 =>
  hi.one j b c b0 l' l B' hj hc hb hal ha h1 hl h2 (h3 ▸ hB)
 have old:∀ (j:Nat) (c:Box),j<H.length->(H.set b .dead++[b'])[j]?=some c->alive c=true->j≠b∧H[j]?=some c:=by
  intro j c hj hc hal;rw[List.getElem?_append_left (by simpa using hj)] at hc
  by_cases hjb:b=j
  ·subst hjb;rw[List.getElem?_set_self hblt] at hc;cases hc;cases hal
  ·rw[List.getElem?_set_ne hjb] at hc;exact⟨fun h=>hjb h.symm,hc⟩
 have new:∀ (j:Nat) (c:Box),¬ j<H.length->(H.set b .dead++[b'])[j]?=some c->j=H.length∧c=b':=by
  intro j c hj hc;rw[List.getElem?_append_right (by simpa using Nat.le_of_not_lt hj)] at hc
  simp only[List.length_set] at hc;rcases Nat.lt_or_ge (j-H.length) 1 with h|h
  ·have:j=H.length:=by omega
   subst this;simp at hc;exact⟨rfl,hc.symm⟩
  ·rw[List.getElem?_eq_none (by simpa using h)] at hc;cases hc
 refine⟨fun j c l0 hc hl0=>?_,fun j k hk=>?_,fun j k B' hk hB'=>?_,fun q p h=>by rw[hsz];exact hi.sl _ _ h,fun q h=>by rw[hsz];exact hi.tl _ h,?_⟩
 ·cases hal:alive c with
  | false=>cases c <;> first|trivial|cases hal
  | true =>
   by_cases hj:j<H.length
   ·obtain⟨hjb,hc'⟩:=old j c hj hc hal;rw[iZ _ _ (by omega)] at hl0
    exact(hi.box j c l0 hc' hl0).keep e (fun l' B' h1 h2=>hblk _ (hne j c l' B' hjb hc' hal h1 h2)) (fun _ _ _ _ _ h=>h)
   ·obtain⟨rfl,rfl⟩:=new j c hj hc;exact hb'
 ·simp only[cK] at hk;split at hk
  ·rename_i h;subst h;simp
  ·have:=hi.dom _ _ hk;simp;omega
 ·simp only[cK] at hk;rw[hsz];split at hk
  ·cases hk;rw[hB2] at hB';cases hB';exact hi.old _ _ _ hl hB
  ·exact hi.old _ _ _ hk hB'
 ·intro i j bi bj li lj C hij hbi hbj hai haj hmi hmj hCi hCj;by_cases h1:i<H.length
  ·obtain⟨hib,hbi'⟩:=old i bi h1 hbi hai;rw[iZ _ _ (by omega)] at hmi
   by_cases h2:j<H.length
   ·obtain⟨hjb,hbj'⟩:=old j bj h2 hbj haj;rw[iZ _ _ (by omega)] at hmj
    exact hi.one i j bi bj li lj C hij hbi' hbj' hai haj hmi hmj hCi hCj
   ·obtain⟨rfl,rfl⟩:=new j bj h2 hbj;rw[bK] at hmj;cases hmj;rw[hB2] at hCj;cases hCj;exact hne i bi li _ hib hbi' hai hmi hCi rfl
  ·obtain⟨rfl,rfl⟩:=new i bi h1 hbi;rw[bK] at hmi;cases hmi;rw[hB2] at hCi;cases hCi;by_cases h2:j<H.length
   ·obtain⟨hjb,hbj'⟩:=old j bj h2 hbj haj;rw[iZ _ _ (by omega)] at hmj
    exact hne j bj lj _ hjb hbj' haj hmj hCj rfl
   ·exact absurd (new j bj h2 hbj).1.symm hij
end
section
variable {P:Program} {mu:Mu} {S:St} {TB:Nat->Prop} {w:World} {H:Hp} {fr:Fr} {a:Act}
variable {φ:FuncId->List V->Hp->Option (V × Hp)} {o:Oper} {v:V} {H':Hp}
theorem Inv.new_nilB (hi:Inv mu S TB w H) (sz bx:Nat) (hbx:sz=bx∨bx=0∧sz=1):∃ mu',Ext TB mu S w mu' S w∧Inv mu' S TB w (H++[.arr bx [] 0])∧RelL mu' S w (.sl H.length sz 0 0) (.slice none 0 0):=by
 let l:Loc:=⟨none,sz,0,0⟩
 have e:Ext TB mu S w (cK mu H.length l) S w:=⟨iD hi l,fun _ _ h=>h,fun _ _ _ h=>h,fun _ _ _=>rfl,fun _ _=>rfl,Nat.le_refl _,rfl,rfl,rfl⟩
 refine⟨_,e,⟨fun i c l0 hc hl0=>?_,fun i k hk=>?_,fun i k B hk hB=>?_,hi.sl,hi.tl,?_⟩,⟨l,bK _ _ _,rfl,by simp[l],none,0,rfl,rfl,rfl,rfl,rfl⟩⟩
 ·rw[List.getElem?_append] at hc;split at hc
  ·rename_i hlt;rw[iZ _ _ (by omega)] at hl0
   exact(hi.box i c l0 hc hl0).keep e (fun _ _ _ _=>rfl) (fun _ _ _ _ _ h=>h)
  ·rename_i hlt;have hii:i=H.length:=by
    rcases Nat.lt_or_ge (i-H.length) 1 with h|h
    ·omega
    ·rw[List.getElem?_eq_none (by simpa using h)] at hc;cases hc
   subst hii;simp at hc;subst hc;exact⟨l,bK _ _ _,hbx,rfl,by simp,by simp,rfl,rfl⟩
 ·simp only[cK] at hk;split at hk
  ·rename_i h;subst h;simp
  ·have:=hi.dom _ _ hk;simp;omega
 ·simp only[cK] at hk;split at hk
  ·cases hk;cases hB
  ·exact hi.old _ _ _ hk hB
 ·intro i j bi bj li lj B hij hbi hbj hai haj hmi hmj hBi hBj;simp only[cK] at hmi hmj;rw[List.getElem?_append] at hbi hbj;split at hmi
  ·cases hmi;cases hBi
  ·split at hmj
   ·cases hmj;cases hBj
   ·rw[if_pos (hi.dom _ _ hmi)] at hbi;rw[if_pos (hi.dom _ _ hmj)] at hbj;exact hi.one i j bi bj li lj B hij hbi hbj hai haj hmi hmj hBi hBj
theorem Inv.new_nil (hi:Inv mu S TB w H) (sz:Nat):∃ mu',Ext TB mu S w mu' S w∧Inv mu' S TB w (H++[.arr sz [] 0])∧RelL mu' S w (.sl H.length sz 0 0) (.slice none 0 0):=hi.new_nilB sz sz (.inl rfl)
theorem Inv.new_data (hi:Inv mu S TB w H) {sz c:Nat} (rows:List (List D)) (cs:List Value) (cur:Array Value) (el:TypeId) (hpre:cur.toList.take cs.length=cs) (hrc:RowsC S w sz rows cs) (hle:rows.length<=c) :
  ∃ S',Ext TB mu S w mu S' (w.alloc (.cells cur el))∧Inv mu S' TB (w.alloc (.cells cur el)) H∧RelD S' (w.alloc (.cells cur el)) (.l rows) (.slice (some ⟨w.heap.size,0,none⟩) rows.length c):=by
 let S':St:=fun b q=>S b q∨(b=w.heap.size∧q<cs.length)
 have e:Ext TB mu S w mu S' (w.alloc (.cells cur el)) :=
  ⟨fun _ _ h=>h,fun _ _ h=>.inl h,fun b q ht h=>h.resolve_right (fun h=>by have:=hi.tl _ ht;omega),fun b q h=>f9 (AT w _ b (hi.sl _ _ h)),fun b h=>AT w _ b (hi.tl _ h),by simp,rfl,rfl,rfl⟩
 refine⟨S',e,⟨fun i b l hb hl=>(hi.box i b l hb hl).keep e (fun l B h1 h2=>AT w _ B (hi.old _ _ _ h1 h2)) (fun l B q h1 h2 h=>h.resolve_right (fun h=>by have:=hi.old _ _ _ h1 h2;omega)),hi.dom,
  fun i l B h1 h2=>by have:=hi.old _ _ _ h1 h2;simp;omega,fun b q h=>?_,fun b h=>by have:=hi.tl _ h;simp;omega,hi.one⟩,?_⟩
 ·rcases h with h|h
  ·have:=hi.sl _ _ h;simp;omega
  ·simp;omega
 ·have hcell:∀ q u,cs[q]?=some u->(w.alloc (.cells cur el)).cell? ⟨w.heap.size,q,none⟩=some u:=by
   intro q u hq;rw[cell_of_row _ _ q cur el (0,0) (Hz w _)];rw[<- hpre,List.getElem?_take] at hq;split at hq
   ·simpa using hq
   ·cases hq
  refine .l rows sz w.heap.size 0 c (fun k j=>(cs[k*sz+j]?).getD undef) hle hrc.row ?_ ?_ ?_
  ·intro k j hk hj;refine .inr ⟨rfl,?_⟩;have:(k+1)*sz<=rows.length*sz:=Nat.mul_le_mul_right _ hk;rw[Nat.add_mul] at this;rw[hrc.len];omega
  ·intro k j hk hj;have hrl:=hrc.row _ (List.getElem_mem hk);obtain⟨u,hu,_⟩:=hrc.rel k j rows[k] (rows[k])[j] (by simp) (by simp)
   rw[Nat.zero_add,hcell _ _ hu,hu];rfl
  ·intro k j r d h1 h2;obtain⟨u,hu,hr⟩:=hrc.rel k j r d h1 h2;rw[hu];exact hr.ext e
theorem RowsC.nil (sz:Nat):RowsC S w sz [] []:=⟨by simp,by simp,fun k j r d h=>by simp at h⟩
theorem oS {i:TypeInfo} {z:Value} (hz:z.cells.size=i.size) {olds news:List Value} {need cap:Nat} (hl:(olds++news).length=need*i.size) (h:need<=cap) :
  (olds.toArray++news.toArray++Builtin.zeroCells z.cells (cap-need)).size=cap*i.size∧(olds.toArray++news.toArray++Builtin.zeroCells z.cells (cap-need)).toList.take (olds++news).length=olds++news:=by
 constructor
 ·simp only[Array.size_append,List.size_toArray,size_zeroCells,hz];rw[List.length_append] at hl;rw[hl,<- Nat.add_mul];congr 1;omega
 ·simp only[Array.toList_append,List.toList_toArray];exact List.take_left
theorem sw {sz:Nat} {rows:List (List D)} {cs:List Value} (h:RowsC S w sz rows cs):RowsC S w.drew sz rows cs:=h.ext (dQ (fun _=>none) S (fun _=>False) w)
theorem EJ {t t' ty e:TypeId} {i:TypeInfo} {z x:Value} {news:List (List D)} {cs:List Value} {bx:Nat} (hbx:i.size=bx∨bx=0∧i.size=1) (hi:Inv mu S TB w H) (ht:P.underlying t=some (.slice e)) (hinf:P.info? e=some i) (hz:i.zero=some z) (hzs:z.cells.size=i.size) (hsz:0<i.size)
  (hs:Src P w i.size t' x news.length cs) (hrc:RowsC S w i.size news cs) (hb:news.length*i.bytes<=140737488355328) (h63:news.length<=9223372036854775807) :
  ∃ r w' mu' S',(Builtin.append_ #[t,t'] ty #[.slice none 0 0,x]).run P w=.ok r w'∧Ext TB mu S w mu' S' w'∧Inv mu' S' TB w' (H++[.arr bx news 0])∧RelL mu' S' w' (.sl H.length i.size 0 news.length) r:=by
 by_cases h0:news=[]
 ·subst h0;obtain⟨mu',e1,i1,r1⟩:=hi.new_nilB i.size bx hbx;exact⟨_,w,mu',S,zi ht hinf hs,e1,i1,r1⟩
 ·have hpos:0<news.length:=List.length_pos_iff.2 h0;have hrun:=mE (P:=P) (w:=w) (ty:=ty) (olds:=[]) (ad:=none) (sLen:=0) (sCap:=0) ht hinf hz hs (run_firstCells_none w.drew i.size 0 0 0) (by omega) (Nat.le_refl _) (by omega) (by simpa using hb)
  simp only[Nat.zero_add] at hrun;have hcap:=grownCap_ge w news.length 0 e;have hg:=oS (i:=i) hzs (olds:=[]) (news:=cs) (need:=news.length) (by simpa using hrc.len) hcap
  obtain⟨mu',S',e1,i1,r1⟩:=(hi.drew).new_arrB hbx news 0 ([]++cs) _ e hg.2 (by simpa using sw hrc) hg.1 hcap (grownCap_le_maxLen w _ _ e (by simpa[maxLen] using h63)) hsz (Nat.zero_le _)
  exact⟨_,_,mu',S',hrun,(dQ mu S TB w).trans e1,i1,r1⟩
end
section
variable {P:Program} {mu:Mu} {S:St} {TB:Nat->Prop} {w:World} {H:Hp} {fr:Fr} {a:Act}
variable {φ:FuncId->List V->Hp->Option (V × Hp)} {o:Oper} {v:V} {H':Hp}
theorem Jd (hi:Inv mu S TB w H) {sz:Nat} {t' e':TypeId} {x:L} {p:Value} {rows:List (List D)} (ht:P.underlying t'=some (.slice e')) (hx:RelL mu S w x p) (hr:cO H sz x=some rows) (hok:aV sz rows=true) :
  ∃ cs,Src P w sz t' p rows.length cs∧RowsC S w sz rows cs:=by
 obtain⟨ad,n,c,rfl,hn,hor⟩:=oN hi hx hr (gD hok);subst hn;rcases hor with h0|⟨B,off,news,rfl,n1,n2,n3⟩
 ·subst h0;refine⟨[],⟨.inl ⟨e',ht⟩,fun w=>rfl,?_,?_,by simp,by simp⟩,RowsC.nil _⟩ <;> cases ad <;> simp[Builtin.firstCells,loadCells,loadCellsFrom]
 ·refine⟨news,⟨.inl ⟨e',ht⟩,fun w=>rfl,run_firstCells_some w sz _ _ _ _ news n1 n2,run_firstCells_some w.drew sz _ _ _ _ news n1 (by simpa using n2),n1,fun u hu=>?_⟩,⟨n1,gD hok,n3⟩⟩
  obtain⟨j,hj,rfl⟩:=List.getElem_of_mem hu;have hsz:0<sz:=by
   rcases Nat.eq_zero_or_pos sz with h|h
   ·subst h;omega
   ·exact h
  have hk:j / sz<rows.length:=by rw[Nat.div_lt_iff_lt_mul hsz];omega
  have hrl:=gD hok _ (List.getElem_mem hk);have hm:j % sz<(rows[j / sz]).length:=by rw[hrl];exact Nat.mod_lt _ hsz
  obtain⟨u,hu,hru⟩:=n3 (j / sz) (j % sz) rows[j / sz] (rows[j / sz])[j % sz] (by simp) (by simp)
  rw[Nat.div_add_mod' j sz,List.getElem?_eq_getElem hj] at hu;cases hu;exact(RelL.flat (mu:=mu) (x:=.d _) hru)
theorem Fz {t':TypeId} {l:List UInt8} (ht:P.underlying t'=some .string):∃ cs,Src P w 1 t' (.string ⟨l.toArray⟩) (ay l).length cs∧RowsC S w 1 (ay l) cs:=by
 have hsz:(⟨l.toArray⟩:ByteArray).size=l.length:=by simp[ByteArray.size]
 have hf:∀ w:World,(Builtin.firstCells 1 (ay l).length (.string ⟨l.toArray⟩)).run P w=.ok (l.map fun b=>Value.int .u8 b.toNat).toArray w:=by
  intro w;simp only[Builtin.firstCells,Sem.run_pure,ay,List.length_map];congr 1
  have:(⟨l.toArray⟩:ByteArray).extract 0 l.length=⟨l.toArray⟩:=by
   rw[uS];simp
  rw[this];simp
 refine⟨l.map fun b=>Value.int .u8 b.toNat,⟨.inr ht,fun w=>by simp[Builtin.lenOf,hsz,ay],hf w,hf _,by simp[ay],fun u hu=>?_⟩,⟨by simp[ay],fun r hr=>?_,fun k j r d h1 h2=>?_⟩⟩
 ·simp only[List.mem_map] at hu;obtain⟨b,_,rfl⟩:=hu;trivial
 ·simp only[ay,List.mem_map] at hr;obtain⟨b,_,rfl⟩:=hr;rfl
 ·simp only[ay,List.getElem?_map,Option.map_eq_some_iff] at h1;obtain⟨b,hb,rfl⟩:=h1;cases j with
  | zero=>simp at h2;subst h2;exact⟨.int .u8 b.toNat,by simp[hb],.i _ _⟩
  | succ j=>simp at h2
theorem CP {c:Call} {str:Bool} {t t' e:TypeId} {i:TypeInfo} {z:Value} {x y:Operand} {x' y':X} (hop:o.op=.call c) (hc:c.callee=.builtin .append) (ha:c.args.toList=[x,y]) (hat:c.argTypes.toList=[t,t'])
  (ht:P.underlying t=some (.slice e)) (ht':bif str then P.underlying t'=some .string∧i.size=1 else ∃ e',P.underlying t'=some (.slice e')) (hinf:P.info? e=some i) (hz:i.zero=some z) (hzs:z.cells.size=i.size) (hsz:0<i.size)
  (h1:aA x=some x') (h2:aA y=some y') (hi:Inv mu S TB w H) (hf:RelFr mu S w fr a)
  (hr:(A.app str i.size i.bytes x' y').run φ fr H=some (v,H')):OpOK P o a mu S TB w v H':=by
 have hargs:c.args = #[x,y]:=by apply Array.ext';simpa using ha
 have hty:c.argTypes = #[t,t']:=by apply Array.ext';simpa using hat
 have go:∀ {p q r w'},a.eval x=p->a.eval y=q->(Builtin.append_ #[t,t'] o.type #[p,q]).run P w=.ok r w'->(execOp a.eval o).run P w=.ok (.value r) w':=by
  intro p q r w' e1 e2 hap;have hm : #[x,y].map a.eval = #[p,q]:=by simp only[List.map_toArray,List.map_cons,List.map_nil,e1,e2]
  simp only[execOp,hop,resolve,hc,hargs,hty,Sem.run_bind,Sem.run_pure,Result.andThen,invoke,builtin,hm,hap]
 simp only[A.run] at hr;split at hr
 ·rename_i sv xv hx hy;have hsr:=aj h1 hf hx;have hxr:=aj h2 hf hy;simp only[RelV] at hsr hxr;split at hr
  ·cases hr
  ·rename_i news hnews;have hsrc:aV i.size news=true->∃ cs,Src P w i.size t' (a.eval y) news.length cs∧RowsC S w i.size news cs:=by
    intro hok;cases str with
    | false =>
     simp only[cond_false] at hnews ht';obtain⟨e',hu⟩:=ht';exact Jd hi hu hxr hnews hok
    | true =>
     simp only[cond_true] at hnews ht';split at hnews
     ·rename_i l;cases hnews;rw[ht'.2,RelV.s_inv (mu:=mu) (S:=S) (w:=w) hxr];exact Fz ht'.1
     ·cases hnews
   split at hr
   ·rename_i b z n;split at hr
    ·rename_i sz' rows fz hb;split at hr
     ·rename_i hcond;obtain⟨c1,c2,c3,c4,c5⟩:=hcond;subst c2;cases hr;obtain⟨cs,src,hrc⟩:=hsrc c5;obtain⟨l,hl,hlz,hle,hsl⟩:=hsr;obtain⟨ad,cc,he,hsl⟩:=hsl;cases hbk:l.blk with
      | none =>
       rw[hbk] at hsl;obtain⟨rfl,rfl,hn0⟩:=hsl;have hne:rows=[]:=List.eq_nil_of_length_eq_zero hn0.1;subst hne;obtain⟨l',g1,g2,g3,g4,g5,g6⟩:=hi.box b _ _ hb hl;simp only[List.length_nil,Nat.zero_add,List.nil_append] at c3 c4 g5 he ⊢;have hfz:fz=0:=by omega
       subst hfz;obtain⟨r,w',mu',S',hrun,e1,i1,r1⟩:=EJ (ty:=o.type) (c1.imp Eq.symm id) (hi.kill b) ht hinf hz hzs hsz src hrc c3 c4;simp only[List.length_set] at i1 r1;exact .of_value (go he rfl hrun) e1 i1 r1
      | some B =>
       rw[hbk] at hsl;obtain⟨l',g1,g2,g3,g4,g5,g6⟩:=hi.box b _ _ hb hl;rw[hl] at g1;cases g1;rw[hbk] at g6;obtain⟨cur,el,ff,k1,⟨k2,koff⟩,k3,k4,k5,k6,k7,k8,k9⟩:=g6;have hs1:l.sz=i.size:=by rcases g2 with h|h <;> rcases c1 with h'|h' <;> omega
       rw[hs1] at k2 k5 k6 k8 k9 g4;have had:=hsl.1 rfl;subst had;have hcap:cc=l.cap:=by have:=hsl.2.2.1;omega
       subst hcap;have hpc:rows.length*i.size<=l.cap*i.size:=Nat.mul_le_mul_right _ k3;have hold:RowsC S w i.size rows (cur.toList.take (rows.length*i.size)):=by
        refine⟨by simp;omega,g4,fun k j r d p1 p2=>?_⟩
        obtain⟨u,hu,hru⟩:=k6 k j r d p1 p2;refine⟨u,?_,hru⟩;rw[List.getElem?_take,if_pos (mF g4 p1 p2).2.2];simpa using hu
       by_cases hroom:rows.length+news.length<=l.cap
       ·have hfit:rows.length*i.size+cs.length<=cur.size:=by
         rw[hrc.len,k2,<- Nat.add_mul];exact Nat.mul_le_mul_right _ hroom
        have hrun:=pQ (P:=P) (w:=w) (ty:=o.type) ht hinf src k1 koff.1 hroom hfit;generalize hcur':(cur.toList.take (rows.length*i.size)++cs++cur.toList.drop (rows.length*i.size+cs.length)).toArray=cur' at hrun;have hext0:Ext TB mu S w mu S (w.setRow B cur'):=jL hi k1 k7 fun q hq=>by
         have hlt:=k8 q hq;have hlt2:q<rows.length*i.size:=Nat.lt_of_lt_of_le hlt (Nat.mul_le_mul_right _ g5);rw[<- hcur',List.getElem?_toArray,List.append_assoc,List.getElem?_append_left (by simp;omega),List.getElem?_take,if_pos hlt2]
         simp
        let l2:Loc:=⟨some B,i.size,rows.length+news.length,l.cap⟩
        have hext:Ext TB mu S w (cK mu H.length l2) S (w.setRow B cur'):=⟨iD hi l2,hext0.ss,hext0.avoid,hext0.cell,hext0.blk,hext0.size,hext0.os,hext0.tape,hext0.output⟩;have hboth:RowsC S w i.size (rows++news) (cur.toList.take (rows.length*i.size)++cs):=hold.append hrc;have hbox:RelB (cK mu H.length l2) S TB (w.setRow B cur') H.length (.arr sz' (rows++news) fz):=by
         refine⟨l2,bK _ _ _,c1.imp Eq.symm id,by simp[l2],hboth.row,by simp;omega,?_⟩
         refine⟨cur',el,ff,setRow_heap w B cur cur' el ff k1,⟨?_,fun q hq=>koff.1 q (Nat.lt_of_lt_of_eq hq ?_),koff.2⟩,by simpa using hroom,k4,hsz,fun k j r d p1 p2=>?_,k7,k8,k9⟩
         ·show cur'.size=l.cap*i.size;rw[<- hcur'];simp;omega
         ·rw[<- hcur'];simp;omega
         ·obtain⟨u,hu,hru⟩:=hboth.rel k j r d p1 p2;refine⟨u,?_,hru.ext hext⟩;rw[<- hcur',List.getElem?_toArray,List.getElem?_append_left (by rw[hboth.len];exact(mF hboth.row p1 p2).2.2)]
          exact hu
        refine .of_value (go he rfl hrun) hext (hi.regrow hb rfl hl hbk rfl hext (fun k hk=>setRow_other w B k cur' hk) (iN B cur') hbox) ?_
        exact⟨l2,bK _ _ _,rfl,by simp[l2],_,_,rfl,fun _=>rfl,fun _=>by simp,rfl,⟨_,rfl⟩,hroom⟩
       ·have hfo:(Builtin.firstCells i.size rows.length (.slice (some ⟨B,0,none⟩) rows.length l.cap)).run P w.drew=.ok (cur.toList.take (rows.length*i.size)).toArray w.drew :=
         run_firstCells_some w.drew i.size _ _ _ _ _ hold.len (fun j u hu=>by
          rw[List.getElem?_take] at hu;split at hu
          ·rw[World.cell?_drew,tO k1,Nat.zero_add];exact hu
          ·cases hu)
        have hrun:=mE (P:=P) (w:=w) (ty:=o.type) ht hinf hz src hfo (by omega) k3 c4 c3
        have hge:=grownCap_ge w (rows.length+news.length) l.cap e;have hboth:RowsC S w i.size (rows++news) (cur.toList.take (rows.length*i.size)++cs):=hold.append hrc;have hg:=oS (i:=i) hzs (need:=rows.length+news.length) (by have:=hboth.len;rwa [List.length_append (as:=rows)] at this) hge
        obtain⟨mu',S',e1,i1,r1⟩:=((hi.kill b).drew).new_arrB (c1.imp Eq.symm id) (rows++news) fz _ _ e hg.2 (sw hboth) hg.1 (by simpa using hge) (grownCap_le_maxLen w _ _ e (by simpa[maxLen] using c4)) hsz (by simp;omega)
        simp only[List.length_set,List.length_append] at i1 r1;exact .of_value (go he rfl hrun) ((dQ mu S TB w).trans e1) i1 r1
     ·cases hr
    ·cases hr
   ·split at hr
    ·rename_i hcond;obtain⟨c3,c4,c5⟩:=hcond;cases hr;obtain⟨cs,src,hrc⟩:=hsrc c5;have he:a.eval x=.slice none 0 0:=hsr;obtain⟨r,w',mu',S',hrun,e1,i1,r1⟩:=EJ (ty:=o.type) (.inl rfl) hi ht hinf hz hzs hsz src hrc c3 c4;exact .of_value (go he rfl hrun) e1 i1 r1
    ·cases hr
   ·rename_i rows;split at hr
    ·rename_i hcond;obtain⟨c3,c4,c5,c6⟩:=hcond;cases hr;obtain⟨cs,src,hrc⟩:=hsrc c5;obtain⟨⟨ad,he⟩,hrd⟩:=hsr;have hrs:=gD c6;obtain⟨ad',n',c',e1,e2,hor⟩:=oN (rows:=rows) hi (x:=.cl rows) ⟨⟨ad,he⟩,hrd⟩ (by rfl) hrs
     rw[he] at e1;cases e1;by_cases hn:news=[]
     ·subst hn;have hcs:cs=[]:=List.eq_nil_of_length_eq_zero (by simpa using hrc.len)
      subst hcs;have hrun:(Builtin.append_ #[t,t'] o.type #[.slice ad rows.length rows.length,a.eval y]).run P w=.ok (.slice ad rows.length rows.length) w:=by
       have hl:=src.len;have hc:=src.cells;simp only[List.length_nil] at hl hc;cases str with
       | false =>
        obtain⟨e',hu⟩:=ht';cases ad <;> simp[Builtin.append_,run_underlying ht,run_underlying hu,sizeOf,typeInfo,hinf,hl,hc,storeCells]
       | true =>
        have hu:=ht'.1;cases ad <;> simp[Builtin.append_,run_underlying ht,run_underlying hu,sizeOf,typeInfo,hinf,hl,hc,storeCells]
      rw[List.append_nil];exact .of_same (go he rfl hrun) hi (by show RelD S w _ _;rw[<- he];exact hrd)
     ·have hpos:0<news.length:=List.length_pos_iff.2 hn;have hold:∃ olds,RowsC S w i.size rows olds∧(Builtin.firstCells i.size rows.length (.slice ad rows.length rows.length)).run P w.drew=.ok olds.toArray w.drew:=by
       rcases hor with h0|⟨B,off,olds,rfl,n1,n2,n3⟩
       ·subst h0;refine⟨[],RowsC.nil _,?_⟩;cases ad <;> simp[Builtin.firstCells,loadCells,loadCellsFrom]
       ·exact⟨olds,⟨n1,hrs,n3⟩,run_firstCells_some w.drew i.size _ _ _ _ olds n1 (by simpa using n2)⟩
      obtain⟨olds,ho,hfo⟩:=hold;have hrun:=mE (P:=P) (w:=w) (ty:=o.type) ht hinf hz src hfo (by omega) (Nat.le_refl _) c4 c3
      have hge:=grownCap_ge w (rows.length+news.length) rows.length e;have hboth:=ho.append hrc;have hg:=oS (i:=i) hzs (need:=rows.length+news.length) (by have:=hboth.len;rwa [List.length_append (as:=rows)] at this) hge
      obtain⟨S',e1,i1,r1⟩:=(hi.drew).new_data (c:=grownCap w (rows.length+news.length) rows.length e) (rows++news) _ _ e hg.2 (sw hboth) (by simpa using hge)
      rw[List.length_append] at r1;exact .of_value (go he rfl hrun) ((dQ mu S TB w).trans e1) i1 r1
    ·cases hr
   ·cases hr
 ·cases hr
end
section
variable {P:Program} {mu:Mu} {S:St} {TB:Nat->Prop} {w:World} {H:Hp} {fr:Fr} {a:Act}
variable {φ:FuncId->List V->Hp->Option (V × Hp)} {o:Oper} {v:V} {H':Hp}
theorem oC (z:Array Value) (n q:Nat) (hq:q<n) (hz:0<z.size):(madeCells z n)[q]?=z[q % z.size]?:=by
 have:q % z.size<z.size:=Nat.mod_lt _ hz;simp[madeCells,hq,this]
theorem w5 {z:Value} {zr:List D} {sz n c:Nat} (hz:constDs z.cells.toList=some zr) (hlen:zr.length=sz) (hsz:0<sz) (hnc:n<=c) :
  RowsC S w sz (List.replicate n zr) ((madeCells z.cells (c*sz)).toList.take (n*sz)):=by
 obtain⟨h1,h2⟩:=jC (S:=S) (w:=w) hz;have hzs:z.cells.size=sz:=by simp at h1;omega
 have hle:n*sz<=c*sz:=Nat.mul_le_mul_right _ hnc;have hrow:∀ r∈List.replicate n zr,r.length=sz:=fun r hr=>by rw[(List.mem_replicate.1 hr).2];exact hlen
 refine⟨by rw[List.length_take,Array.length_toList,size_madeCells,List.length_replicate];omega,hrow,fun k j r d p1 p2=>?_⟩
 have hr:r=zr:=(List.mem_replicate.1 (List.mem_of_getElem? p1)).2;subst hr;have hlt:=mF hrow p1 p2;rw[List.length_replicate] at hlt;obtain⟨x,hx,hrx⟩:=h2 j d p2;refine⟨x,?_,hrx⟩;rw[List.getElem?_take,if_pos hlt.2.2];have hg:=oC z.cells (c*sz) (k*sz+j) (by omega) (by omega)
 rw[hzs,Nat.add_comm,Nat.add_mul_mod_self_right,Nat.mod_eq_of_lt hlt.2.1,Nat.add_comm] at hg;simpa using hg.trans (by simpa using hx)
theorem OW {s d e:TypeId} {x:Operand} {x':X} (hop:o.op=.convert s d x) (hs:P.underlying s=some .string) (hd:P.underlying d=some (.slice e)) (he:P.underlying e=some (.int .u8)) (h1:aA x=some x') (hi:Inv mu S TB w H) (hf:RelFr mu S w fr a)
  (hr:(A.s2b x').run φ fr H=some (v,H')):OpOK P o a mu S TB w v H':=by
 simp only[A.run] at hr;split at hr
 ·rename_i l hx;split at hr
  ·rename_i hlen;cases hr;have e1:=(aj h1 hf hx).s_inv;have hsz:(⟨l.toArray⟩:ByteArray).size=l.length:=by simp[ByteArray.size]
   have hrun:=run_bytes_of_string (P:=P) w s d e ⟨l.toArray⟩ hs hd he;have hge:=grownCap_ge w (⟨l.toArray⟩:ByteArray).size 0 e;have hle:=grownCap_le_maxLen w (⟨l.toArray⟩:ByteArray).size 0 e (by rw[hsz];simp only[maxLen];omega)
   generalize grownCap w (⟨l.toArray⟩:ByteArray).size 0 e=c at hrun hge hle;rw[hsz] at hrun hge;have hcs:(bytesRow ⟨l.toArray⟩ c).size=c*1:=by simp[bytesRow,hsz];omega
   have hpre:(bytesRow ⟨l.toArray⟩ c).toList.take (l.map fun b=>Value.int .u8 b.toNat).length=l.map fun b=>Value.int .u8 b.toNat:=by
    simp only[bytesRow,Array.toList_append,Array.toList_map,List.length_map];rw[List.take_append_of_le_length (by simp)]
    exact List.take_of_length_le (by simp)
   have hrc:RowsC S w.drew 1 (ay l) (l.map fun b=>Value.int .u8 b.toNat):=by
    refine⟨by simp[ay],fun r hr=>?_,fun k j r d h1 h2=>?_⟩
    ·simp only[ay,List.mem_map] at hr;obtain⟨b,_,rfl⟩:=hr;rfl
    ·simp only[ay,List.getElem?_map,Option.map_eq_some_iff] at h1;obtain⟨b,hb,rfl⟩:=h1;cases j with
     | zero=>simp at h2;subst h2;exact⟨.int .u8 b.toNat,by simp[hb],.i _ _⟩
     | succ j=>simp at h2
   obtain⟨mu',S',ex,i1,r1⟩:=(hi.drew).new_arrF (ay l) 0 _ _ e ((bytesRow ⟨l.toArray⟩ c).size,(bytesRow ⟨l.toArray⟩ c).size+1) (bx:=0) (.inr ⟨rfl,rfl⟩) ⟨fun q hq h=>by simp at h;omega,fun h=>absurd rfl h⟩ hpre hrc hcs (by simpa[ay] using hge) hle (by decide) (Nat.zero_le _)
   have hrl:(ay l).length=l.length:=by simp[ay]
   rw[hrl] at r1;exact .of_value (by simp only[execOp,hop,e1,Sem.run_bind,hrun,Result.andThen,Sem.run_pure];rfl) ((dQ mu S TB w).trans ex) i1 r1
  ·cases hr
 ·cases hr
theorem PQ {t e:TypeId} {i:TypeInfo} {z:Value} {zr:List D} {x y:Operand} {x' y':X} (hop:o.op=.makeSlice t x y) (ht:P.underlying t=some (.slice e)) (hinf:P.info? e=some i) (hz:i.zero=some z) (hzr:constDs z.cells.toList=some zr)
  (hlen:zr.length=i.size) (hsz:0<i.size) (h1:aA x=some x') (h2:aA y=some y') (hi:Inv mu S TB w H) (hf:RelFr mu S w fr a)
  (hr:(A.mks i.size i.bytes zr x' y').run φ fr H=some (v,H')):OpOK P o a mu S TB w v H':=by
 simp only[A.run] at hr;split at hr
 ·rename_i k n k' m hx hy;split at hr
  ·rename_i hc;obtain⟨c1,c2,c3,c4⟩:=hc;cases hr;have e1:=kI h1 hf hx;have e2:=kI h2 hf hy;have hrun:=run_make (P:=P) w t e i z ht hinf hz k k' n m c1 c2 (by rw[Int.mul_comm];omega) c4
   have hrc:=w5 (S:=S) (w:=w) (n:=n.toNat) (c:=m.toNat) hzr hlen hsz (by omega)
   have hle:n.toNat*i.size<=m.toNat*i.size:=Nat.mul_le_mul_right _ (by omega)
   obtain⟨mu',S',ex,i1,r1⟩:=hi.new_arr (List.replicate n.toNat zr) 0 _ (madeCells z.cells (m.toNat*i.size)) e (by rw[hrc.len];simp) hrc (size_madeCells _ _) (by simp;omega) (by simp only[maxLen];omega) hsz (Nat.zero_le _)
   simp only[List.length_replicate] at r1;exact .of_value (by simp only[execOp,hop,e1,e2,Sem.run_bind,hrun,Result.andThen,Sem.run_pure]) ex i1 r1
  ·cases hr
 ·cases hr
theorem mS:∀ {ps:List (Nat × Operand)} {qs:List (Nat × X)},j7 ps=some qs ->
  qs.length=ps.length∧∀ (j:Nat) (p:Nat × Operand) (q:Nat × X),ps[j]?=some p->qs[j]?=some q->p.1=q.1∧aA p.2=some q.2
 | [],qs,h=>by cases h;exact⟨rfl,fun j p q h=>by simp at h⟩
 | (i,x)::ps,qs,h=>by
  simp only[j7] at h;split at h
  ·rename_i y ys hy hys;cases h;have ih:=mS hys;refine⟨by simp[ih.1],fun j p q h1 h2=>?_⟩
   cases j with
   | zero=>simp at h1 h2;subst h1;subst h2;exact⟨rfl,hy⟩
   | succ j=>exact ih.2 j p q (by simpa using h1) (by simpa using h2)
  ·cases h
theorem RowsC.set {sz k:Nat} {rows:List (List D)} {ds:List D} {cs xs:List Value} (h:RowsC S w sz rows cs) (hk:k<rows.length) (hd:ds.length=sz) (hx:xs.length=sz)
  (hr:∀ (j:Nat) (d:D),ds[j]?=some d->∃ v,xs[j]?=some v∧RelD S w d v):RowsC S w sz (rows.set k ds) (cs.take (k*sz)++xs++cs.drop (k*sz+sz)):=by
 have hcap:(k+1)*sz<=rows.length*sz:=Nat.mul_le_mul_right _ hk;rw[Nat.add_mul,Nat.one_mul] at hcap;have hlen:=h.len;refine⟨by simp;omega,fun r hr=>?_,fun p j r d p1 p2=>?_⟩
 ·rcases List.mem_or_eq_of_mem_set hr with h'|h'
  ·exact h.row r h'
  ·rw[h',hd]
 ·have hget:∀ q,(cs.take (k*sz)++xs++cs.drop (k*sz+sz))[q]?=if q<k*sz then cs[q]? else if q<k*sz+sz then xs[q-k*sz]? else cs[q]?:=by
   intro q;have hmin:min (k*sz) cs.length=k*sz:=by omega
   rw[List.append_assoc,List.getElem?_append,List.length_take,hmin];split
   ·rename_i hq;rw[List.getElem?_take,if_pos hq]
   ·rename_i hq;rw[List.getElem?_append,hx];split
    ·rename_i hq2;rw[if_pos (by omega)]
    ·rename_i hq2;rw[if_neg (by omega),List.getElem?_drop]
     congr 1;omega
  rw[hget];have hj:j<sz:=by
   have h1:r.length=sz:=by
    rcases List.mem_or_eq_of_mem_set (List.mem_of_getElem? p1) with h'|h'
    ·exact h.row r h'
    ·rw[h',hd]
   have:=(List.getElem?_eq_some_iff.1 p2).1;omega
  by_cases hkp:k=p
  ·subst hkp;rw[List.getElem?_set_self hk] at p1;cases p1;rw[if_neg (by omega),if_pos (by omega),Nat.add_sub_cancel_left]
   exact hr j d p2
  ·rw[List.getElem?_set_ne hkp] at p1;obtain⟨v,hv,hrv⟩:=h.rel p j r d p1 p2;refine⟨v,?_,hrv⟩;rcases Nat.lt_or_gt_of_ne hkp with h'|h'
   ·have h2:(k+1)*sz<=p*sz:=Nat.mul_le_mul_right _ h';rw[Nat.add_mul,Nat.one_mul] at h2;rw[if_neg (by omega),if_neg (by omega)];exact hv
   ·have h2:(p+1)*sz<=k*sz:=Nat.mul_le_mul_right _ h';rw[Nat.add_mul,Nat.one_mul] at h2;rw[if_pos (by omega)];exact hv
theorem w8 {sz:Nat}:∀ (ps:List (Nat × Operand)) (qs:List (Nat × X)) (rows rows':List (List D)) (H H':Hp) (S:St) (cells:Array Value),
  (qs.length=ps.length∧∀ (j:Nat) (p:Nat × Operand) (q:Nat × X),ps[j]?=some p->qs[j]?=some q->p.1=q.1∧aA p.2=some q.2) ->
  kO fr sz rows qs H=some (rows',H')->Inv mu S TB w H->RelFr mu S w fr a->RowsC S w sz rows cells.toList ->
  ∃ cells' S',Instr.fill (fun i=>some (i*sz,sz)) cells (ps.map fun p=>(p.1,a.eval p.2))=some cells'∧Ext TB mu S w mu S' w∧Inv mu S' TB w H'∧RowsC S' w sz rows' cells'.toList∧rows'.length=rows.length
 | [],qs,rows,rows',H,H',S,cells,hq,he,hi,hf,hr=>by
  cases qs with
  | nil=>cases he;exact⟨cells,S,rfl,.refl _ _ _ _,hi,hr,rfl⟩
  | cons=>have:=hq.1;simp at this
 | (i,x)::ps,qs,rows,rows',H,H',S,cells,hq,he,hi,hf,hr=>by
  cases qs with
  | nil=>have:=hq.1;simp at this
  | cons q qs =>
   obtain⟨k,y⟩:=q;obtain⟨hik,hcx⟩:=hq.2 0 _ _ rfl rfl;simp only at hik hcx;subst hik;simp only[kO] at he;split at he
   ·rename_i v hv;split at he
    ·rename_i xs hxs;split at he
     ·rename_i ys H1 hfz;split at he
      ·rename_i ds hds;split at he
       ·rename_i hc;obtain⟨c1,c2⟩:=hc;have hvr:=rI hxs (aj hcx hf hv);obtain⟨S1,e1,i1,k1⟩:=qu hfz hi;have hyr:=k1 _ hvr;have hdl:=nj hds;have hxl:(a.eval x).cells.toList.length=sz:=by rw[hyr.1,<- hdl,c1]
        have hcap:(i+1)*sz<=rows.length*sz:=Nat.mul_le_mul_right _ c2;rw[Nat.add_mul,Nat.one_mul] at hcap;have hlen:=hr.len;have hone:=uf (cs:=cells) (off:=i*sz) (v:=a.eval x) rfl (by simp at hxl hlen ⊢;omega)
        have hset:=(hr.ext e1).set c2 c1 hxl (fun j d hj=>mZ hds hyr j d hj)
        have hrel':RowsC S1 w sz (rows.set i ds) (((a.eval x).cells.zipIdx.foldl (fun cs (c,j)=>cs.setIfInBounds (i*sz+j) c) cells).toList):=by
         rw[hone,hxl];exact hset
        obtain⟨cells',S',h1,h2,h3,h4,h5⟩:=w8 ps qs _ rows' H1 H' S1 _ ⟨by have:=hq.1;simpa using this,fun j p q h1 h2=>hq.2 (j+1) p q (by simpa using h1) (by simpa using h2)⟩ he i1 (hf.ext e1) hrel'
        refine⟨cells',S',?_,e1.trans h2,h3,h4,by simpa using h5⟩
        simp only[List.map_cons,Instr.fill];rw[if_neg (by simp at hxl hlen ⊢;omega)]
        exact h1
       ·cases he
      ·cases he
     ·cases he
    ·cases he
   ·cases he
theorem On {t e:TypeId} {n:Nat} {i:TypeInfo} {z:Value} {zr:List D} {ps:Array (Nat × Operand)} {qs:List (Nat × X)} (hop:o.op=.buildSlice t n ps) (ht:P.underlying t=some (.slice e)) (hinf:P.info? e=some i) (hz:i.zero=some z) (hzr:constDs z.cells.toList=some zr)
  (hqs:j7 ps.toList=some qs) (hle:n*i.size<=16777216) (hlen:zr.length=i.size) (hsz:0<i.size) (hi:Inv mu S TB w H) (hf:RelFr mu S w fr a)
  (hr:(A.bsl i.size (List.replicate n zr) qs).run φ fr H=some (v,H')):OpOK P o a mu S TB w v H':=by
 simp only[A.run] at hr;split at hr
 ·rename_i rows H1 hfl;cases hr;have hrc0:=w5 (S:=S) (w:=w) (n:=n) (c:=n) hzr hlen hsz (Nat.le_refl _);rw[List.take_of_length_le (by simp[size_madeCells])] at hrc0
  obtain⟨cells',S1,hfill,e1,i1,hrc,hl⟩:=w8 ps.toList qs _ rows H H1 S (madeCells z.cells (n*i.size)) (mS hqs) hfl hi hf hrc0;rw[List.length_replicate] at hl;have hcl:cells'.size=n*i.size:=by have:=hrc.len;rw[hl] at this;simpa using this
  obtain⟨mu',S',e2,i2,r2⟩:=i1.new_arr rows 0 cells'.toList cells' e (List.take_of_length_le (Nat.le_refl _)) hrc hcl (by omega) (by have:n<=n*i.size:=Nat.le_mul_of_pos_right _ hsz;simp only[maxLen];omega) hsz (Nat.zero_le _)
  rw[hl] at r2 ⊢;refine .of_value (x:=.slice (some ⟨w.heap.size,0,none⟩) n n) (w':=w.alloc (.cells cells' e)) ?_ (e1.trans e2) i2 r2;have hb:(Instr.buildSlice t n (ps.map fun(i,x)=>(i,a.eval x))).run P w=.ok (.slice (some ⟨w.heap.size,0,none⟩) n n) (w.alloc (.cells cells' e)):=by
   by_cases h0:n*i.size=0
   ·have hn:n=0:=by rcases Nat.mul_eq_zero.1 h0 with h|h <;> omega
    subst hn;have hmade:madeCells z.cells (0*i.size) = #[]:=by simp[madeCells]
    rw[hmade] at hfill;have hfill':Instr.fill (fun x=>some (x*i.size,i.size)) #[] (ps.toList.map fun x=>(x.fst,a.eval x.snd))=some cells':=hfill
    simp[Instr.buildSlice,run_underlying ht,sizeOf,typeInfo,hinf,newRow,Array.range_zero',hfill']
   ·exact run_buildSlice w t e n _ cells' i z ht hinf hz (by omega) h0 (by simpa[madeCells] using hfill)
  simp only[execOp,hop,Sem.run_bind,hb,Result.andThen,Sem.run_pure]
 ·cases hr
theorem A0:∀ (n:Nat) (zl:List L) (j:Nat),j<n*zl.length->(List.replicate n zl).flatten[j]?=zl[j % zl.length]?
 | 0,zl,j,h=>by simp at h
 | n+1,zl,j,h=>by
  rw[List.replicate_succ,List.flatten_cons,List.getElem?_append];split
  ·rename_i hj;rw[Nat.mod_eq_of_lt hj]
  ·rename_i hj;rw[Nat.add_mul,Nat.one_mul] at h;rw[A0 n zl _ (by omega),<- Nat.mod_eq_sub_mod (by omega)]
theorem Au (n:Nat) (zl:List L):(List.replicate n zl).flatten.length=n*zl.length:=by simp
theorem PD {t e:TypeId} {n:Nat} {i:TypeInfo} {z:Value} {zl:List L} {ps:Array (Nat × Operand)} {qs:List (Nat × Nat × X)} (hop:o.op=.buildSlice t n ps) (ht:P.underlying t=some (.slice e)) (hinf:P.info? e=some i) (hz:i.zero=some z) (hzr:gj z.cells.toList=some zl)
  (hqs:gq i.size ps.toList=some qs) (hle:n*i.size<=16777216) (hlen:zl.length=i.size) (hsz:0<i.size) (hn:0<n) (hi:Inv mu S TB w H) (hf:RelFr mu S w fr a)
  (hr:(A.bsp n (List.replicate n zl).flatten qs).run φ fr H=some (v,H')):OpOK P o a mu S TB w v H':=by
 simp only[A.run] at hr;split at hr
 ·rename_i l hl;split at hr
  ·rename_i cs hcs;cases hr;have hzc:=gA (mu:=mu) (S:=S) (w:=w) hzr;have hsize:z.cells.size=i.size:=by have:=hzc.1;simp at this;omega
   have hpos:0<n*i.size:=Nat.mul_pos hn hsz;have hrc0:RelLs mu S w (List.replicate n zl).flatten (madeCells z.cells (n*i.size)).toList:=by
    refine⟨by rw[Au];simp[size_madeCells,hlen],fun j x hj=>?_⟩
    have hjn:j<n*i.size:=by have:=(List.getElem?_eq_some_iff.1 hj).1;rw[Au,hlen] at this;exact this
    rw[A0 n zl j (by rw[hlen];exact hjn)] at hj
    obtain⟨v0,hv0,hr0⟩:=hzc.2 _ x hj;refine⟨v0,?_,hr0⟩;rw[Array.getElem?_toList,oC z.cells (n*i.size) j hjn (by omega),hsize,<- hlen,<- Array.getElem?_toList]
    exact hv0
   obtain⟨cells',hfill,hrel⟩:=qF (fun k=>some (k*i.size,i.size)) ps.toList qs l _ cs (madeCells z.cells (n*i.size)) (je i.size hqs) hl hcs hf hrc0
   obtain⟨mu',he,hi',hv⟩:=hi.new_cells cs cells' e hrel;obtain⟨l1,B1,g1,g2,g3⟩:=hv;have hB:B1=w.heap.size:=by cases g3;rfl
   subst hB;refine .of_value (x:=.slice (some ⟨w.heap.size,0,none⟩) n n) (w':=w.alloc (.cells cells' e)) ?_ he hi' ⟨l1,w.heap.size,g1,g2,rfl⟩;have hb:(Instr.buildSlice t n (ps.map fun(i,x)=>(i,a.eval x))).run P w=.ok (.slice (some ⟨w.heap.size,0,none⟩) n n) (w.alloc (.cells cells' e)) :=
    run_buildSlice w t e n _ cells' i z ht hinf hz (by omega) (by omega) (by simpa[madeCells] using hfill)
   simp only[execOp,hop,Sem.run_bind,hb,Result.andThen,Sem.run_pure]
  ·cases hr
 ·cases hr
theorem Qj {t e:TypeId} {n:Nat} {i:TypeInfo} {z:Value} {ps:Array (Nat × Operand)} {x:Operand} {x':X} (hop:o.op=.buildSlice t n ps) (ht:P.underlying t=some (.slice e)) (hinf:P.info? e=some i) (hz:i.zero=some z)
  (hps:ps.toList=[(0,x)]) (hn:n=1) (hsz:0<i.size) (hle:i.size<=16777216) (hzs:z.cells.size=i.size) (h1:aA x=some x') (hi:Inv mu S TB w H) (hf:RelFr mu S w fr a)
  (hr:(A.bs1 i.size x').run φ fr H=some (v,H')):OpOK P o a mu S TB w v H':=by
 subst hn;simp only[A.run] at hr;split at hr
 ·rename_i u hu;split at hr
  ·rename_i xs hxs;split at hr
   ·rename_i ds H1 hds;split at hr
    ·rename_i hlen;cases hr;have hvr:=rI hxs (aj h1 hf hu);obtain⟨S1,e1,i1,l1,r1⟩:=zd hds hi hvr;have hxl:(a.eval x).cells.size=i.size:=by have:=hvr.1;simp at this;omega
     have hone:=uf (cs:=madeCells z.cells (1*i.size)) (off:=0*i.size) (v:=a.eval x) rfl (by simp[size_madeCells];omega)
     have hcs:(((a.eval x).cells.zipIdx.foldl (fun cs (c,j)=>cs.setIfInBounds (0*i.size+j) c) (madeCells z.cells (1*i.size))).toList)=(a.eval x).cells.toList:=by
      rw[hone];simp[size_madeCells,hxl]
     generalize hC:((a.eval x).cells.zipIdx.foldl (fun cs (c,j)=>cs.setIfInBounds (0*i.size+j) c) (madeCells z.cells (1*i.size)))=C at hcs
     have hCx:C=(a.eval x).cells:=Array.ext' hcs;have hrc:RowsC S1 w i.size [ds] C.toList:=by
      rw[hcs];refine⟨by simp[hxl],fun r hr=>by simp at hr;subst hr;exact hlen,fun k j r d hk hj=>?_⟩
      cases k with
      | zero=>simp at hk;subst hk;simpa using r1 j d hj
      | succ k=>simp at hk
     obtain⟨mu',S',e2,i2,r2⟩:=i1.new_arr [ds] 0 C.toList C e (List.take_of_length_le (Nat.le_refl _)) hrc (cap:=1) (by rw[hCx];omega) (by simp) (by simp[maxLen]) hsz (Nat.zero_le _)
     refine .of_value (x:=.slice (some ⟨w.heap.size,0,none⟩) 1 1) (w':=w.alloc (.cells C e)) ?_ (e1.trans e2) i2 r2;have hfill:Instr.fill (fun k=>some (k*i.size,i.size)) (madeCells z.cells (1*i.size)) ((ps.map fun(i,x)=>(i,a.eval x)).toList)=some C:=by
      rw[Array.toList_map,hps];simp only[List.map_cons,List.map_nil,Instr.fill];rw[if_neg (by simp[size_madeCells,hxl])]
      rw[hC]
     have hb:(Instr.buildSlice t 1 (ps.map fun(i,x)=>(i,a.eval x))).run P w=.ok (.slice (some ⟨w.heap.size,0,none⟩) 1 1) (w.alloc (.cells C e)) :=
      run_buildSlice w t e 1 _ C i z ht hinf hz (by omega) (by omega) (by simpa[madeCells] using hfill)
     simp only[execOp,hop,Sem.run_bind,hb,Result.andThen,Sem.run_pure]
    ·cases hr
   ·cases hr
  ·cases hr
 ·cases hr
theorem Nc {t e:TypeId} {n:Nat} {inf:TypeInfo} {x:Operand} {x':X} (hop:o.op=.slice t x none none none) (ht:P.underlying t=some (.array n e)) (hinf:P.info? e=some inf) (hs1:inf.size=1)
  (h1:aA x=some x') (hi:Inv mu S TB w H) (hf:RelFr mu S w fr a) (hr:(A.slar n x').run φ fr H=some (v,H')):OpOK P o a mu S TB w v H':=by
 simp only[A.run] at hr;split at hr
 ·rename_i i hx;split at hr
  ·rename_i xs hb;split at hr
   ·rename_i ds hds;split at hr
    ·rename_i hc;obtain⟨hxl,hn0,hn⟩:=hc;cases hr;obtain⟨l,B,cur,el,hl,hB,hxe,hblk,hrel,hT,hS⟩:=uQ hi hb (aj h1 hf hx);have hcl:cur.size=n:=by have:=hrel.1;simp at this;omega
     have hdl:=nj hds;let l2:Loc:=⟨some B,1,n,n⟩
     have hext:Ext TB mu S w (cK mu H.length l2) S w:=⟨iD hi l2,fun _ _ h=>h,fun _ _ _ h=>h,fun _ _ _=>rfl,fun _ _=>rfl,Nat.le_refl _,rfl,rfl,rfl⟩
     have hbox:RelB (cK mu H.length l2) S TB w H.length (.arr 1 (ds.map fun d=>[d]) 0):=by
      refine⟨l2,bK _ _ _,.inl rfl,by simp[l2];omega,fun r hr=>by simp only[List.mem_map] at hr;obtain⟨d,_,rfl⟩:=hr;rfl,Nat.zero_le _,?_⟩
      refine⟨cur,el,(0,0),hblk,⟨by simp[l2,hcl],qZ _ _⟩,by simp[l2];omega,by simp[l2,maxLen];omega,by simp[l2],fun k j r d p1 p2=>?_,hT,fun q hq=>absurd hq (hS q),fun q hq=>by simp at hq⟩
      simp only[List.getElem?_map,Option.map_eq_some_iff] at p1;obtain⟨d',hd',rfl⟩:=p1;cases j with
      | succ j=>simp at p2
      | zero =>
       simp at p2;subst p2;obtain⟨u,hu,hru⟩:=mZ hds hrel k d' hd';exact⟨u,by simpa[l2] using hu,hru⟩
     have hs:(Instr.sliceAt t (.pointer (some ⟨B,0,none⟩)) none none none).run P w=.ok (.slice (some ⟨B,0,none⟩) n n) w:=by
      simp[Instr.sliceAt,Instr.sureAddr,Instr.sliceBounds,run_underlying ht,sizeOf,typeInfo,hinf,Nat.pos_iff_ne_zero.1 hn0,Addr.add_lit]
     refine .of_value (w':=w) (x:=.slice (some ⟨B,0,none⟩) n n) ?_ hext (hi.regrow hb rfl hl hB rfl hext (fun _ _=>rfl) rfl hbox) ?_
     ·simp only[execOp,hop,hxe,Sem.run_bind,Option.map_none,hs,Result.andThen,Sem.run_pure]
     ·exact⟨l2,bK _ _ _,rfl,by simp[l2],_,_,rfl,fun _=>rfl,fun _=>by simp,rfl,⟨_,rfl⟩,Nat.le_refl _⟩
    ·cases hr
   ·cases hr
  ·cases hr
 ·cases hr
def ph (rows:List (List UInt8 × Bool)) (k:List UInt8):Option (Nat × Bool):=match rows with
 | []=>none
 | r::t=>if r.1=k then some (0,r.2) else(ph t k).map fun p=>(p.1+1,p.2)
theorem AP:∀ (rows:List (List UInt8 × Bool)) (k:List UInt8),KK rows k=match ph rows k with|some p=>p.2|none=>false
 | [],k=>rfl
 | r::t,k=>by
  simp only[KK,ph];by_cases h:r.1=k
  ·rw[if_pos h,if_pos h]
  ·rw[if_neg h,if_neg h,AP t k];cases ph t k <;> rfl
theorem BL:∀ (rows:List (List UInt8 × Bool)) (k:List UInt8) (b:Bool),wu rows k b=match ph rows k with|some p=>rows.set p.1 (k,b)|none=>rows++[(k,b)]
 | [],k,b=>rfl
 | r::t,k,b=>by
  simp only[wu,ph];by_cases h:r.1=k
  ·rw[if_pos h,if_pos h];rfl
  ·rw[if_neg h,if_neg h,BL t k b];cases ph t k <;> rfl
theorem y8 (k:List UInt8):∀ (rows:List (List UInt8 × Bool)) (j i:Nat),Instr.findNow .string (.string ⟨k.toArray⟩) (iJ j rows) i=some ((ph rows k).map fun p=>(i+p.1,.bool p.2))
 | [],j,i=>rfl
 | r::t,j,i=>by
  have hb:Instr.sameNow .string (.string ⟨k.toArray⟩) (.string ⟨r.1.toArray⟩)=some (decide (r.1=k)):=by
   show some ((⟨k.toArray⟩:ByteArray) == ⟨r.1.toArray⟩)=_;congr 1
   by_cases h:r.1=k
   ·subst h;simp[MapKept.bytes_beq]
   ·rw[decide_eq_false h];cases hh:((⟨k.toArray⟩:ByteArray) == ⟨r.1.toArray⟩) with
    | false=>rfl
    | true =>
     have:=(MapKept.bytes_beq _ _).1 hh;refine absurd ?_ h;have h2:k.toArray=r.1.toArray:=congrArg ByteArray.data this;have h3:=congrArg Array.toList h2;simpa using h3.symm
  simp only[iJ,Instr.findNow,hb,ph];by_cases h:r.1=k
  ·rw[decide_eq_true h,if_pos h];rfl
  ·rw[decide_eq_false h,if_neg h];simp only[y8 k t (j+1) (i+1),Option.map_map];congr 2
   funext p
   simp only[Function.comp_apply,Prod.mk.injEq,and_true];omega
theorem xc (k:List UInt8) (b:Bool):∀ (rows:List (List UInt8 × Bool)) (j p:Nat),(iJ j rows).modify p (fun e=>{ e with key:=.string ⟨k.toArray⟩,val:=.bool b })=iJ j (rows.set p (k,b))
 | [],j,p=>by cases p <;> rfl
 | r::t,j,0=>rfl
 | r::t,j,p+1=>by
  show _::(iJ (j+1) t).modify p _=_::_;rw[xc k b t (j+1) p]
theorem E0 (k:List UInt8) (b:Bool):∀ (rows:List (List UInt8 × Bool)) (j:Nat),iJ j rows++[⟨.string ⟨k.toArray⟩,.bool b,j+rows.length⟩]=iJ j (rows++[(k,b)])
 | [],j=>rfl
 | r::t,j=>by
  have h:=E0 k b t (j+1);show _::(iJ (j+1) t++_)=_::iJ (j+1) (t++[(k,b)]);rw[<- h];congr 4
  simp;omega
theorem Ij:∀ (rows:List (List UInt8 × Bool)) (j p:Nat) (k:List UInt8) (b:Bool),ph rows k=some (p,b)->∃ e,(iJ j rows)[p]?=some e∧e.key=.string ⟨k.toArray⟩
 | [],j,p,k,b,h=>by cases h
 | r::t,j,p,k,b,h=>by
  simp only[ph] at h;split at h
  ·rename_i hr;cases h;exact⟨_,rfl,by rw[<- hr]⟩
  ·obtain⟨q,hq,he⟩:=Option.map_eq_some_iff.1 h;cases he;obtain⟨e,h1,h2⟩:=Ij t (j+1) q.1 k q.2 (by rw[hq])
   exact⟨e,by simpa[iJ] using h1,h2⟩
theorem BR {t:TypeId} (h:vv P t=true):∃ k e i,P.underlying t=some (.map k e)∧P.underlying k=some .string∧P.info? e=some i∧i.zero=some (.bool false):=by
 unfold vv at h;split at h
 ·rename_i k e h1;split at h
  ·rename_i i h2 h3;split at h
   ·rename_i h4;exact⟨k,e,i,h1,h2,h3,h4⟩
   ·cases h
  ·cases h
 ·cases h
theorem yb {ks:List UInt8} {x:Value} (h:RelL mu S w (.d (.s ks)) x):x=.string ⟨ks.toArray⟩:=by cases h;rfl
theorem IP {b:Bool} {x:Value} (h:RelL mu S w (.d (.b b)) x):x=.bool b:=by cases h;rfl
theorem IC {i:Nat} {rows:List (List UInt8 × Bool)} {x:Value} (hi:Inv mu S TB w H) (hb:H[i]?=some (.mp rows)) (hx:RelL mu S w (.m i) x) :
  ∃ l B,mu i=some l∧l.blk=some B∧x=.map (some B)∧w.heap[B]?=some (.map (lU rows) rows.length)∧¬ TB B∧(∀ o,¬ S B o):=by
 obtain⟨l,B,h1,h2,h3⟩:=hx;obtain⟨l',B',g1,g2,g3,g4,g5⟩:=hi.box i _ l hb h1;rw[h1] at g1;cases g1;rw[h2] at g2;cases g2;exact⟨l,B,h1,h2,h3,g3,g4,g5⟩
theorem Pk {t:TypeId} (hop:o.op=.makeMap t none) (hi:Inv mu S TB w H) (hr:A.mkm.run φ fr H=some (v,H')):OpOK P o a mu S TB w v H':=by
 simp only[A.run] at hr;cases hr;have hl:(cK mu H.length ⟨some w.heap.size,0,0,0⟩) H.length=some ⟨some w.heap.size,0,0,0⟩:=bK _ _ _;have he:=ol hi (.map #[] 0) ⟨some w.heap.size,0,0,0⟩;refine .of_value (w':=w.alloc (.map #[] 0)) (x:=.map (some w.heap.size)) ?_ he (hi.new (.map #[] 0) ⟨some w.heap.size,0,0,0⟩ (.mp []) (fun B h=>by cases h;rfl) ?_) ⟨_,_,hl,rfl,rfl⟩
 ·simp only[execOp,hop,Instr.makeMap,Sem.run_bind,Result.andThen,Sem.run_pure];rfl
 ·exact⟨_,_,hl,rfl,Hz w _,fun h=>Nat.lt_irrefl _ (hi.tl _ h),fun o h=>Nat.lt_irrefl _ (hi.sl _ _ h)⟩
theorem HP (hi:Inv mu S TB w H) {B:Nat} (hT:¬ TB B) (hS:∀ o,¬ S B o) (ob:Obj):Ext TB mu S w mu S { w with heap:=w.heap.setIfInBounds B ob }:=by
 have hne:∀ b,b≠B->(w.heap.setIfInBounds B ob)[b]?=w.heap[b]?:=fun b h=>by
  rw[Array.getElem?_setIfInBounds,if_neg (fun e=>h e.symm)]
 refine⟨fun _ _ h=>h,fun _ _ h=>h,fun _ _ _ h=>h,fun b q h=>f9 (hne b (fun e=>hS q (e ▸ h))),fun b h=>hne b (fun e=>hT (e ▸ h)),by simp,rfl,rfl,rfl⟩
theorem E4 {t:TypeId} {m k x:Operand} {m' k' x':X} (hop:o.op=.mapUpdate t m k x∨o.op=.insert t m k x) (ht:vv P t=true) (h1:aA m=some m') (h2:aA k=some k') (h3:aA x=some x') (hi:Inv mu S TB w H) (hf:RelFr mu S w fr a)
  (hr:(A.mset m' k' x').run φ fr H=some (v,H')):OpOK P o a mu S TB w v H':=by
 simp only[A.run] at hr;split at hr
 ·rename_i i ks b hm hk hx;split at hr
  ·rename_i rows hb;cases hr;obtain⟨kt,et,inf,hu,hku,heu,hz⟩:=BR ht;obtain⟨l,B,hl,hB,hme,hblk,hT,hS⟩:=IC hi hb (aj h1 hf hm);have hke:a.eval k=.string ⟨ks.toArray⟩:=yb (mu:=mu) (S:=S) (w:=w) (aj h2 hf hk);have hxe:a.eval x=.bool b:=IP (mu:=mu) (S:=S) (w:=w) (aj h3 hf hx);have hK:MapKept.IsKey .string (.string ⟨ks.toArray⟩):=trivial;have hfn:Instr.findNow .string (.string ⟨ks.toArray⟩) (lU rows).toList 0=some ((ph rows ks).map fun p=>(0+p.1,.bool p.2)):=y8 ks rows 0 0
   have hrun:(Instr.mapUpdate t (.map (some B)) (.string ⟨ks.toArray⟩) (.bool b)).run P w=.ok () { w with heap:=w.heap.setIfInBounds B (.map (lU (wu rows ks b)) (wu rows ks b).length) }:=by
    rw[BL];cases hix:ph rows ks with
    | none =>
     rw[hix] at hfn;have he:(lU rows).push ⟨.string ⟨ks.toArray⟩,.bool b,rows.length⟩=lU (rows++[(ks,b)]):=by
      apply Array.toList_inj.1;rw[Array.toList_push];have:=E0 ks b rows 0;rw[Nat.zero_add] at this;exact this
     simp[Instr.mapUpdate,run_underlying hu,MapKept.run_getObj_map hblk,MapKept.run_checkKey hku hK,MapKept.run_findKey hku hfn,MapKept.run_setObj_map _ hblk,Result.andThen,he]
    | some p =>
     rw[hix] at hfn;obtain⟨q,c⟩:=p;obtain⟨e,hq,hek⟩:=Ij rows 0 q ks c hix;have hj:(lU rows)[q]?=some e:=by unfold lU;simpa using hq
     have he:(lU rows).modify q (fun e=>{ e with key:=.string ⟨ks.toArray⟩,val:=.bool b })=lU (rows.set q (ks,b)):=by
      apply Array.toList_inj.1;rw[Array.toList_modify];exact xc ks b rows 0 q
     simp only[Nat.zero_add,Option.map_some] at hfn;simp[Instr.mapUpdate,run_underlying hu,MapKept.run_getObj_map hblk,MapKept.run_checkKey hku hK,MapKept.run_findKey hku hfn,hj,hek,MapKept.run_keyThatStays hK,MapKept.run_setObj_map _ hblk,Result.andThen,he]
   have hext:=HP hi hT hS (.map (lU (wu rows ks b)) (wu rows ks b).length);refine .of_skip (w':={ w with heap:=w.heap.setIfInBounds B (.map (lU (wu rows ks b)) (wu rows ks b).length) }) ?_ hext ?_
   ·rcases hop with hop|hop
    ·simp only[execOp,hop,hme,hke,hxe,Sem.run_bind,hrun,Result.andThen,Sem.run_pure]
    ·simp only[execOp,hop,hme,hke,hxe,Sem.run_bind,hrun,Result.andThen,Sem.run_pure]
   ·refine hi.put hext ⟨_,hb,rfl⟩ hl hB (fun q hq=>by show(w.heap.setIfInBounds B _)[q]?=_;rw[Array.getElem?_setIfInBounds,if_neg (fun e=>hq e.symm)]) (fun _ _ _ h=>h) (by simp) ?_
    refine⟨l,B,hl,hB,?_,hT,hS⟩;have hlt:=hi.old i l B hl hB;show(w.heap.setIfInBounds B _)[B]?=_;rw[Array.getElem?_setIfInBounds,if_pos rfl,if_pos hlt]
  ·cases hr
 ·cases hr
theorem LW {t:TypeId} {m k:Operand} {m' k':X} (hop:o.op=.lookup t m k false) (ht:vv P t=true) (h1:aA m=some m') (h2:aA k=some k') (hi:Inv mu S TB w H) (hf:RelFr mu S w fr a)
  (hr:(A.mget m' k').run φ fr H=some (v,H')):OpOK P o a mu S TB w v H':=by
 obtain⟨kt,et,inf,hu,hku,heu,hz⟩:=BR ht;simp only[A.run] at hr;split at hr
 ·rename_i ks hm hk;cases hr;have hme:a.eval m=.map none:=aj h1 hf hm;have hke:a.eval k=.string ⟨ks.toArray⟩:=yb (mu:=mu) (S:=S) (w:=w) (aj h2 hf hk);have hK:MapKept.IsKey .string (.string ⟨ks.toArray⟩):=trivial;have hfn:Instr.findNow .string (.string ⟨ks.toArray⟩) [] 0=some none:=rfl;refine .of_same (x:=.bool false) ?_ hi (.b _);simp[execOp,hop,hme,hke,Instr.lookup,run_underlying hu,MapKept.run_checkKey hku hK,MapKept.run_findKey hku hfn,Result.andThen,zeroValue,run_typeInfo w heu,hz]
 ·rename_i i ks hm hk;split at hr
  ·rename_i rows hb;cases hr;obtain⟨l,B,hl,hB,hme,hblk,hT,hS⟩:=IC hi hb (aj h1 hf hm);have hke:a.eval k=.string ⟨ks.toArray⟩:=yb (mu:=mu) (S:=S) (w:=w) (aj h2 hf hk);have hK:MapKept.IsKey .string (.string ⟨ks.toArray⟩):=trivial;have hfn:Instr.findNow .string (.string ⟨ks.toArray⟩) (lU rows).toList 0=some ((ph rows ks).map fun p=>(0+p.1,.bool p.2)):=y8 ks rows 0 0
   refine .of_same (x:=.bool (KK rows ks)) ?_ hi (.b _);rw[AP];cases hix:ph rows ks with
   | none =>
    rw[hix] at hfn;simp[execOp,hop,hme,hke,Instr.lookup,run_underlying hu,MapKept.run_getObj_map hblk,MapKept.run_checkKey hku hK,MapKept.run_findKey hku hfn,Result.andThen,zeroValue,run_typeInfo w heu,hz]
   | some p =>
    rw[hix] at hfn;simp[execOp,hop,hme,hke,Instr.lookup,run_underlying hu,MapKept.run_getObj_map hblk,MapKept.run_checkKey hku hK,MapKept.run_findKey hku hfn,Result.andThen]
  ·cases hr
 ·cases hr
end
end Go.Vi
