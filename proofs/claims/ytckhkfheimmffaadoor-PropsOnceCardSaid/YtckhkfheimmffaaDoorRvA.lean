/- A typed interpreter of the program's code, and that it is sound; part 1. -/
import Derived.Below
import Derived.WalkKit
import Derived.Laws.AppendOwn
set_option linter.unusedSimpArgs false
set_option linter.unusedVariables false
set_option maxRecDepth 100000
namespace Go.Rv
open Go.RowKit
inductive PV where
 | lit (v:Value)
 | sl (sz:Nat) (rows:List (List PV))
inductive AV where
 | pv (p:PV)
 | own (sz:Nat) (rows:List (List PV))
 | ref (id off:Nat)
 | eref (row:List PV) (off:Nat)
 | view (id off len sz:Nat)
 | agg (cells:List AV)
 | tup (vs:List AV)
 | clo (fn:Fn) (first captured:List AV)
 | junk
abbrev Env:=List (Nat × AV)
abbrev Heap:=List (List AV)
structure St where
 env:Env
 heap:Heap
def AV.i (k:IntKind) (n:Int):AV:=.pv (.lit (.int k n))
def AV.b (b:Bool):AV:=.pv (.lit (.bool b))
def AV.s (s:ByteArray):AV:=.pv (.lit (.string s))
def AV.nilS:AV:=.pv (.lit (.slice none 0 0))
def AV.nilP:AV:=.pv (.lit (.pointer none))
def lk:Env->Nat->AV
 | [],_=>.junk
 | (k,v)::e,t=>if k=t then v else lk e t
def rm:Env->Nat->Env
 | [],_=>[]
 | (k,v)::e,t=>if k=t then rm e t else (k,v)::rm e t
def put:Env->Nat->AV->Env
 | [],t,v=>[(t,v)]
 | (k,x)::e,t,v=>if t < k then (t,v)::(k,x)::e else if k=t then (t,v)::e else (k,x)::put e t v
mutual
def strip:AV->AV
 | .own z rows=>.pv (.sl z rows)
 | .agg cs=>.agg (yv26 cs)
 | .tup cs=>.tup (yv26 cs)
 | .pv p=>.pv p
 | .ref i o=>.ref i o
 | .eref r o=>.eref r o
 | .view i o n z=>.view i o n z
 | .clo f a c=>.clo f a c
 | .junk=>.junk
def yv26:List AV->List AV
 | []=>[]
 | a::l=>strip a::yv26 l
end
inductive Arg where
 | v (t:Nat)
 | m (t:Nat)
 | c (t i:Nat)
 | k (a:AV)
def yv85:List AV->Nat->AV->List AV
 | [],_,_=>[]
 | _::l,0,v=>v::l
 | x::l,n + 1,v=>x::yv85 l n v
def nth:List AV->Nat->Option AV
 | [],_=>none
 | x::_,0=>some x
 | _::l,n + 1=>nth l n
def rdA:Env->Arg->AV × Env
 | e,.v t=>(strip (lk e t),e)
 | e,.m t=>(lk e t,rm e t)
 | e,.c t i=>match lk e t with
  | .tup vs=>((nth vs i).getD .junk,put e t (.tup (yv85 vs i .junk)))
  | _=>(.junk,e)
 | e,.k a=>(a,e)
def rdAs:Env->List Arg->List AV × Env
 | e,[]=>([],e)
 | e,x::xs=>let r:=rdA e x;let q:=rdAs r.2 xs;(r.1::q.1,q.2)
def pvs:List AV->Option (List PV)
 | []=>some []
 | .pv p::l=>(pvs l).map (p::·)
 | _::_=>none
def yv253 (a:AV):Option (List PV) :=
 match strip a with
 | .pv p=>some [p]
 | .agg cs=>pvs cs
 | _=>none
def cellsOf:AV->List AV
 | .agg cs=>yv26 cs
 | a=>[a]
def isR0:AV->Bool
 | .pv _|.ref _ _|.eref _ _|.view _ _ _ _=>true
 | _=>false
def yv218:AV->Bool
 | .tup _=>false
 | .junk=>false
 | _=>true
def yv93 (sz:Nat):AV->Option (List (List PV))
 | .pv (.sl z rows)=>if z=sz then some rows else none
 | .own z rows=>if z=sz then some rows else none
 | .pv (.lit (.slice none 0 0))=>some []
 | _=>none
def lenOf:AV->Option Nat
 | .pv (.sl _ rows)=>some rows.length
 | .own _ rows=>some rows.length
 | .pv (.lit (.slice none 0 0))=>some 0
 | .view _ _ n _=>some n
 | _=>none
def yv94 (l:List AV) (off:Nat) (cs:List AV):List AV:=l.take off++cs++l.drop (off + cs.length)
def hset:Heap->Nat->List AV->Heap
 | [],_,_=>[]
 | _::h,0,o=>o::h
 | x::h,n + 1,o=>x::hset h n o
def hget:Heap->Nat->List AV
 | [],_=>[]
 | x::_,0=>x
 | _::h,n + 1=>hget h n
def yv5 (b:UInt8):List PV:=[.lit (.int .u8 b.toNat)]
def yv18 (l:List UInt8):List (List PV):=l.map yv5
def yv510:List PV->Option UInt8
 | [.lit (.int .u8 n)]=>some (UInt8.ofNat n.toNat)
 | _=>none
def yv29:List (List PV)->Option (List UInt8)
 | []=>some []
 | r::rs=>match yv510 r,yv29 rs with
  | some b,some l=>some (b::l)
  | _,_=>none
def intV (o:BinOp) (k:IntKind) (a b:Int):Option AV :=
 match o with
 | .add=>some (.i k (k.wrap (a + b)))
 | .sub=>some (.i k (k.wrap (a - b)))
 | .mul=>some (.i k (k.wrap (a * b)))
 | .quo=>if b=0 then none else some (.i k (k.wrap (a.tdiv b)))
 | .rem=>if b=0 then none else some (.i k (a.tmod b))
 | .and=>some (.i k (k.wrap ((BitVec.ofInt k.bits a &&& BitVec.ofInt k.bits b).toNat)))
 | .or=>some (.i k (k.wrap ((BitVec.ofInt k.bits a ||| BitVec.ofInt k.bits b).toNat)))
 | .xor=>some (.i k (k.wrap ((BitVec.ofInt k.bits a ^^^ BitVec.ofInt k.bits b).toNat)))
 | .andNot=>some (.i k (k.wrap ((BitVec.ofInt k.bits a &&& ~~~ BitVec.ofInt k.bits b).toNat)))
 | .eql=>some (.b (a == b))
 | .neq=>some (.b (a != b))
 | .lss=>some (.b (decide (a < b)))
 | .leq=>some (.b (decide (a ≤ b)))
 | .gtr=>some (.b (decide (a > b)))
 | .geq=>some (.b (decide (a ≥ b)))
 | _=>none
def yv120 (o:BinOp) (k:IntKind) (a y:Int):Option AV :=
 if y < 0 then none else
 match o with
 | .shl=>some (.i k (k.wrap (a * 2 ^ (min y.toNat k.bits))))
 | .shr=>some (.i k (a.fdiv (2 ^ (min y.toNat k.bits))))
 | _=>none
def yv1:BinOp->Bool
 | .shl|.shr=>true
 | _=>false
def strV (o:BinOp) (x y:ByteArray):Option AV :=
 match o with
 | .add=>if x.size + y.size ≤ 9223372036854775807 then some (.s (x++y)) else none
 | .eql=>some (.b (decide (x=y)))
 | .neq=>some (.b (!(decide (x=y))))
 | _=>none
inductive ET where
 | b|i|s|p|sl|f
 deriving DecidableEq
def yv58 (t:ET) (x y:AV):Option Bool :=
 match t with
 | .b=>match x,y with
  | .pv (.lit (.bool a)),.pv (.lit (.bool b))=>some (a == b)
  | _,_=>none
 | .i=>match x,y with
  | .pv (.lit (.int k a)),.pv (.lit (.int k' b))=>if k=k' then some (a == b) else none
  | _,_=>none
 | .s=>match x,y with
  | .pv (.lit (.string a)),.pv (.lit (.string b))=>some (decide (a=b))
  | _,_=>none
 | .p=>match x,y with
  | .pv (.lit (.pointer none)),.pv (.lit (.pointer none))=>some true
  | .ref _ _,.pv (.lit (.pointer none))=>some false
  | .pv (.lit (.pointer none)),.ref _ _=>some false
  | _,_=>none
 | .sl=>match x,y with
  | .pv (.lit (.slice none 0 0)),.pv (.lit (.slice none 0 0))=>some true
  | .pv (.sl _ _),.pv (.lit (.slice none 0 0))=>some false
  | .view _ _ _ _,.pv (.lit (.slice none 0 0))=>some false
  | _,_=>none
 | .f=>match x,y with
  | .pv (.lit .nilFunc),.pv (.lit .nilFunc)=>some true
  | .clo _ _ _,.pv (.lit .nilFunc)=>some false
  | _,_=>none
def yv15:List ET->List AV->List AV->Option Bool
 | [],[],[]=>some true
 | t::ts,a::as,b::bs=>match yv58 t a b with
  | some true=>yv15 ts as bs
  | some false=>some false
  | none=>none
 | _,_,_=>none
def binV (o:BinOp) (t:ET) (x y:AV):Option AV :=
 match x,y with
 | .pv (.lit (.int k a)),.pv (.lit (.int k' b)) =>
  if yv1 o then yv120 o k a b else if k=k' then intV o k a b else none
 | .pv (.lit (.string a)),.pv (.lit (.string b))=>strV o a b
 | x,y=>match o with
  | .eql=>(yv58 t x y).map AV.b
  | .neq=>(yv58 t x y).map fun r=>AV.b (!r)
  | _=>none
def unV (o:UnOp) (x:AV):Option AV :=
 match o,x with
 | .not,.pv (.lit (.bool b))=>some (.b (!b))
 | .neg,.pv (.lit (.int k n))=>some (.i k (k.wrap (0 - n)))
 | _,_=>none
inductive POp where
 | mv
 | pick
 | alloc (zs:List AV)
 | box
 | build (zs:List AV) (offs:List (Nat × Nat))
 | bslice (sz n:Nat) (zs:List PV) (idx:List Nat)
 | load (n:Option Nat)
 | loadm
 | store (n:Nat)
 | nilck
 | bin (o:BinOp) (t:ET)
 | eqs (neg:Bool) (ts:List ET)
 | un (o:UnOp)
 | cint (k:IntKind)
 | s2b
 | b2s
 | cid
 | mkf (fn:Fn) (nf:Nat)
 | mksl (sz bytes:Nat) (zs:List AV)
 | sstr (lo hi:Bool)
 | ssl (sz:Nat) (lo hi:Bool)
 | fa (off:Nat)
 | fld (off:Nat) (n:Option Nat)
 | ia (sz:Nat)
 | iarr (len sz:Nat)
 | sidx
 | aidx (len sz:Nat) (n:Option Nat)
 | ext (i:Nat)
 | extm
 | len
 | lens
 | lena (n:Nat)
 | min
 | max
 | app (sz bytes:Nat)
 | appv (sz bytes:Nat)
 | sarr (n:Nat)
 | b2v
 | apps
 | call (f:Option FuncId)
def room:Nat:=140737488355328
def yv173:List AV->List (Nat × Nat)->List AV->Option (List AV)
 | cs,[],[]=>some cs
 | cs,(off,sz)::offs,a::as =>
  if yv218 a∧(cellsOf (strip a)).length=sz∧off + sz ≤ cs.length then yv173 (yv94 cs off (cellsOf (strip a))) offs as else none
 | _,_,_=>none
def setRow:List (List PV)->Nat->List PV->List (List PV)
 | [],_,_=>[]
 | _::l,0,r=>r::l
 | x::l,n + 1,r=>x::setRow l n r
def rowsL (sz:Nat):List (List PV)->List Nat->List AV->Option (List (List PV))
 | rows,[],[]=>some rows
 | rows,i::is,a::as=>match yv253 a with
  | some r=>if r.length=sz∧i < rows.length then rowsL sz (setRow rows i r) is as else none
  | none=>none
 | _,_,_=>none
def rep (n:Nat) (cs:List AV):List AV:=(List.replicate n cs).flatten
def yv50 (n:Nat) (lo hi:Bool) (is:List AV):Option (Nat × Nat) :=
 match lo,hi,is with
 | false,false,[]=>some (0,n)
 | true,false,[.pv (.lit (.int _ l))]=>if 0 ≤ l∧l ≤ n then some (l.toNat,n) else none
 | false,true,[.pv (.lit (.int _ h))]=>if 0 ≤ h∧h ≤ n then some (0,h.toNat) else none
 | true,true,[.pv (.lit (.int _ l)),.pv (.lit (.int _ h))]=>if 0 ≤ l∧l ≤ h∧h ≤ n then some (l.toNat,h.toNat) else none
 | _,_,_=>none
def appR (sz bytes:Nat) (x:AV) (rows':List (List PV)):Option AV :=
 match x with
 | .own z rows =>
  if z=sz∧(rows.length + rows'.length) * bytes ≤ room∧rows.length + rows'.length ≤ room then some (.own z (rows++rows')) else none
 | .pv (.lit (.slice none 0 0))=>match rows' with
  | []=>some .nilS
  | r::rs=>if (rs.length + 1) * bytes ≤ room∧rs.length + 1 ≤ room then some (.own sz (r::rs)) else none
 | .pv (.sl z rows)=>match rows' with
  | []=>some (.pv (.sl z rows))
  | _=>none
 | _=>none
def yv144:List AV->Option (List UInt8)
 | []=>some []
 | .pv (.lit (.int .u8 n))::l=>(yv144 l).map fun r=>UInt8.ofNat n.toNat::r
 | _=>none
def POp.ev (op:POp) (as:List AV) (h:Heap):Option (AV × Heap) :=
 match op with
 | .mv=>match as with
  | [a]=>some (a,h)
  | _=>none
 | .pick=>match as with
  | [.pv (.lit (.bool c)),a,b]=>some (if c then a else b,h)
  | _=>none
 | .alloc zs=>some (.ref h.length 0,h++[zs])
 | .box=>match as with
  | [a]=>if yv218 a then some (.ref h.length 0,h++[cellsOf (strip a)]) else none
  | _=>none
 | .build zs offs=>(yv173 zs offs as).map fun cs=>(.agg cs,h)
 | .bslice sz n zs idx=>(rowsL sz (List.replicate n zs) idx as).map fun rows=>(.own sz rows,h)
 | .load n=>match as with
  | [.ref id off]=>match n with
   | none=>(nth (hget h id) off).map fun c=>(strip c,h)
   | some k=>if off + k ≤ (hget h id).length then some (.agg (yv26 (((hget h id).drop off).take k)),h) else none
  | [.eref row off]=>match n with
   | none=>(row[off]?).map fun c=>(.pv c,h)
   | some k=>if off + k ≤ row.length then some (.agg (((row.drop off).take k).map AV.pv),h) else none
  | _=>none
 | .loadm=>match as with
  | [.ref id off]=>(nth (hget h id) off).map fun c=>(c,hset h id (yv85 (hget h id) off .junk))
  | _=>none
 | .store n=>match as with
  | [.ref id off,a] =>
   if yv218 a∧(cellsOf a).length=n∧off + n ≤ (hget h id).length then some (.junk,hset h id (yv94 (hget h id) off (cellsOf a))) else none
  | _=>none
 | .nilck=>match as with
  | [.ref id off]=>some (.ref id off,h)
  | [.eref r off]=>some (.eref r off,h)
  | _=>none
 | .bin o t=>match as with
  | [x,y]=>(binV o t x y).map fun r=>(r,h)
  | _=>none
 | .eqs neg ts=>match as with
  | [.agg as,.agg bs]=>(yv15 ts as bs).map fun r=>(.b (if neg then !r else r),h)
  | _=>none
 | .un o=>match as with
  | [x]=>(unV o x).map fun r=>(r,h)
  | _=>none
 | .cint k=>match as with
  | [.pv (.lit (.int _ n))]=>some (.i k (k.wrap n),h)
  | _=>none
 | .s2b=>match as with
  | [.pv (.lit (.string s))]=>if s.size ≤ room then some (.pv (.sl 1 (yv18 s.data.toList)),h) else none
  | _=>none
 | .b2s=>match as with
  | [a]=>match yv93 1 a with
   | some rows=>(yv29 rows).map fun l=>(.s ⟨l.toArray⟩,h)
   | none=>none
  | _=>none
 | .cid=>match as with
  | [.pv (.lit (.string s))]=>some (.s s,h)
  | _=>none
 | .mkf fn nf=>if as.all isR0 then some (.clo fn (as.take nf) (as.drop nf),h) else none
 | .mksl sz bytes zs=>match as with
  | [.pv (.lit (.int _ l)),.pv (.lit (.int _ c))] =>
   if l=c∧0 ≤ l∧l * bytes ≤ room∧l ≤ room∧zs.length=sz then some (.view h.length 0 l.toNat sz,h++[rep l.toNat zs]) else none
  | _=>none
 | .sstr lo hi=>match as with
  | .pv (.lit (.string s))::is=>(yv50 s.size lo hi is).map fun r=>(.s (s.extract r.1 r.2),h)
  | _=>none
 | .ssl sz lo hi=>match as with
  | .pv (.lit (.slice none 0 0))::is=>(yv50 0 lo hi is).map fun _=>(.nilS,h)
  | .pv (.sl z rows)::is=>if z=sz then (yv50 rows.length lo hi is).map fun r=>(.pv (.sl z ((rows.take r.2).drop r.1)),h) else none
  | .view id off n z::is=>if z=sz then (yv50 n lo hi is).map fun r=>(.view id (off + r.1 * sz) (r.2 - r.1) z,h) else none
  | _=>none
 | .fa off=>match as with
  | [.ref id o]=>some (.ref id (o + off),h)
  | [.eref r o]=>some (.eref r (o + off),h)
  | _=>none
 | .fld off n=>match as with
  | [.agg cs]=>match n with
   | none=>(nth cs off).map fun c=>(strip c,h)
   | some k=>if off + k ≤ cs.length then some (.agg (yv26 ((cs.drop off).take k)),h) else none
  | _=>none
 | .ia sz=>match as with
  | [.pv (.sl z rows),.pv (.lit (.int _ i))] =>
   if z=sz∧0 ≤ i then match rows[i.toNat]? with
    | some r=>some (.eref r 0,h)
    | none=>none
   else none
  | [.view id off n _,.pv (.lit (.int _ i))]=>if 0 ≤ i∧i < n then some (.ref id (off + i.toNat * sz),h) else none
  | _=>none
 | .iarr ln sz=>match as with
  | [.ref id off,.pv (.lit (.int _ i))]=>if 0 ≤ i∧i < ln then some (.ref id (off + i.toNat * sz),h) else none
  | [.eref row off,.pv (.lit (.int _ i))]=>if 0 ≤ i∧i < ln then some (.eref row (off + i.toNat * sz),h) else none
  | _=>none
 | .sidx=>match as with
  | [.pv (.lit (.string s)),.pv (.lit (.int _ i))]=>if 0 ≤ i then (s.data.toList[i.toNat]?).map fun b=>(.i .u8 b.toNat,h) else none
  | _=>none
 | .aidx ln sz n=>match as with
  | [.agg cs,.pv (.lit (.int _ i))] =>
   if 0 ≤ i∧i < ln then match n with
    | none=>(nth cs (i.toNat * sz)).map fun c=>(strip c,h)
    | some k=>if i.toNat * sz + k ≤ cs.length then some (.agg (yv26 ((cs.drop (i.toNat * sz)).take k)),h) else none
   else none
  | _=>none
 | .ext i=>match as with
  | [.tup vs]=>(nth vs i).map fun a=>(a,h)
  | _=>none
 | .lens=>match as with
  | [.pv (.lit (.string s))]=>some (.i .i64 s.size,h)
  | _=>none
 | .extm=>match as with
  | [.junk]=>none
  | [a]=>some (a,h)
  | _=>none
 | .len=>match as with
  | [a]=>match lenOf a with
   | some n=>some (.i .i64 (n:Int),h)
   | none=>none
  | _=>none
 | .lena n=>some (.i .i64 n,h)
 | .min=>match as with
  | [.pv (.lit (.int k a)),.pv (.lit (.int _ b))]=>some (.i k (if b < a then b else a),h)
  | _=>none
 | .max=>match as with
  | [.pv (.lit (.int k a)),.pv (.lit (.int _ b))]=>some (.i k (if b > a then b else a),h)
  | _=>none
 | .app sz bytes=>match as with
  | [x,y]=>match yv93 sz y with
   | some rows'=>(appR sz bytes x rows').map fun r=>(r,h)
   | none=>none
  | _=>none
 | .sarr n=>match as with
  | [.ref id off]=>some (.view id off n 0,h)
  | _=>none
 | .b2v=>match as with
  | [.view id off n _]=>if off + n ≤ (hget h id).length then (yv144 (((hget h id).drop off).take n)).map fun l=>(.s ⟨l.toArray⟩,h) else none
  | _=>none
 | .appv sz bytes=>match as with
  | [.own z [],y]=>match yv93 sz y with
   | some rows'=>if z=sz∧rows'.length * bytes ≤ room∧rows'.length ≤ room then some (.view h.length 0 rows'.length sz,h++[rows'.flatten.map AV.pv]) else none
   | none=>none
  | _=>none
 | .apps=>match as with
  | [x,.pv (.lit (.string s))]=>(appR 1 1 x (yv18 s.data.toList)).map fun r=>(r,h)
  | _=>none
 | .call _=>none
structure SOp where
 op:POp
 args:List Arg
 dst:Option Nat
 guard:Option (Nat × Bool):=none
inductive SCode where
 | skip
 | reg (ops:List SOp) (draw:Option (List (List Nat)))
 | seq (a b:SCode)
 | cond (c:Nat) (a b:SCode)
 | block (id:Nat) (b:SCode)
 | loop (b:SCode)
 | exit (id:Nat)
 | ret
 | drop (ts:List Nat) (c:SCode)
 | weak (k:Nat) (c:SCode)
 | fin (k:Nat) (c:SCode)
 | frzB (c:SCode)
 | frzE (c:SCode)
 | rng (t:Nat) (ps:List Nat) (a b:SCode)
def putD (e:Env) (d:Option Nat) (a:AV):Env :=
 match d with
 | some t=>put e t a
 | none=>e
def yv7 (e:Env):Option (Nat × Bool)->Option Bool
 | none=>some true
 | some (t,w)=>match lk e t with
  | .pv (.lit (.bool b))=>some (b == w)
  | .tup []=>some false
  | _=>none
def rmD (e:Env) (d:Option Nat):Env :=
 match d with
 | some t=>put e t (.tup [])
 | none=>e
def step1 (o:SOp) (s:St):Option St :=
 match yv7 s.env o.guard with
 | none=>none
 | some false=>some ⟨rmD s.env o.dst,s.heap⟩
 | some true =>
  match o.op.ev (rdAs s.env o.args).1 s.heap with
  | some (a,h)=>some ⟨putD (rdAs s.env o.args).2 o.dst a,h⟩
  | none=>none
mutual
def yv16:AV->List Nat
 | .ref id _=>[id]
 | .view id _ _ _=>[id]
 | .agg cs=>refsL cs
 | .tup cs=>refsL cs
 | .clo _ a b=>refsL a++refsL b
 | .pv _=>[]
 | .own _ _=>[]
 | .eref _ _=>[]
 | .junk=>[]
def refsL:List AV->List Nat
 | []=>[]
 | a::l=>yv16 a++refsL l
end
mutual
def ren (σ:Nat->Nat):AV->AV
 | .ref id o=>.ref (σ id) o
 | .view id o n z=>.view (σ id) o n z
 | .agg cs=>.agg (renL σ cs)
 | .tup cs=>.tup (renL σ cs)
 | .clo f a b=>.clo f (renL σ a) (renL σ b)
 | .pv p=>.pv p
 | .own z r=>.own z r
 | .eref r o=>.eref r o
 | .junk=>.junk
def renL (σ:Nat->Nat):List AV->List AV
 | []=>[]
 | a::l=>ren σ a::renL σ l
end
def posOf (l:List Nat) (i:Nat):Nat:=l.idxOf i
def yv10 (l:List Nat) (n j:Nat):Nat:=if j < l.length then l.getD j 0 else n + (j - l.length)
def yv11 (h:Heap) (l:List Nat):Heap:=l.map fun i=>renL (posOf l) (hget h i)
def yv81 (f:Nat->Nat):Heap->List Nat->Heap->Heap
 | h,i::l,o::H=>yv81 f (hset h i (renL f o)) l H
 | h,_,_=>h
def yv130 (f:Nat->Nat) (h:Heap) (l:List Nat) (H:Heap):Heap:=yv81 f h l H++(H.drop l.length).map (renL f)
def yv477:List Nat->Bool
 | []=>true
 | i::l=>!(l.contains i) && yv477 l
def yv32 (h:Heap) (l:List Nat) (as:List AV):Bool :=
 (refsL as).all (fun i=>l.contains i) && l.all (fun i=>decide (i < h.length) && (refsL (hget h i)).all fun j=>l.contains j) && yv477 l
end Go.Rv
namespace Go.Rv
open Go.RowKit
inductive Loc where
 | env (t:Nat)
 | arg (i:Nat)
 | hp (id j:Nat)
 | obj (id:Nat)
 | res
 | sub (l:Loc) (k:Nat)
 deriving DecidableEq
structure Gh where
 lim:Nat->Nat
 ow:Nat->Option Loc
def imm (base:Nat) (g:Gh) (b o:Nat):Prop:=b < base∨o < g.lim b
inductive RepP (base:Nat) (g:Gh) (w:World):PV->Value->Prop
 | lit (v:Value) (h:v.oneCell'=true):RepP base g w (.lit v) v
 | none (sz:Nat) (a:Addr) (cap:Nat):RepP base g w (.sl sz []) (.slice (some a) 0 cap)
 | sl (sz:Nat) (rows:List (List PV)) (b off cap:Nat) (val:Nat->Nat->Value)
  (hsz:∀ r ∈ rows,r.length=sz)
  (him:∀ o,off ≤ o->o < off + rows.length * sz->imm base g b o)
  (hlt:b < w.heap.size) (hcap:rows.length ≤ cap)
  (hc:∀ i r j c,rows[i]?=some r->r[j]?=some c->w.cell? ⟨b,off + (i * sz + j),.none⟩=some (val i j))
  (hr:∀ i r j c,rows[i]?=some r->r[j]?=some c->RepP base g w c (val i j)) :
  RepP base g w (.sl sz rows) (.slice (some ⟨b,off,.none⟩) rows.length cap)
theorem RepP.one {base:Nat} {g:Gh} {w:World} {p:PV} {v:Value} (h:RepP base g w p v):v.oneCell'=true:=by
 cases h with
 | lit v h=>exact h
 | none=>rfl
 | sl=>rfl
def yv21 (w:World) (b:Nat):Nat:=match w.heap[b]? with
 | some (.cells cur _ _)=>cur.size
 | _=>0
theorem yv207 {w w':World} {b:Nat} (h:w'.heap[b]?=w.heap[b]?):yv21 w b ≤ yv21 w' b:=by simp [yv21,h]
theorem yv132 {w w':World} (h:∀ b,b < w.heap.size->w'.heap[b]?=w.heap[b]?) (b:Nat):yv21 w b ≤ yv21 w' b:=by
 by_cases hb:b < w.heap.size
 ·exact yv207 (h b hb)
 ·have:w.heap[b]?=none:=Array.getElem?_eq_none (by omega)
  simp [yv21,this]
structure Ext (base:Nat) (g:Gh) (w:World) (g':Gh) (w':World):Prop where
 size:w.heap.size ≤ w'.heap.size
 lim:∀ b,g.lim b ≤ g'.lim b
 cell:∀ b o,b < w.heap.size->imm base g b o->w'.cell? ⟨b,o,.none⟩=w.cell? ⟨b,o,.none⟩
 csz:∀ b,yv21 w b ≤ yv21 w' b
theorem Ext.refl (base:Nat) (g:Gh) (w:World):Ext base g w g w:=⟨Nat.le_refl _,fun _=>Nat.le_refl _,fun _ _ _ _=>rfl,fun _=>Nat.le_refl _⟩
theorem imm.ext {base:Nat} {g g':Gh} (h:∀ b,g.lim b ≤ g'.lim b) {b o:Nat} (hi:imm base g b o):imm base g' b o:=by
 rcases hi with hi|hi
 ·exact .inl hi
 ·exact .inr (Nat.lt_of_lt_of_le hi (h b))
theorem Ext.trans {base:Nat} {g1 g2 g3:Gh} {w1 w2 w3:World} (h:Ext base g1 w1 g2 w2) (k:Ext base g2 w2 g3 w3):Ext base g1 w1 g3 w3 :=
 ⟨Nat.le_trans h.size k.size,fun b=>Nat.le_trans (h.lim b) (k.lim b),fun b o hb hi=>(k.cell b o (Nat.lt_of_lt_of_le hb h.size) (hi.ext h.lim)).trans (h.cell b o hb hi),fun b=>Nat.le_trans (h.csz b) (k.csz b)⟩
theorem RepP.ext {base:Nat} {g g':Gh} {w w':World} (x:Ext base g w g' w') {p:PV} {v:Value} (h:RepP base g w p v):RepP base g' w' p v:=by
 induction h with
 | lit v h=>exact .lit v h
 | none sz a cap=>exact .none sz a cap
 | sl sz rows b off cap val hsz him hlt hcap hc hr ih =>
  refine .sl sz rows b off cap val hsz (fun o h1 h2=>(him o h1 h2).ext x.lim) (Nat.lt_of_lt_of_le hlt x.size) hcap ?_ ih
  intro i r j c hi hj
  rw [x.cell b _ hlt (him _ (by omega) ?_)]
  ·exact hc i r j c hi hj
  ·have h1:=(List.getElem?_eq_some_iff.1 hi).1
   have h2:=(List.getElem?_eq_some_iff.1 hj).1
   have h3:=hsz r (List.mem_of_getElem? hi)
   have h4:(i + 1) * sz ≤ rows.length * sz:=Nat.mul_le_mul_right _ h1
   rw [Nat.add_mul] at h4
   omega
inductive Rep0 (base n:Nat) (φ:Nat->Nat) (g:Gh) (w:World):AV->Value->Prop
 | pv (p:PV) (v:Value) (h:RepP base g w p v):Rep0 base n φ g w (.pv p) v
 | ref (id off:Nat) (h:id < n):Rep0 base n φ g w (.ref id off) (.pointer (some ⟨φ id,off,.none⟩))
 | view (id off len cap z:Nat) (h:id < n) (hc:len ≤ cap) (hsp:z=0∨off + cap * z ≤ yv21 w (φ id)):Rep0 base n φ g w (.view id off len z) (.slice (some ⟨φ id,off,.none⟩) len cap)
 | view0 (id off cap z:Nat) (a:Addr) (h:id < n):Rep0 base n φ g w (.view id off 0 z) (.slice (some a) 0 cap)
 | eref (row:List PV) (off b o:Nat) (val:Nat->Value)
  (hlt:b < w.heap.size)
  (him:∀ j,j < row.length->imm base g b (o + j))
  (hc:∀ j c,row[j]?=some c->w.cell? ⟨b,o + j,.none⟩=some (val j))
  (hr:∀ j c,row[j]?=some c->RepP base g w c (val j)) :
  Rep0 base n φ g w (.eref row off) (.pointer (some ⟨b,o + off,.none⟩))
theorem Rep0.one {base n:Nat} {φ:Nat->Nat} {g:Gh} {w:World} {a:AV} {v:Value} (h:Rep0 base n φ g w a v):v.oneCell'=true:=by
 cases h with
 | pv p v h=>exact h.one
 | ref=>rfl
 | view=>rfl
 | view0=>rfl
 | eref=>rfl
theorem Rep0.ext {base n n':Nat} {φ φ':Nat->Nat} {g g':Gh} {w w':World} (x:Ext base g w g' w') (hn:n ≤ n') (hφ:∀ i,i < n->φ' i=φ i)
 {a:AV} {v:Value} (h:Rep0 base n φ g w a v):Rep0 base n' φ' g' w' a v:=by
 cases h with
 | pv p v h=>exact .pv p v (h.ext x)
 | ref id off h=>rw [← hφ id h];exact .ref id off (Nat.lt_of_lt_of_le h hn)
 | view id off len cap z h hc hsp=>rw [← hφ id h];exact .view id off len cap z (Nat.lt_of_lt_of_le h hn) hc (hsp.imp (fun q=>q) fun q=>by rw [hφ _ h];exact Nat.le_trans q (x.csz _))
 | view0 id off cap z a h=>exact .view0 id off cap z a (Nat.lt_of_lt_of_le h hn)
 | eref row off b o val hlt him hc hr =>
  exact .eref row off b o val (Nat.lt_of_lt_of_le hlt x.size) (fun j hj=>(him j hj).ext x.lim)
   (fun j c hj=>(x.cell b _ hlt (him j (List.getElem?_eq_some_iff.1 hj).1)).trans (hc j c hj)) (fun j c hj=>(hr j c hj).ext x)
structure Owns (base:Nat) (g:Gh) (w:World) (l:Loc) (sz:Nat) (rows:List (List PV)) (v:Value) (b cap:Nat) (e:TypeId) (cur:Array Value):Prop where
 v:v=.slice (some ⟨b,0,.none⟩) rows.length cap
 hb:base ≤ b
 heap:w.heap[b]?=some (.cells cur e (0,0))
 size:cap * sz ≤ cur.size
 le:rows.length ≤ cap
 lim:g.lim b=rows.length * sz
 ow:g.ow b=some l
 hsz:∀ r ∈ rows,r.length=sz
 cells:∀ i r j c,rows[i]?=some r->r[j]?=some c->∃ u,cur[i * sz + j]?=some u∧RepP base g w c u
inductive RepC (base n:Nat) (φ:Nat->Nat) (g:Gh) (w:World) (l:Loc):AV->Value->Prop
 | zero (a:AV) (v:Value) (h:Rep0 base n φ g w a v):RepC base n φ g w l a v
 | own (sz:Nat) (rows:List (List PV)) (v:Value) (b cap:Nat) (e:TypeId) (cur:Array Value) (h:Owns base g w l sz rows v b cap e cur):RepC base n φ g w l (.own sz rows) v
 | clo (fn:Fn) (fs cs:List AV) (vs us:Array Value) (h1:fs.length=vs.size) (h2:cs.length=us.size)
  (r1:∀ (i:Nat) (a:AV) (v:Value),fs[i]?=some a->vs[i]?=some v->Rep0 base n φ g w a v)
  (r2:∀ (i:Nat) (a:AV) (v:Value),cs[i]?=some a->us[i]?=some v->Rep0 base n φ g w a v):RepC base n φ g w l (.clo fn fs cs) (.func fn vs us)
 | junk (v:Value):RepC base n φ g w l .junk v
inductive RepB (base n:Nat) (φ:Nat->Nat) (g:Gh) (w:World) (l:Loc):AV->Value->Prop
 | c (a:AV) (v:Value) (h:RepC base n φ g w l a v):RepB base n φ g w l a v
 | agg (cs:List AV) (vs:Array Value) (h1:cs.length=vs.size)
  (h2:∀ (i:Nat) (a:AV) (v:Value),cs[i]?=some a->vs[i]?=some v->RepC base n φ g w (.sub l i) a v) (h3:∀ v ∈ vs,v.oneCell'=true):RepB base n φ g w l (.agg cs) (.agg vs)
inductive RepA (base n:Nat) (φ:Nat->Nat) (g:Gh) (w:World) (l:Loc):AV->Value->Prop
 | b (a:AV) (v:Value) (h:RepB base n φ g w l a v):RepA base n φ g w l a v
 | tup (cs:List AV) (vs:Array Value) (h1:cs.length=vs.size)
  (h2:∀ (i:Nat) (a:AV) (v:Value),cs[i]?=some a->vs[i]?=some v->RepB base n φ g w (.sub l i) a v):RepA base n φ g w l (.tup cs) (.tuple vs)
structure Keep (base:Nat) (g:Gh) (w:World) (g':Gh) (w':World) (l l':Loc):Prop where
 heap:∀ b,g.ow b=some l->w'.heap[b]?=w.heap[b]?∧g'.lim b=g.lim b∧g'.ow b=some l'
theorem Owns.keep {base:Nat} {g g':Gh} {w w':World} {l l':Loc} {sz:Nat} {rows:List (List PV)} {v:Value} {b cap:Nat} {e:TypeId} {cur:Array Value}
 (x:Ext base g w g' w') (k:Keep base g w g' w' l l') (h:Owns base g w l sz rows v b cap e cur):Owns base g' w' l' sz rows v b cap e cur:=by
 obtain ⟨h1,h2,h3⟩:=k.heap b h.ow
 exact ⟨h.v,h.hb,h1.trans h.heap,h.size,h.le,h2.trans h.lim,h3,h.hsz,fun i r j c hi hj=>let ⟨u,a,b⟩:=h.cells i r j c hi hj;⟨u,a,b.ext x⟩⟩
theorem RepC.keep {base n n':Nat} {φ φ':Nat->Nat} {g g':Gh} {w w':World} {l l':Loc} (x:Ext base g w g' w') (hn:n ≤ n') (hφ:∀ i,i < n->φ' i=φ i)
 (k:Keep base g w g' w' l l') {a:AV} {v:Value} (h:RepC base n φ g w l a v):RepC base n' φ' g' w' l' a v:=by
 cases h with
 | zero a v h=>exact .zero a v (h.ext x hn hφ)
 | own sz rows v b cap e cur h=>exact .own sz rows v b cap e cur (h.keep x k)
 | clo fn fs cs vs us h1 h2 r1 r2=>exact .clo fn fs cs vs us h1 h2 (fun i a v p q=>(r1 i a v p q).ext x hn hφ) (fun i a v p q=>(r2 i a v p q).ext x hn hφ)
 | junk v=>exact .junk v
structure KeepU (base:Nat) (g:Gh) (w:World) (g':Gh) (w':World) (l l':Loc):Prop where
 k0:Keep base g w g' w' l l'
 k1:∀ i,Keep base g w g' w' (.sub l i) (.sub l' i)
 k2:∀ i j,Keep base g w g' w' (.sub (.sub l i) j) (.sub (.sub l' i) j)
theorem RepB.keep {base n n':Nat} {φ φ':Nat->Nat} {g g':Gh} {w w':World} {l l':Loc} (x:Ext base g w g' w') (hn:n ≤ n') (hφ:∀ i,i < n->φ' i=φ i)
 (k:Keep base g w g' w' l l') (k1:∀ i,Keep base g w g' w' (.sub l i) (.sub l' i)) {a:AV} {v:Value} (h:RepB base n φ g w l a v):RepB base n' φ' g' w' l' a v:=by
 cases h with
 | c a v h=>exact .c a v (h.keep x hn hφ k)
 | agg cs vs h1 h2 h3=>exact .agg cs vs h1 (fun i a v p q=>(h2 i a v p q).keep x hn hφ (k1 i)) h3
theorem RepA.keep {base n n':Nat} {φ φ':Nat->Nat} {g g':Gh} {w w':World} {l l':Loc} (x:Ext base g w g' w') (hn:n ≤ n') (hφ:∀ i,i < n->φ' i=φ i)
 (k:KeepU base g w g' w' l l') {a:AV} {v:Value} (h:RepA base n φ g w l a v):RepA base n' φ' g' w' l' a v:=by
 cases h with
 | b a v h=>exact .b a v (h.keep x hn hφ k.k0 k.k1)
 | tup cs vs h1 h2=>exact .tup cs vs h1 (fun i a v p q=>(h2 i a v p q).keep x hn hφ (k.k1 i) (k.k2 i))
structure RepO (base n:Nat) (φ:Nat->Nat) (g:Gh) (w:World) (id:Nat) (ob:List AV):Prop where
 rep:ob=[]∨∃ cur e,w.heap[φ id]?=some (.cells cur e (0,0))∧ob.length ≤ cur.size∧base ≤ φ id∧g.ow (φ id)=some (.obj id)∧g.lim (φ id)=0 ∧
  ∀ (j:Nat) (a:AV) (v:Value),ob[j]?=some a->cur[j]?=some v->RepC base n φ g w (.hp id j) a v∧v.oneCell'=true
def RepH (base:Nat) (φ:Nat->Nat) (g:Gh) (w:World) (H:Heap):Prop:=∀ id,id < H.length->RepO base H.length φ g w id (hget H id)
structure Inv (W0:World) (g:Gh) (w:World):Prop where
 below:Below W0.heap.size W0 w
 old:∀ b,b < W0.heap.size->g.ow b=none∧g.lim b=0
 new:∀ b,w.heap.size ≤ b->g.ow b=none∧g.lim b=0
def Loc.reroot:Loc->Loc->Loc->Loc
 | .sub l k,p,q=>if Loc.sub l k=p then q else .sub (Loc.reroot l p q) k
 | l,p,q=>if l=p then q else l
def Gh.reroot (g:Gh) (p q:Loc):Gh:={ g with ow:=fun b=>(g.ow b).map fun l=>l.reroot p q }
theorem Loc.reroot_self (p q:Loc):p.reroot p q=q:=by cases p<;>simp [Loc.reroot]
def Loc.depth:Loc->Nat
 | .sub l _=>l.depth + 1
 | _=>0
theorem Loc.size_pos (l:Loc) (k:Nat):Loc.sub l k ≠ l:=fun h=>by
 have:=congrArg Loc.depth h
 simp [Loc.depth] at this
theorem Loc.reroot_sub (p q:Loc) (i:Nat):(Loc.sub p i).reroot p q=.sub q i:=by
 rw [Loc.reroot,if_neg (Loc.size_pos p i),Loc.reroot_self]
theorem Loc.reroot_sub2 (p q:Loc) (i j:Nat):(Loc.sub (.sub p i) j).reroot p q=.sub (.sub q i) j:=by
 rw [Loc.reroot,if_neg,Loc.reroot_sub]
 intro h
 have:=congrArg Loc.depth h
 simp [Loc.depth] at this
 omega
theorem Ext.reroot (base:Nat) (g:Gh) (w:World) (p q:Loc):Ext base g w (g.reroot p q) w:=⟨Nat.le_refl _,fun _=>Nat.le_refl _,fun _ _ _ _=>rfl,fun _=>Nat.le_refl _⟩
theorem KeepU.reroot (base:Nat) (g:Gh) (w:World) (p q:Loc):KeepU base g w (g.reroot p q) w p q :=
 ⟨⟨fun b h=>⟨rfl,rfl,by simp [Gh.reroot,h,Loc.reroot_self]⟩⟩,fun i=>⟨fun b h=>⟨rfl,rfl,by simp [Gh.reroot,h,Loc.reroot_sub]⟩⟩,fun i j=>⟨fun b h=>⟨rfl,rfl,by simp [Gh.reroot,h,Loc.reroot_sub2]⟩⟩⟩
def Loc.root:Loc->Loc
 | .sub l _=>l.root
 | l=>l
theorem Loc.reroot_other {p q:Loc}:∀ {l:Loc},l.root ≠ p.root->l.reroot p q=l
 | .sub l k,h=>by
  rw [Loc.reroot,if_neg (fun e=>h (by rw [← e])),Loc.reroot_other (l:=l) (by simpa [Loc.root] using h)]
 | .env t,h=>by simp only [Loc.reroot];rw [if_neg (fun e=>h (by rw [← e]))]
 | .arg t,h=>by simp only [Loc.reroot];rw [if_neg (fun e=>h (by rw [← e]))]
 | .hp t j,h=>by simp only [Loc.reroot];rw [if_neg (fun e=>h (by rw [← e]))]
 | .obj t,h=>by simp only [Loc.reroot];rw [if_neg (fun e=>h (by rw [← e]))]
 | .res,h=>by simp only [Loc.reroot];rw [if_neg (fun e=>h (by rw [← e]))]
theorem KeepU.other {base:Nat} {g:Gh} {w:World} {p q l:Loc} (h:l.root ≠ p.root):KeepU base g w (g.reroot p q) w l l :=
 ⟨⟨fun b e=>⟨rfl,rfl,by simp [Gh.reroot,e,Loc.reroot_other h]⟩⟩,
  fun i=>⟨fun b e=>⟨rfl,rfl,by have:(Loc.sub l i).root ≠ p.root:=h;simp [Gh.reroot,e,Loc.reroot_other this]⟩⟩,
  fun i j=>⟨fun b e=>⟨rfl,rfl,by have:(Loc.sub (.sub l i) j).root ≠ p.root:=h;simp [Gh.reroot,e,Loc.reroot_other this]⟩⟩⟩
theorem Inv.reroot {W0:World} {g:Gh} {w:World} (h:Inv W0 g w) (p q:Loc):Inv W0 (g.reroot p q) w :=
 ⟨h.below,fun b hb=>⟨by simp [Gh.reroot,(h.old b hb).1],(h.old b hb).2⟩,fun b hb=>⟨by simp [Gh.reroot,(h.new b hb).1],(h.new b hb).2⟩⟩
theorem RepO.keep {base n n':Nat} {φ φ':Nat->Nat} {g g':Gh} {w w':World} {id:Nat} {ob:List AV} (x:Ext base g w g' w') (hn:n ≤ n') (hφ:∀ i,i < n->φ' i=φ i) (hid:id < n)
 (k:Keep base g w g' w' (.obj id) (.obj id)) (k1:∀ j,KeepU base g w g' w' (.hp id j) (.hp id j)) (h:RepO base n φ g w id ob):RepO base n' φ' g' w' id ob:=by
 refine ⟨h.rep.imp (fun e=>e) ?_⟩
 rintro ⟨cur,e,h1,h2,h3,h4,h5,h6⟩
 obtain ⟨k1',k2',k3'⟩:=k.heap _ h4
 refine ⟨cur,e,?_,h2,?_,?_,?_,fun j a v p q=>⟨((h6 j a v p q).1).keep x hn hφ (k1 j).k0,(h6 j a v p q).2⟩⟩
 ·rw [hφ id hid,k1',h1]
 ·rw [hφ id hid];exact h3
 ·rw [hφ id hid];exact k3'
 ·rw [hφ id hid,k2'];exact h5
theorem RepH.reroot {base:Nat} {φ:Nat->Nat} {g:Gh} {w:World} {H:Heap} (h:RepH base φ g w H) {p q:Loc} (hp:∀ i,p.root ≠ .obj i) (hq:∀ i j,p.root ≠ .hp i j):RepH base φ (g.reroot p q) w H :=
 fun id hid=>(h id hid).keep (Ext.reroot base g w p q) (Nat.le_refl _) (fun _ _=>rfl) hid (KeepU.other (fun e=>hp id e.symm)).k0 (fun j=>KeepU.other (fun e=>hq id j e.symm))
end Go.Rv
namespace Go.Rv
open Go.RowKit
def litEq:Value->Value->Bool
 | .bool a,.bool b=>a == b
 | .int k a,.int k' b=>decide (k=k') && decide (a=b)
 | .string a,.string b=>decide (a.data.toList=b.data.toList)
 | .pointer none,.pointer none=>true
 | .slice none 0 0,.slice none 0 0=>true
 | .nilFunc,.nilFunc=>true
 | _,_=>false
theorem yv473 {a b:Value} (h:litEq a b=true):a=b∧a.oneCell'=true:=by
 unfold litEq at h
 split at h
 ·simp at h;subst h;exact ⟨rfl,rfl⟩
 ·simp at h;obtain ⟨rfl,rfl⟩:=h;exact ⟨rfl,rfl⟩
 ·rename_i a b
  simp at h
  have:a=b:=by cases a;cases b;simp at h;subst h;rfl
  subst this;exact ⟨rfl,rfl⟩
 ·exact ⟨rfl,rfl⟩
 ·exact ⟨rfl,rfl⟩
 ·exact ⟨rfl,rfl⟩
 ·cases h
def yv142:AV->Value->Bool
 | .pv (.lit v),u=>litEq v u
 | .clo (.func f) [] [],.func (.func g) as bs=>f == g && as.isEmpty && bs.isEmpty
 | _,_=>false
def yv35:List AV->List Value->Bool
 | [],[]=>true
 | a::l,v::m=>yv142 a v && v.oneCell' && yv35 l m
 | _,_=>false
def yv57:AV->Value->Bool
 | .agg cs,.agg vs=>yv35 cs vs.toList
 | a,v=>yv142 a v
theorem yv143 {base n:Nat} {φ:Nat->Nat} {g:Gh} {w:World} {l:Loc} {a:AV} {v:Value} (h:yv142 a v=true):RepC base n φ g w l a v:=by
 unfold yv142 at h
 split at h
 ·obtain ⟨rfl,h'⟩:=yv473 h
  exact .zero _ _ (.pv _ _ (.lit _ h'))
 ·simp at h
  obtain ⟨⟨rfl,h1⟩,h2⟩:=h
  subst h1 h2
  exact .clo _ _ _ _ _ rfl rfl (fun i a v p=>by simp at p) (fun i a v p=>by simp at p)
 ·cases h
theorem yv180 {cs:List AV} {vs:List Value} (h:yv35 cs vs=true):cs.length=vs.length∧(∀ (i:Nat) (a:AV) (v:Value),cs[i]?=some a->vs[i]?=some v->yv142 a v=true∧v.oneCell'=true):=by
 induction cs generalizing vs with
 | nil=>cases vs with
  | nil=>simp
  | cons=>simp [yv35] at h
 | cons a l ih=>cases vs with
  | nil=>simp [yv35] at h
  | cons v m =>
   simp [yv35] at h
   obtain ⟨⟨h1,h2⟩,h3⟩:=h
   obtain ⟨h4,h5⟩:=ih h3
   refine ⟨by simp [h4],fun i a v p q=>?_⟩
   cases i with
   | zero=>simp at p q;subst p q;exact ⟨h1,h2⟩
   | succ i=>simp at p q;exact h5 i a v p q
theorem yv358 {base n:Nat} {φ:Nat->Nat} {g:Gh} {w:World} {l:Loc} {a:AV} {v:Value} (h:yv57 a v=true):RepB base n φ g w l a v:=by
 unfold yv57 at h
 split at h
 ·rename_i cs vs
  obtain ⟨h1,h2⟩:=yv180 h
  refine .agg cs vs (by simpa using h1) (fun i a v p q=>yv143 (h2 i a v p (by simpa using q)).1) ?_
  intro v hv
  obtain ⟨i,hi⟩:=List.getElem?_of_mem (Array.mem_toList_iff.2 hv)
  have hl:i < cs.length:=by rw [h1];exact (List.getElem?_eq_some_iff.1 hi).1
  exact (h2 i _ v (List.getElem?_eq_getElem hl) hi).2
 ·exact .c _ _ (yv143 h)
def opd:Arg->Operand->Bool
 | .v t,.tmp u=>t == u
 | .m t,.tmp u=>t == u
 | .k a,.const v=>yv57 a v
 | .k a,.func f=>yv57 a (.func (.func f) #[] #[])
 | _,_=>false
def opds:List Arg->List Operand->Bool
 | [],[]=>true
 | x::xs,o::os=>opd x o && opds xs os
 | _,_=>false
def yv366:TypeDesc->Bool
 | .struct _|.array _ _=>true
 | _=>false
def aggN (P:Program) (t:TypeId):Option (Option Nat) :=
 match P.underlying t,P.info? t with
 | some d,some i=>some (if yv366 d then some i.size else none)
 | _,_=>none
def sizeN (P:Program) (t:TypeId):Option Nat:=(P.info? t).map (·.size)
def yv202 (P:Program) (t:TypeId) (zs:List AV):Bool :=
 match P.info? t with
 | some i=>match i.zero with
  | some z=>yv35 zs z.cells.toList
  | none=>false
 | none=>false
def yv209 (P:Program) (t:TypeId) (sz bytes:Nat):Bool :=
 match P.underlying t with
 | some (.slice e)=>match P.info? e with
  | some i=>i.size == sz && i.bytes == bytes && decide (0 < sz) && (match i.zero with|some z=>z.cells.size == sz|none=>false)
  | none=>false
 | _=>false
def yv137 (P:Program) (t:TypeId) (sz:Nat):Bool :=
 match P.underlying t with
 | some (.slice e)=>sizeN P e == some sz
 | _=>false
def yv331 (P:Program) (t:TypeId) (n sz:Nat):Bool :=
 match P.underlying t with
 | some (.array m e)=>m == n && sizeN P e == some sz
 | _=>false
def offOf (P:Program) (t:TypeId) (i:Nat):Option (Nat × TypeId) :=
 match P.underlying t with
 | some (.struct fs)=>(fs[i]?).map fun f=>(f.offset,f.type)
 | _=>none
def yv624 (P:Program) (t:TypeId) (i off:Nat) (n:Option Nat):Bool :=
 match offOf P t i with
 | some (o,ft)=>o == off && aggN P ft == some n
 | none=>false
def faOk (P:Program) (t:TypeId) (i off:Nat):Bool :=
 match offOf P t i with
 | some (o,ft)=>o == off && (match sizeN P ft with|some n=>n != 0|none=>false)
 | none=>false
def yv254 (P:Program) (t:TypeId) (i:Nat):Option (Nat × Nat) :=
 match P.underlying t with
 | some (.struct _)=>match offOf P t i with
  | some (o,ft)=>(sizeN P ft).map fun n=>(o,n)
  | none=>none
 | some (.array _ e)=>(sizeN P e).map fun n=>(i * n,n)
 | _=>none
def yv194 (P:Program) (t:TypeId):List (Nat × Nat)->List (Nat × Operand)->Bool
 | [],[]=>true
 | off::offs,(i,_)::ps=>yv254 P t i == some off && yv194 P t offs ps
 | _,_=>false
def yv764 (P:Program) (t:TypeId):Bool :=
 match P.underlying t with
 | some (.struct fs)=>fs.toList.all fun f=>(P.info? f.type).isSome
 | some (.array _ e)=>(P.info? e).isSome
 | _=>false
def loOk:Bool->Option Operand->Bool
 | false,none=>true
 | true,some _=>true
 | _,_=>false
def yv90:Callee->Option Builtin
 | .builtin b=>some b
 | _=>none
def isUnd (P:Program) (t:TypeId) (f:TypeDesc->Bool):Bool :=
 match P.underlying t with
 | some d=>f d
 | none=>false
def dStr:TypeDesc->Bool|.string=>true|_=>false
def dInt (k:IntKind):TypeDesc->Bool|.int k'=>decide (k=k')|_=>false
def dU8 (P:Program):TypeDesc->Bool|.slice e=>(match P.underlying e with|some (.int .u8)=>true|_=>false)|_=>false
def dET:ET->TypeDesc->Bool
 | .b,.bool=>true
 | .i,.int _=>true
 | .s,.string=>true
 | .p,.pointer _=>true
 | .sl,.slice _=>true
 | .f,.func _ _ _=>true
 | _,_=>false
def isCmp:BinOp->Bool
 | .eql|.neq=>true
 | _=>false
def arrN (P:Program) (t:TypeId):Option (Nat × TypeId):=match P.underlying t with
 | some (.array n e)=>some (n,e)
 | _=>none
def eqArr (P:Program) (el:TypeId) (ts:List ET):Bool:=(match P.info? el with|some i=>i.size == 1|none=>false) && aggN P el == some none && ts.all (fun e=>isUnd P el (dET e))
def yv360 (P:Program):Nat->List Field->List ET->Bool
 | _,[],ts=>ts.isEmpty
 | k,f::fs,ts=>f.name != "_" && f.offset == k && (match arrN P f.type with
  | some (n,el)=>Nat.ble n ts.length && aggN P f.type == some (some n) && eqArr P el (ts.take n) && yv360 P (k + n) fs (ts.drop n)
  | none=>(match ts with
   | e::es=>isUnd P f.type (dET e) && aggN P f.type == some none && yv360 P (k + 1) fs es
   | []=>false))
def yv400 (P:Program) (t:TypeId) (ts:List ET):Bool :=
 match P.underlying t with
 | some (.struct fs)=>!P.stoodInHeld t && !P.eqGuardType P.depth t && yv360 P 0 fs.toList ts
 | _=>false
def okOp (P:Program) (o:Oper) (s:SOp):Bool :=
 match s.op with
 | .mv=>match s.args,o.op with
  | [x],.move y=>opd x y
  | [x],.assign y=>opd x y
  | _,_=>false
 | .ext i=>match s.args,o.op with
  | [x],.extract y j=>opd x y && i == j
  | _,_=>false
 | .extm=>match s.args,o.op with
  | [.c t i],.extract (.tmp t') j=>t == t' && i == j
  | _,_=>false
 | .pick=>match o.op with
  | .pick c a b=>opds s.args [c,a,b]
  | _=>false
 | .alloc zs=>match s.args,o.op with
  | [],.alloc t=>yv202 P t zs
  | _,_=>false
 | .box=>match s.args,o.op with
  | [x],.box _ y=>opd x y
  | _,_=>false
 | .build zs offs=>match o.op with
  | .build t parts=>yv202 P t zs && yv764 P t && yv194 P t offs parts.toList && opds s.args (parts.toList.map (·.2))
  | _=>false
 | .load n=>match s.args,o.op with
  | [x],.load t y=>opd x y && aggN P t == some n
  | _,_=>false
 | .loadm=>match s.args,o.op with
  | [x],.load t y=>opd x y && aggN P t == some none
  | _,_=>false
 | .store n=>match o.op with
  | .store t a x=>opds s.args [a,x] && sizeN P t == some n
  | _=>false
 | .nilck=>match s.args,o.op with
  | [x],.nilCheck y=>opd x y
  | _,_=>false
 | .un u=>match s.args,o.op with
  | [x],.unOp u' _ y=>opd x y && decide (u=u')
  | _,_=>false
 | .bin b e=>match o.op with
  | .binOp b' t x y _=>opds s.args [x,y] && decide (b=b') && (!(isCmp b) || isUnd P t (dET e))
  | _=>false
 | .eqs neg ts=>match o.op with
  | .binOp b t x y _=>opds s.args [x,y] && decide (b=if neg then .neq else .eql) && yv400 P t ts
  | _=>false
 | .cint k=>match s.args,o.op with
  | [x],.convert src dst y=>opd x y && (P.underlying src).isSome && isUnd P dst (dInt k)
  | _,_=>false
 | .fa off=>match s.args,o.op with
  | [x],.fieldAddr t y i=>opd x y && faOk P t i off
  | _,_=>false
 | .fld off n=>match s.args,o.op with
  | [x],.field t y i=>opd x y && yv624 P t i off n
  | _,_=>false
 | .ia sz=>match o.op with
  | .indexAddr t x i=>opds s.args [x,i] && yv137 P t sz
  | _=>false
 | .iarr n sz=>match o.op with
  | .indexAddr t x i=>opds s.args [x,i] && yv331 P t n sz
  | _=>false
 | .sidx=>match o.op with
  | .index t x i=>opds s.args [x,i] && isUnd P t dStr
  | _=>false
 | .mkf fn nf=>match o.op with
  | .makeFunc fn' a b=>decide (fn=fn') && a.size == nf && opds s.args (a.toList++b.toList)
  | _=>false
 | .sstr lo hi=>match o.op with
  | .slice t x l h none=>isUnd P t dStr && loOk lo l && loOk hi h && opds s.args (x::(l.toList++h.toList))
  | _=>false
 | .ssl sz lo hi=>match o.op with
  | .slice t x l h none=>yv137 P t sz && loOk lo l && loOk hi h && opds s.args (x::(l.toList++h.toList))
  | _=>false
 | .bslice sz n zs idx=>match o.op with
  | .buildSlice t m parts=>yv209 P t sz (match P.underlying t with|some (.slice e)=>((P.info? e).map (·.bytes)).getD 0|_=>0) && n == m && decide (n * sz ≤ 16777216) &&
   (match P.underlying t with|some (.slice e)=>yv202 P e (zs.map AV.pv)|_=>false) &&
   decide (idx=parts.toList.map (·.1)) && opds s.args (parts.toList.map (·.2))
  | _=>false
 | .len=>match s.args,o.op with
  | [x],.call c=>yv90 c.callee == some .len && opds [x] c.args.toList && (match c.argTypes.toList with
   | [t]=>isUnd P t fun d=>match d with|.slice _=>true|_=>false
   | _=>false)
  | _,_=>false
 | .lens=>match s.args,o.op with
  | [x],.call c=>yv90 c.callee == some .len && opds [x] c.args.toList && (match c.argTypes.toList with
   | [t]=>isUnd P t dStr
   | _=>false)
  | _,_=>false
 | .min=>match o.op with
  | .call c=>yv90 c.callee == some .min && opds s.args c.args.toList
  | _=>false
 | .max=>match o.op with
  | .call c=>yv90 c.callee == some .max && opds s.args c.args.toList
  | _=>false
 | .app sz bytes=>match o.op with
  | .call c=>yv90 c.callee == some .append && opds s.args c.args.toList && (match c.argTypes.toList with
   | [t,u]=>t == u && yv209 P t sz bytes
   | _=>false)
  | _=>false
 | .appv sz bytes=>match o.op with
  | .call c=>yv90 c.callee == some .append && opds s.args c.args.toList && (match c.argTypes.toList with
   | [t,u]=>t == u && yv209 P t sz bytes
   | _=>false)
  | _=>false
 | .apps=>match o.op with
  | .call c=>yv90 c.callee == some .append && opds s.args c.args.toList && (match c.argTypes.toList with
   | [t,u]=>yv209 P t 1 1 && isUnd P u dStr
   | _=>false)
  | _=>false
 | .s2b=>match s.args,o.op with
  | [x],.convert src dst y=>opd x y && isUnd P src dStr && isUnd P dst (dU8 P)
  | _,_=>false
 | .b2s=>match s.args,o.op with
  | [x],.convert src dst y=>opd x y && isUnd P src (dU8 P) && isUnd P dst dStr
  | _,_=>false
 | .b2v=>match s.args,o.op with
  | [x],.convert src dst y=>opd x y && isUnd P src (dU8 P) && isUnd P dst dStr
  | _,_=>false
 | .sarr n=>match s.args,o.op with
  | [x],.slice t y none none none=>opd x y && (match P.underlying t with|some (.array m e)=>m == n && (sizeN P e).isSome|_=>false)
  | _,_=>false
 | .cid=>match s.args,o.op with
  | [x],.convert src dst y=>opd x y && isUnd P src dStr && isUnd P dst dStr
  | _,_=>false
 | .aidx n sz k=>match o.op with
  | .index t x i=>opds s.args [x,i] && yv331 P t n sz && (match P.underlying t with|some (.array _ e)=>aggN P e == some k|_=>false)
  | _=>false
 | .mksl sz bytes zs=>match o.op with
  | .makeSlice t l c=>opds s.args [l,c] && yv209 P t sz bytes && (match P.underlying t with|some (.slice e)=>yv202 P e zs|_=>false)
  | _=>false
 | _=>false
end Go.Rv
namespace Go.Rv
open Go.RowKit
def ArgC (tmps:Array Value):Arg->Value->Prop
 | .v t,u=>u=tmps.getD t undef
 | .m t,u=>u=tmps.getD t undef
 | .c t i,u=>∃ vs,tmps.getD t undef=.tuple vs∧vs[i]?=some u
 | .k a,u=>yv57 a u=true
theorem yv100 {a:AV} {v:Value} (h:yv142 a v=true):a=.pv (.lit v)∨∃ f,a=.clo (.func f) [] []∧v=.func (.func f) #[] #[]:=by
 unfold yv142 at h
 split at h
 ·exact .inl (by rw [(yv473 h).1])
 ·simp at h
  obtain ⟨⟨rfl,rfl⟩,rfl⟩:=h
  exact .inr ⟨_,rfl,rfl⟩
 ·cases h
theorem yv235 {a:AV} {v u:Value} (h:yv142 a v=true) (k:yv142 a u=true):v=u:=by
 rcases yv100 h with rfl|⟨f,rfl,rfl⟩<;>rcases yv100 k with e|⟨f',e,rfl⟩
 ·cases e;rfl
 ·cases e
 ·cases e
 ·cases e;rfl
theorem yv354 {cs:List AV}:∀ {vs us:List Value},yv35 cs vs=true->yv35 cs us=true->vs=us:=by
 induction cs with
 | nil=>intro vs us h k;cases vs<;>cases us<;>simp_all [yv35]
 | cons a l ih =>
  intro vs us h k
  cases vs with
  | nil=>simp [yv35] at h
  | cons v m=>cases us with
   | nil=>simp [yv35] at k
   | cons u q =>
    simp [yv35] at h k
    rw [yv235 h.1.1 k.1.1,ih h.2 k.2]
theorem yv184 {a:AV} {v u:Value} (h:yv57 a v=true) (k:yv57 a u=true):v=u:=by
 cases a with
 | agg cs =>
  cases v<;>simp [yv57,yv142] at h
  cases u<;>simp [yv57,yv142] at k
  rename_i x y
  have:=yv354 h k
  cases x;cases y;simp at this;subst this;rfl
 | _=>exact yv235 (by simpa [yv57] using h) (by simpa [yv57] using k)
theorem yv0 {x:Arg} {o:Operand} {a:Act} {u:Value} (h:opd x o=true) (k:ArgC a.tmps x u):a.eval o=u:=by
 unfold opd at h
 split at h
 ·simp at h;subst h;exact k.symm
 ·simp at h;subst h;exact k.symm
 ·exact yv184 h k
 ·exact yv184 h k
 ·cases h
def Done (P:Program) (o:Oper) (a:Act) (w:World) (v:Value) (w':World):Prop :=
 (execOp a.eval o).run P w=.ok (.value v) w'∨((execOp a.eval o).run P w=.ok .skip w'∧v=undef)
def Loc.isEnv (l:Loc):Bool:=match l.root with|.env _=>true|_=>false
structure Post (W0:World) (n:Nat) (φ:Nat->Nat) (g:Gh) (w:World) (φ':Nat->Nat) (g':Gh) (w':World) (H':Heap) (r:AV) (v:Value):Prop where
 inv:Inv W0 g' w'
 ext:Ext W0.heap.size g w g' w'
 hp:RepH W0.heap.size φ' g' w' H'
 len:n ≤ H'.length
 phi:∀ i,i < n->φ' i=φ i
 res:RepA W0.heap.size H'.length φ' g' w' .res r v
 frame:∀ b,b < w.heap.size->(∀ l,g.ow b=some l->l.isEnv=true)->w'.heap[b]?=w.heap[b]?∧g'.lim b=g.lim b∧g'.ow b=g.ow b
theorem Post.same {W0:World} {φ:Nat->Nat} {g:Gh} {w:World} {H:Heap} {r:AV} {v:Value} (hi:Inv W0 g w) (hh:RepH W0.heap.size φ g w H)
 (hr:RepA W0.heap.size H.length φ g w .res r v):Post W0 H.length φ g w φ g w H r v :=
 ⟨hi,Ext.refl _ _ _,hh,Nat.le_refl _,fun _ _=>rfl,hr,fun _ _ _=>⟨rfl,rfl,rfl⟩⟩
theorem Post.moved {W0:World} {φ:Nat->Nat} {g:Gh} {w:World} {H:Heap} {r:AV} {v:Value} {p:Loc} (hi:Inv W0 g w) (hh:RepH W0.heap.size φ g w H)
 (h1:∀ i,p.root ≠ .obj i) (h2:∀ i j,p.root ≠ .hp i j) (h3:∀ t,p.root ≠ .env t)
 (hr:RepA W0.heap.size H.length φ g w p r v):Post W0 H.length φ g w φ (g.reroot p .res) w H r v:=by
 refine ⟨hi.reroot _ _,Ext.reroot _ _ _ _ _,hh.reroot h1 h2,Nat.le_refl _,fun _ _=>rfl,hr.keep (Ext.reroot _ _ _ _ _) (Nat.le_refl _) (fun _ _=>rfl) (KeepU.reroot _ _ _ _ _),?_⟩
 intro b hb hl
 refine ⟨rfl,rfl,?_⟩
 simp only [Gh.reroot]
 cases ho:g.ow b with
 | none=>rfl
 | some l =>
  have:=hl l ho
  simp only [Option.map_some]
  rw [Loc.reroot_other]
  intro e
  unfold Loc.isEnv at this
  rw [e] at this
  split at this
  ·rename_i t ht;exact h3 t ht
  ·cases this
theorem RepA.lit {base n:Nat} {φ:Nat->Nat} {g:Gh} {w:World} {l:Loc} {v:Value} (h:v.oneCell'=true):RepA base n φ g w l (.pv (.lit v)) v :=
 .b _ _ (.c _ _ (.zero _ _ (.pv _ _ (.lit _ h))))
theorem RepA.r0 {base n:Nat} {φ:Nat->Nat} {g:Gh} {w:World} {l:Loc} {a:AV} {v:Value} (h:Rep0 base n φ g w a v):RepA base n φ g w l a v:=.b _ _ (.c _ _ (.zero _ _ h))
theorem RepA.of_lit {base n:Nat} {φ:Nat->Nat} {g:Gh} {w:World} {l:Loc} {u v:Value} (h:RepA base n φ g w l (.pv (.lit u)) v):v=u∧u.oneCell'=true:=by
 cases h with
 | b _ _ h=>cases h with
  | c _ _ h=>cases h with
   | zero _ _ h=>cases h with
    | pv _ _ h=>cases h with
     | lit _ h=>exact ⟨rfl,h⟩
theorem RepA.of_ref {base n:Nat} {φ:Nat->Nat} {g:Gh} {w:World} {l:Loc} {id off:Nat} {v:Value} (h:RepA base n φ g w l (.ref id off) v):v=.pointer (some ⟨φ id,off,none⟩)∧id < n:=by
 cases h with
 | b _ _ h=>cases h with
  | c _ _ h=>cases h with
   | zero _ _ h=>cases h with
    | ref _ _ h=>exact ⟨rfl,h⟩
theorem RepA.of_0 {base n:Nat} {φ:Nat->Nat} {g:Gh} {w:World} {l:Loc} {a:AV} {v:Value} (h:RepA base n φ g w l a v)
 (ha:match a with|.pv _|.ref _ _|.view _ _ _ _|.eref _ _=>True|_=>False):Rep0 base n φ g w a v:=by
 cases h with
 | b _ _ h=>cases h with
  | c _ _ h=>cases h with
   | zero _ _ h=>exact h
   | own=>exact ha.elim
   | clo=>exact ha.elim
   | junk=>exact ha.elim
  | agg=>exact ha.elim
 | tup=>exact ha.elim
structure Args (base n:Nat) (φ:Nat->Nat) (g:Gh) (w:World) (tmps:Array Value) (xs:List Arg) (as:List AV) (us:List Value):Prop where
 l1:xs.length=as.length
 l2:us.length=as.length
 c:∀ (i:Nat) (x:Arg) (u:Value),xs[i]?=some x->us[i]?=some u->ArgC tmps x u
 r:∀ (i:Nat) (a:AV) (u:Value),as[i]?=some a->us[i]?=some u->RepA base n φ g w (.arg i) a u
section
variable {base n:Nat} {φ:Nat->Nat} {g:Gh} {w:World} {tmps:Array Value}
theorem Args.one {x:Arg} {a:AV} {us:List Value} (h:Args base n φ g w tmps [x] [a] us):∃ u,us=[u]∧ArgC tmps x u∧RepA base n φ g w (.arg 0) a u:=by
 obtain ⟨_,h2,h3,h4⟩:=h
 match us,h2 with
 | [u],_=>exact ⟨u,rfl,h3 0 x u rfl rfl,h4 0 a u rfl rfl⟩
theorem Args.two {x y:Arg} {a b:AV} {us:List Value} (h:Args base n φ g w tmps [x,y] [a,b] us) :
 ∃ u v,us=[u,v]∧ArgC tmps x u∧ArgC tmps y v∧RepA base n φ g w (.arg 0) a u∧RepA base n φ g w (.arg 1) b v:=by
 obtain ⟨_,h2,h3,h4⟩:=h
 match us,h2 with
 | [u,v],_=>exact ⟨u,v,rfl,h3 0 x u rfl rfl,h3 1 y v rfl rfl,h4 0 a u rfl rfl,h4 1 b v rfl rfl⟩
theorem Args.three {x y z:Arg} {a b c:AV} {us:List Value} (h:Args base n φ g w tmps [x,y,z] [a,b,c] us) :
 ∃ u v t,us=[u,v,t]∧ArgC tmps x u∧ArgC tmps y v∧ArgC tmps z t∧RepA base n φ g w (.arg 0) a u∧RepA base n φ g w (.arg 1) b v∧RepA base n φ g w (.arg 2) c t:=by
 obtain ⟨_,h2,h3,h4⟩:=h
 match us,h2 with
 | [u,v,t],_=>exact ⟨u,v,t,rfl,h3 0 x u rfl rfl,h3 1 y v rfl rfl,h3 2 z t rfl rfl,h4 0 a u rfl rfl,h4 1 b v rfl rfl,h4 2 c t rfl rfl⟩
end
def Right (P:Program) (W0:World) (o:Oper) (s:SOp):Prop :=
 ∀ (φ:Nat->Nat) (g:Gh) (w:World) (H:Heap) (a:Act) (as:List AV) (us:List Value) (r:AV) (H':Heap),
  Inv W0 g w->RepH W0.heap.size φ g w H->Args W0.heap.size H.length φ g w a.tmps s.args as us->s.op.ev as H=some (r,H') ->
  ∃ v φ' g' w',Done P o a w v w'∧Post W0 H.length φ g w φ' g' w' H' r v
theorem yv206 {base n:Nat} {φ:Nat->Nat} {g:Gh} {w:World} {tmps:Array Value} {x:Arg} {as:List AV} {us:List Value} (h:Args base n φ g w tmps [x] as us):∃ a,as=[a]:=by
 have:=h.l1
 match as,this with
 | [a],_=>exact ⟨a,rfl⟩
theorem yv709 {P:Program} {W0:World} {o:Oper} {s:SOp} (hop:s.op=.mv) (ok:okOp P o s=true):Right P W0 o s:=by
 intro φ g w H a as us r H' hi hh ha he
 simp only [okOp,hop] at ok
 simp only [hop,POp.ev] at he
 split at he
 ·rename_i x0
  simp at he;obtain ⟨rfl,rfl⟩:=he
  split at ok
  ·rename_i x y hx hy
   rw [hx] at ha
   obtain ⟨u,rfl,h1,h2⟩:=ha.one
   exact ⟨u,φ,_,w,.inl (by simp [execOp,hy,yv0 ok h1]),.moved hi hh (by simp [Loc.root]) (by simp [Loc.root]) (by simp [Loc.root]) h2⟩
  ·rename_i x y hx hy
   rw [hx] at ha
   obtain ⟨u,rfl,h1,h2⟩:=ha.one
   exact ⟨u,φ,_,w,.inl (by simp [execOp,hy,yv0 ok h1]),.moved hi hh (by simp [Loc.root]) (by simp [Loc.root]) (by simp [Loc.root]) h2⟩
  ·cases ok
 ·cases he
end Go.Rv
namespace Go.Rv
open Go.RowKit
theorem yv155 {l:List AV} {i:Nat}:nth l i=l[i]?:=by
 induction l generalizing i with
 | nil=>rfl
 | cons x l ih=>cases i with
  | zero=>rfl
  | succ i=>simpa [nth] using ih
theorem yv19 {h:Heap} {i:Nat}:hget h i=(h[i]?).getD []:=by
 induction h generalizing i with
 | nil=>rfl
 | cons x l ih=>cases i with
  | zero=>rfl
  | succ i=>simpa [hget] using ih
theorem yv14 {l:List AV}:yv26 l=l.map strip:=by
 induction l with
 | nil=>rfl
 | cons x l ih=>simp [yv26,ih]
section
variable {base n:Nat} {φ:Nat->Nat} {g:Gh} {w:World} {l l':Loc}
theorem Owns.sl {sz:Nat} {rows:List (List PV)} {v:Value} {b cap:Nat} {e:TypeId} {cur:Array Value} (h:Owns base g w l sz rows v b cap e cur):RepP base g w (.sl sz rows) v:=by
 have hlt:b < w.heap.size:=(Array.getElem?_eq_some_iff.1 h.heap).1
 rw [h.v]
 refine .sl sz rows b 0 cap (fun i j=>(cur[i * sz + j]?).getD undef) h.hsz (fun o _ h2=>.inr (by rw [h.lim];omega)) hlt h.le ?_ ?_
 ·intro i r j c hi hj
  obtain ⟨u,hu,_⟩:=h.cells i r j c hi hj
  simp [World.cell?,h.heap,hu]
 ·intro i r j c hi hj
  obtain ⟨u,hu,hr⟩:=h.cells i r j c hi hj
  simpa [hu] using hr
theorem RepC.strip {a:AV} {v:Value} (h:RepC base n φ g w l a v):RepC base n φ g w l' (strip a) v:=by
 cases h with
 | zero a v h =>
  cases h with
  | pv p v h=>exact .zero _ _ (.pv _ _ h)
  | ref id off h=>exact .zero _ _ (.ref _ _ h)
  | view id off len cap z h hc hsp=>exact .zero _ _ (.view _ _ _ _ _ h hc hsp)
  | view0 id off cap z a h=>exact .zero _ _ (.view0 _ _ _ _ _ h)
  | eref row off b o val h1 h2 h3 h4=>exact .zero _ _ (.eref _ _ _ _ _ h1 h2 h3 h4)
 | own sz rows v b cap e cur h=>exact .zero _ _ (.pv _ _ h.sl)
 | clo fn fs cs vs us h1 h2 r1 r2=>exact .clo fn fs cs vs us h1 h2 r1 r2
 | junk v=>exact .junk v
theorem RepB.strip {a:AV} {v:Value} (h:RepB base n φ g w l a v):RepB base n φ g w l' (strip a) v:=by
 cases h with
 | c a v h=>exact .c _ _ h.strip
 | agg cs vs h1 h2 h3 =>
  refine .agg _ vs (by simp [yv14,h1]) ?_ h3
  intro i a v p q
  rw [yv14,List.getElem?_map] at p
  cases hc:cs[i]? with
  | none=>simp [hc] at p
  | some x=>simp [hc] at p;subst p;exact (h2 i x v hc q).strip
theorem RepA.strip {a:AV} {v:Value} (h:RepA base n φ g w l a v):RepA base n φ g w l' (strip a) v:=by
 cases h with
 | b a v h=>exact .b _ _ h.strip
 | tup cs vs h1 h2 =>
  refine .tup _ vs (by simp [yv14,h1]) ?_
  intro i a v p q
  rw [yv14,List.getElem?_map] at p
  cases hc:cs[i]? with
  | none=>simp [hc] at p
  | some x=>simp [hc] at p;subst p;exact (h2 i x v hc q).strip
theorem RepA.of_tup {cs:List AV} {v:Value} (h:RepA base n φ g w l (.tup cs) v):∃ vs,v=.tuple vs∧cs.length=vs.size ∧
 ∀ (i:Nat) (a:AV) (v:Value),cs[i]?=some a->vs[i]?=some v->RepB base n φ g w (.sub l i) a v:=by
 cases h with
 | b _ _ h=>cases h with
  | c _ _ h=>cases h with
   | zero _ _ h=>cases h
 | tup cs vs h1 h2=>exact ⟨vs,rfl,h1,h2⟩
theorem RepA.of_agg {cs:List AV} {v:Value} (h:RepA base n φ g w l (.agg cs) v):∃ vs,v=.agg vs∧cs.length=vs.size ∧
 (∀ (i:Nat) (a:AV) (v:Value),cs[i]?=some a->vs[i]?=some v->RepC base n φ g w (.sub l i) a v)∧∀ v ∈ vs,v.oneCell'=true:=by
 cases h with
 | b _ _ h=>cases h with
  | c _ _ h=>cases h with
   | zero _ _ h=>cases h
  | agg cs vs h1 h2 h3=>exact ⟨vs,rfl,h1,h2,h3⟩
theorem RepA.of_eref {row:List PV} {off:Nat} {v:Value} (h:RepA base n φ g w l (.eref row off) v):Rep0 base n φ g w (.eref row off) v:=h.of_0 trivial
end
theorem yv483 {x y:Arg} {a b:Operand} (h:opds [x,y] [a,b]=true):opd x a=true∧opd y b=true:=by simpa [opds] using h
theorem yv482 {x y z:Arg} {a b c:Operand} (h:opds [x,y,z] [a,b,c]=true):opd x a=true∧opd y b=true∧opd z c=true:=by simpa [opds] using h
theorem yv31 {xs:List Arg} {os:List Operand} (h:opds xs os=true):xs.length=os.length:=by
 induction xs generalizing os with
 | nil=>cases os<;>simp_all [opds]
 | cons x l ih=>cases os with
  | nil=>simp [opds] at h
  | cons o m=>simp [opds] at h;simp [ih h.2]
theorem opds_two' {xs:List Arg} {a b:Operand} (h:opds xs [a,b]=true):∃ x y,xs=[x,y]∧opd x a=true∧opd y b=true:=by
 have:=yv31 h
 match xs,this with
 | [x,y],_=>exact ⟨x,y,rfl,yv483 h⟩
theorem opds_three' {xs:List Arg} {a b c:Operand} (h:opds xs [a,b,c]=true):∃ x y z,xs=[x,y,z]∧opd x a=true∧opd y b=true∧opd z c=true:=by
 have:=yv31 h
 match xs,this with
 | [x,y,z],_=>exact ⟨x,y,z,rfl,yv482 h⟩
variable {P:Program} {W0:World} {o:Oper} {s:SOp}
theorem yv607 {i:Nat} (hop:s.op=.ext i) (ok:okOp P o s=true):Right P W0 o s:=by
 intro φ g w H a as us r H' hi hh ha he
 simp only [okOp,hop] at ok
 simp only [hop,POp.ev] at he
 split at he
 ·rename_i vs
  simp only [yv155,Option.map_eq_some_iff] at he
  obtain ⟨x,hx,he⟩:=he
  simp at he;obtain ⟨rfl,rfl⟩:=he
  split at ok
  ·rename_i x y j hs hy
   rw [hs] at ha
   simp at ok
   obtain ⟨u,rfl,h1,h2⟩:=ha.one
   obtain ⟨us,rfl,h3,h4⟩:=h2.of_tup
   obtain ⟨ok1,rfl⟩:=ok
   have hlt:i < us.size:=by rw [← h3];exact (List.getElem?_eq_some_iff.1 hx).1
   refine ⟨us[i],φ,_,w,.inl ?_,.moved hi hh (p:=.sub (.arg 0) i) (by simp [Loc.root]) (by simp [Loc.root]) (by simp [Loc.root]) (.b _ _ (h4 i _ _ hx (by simp [hlt])))⟩
   simp [execOp,hy,yv0 ok1 h1,Instr.extract,hlt]
  ·cases ok
 ·cases he
theorem yv506 (hop:s.op=.pick) (ok:okOp P o s=true):Right P W0 o s:=by
 intro φ g w H a as us r H' hi hh ha he
 simp only [okOp,hop] at ok
 simp only [hop,POp.ev] at he
 split at he
 ·rename_i c x0 y0
  simp at he;obtain ⟨rfl,rfl⟩:=he
  split at ok
  ·rename_i c' x' y' hy
   obtain ⟨x,y,z,hs,k1,k2,k3⟩:=opds_three' ok
   rw [hs] at ha
   obtain ⟨u,v,t,rfl,h1,h2,h3,r1,r2,r3⟩:=ha.three
   obtain ⟨rfl,_⟩:=r1.of_lit
   cases c
   ·exact ⟨t,φ,_,w,.inl (by simp [execOp,hy,yv0 k1 h1,yv0 k3 h3,asBool]),.moved hi hh (p:=.arg 2) (by simp [Loc.root]) (by simp [Loc.root]) (by simp [Loc.root]) r3⟩
   ·exact ⟨v,φ,_,w,.inl (by simp [execOp,hy,yv0 k1 h1,yv0 k2 h2,asBool]),.moved hi hh (p:=.arg 1) (by simp [Loc.root]) (by simp [Loc.root]) (by simp [Loc.root]) r2⟩
  ·cases ok
 ·cases he
theorem yv376 (hop:s.op=.nilck) (ok:okOp P o s=true):Right P W0 o s:=by
 intro φ g w H a as us r H' hi hh ha he
 simp only [okOp,hop] at ok
 simp only [hop,POp.ev] at he
 split at ok
 case h_2=>cases ok
 rename_i x y hs hy
 rw [hs] at ha
 split at he
 ·simp at he;obtain ⟨rfl,rfl⟩:=he
  obtain ⟨u,rfl,h1,h2⟩:=ha.one
  obtain ⟨rfl,hn⟩:=h2.of_ref
  exact ⟨_,φ,_,w,.inl (by simp [execOp,hy,yv0 ok h1]),.same hi hh (.r0 (.ref _ _ hn))⟩
 ·simp at he;obtain ⟨rfl,rfl⟩:=he
  obtain ⟨u,rfl,h1,h2⟩:=ha.one
  have h0:=h2.of_eref
  refine ⟨u,φ,_,w,.inl ?_,.same hi hh (.r0 h0)⟩
  cases h0
  simp [execOp,hy,yv0 ok h1]
 ·cases he
theorem yv710 {u:UnOp} (hop:s.op=.un u) (ok:okOp P o s=true):Right P W0 o s:=by
 intro φ g w H a as us r H' hi hh ha he
 simp only [okOp,hop] at ok
 simp only [hop,POp.ev] at he
 split at ok
 case h_2=>cases ok
 rename_i x u' t y hs hy
 rw [hs] at ha
 simp at ok
 obtain ⟨ok,rfl⟩:=ok
 split at he
 case h_2=>cases he
 simp only [Option.map_eq_some_iff] at he
 obtain ⟨q,hq,he⟩:=he
 simp at he;obtain ⟨rfl,rfl⟩:=he
 obtain ⟨v,rfl,h1,h2⟩:=ha.one
 unfold unV at hq
 split at hq
 ·simp at hq;subst hq
  obtain ⟨rfl,_⟩:=h2.of_lit
  exact ⟨_,φ,_,w,.inl (by simp [execOp,hy,yv0 ok h1,Op.unary]),.same hi hh (.lit rfl)⟩
 ·simp at hq;subst hq
  obtain ⟨rfl,_⟩:=h2.of_lit
  exact ⟨_,φ,_,w,.inl (by simp [execOp,hy,yv0 ok h1,Op.unary,Op.intArith]),.same hi hh (.lit rfl)⟩
 ·cases hq
theorem yv36 {t:TypeId} {f:TypeDesc->Bool} (h:isUnd P t f=true):∃ d,P.underlying t=some d∧f d=true:=by
 unfold isUnd at h
 split at h
 ·exact ⟨_,by assumption,h⟩
 ·cases h
theorem yv179 {src:TypeId} (k:(P.underlying src).isSome=true) (w:World):∃ d,P.underlying src=some d∧(underlying src).run P w=.ok d w:=by
 cases h:P.underlying src with
 | none=>simp [h] at k
 | some d=>exact ⟨d,rfl,run_underlying h w⟩
theorem yv500 {k:IntKind} (hop:s.op=.cint k) (ok:okOp P o s=true):Right P W0 o s:=by
 intro φ g w H a as us r H' hi hh ha he
 simp only [okOp,hop] at ok
 simp only [hop,POp.ev] at he
 split at ok
 case h_2=>cases ok
 rename_i x src dst y hs hy
 rw [hs] at ha
 simp at ok
 obtain ⟨⟨ok,ok1⟩,ok2⟩:=ok
 split at he
 case h_2=>cases he
 simp at he;obtain ⟨rfl,rfl⟩:=he
 obtain ⟨v,rfl,h1,h2⟩:=ha.one
 obtain ⟨rfl,_⟩:=h2.of_lit
 obtain ⟨d,hd,hk⟩:=yv36 ok2
 obtain ⟨sd,hsd,hsr⟩:=yv179 ok1 w
 unfold dInt at hk
 split at hk
 ·simp at hk;subst hk
  exact ⟨_,φ,_,w,.inl (by simp [execOp,hy,yv0 ok h1,convert,hsr,run_underlying hd,Conv.intToInt]),.same hi hh (.lit rfl)⟩
 ·cases hk
theorem yv605 (hop:s.op=.cid) (ok:okOp P o s=true):Right P W0 o s:=by
 intro φ g w H a as us r H' hi hh ha he
 simp only [okOp,hop] at ok
 simp only [hop,POp.ev] at he
 split at ok
 case h_2=>cases ok
 rename_i x src dst y hs hy
 rw [hs] at ha
 simp at ok
 obtain ⟨⟨ok,ok1⟩,ok2⟩:=ok
 split at he
 case h_2=>cases he
 simp at he;obtain ⟨rfl,rfl⟩:=he
 obtain ⟨v,rfl,h1,h2⟩:=ha.one
 obtain ⟨rfl,_⟩:=h2.of_lit
 obtain ⟨d,hd,hk⟩:=yv36 ok2
 obtain ⟨sd,hsd,hsk⟩:=yv36 ok1
 unfold dStr at hk hsk
 split at hk
 ·split at hsk
  ·exact ⟨_,φ,_,w,.inl (by simp [execOp,hy,yv0 ok h1,convert,run_underlying hsd,run_underlying hd]),.same hi hh (.lit rfl)⟩
  ·cases hsk
 ·cases hk
end Go.Rv
namespace Go.Rv
open Go.RowKit
variable {P:Program} {W0:World} {o:Oper} {s:SOp}
theorem ba_eq {a b:ByteArray}:(a.toList == b.toList)=decide (a=b):=by
 rw [ByteArray.toList_eq,ByteArray.toList_eq,Bool.eq_iff_iff]
 simp only [beq_iff_eq,decide_eq_true_eq]
 constructor
 ·intro h
  cases a;cases b;simp at h;subst h;rfl
 ·intro h;rw [h]
theorem yv785 {a b:ByteArray}:(a == b)=decide (a=b):=by
 show ByteArray.beq a b=_
 unfold ByteArray.beq
 rw [Bool.eq_iff_iff]
 simp
 constructor
 ·intro h
  cases a;cases b;simp at h;subst h;rfl
 ·intro h;rw [h]
theorem yv713 {b:BinOp} {k:IntKind} {x y:Int} {q:AV} {t:TypeId} (hs:yv1 b=false) (h:intV b k x y=some q) (w:World) :
 ∃ v,q=.pv (.lit v)∧v.oneCell'=true∧(binOp b t (.int k x) (.int k y)).run P w=.ok v w:=by
 cases b<;>simp [yv1] at hs<;>simp only [intV] at h
 all_goals first
  | (simp at h;subst h;refine ⟨_,rfl,rfl,?_⟩;simp [binOp,Op.intArith,Op.intBits,Op.intCmp];done)
  | (split at h
     ·cases h
     ·rename_i hy;simp at h;subst h;refine ⟨_,rfl,rfl,?_⟩;simp [binOp,Op.intDiv,hy])
theorem yv515 {b:BinOp} {k k':IntKind} {x y:Int} {q:AV} {t:TypeId} (hs:yv1 b=true) (h:yv120 b k x y=some q) (w:World) :
 ∃ v,q=.pv (.lit v)∧v.oneCell'=true∧(binOp b t (.int k x) (.int k' y)).run P w=.ok v w:=by
 unfold yv120 at h
 split at h
 ·cases h
 ·rename_i hy
  cases b<;>simp [yv1] at hs<;>simp at h<;>subst h<;>refine ⟨_,rfl,rfl,?_⟩<;>simp [binOp,Op.shift,hy]
theorem yv714 {b:BinOp} {x y:ByteArray} {q:AV} {t:TypeId} (h:strV b x y=some q) (w:World) :
 ∃ v,q=.pv (.lit v)∧v.oneCell'=true∧(binOp b t (.string x) (.string y)).run P w=.ok v w:=by
 cases b<;>simp [strV] at h
 ·obtain ⟨hl,rfl⟩:=h
  refine ⟨_,rfl,rfl,?_⟩
  have:¬ ((IntKind.i64.max:Int) < ((x.size + y.size:Nat):Int)):=by
   have:IntKind.i64.max=9223372036854775807:=rfl
   omega
  simp only [binOp,Op.stringOp]
  rw [if_neg this]
  rfl
 ·subst h;exact ⟨_,rfl,rfl,by simp [binOp,Op.stringOp,ba_eq]⟩
 ·subst h;exact ⟨_,rfl,rfl,by simp [binOp,Op.stringOp,ba_eq]⟩
theorem yv48 {b:BinOp} {t:TypeId} {x y:Operand} {u v:Value} (hu:u.oneCell'=true) (hn:u ≠ .nilIface) (w:World):(eqGuard b t x y u v).run P w=.ok () w:=by
 cases u with
 | agg=>simp [Value.oneCell'] at hu
 | tuple=>simp [Value.oneCell'] at hu
 | nilIface=>exact absurd rfl hn
 | _=>unfold eqGuard;simp only [Sem.run_ite];split<;>simp
theorem yv104 {base n:Nat} {φ:Nat->Nat} {g:Gh} {w:World} {l l':Loc} {e:ET} {x y:AV} {u v:Value} {q:Bool} {t:TypeId} {d:Nat}
 (hx:RepA base n φ g w l x u) (hy:RepA base n φ g w l' y v) (h:yv58 e x y=some q) (ht:isUnd P t (dET e)=true) :
 (Op.equalIn (d + 1) t u v).run P w=.ok q w∧u.oneCell'=true∧u ≠ .nilIface:=by
 obtain ⟨d',hd,hk⟩:=yv36 ht
 unfold yv58 at h
 split at h
 ·split at h
  ·simp at h;subst h
   obtain ⟨rfl,_⟩:=hx.of_lit
   obtain ⟨rfl,_⟩:=hy.of_lit
   cases d'<;>simp [dET] at hk
   exact ⟨by simp [Op.equalIn,run_underlying hd],rfl,by simp⟩
  ·cases h
 ·split at h
  ·split at h
   ·rename_i hkk;subst hkk
    simp at h;subst h
    obtain ⟨rfl,_⟩:=hx.of_lit
    obtain ⟨rfl,_⟩:=hy.of_lit
    cases d'<;>simp [dET] at hk
    exact ⟨by simp [Op.equalIn,run_underlying hd],rfl,by simp⟩
   ·cases h
  ·cases h
 ·split at h
  ·simp at h;subst h
   obtain ⟨rfl,_⟩:=hx.of_lit
   obtain ⟨rfl,_⟩:=hy.of_lit
   cases d'<;>simp [dET] at hk
   exact ⟨by simp [Op.equalIn,run_underlying hd,yv785],rfl,by simp⟩
  ·cases h
 ·split at h
  ·simp at h;subst h
   obtain ⟨rfl,_⟩:=hx.of_lit
   obtain ⟨rfl,_⟩:=hy.of_lit
   cases d'<;>simp [dET] at hk
   exact ⟨by simp [Op.equalIn,run_underlying hd],rfl,by simp⟩
  ·simp at h;subst h
   obtain ⟨rfl,_⟩:=hx.of_ref
   obtain ⟨rfl,_⟩:=hy.of_lit
   cases d'<;>simp [dET] at hk
   exact ⟨by simp [Op.equalIn,run_underlying hd],rfl,by simp⟩
  ·simp at h;subst h
   obtain ⟨rfl,_⟩:=hx.of_lit
   obtain ⟨rfl,_⟩:=hy.of_ref
   cases d'<;>simp [dET] at hk
   exact ⟨by simp [Op.equalIn,run_underlying hd],rfl,by simp⟩
  ·cases h
 ·split at h
  ·simp at h;subst h
   obtain ⟨rfl,_⟩:=hx.of_lit
   obtain ⟨rfl,_⟩:=hy.of_lit
   cases d'<;>simp [dET] at hk
   exact ⟨by simp [Op.equalIn,run_underlying hd],rfl,by simp⟩
  ·simp at h;subst h
   have h0:=hx.of_0 trivial
   obtain ⟨rfl,_⟩:=hy.of_lit
   cases d'<;>simp [dET] at hk
   cases h0 with
   | pv _ _ h0=>cases h0<;>exact ⟨by simp [Op.equalIn,run_underlying hd],rfl,by simp⟩
  ·simp at h;subst h
   have h0:=hx.of_0 trivial
   obtain ⟨rfl,_⟩:=hy.of_lit
   cases d'<;>simp [dET] at hk
   cases h0<;>exact ⟨by simp [Op.equalIn,run_underlying hd],rfl,by simp⟩
  ·cases h
 ·split at h
  ·simp at h;subst h
   obtain ⟨rfl,_⟩:=hx.of_lit
   obtain ⟨rfl,_⟩:=hy.of_lit
   cases d'<;>simp [dET] at hk
   exact ⟨by simp [Op.equalIn,run_underlying hd],rfl,by simp⟩
  ·simp at h;subst h
   obtain ⟨rfl,_⟩:=hy.of_lit
   cases d'<;>simp [dET] at hk
   cases hx with
   | b _ _ hx=>cases hx with
    | c _ _ hx=>cases hx with
     | zero _ _ hx=>cases hx
     | clo=>exact ⟨by simp [Op.equalIn,run_underlying hd],rfl,by simp⟩
  ·cases h
end Go.Rv
namespace Go.Rv
open Go.RowKit
variable {P:Program} {W0:World} {o:Oper} {s:SOp}
def goodU:Value->Prop
 | .bool _|.pointer _|.slice _ _ _|.func _ _ _|.nilFunc|.agg _=>True
 | _=>False
theorem yv212 {t:TypeId} {u v:Value} {q:Bool} {w:World} (h:(Op.equal t u v).run P w=.ok q w) (hu:goodU u) :
 (binOp .eql t u v).run P w=.ok (.bool q) w∧(binOp .neq t u v).run P w=.ok (.bool (!q)) w:=by
 cases u<;>simp [goodU] at hu<;>cases v<;>simp [binOp,h]
theorem yv283 {base n:Nat} {φ:Nat->Nat} {g:Gh} {w:World} {l:Loc} {e:ET} {x y:AV} {u:Value} {q:Bool}
 (hx:RepA base n φ g w l x u) (h:yv58 e x y=some q) :
 (∃ k a k' b,x=.pv (.lit (.int k a))∧y=.pv (.lit (.int k' b)))∨(∃ a b,x=.pv (.lit (.string a))∧y=.pv (.lit (.string b)))∨goodU u:=by
 unfold yv58 at h
 split at h<;>split at h<;>first
  | (cases h;done)
  | (obtain ⟨rfl,_⟩:=hx.of_lit;first|exact .inr (.inr trivial)|exact .inl ⟨_,_,_,_,rfl,rfl⟩|exact .inr (.inl ⟨_,_,rfl,rfl⟩))
  | (obtain ⟨rfl,_⟩:=hx.of_ref;exact .inr (.inr trivial))
  | skip
 ·have h0:=hx.of_0 trivial
  cases h0 with
  | pv _ _ h0=>cases h0<;>exact .inr (.inr trivial)
 ·have h0:=hx.of_0 trivial
  cases h0<;>exact .inr (.inr trivial)
 ·cases hx with
  | b _ _ hx=>cases hx with
   | c _ _ hx=>cases hx with
    | zero _ _ hx=>cases hx
    | clo=>exact .inr (.inr trivial)
theorem yv603 {b:BinOp} {e:ET} (hop:s.op=.bin b e) (ok:okOp P o s=true):Right P W0 o s:=by
 intro φ g w H a as us r H' hi hh ha he
 simp only [okOp,hop] at ok
 simp only [hop,POp.ev] at he
 split at ok
 case h_2=>cases ok
 rename_i b' t x' y' _ hy
 simp only [Bool.and_eq_true,decide_eq_true_eq] at ok
 obtain ⟨⟨ok1,rfl⟩,ok2⟩:=ok
 obtain ⟨x,y,hs,k1,k2⟩:=opds_two' ok1
 rw [hs] at ha
 split at he
 case h_2=>cases he
 rename_i ax ay
 simp only [Option.map_eq_some_iff] at he
 obtain ⟨q,hq,he⟩:=he
 simp at he;obtain ⟨rfl,rfl⟩:=he
 obtain ⟨u,v,rfl,h1,h2,r1,r2⟩:=ha.two
 have e1:=yv0 k1 h1
 have e2:=yv0 k2 h2
 have fin:∀ {z:Value},q=.pv (.lit z)->z.oneCell'=true->(eqGuard b t x' y' u v).run P w=.ok () w->(binOp b t u v).run P w=.ok z w ->
  ∃ v φ' g' w',Done P o a w v w'∧Post W0 H.length φ g w φ' g' w' H q v:=by
  intro z hz h1 hg hb
  subst hz
  exact ⟨z,φ,g,w,.inl (by simp [execOp,hy,e1,e2,hg,hb]),.same hi hh (.lit h1)⟩
 unfold binV at hq
 split at hq
 ·rename_i k a1 k' a2
  obtain ⟨rfl,_⟩:=r1.of_lit
  obtain ⟨rfl,_⟩:=r2.of_lit
  split at hq
  ·rename_i hsh
   obtain ⟨z,hz,hz1,hz2⟩:=yv515 (P:=P) (t:=t) (k':=k') hsh hq w
   exact fin hz hz1 (yv48 rfl (by simp) w) hz2
  ·rename_i hsh
   split at hq
   ·rename_i hk;subst hk
    obtain ⟨z,hz,hz1,hz2⟩:=yv713 (P:=P) (t:=t) (by simpa using hsh) hq w
    exact fin hz hz1 (yv48 rfl (by simp) w) hz2
   ·cases hq
 ·obtain ⟨rfl,_⟩:=r1.of_lit
  obtain ⟨rfl,_⟩:=r2.of_lit
  obtain ⟨z,hz,hz1,hz2⟩:=yv714 (P:=P) (t:=t) hq w
  exact fin hz hz1 (yv48 rfl (by simp) w) hz2
 ·rename_i n1 n2
  have key:∀ qb,yv58 e ax ay=some qb->isCmp b=true->(binOp .eql t u v).run P w=.ok (.bool qb) w∧(binOp .neq t u v).run P w=.ok (.bool (!qb)) w∧u.oneCell'=true∧u ≠ .nilIface:=by
   intro qb hqb hc
   have ht:isUnd P t (dET e)=true:=by simpa [hc] using ok2
   obtain ⟨h3,h4,h5⟩:=yv104 (d:=9999) r1 r2 hqb ht
   have h6:(Op.equal t u v).run P w=.ok qb w:=h3
   rcases yv283 r1 hqb with ⟨k1,a1,k2,a2,e3,e4⟩|⟨a1,a2,e3,e4⟩|h7
   ·exact (n1 _ _ _ _ e3 e4).elim
   ·exact (n2 _ _ e3 e4).elim
   ·exact ⟨(yv212 h6 h7).1,(yv212 h6 h7).2,h4,h5⟩
  split at hq
  ·simp only [Option.map_eq_some_iff] at hq
   obtain ⟨qb,hqb,rfl⟩:=hq
   obtain ⟨h3,h4,h5,h6⟩:=key qb hqb rfl
   exact fin rfl rfl (yv48 h5 h6 w) h3
  ·simp only [Option.map_eq_some_iff] at hq
   obtain ⟨qb,hqb,rfl⟩:=hq
   obtain ⟨h3,h4,h5,h6⟩:=key qb hqb rfl
   exact fin rfl rfl (yv48 h5 h6 w) h4
  ·cases hq
theorem yv20 {b off k:Nat}:(⟨b,off,none⟩:Addr).add k=⟨b,off + k,none⟩:=by
 unfold Addr.add
 split
 ·rename_i h;subst h;rfl
 ·rfl
theorem yv251 {t:TypeId} {i off:Nat} {ft:TypeId} (h:offOf P t i=some (off,ft)):∃ fs f,P.underlying t=some (.struct fs)∧fs[i]?=some f∧f.offset=off∧f.type=ft:=by
 unfold offOf at h
 split at h
 ·rename_i fs hfs
  simp only [Option.map_eq_some_iff] at h
  obtain ⟨f,hf,he⟩:=h
  simp at he
  exact ⟨fs,f,hfs,hf,he.1,he.2⟩
 ·cases h
theorem yv38 {t:TypeId} {n:Nat} (h:sizeN P t=some n) (w:World):∃ i,P.info? t=some i∧i.size=n∧(Go.sizeOf t).run P w=.ok n w:=by
 unfold sizeN at h
 simp only [Option.map_eq_some_iff] at h
 obtain ⟨i,hi,rfl⟩:=h
 exact ⟨i,hi,rfl,by simp [Go.sizeOf,typeInfo,hi]⟩
theorem yv707 {off:Nat} (hop:s.op=.fa off) (ok:okOp P o s=true):Right P W0 o s:=by
 intro φ g w H a as us r H' hi hh ha he
 simp only [okOp,hop] at ok
 simp only [hop,POp.ev] at he
 split at ok
 case h_2=>cases ok
 rename_i x t y i hs hy
 rw [hs] at ha
 simp only [Bool.and_eq_true] at ok
 obtain ⟨ok1,ok2⟩:=ok
 unfold faOk at ok2
 split at ok2
 case h_2=>cases ok2
 rename_i off' ft hoff
 simp only [Bool.and_eq_true,beq_iff_eq] at ok2
 obtain ⟨rfl,ok3⟩:=ok2
 split at ok3
 case h_2=>cases ok3
 rename_i m hm
 simp at ok3
 obtain ⟨fs,f,hfs,hf,rfl,rfl⟩:=yv251 hoff
 obtain ⟨inf,hinf,_,hsz⟩:=yv38 hm w
 split at he
 ·simp at he;obtain ⟨rfl,rfl⟩:=he
  obtain ⟨u,rfl,h1,h2⟩:=ha.one
  obtain ⟨rfl,hn⟩:=h2.of_ref
  refine ⟨_,φ,_,w,.inl ?_,.same hi hh (.r0 (.ref _ _ hn))⟩
  simp [execOp,hy,yv0 ok1 h1,Instr.fieldAt,run_underlying hfs,hf,Instr.sureAddr,fieldPlace,hsz,ok3,yv20]
 ·simp at he;obtain ⟨rfl,rfl⟩:=he
  obtain ⟨u,rfl,h1,h2⟩:=ha.one
  have h0:=h2.of_eref
  cases h0 with
  | eref row o' b o2 val q1 q2 q3 q4 =>
   refine ⟨_,φ,_,w,.inl ?_,.same hi hh (.r0 (.eref _ _ b o2 val q1 q2 q3 q4))⟩
   simp [execOp,hy,yv0 ok1 h1,Instr.fieldAt,run_underlying hfs,hf,Instr.sureAddr,fieldPlace,hsz,ok3,yv20,Nat.add_assoc]
 ·cases he
theorem yv302 {t:TypeId} {k:Option Nat} (h:aggN P t=some k):∃ d i,P.underlying t=some d∧P.info? t=some i∧k=if yv366 d then some i.size else none:=by
 unfold aggN at h
 split at h
 ·simp at h;exact ⟨_,_,by assumption,by assumption,h.symm⟩
 ·cases h
theorem yv345 {t:TypeId} {d:TypeDesc} (h:P.underlying t=some d) (w:World):(isAgg t).run P w=.ok (yv366 d) w:=by
 unfold isAgg yv366
 rw [Sem.run_bind,run_underlying h]
 cases d<;>rfl
theorem yv68 {t:TypeId} {k:Option Nat} (h:aggN P t=some k) (cs:Array Value) (off:Nat) (w:World) :
 (part t cs off).run P w=k.elim ((cs[off]?).elim (.halt (.stuck "part: no such cell") w) fun v=>.ok v w) fun m=>.ok (.agg (cs.extract off (off + m))) w:=by
 obtain ⟨d,i,hd,hi,rfl⟩:=yv302 h
 unfold part
 rw [Sem.run_bind,yv345 hd]
 cases hg:yv366 d with
 | false =>
  simp
  cases cs[off]?<;>rfl
 | true=>simp [Go.sizeOf,typeInfo,hi]
theorem RepC.one {base n:Nat} {φ:Nat->Nat} {g:Gh} {w:World} {l:Loc} {a:AV} {v:Value} (h:RepC base n φ g w l a v) (hj:a ≠ .junk):v.oneCell'=true:=by
 cases h with
 | zero _ _ h=>exact h.one
 | own _ _ _ _ _ _ _ h=>rw [h.v];rfl
 | clo=>rfl
 | junk=>exact absurd rfl hj
theorem yv484 {base n:Nat} {φ:Nat->Nat} {g:Gh} {w:World} {l:Loc} {cs:List AV} {vs:Array Value} {off m:Nat} (h1:cs.length=vs.size)
 (h2:∀ (i:Nat) (a:AV) (v:Value),cs[i]?=some a->vs[i]?=some v->RepC base n φ g w (.sub l i) a v) (h3:∀ v ∈ vs,v.oneCell'=true) (hl:off + m ≤ cs.length) :
 RepB base n φ g w .res (.agg (yv26 ((cs.drop off).take m))) (.agg (vs.extract off (off + m))):=by
 refine .agg _ _ (by simp [yv14];omega) ?_ ?_
 ·intro i a v p q
  rw [yv14,List.getElem?_map] at p
  cases hc:((cs.drop off).take m)[i]? with
  | none=>simp [hc] at p
  | some x =>
   simp [hc] at p;subst p
   rw [List.getElem?_take] at hc
   split at hc
   ·rename_i him
    rw [List.getElem?_drop] at hc
    rw [Array.getElem?_extract] at q
    split at q
    ·exact (h2 (off + i) x v hc q).strip
    ·cases q
   ·cases hc
 ·intro v hv
  obtain ⟨i,hi⟩:=List.getElem?_of_mem (Array.mem_toList_iff.2 hv)
  simp only [Array.getElem?_toList] at hi
  rw [Array.getElem?_extract] at hi
  split at hi
  ·exact h3 v (Array.mem_of_getElem? hi)
  ·cases hi
theorem yv608 {off:Nat} {k:Option Nat} (hop:s.op=.fld off k) (ok:okOp P o s=true):Right P W0 o s:=by
 intro φ g w H a as us r H' hi hh ha he
 simp only [okOp,hop] at ok
 simp only [hop,POp.ev] at he
 split at ok
 case h_2=>cases ok
 rename_i x t y i hs hy
 rw [hs] at ha
 simp only [Bool.and_eq_true] at ok
 obtain ⟨ok1,ok2⟩:=ok
 unfold yv624 at ok2
 split at ok2
 case h_2=>cases ok2
 rename_i off' ft hoff
 simp only [Bool.and_eq_true,beq_iff_eq] at ok2
 obtain ⟨rfl,ok3⟩:=ok2
 obtain ⟨fs,f,hfs,hf,rfl,rfl⟩:=yv251 hoff
 split at he
 case h_2=>cases he
 rename_i cs
 obtain ⟨u,rfl,h1,h2⟩:=ha.one
 obtain ⟨vs,rfl,q1,q2,q3⟩:=h2.of_agg
 have hp:=yv68 ok3 vs f.offset w
 split at he
 ·simp only [yv155,Option.map_eq_some_iff] at he
  obtain ⟨c,hc,he⟩:=he
  simp at he;obtain ⟨rfl,rfl⟩:=he
  have hlt:f.offset < vs.size:=by rw [← q1];exact (List.getElem?_eq_some_iff.1 hc).1
  simp [hlt] at hp
  refine ⟨vs[f.offset],φ,g,w,.inl ?_,.same hi hh (.b _ _ (.c _ _ ((q2 f.offset c _ hc (by simp [hlt])).strip)))⟩
  simp [execOp,hy,yv0 ok1 h1,Instr.field,run_underlying hfs,hf,asAgg,hp]
 ·split at he
  ·rename_i m hm
   simp at he;obtain ⟨rfl,rfl⟩:=he
   simp at hp
   refine ⟨_,φ,g,w,.inl ?_,.same hi hh (.b _ _ (yv484 q1 q2 q3 hm))⟩
   simp [execOp,hy,yv0 ok1 h1,Instr.field,run_underlying hfs,hf,asAgg,hp]
  ·cases he
end Go.Rv
namespace Go.Rv
open Go.RowKit
variable {P:Program} {W0:World} {o:Oper} {s:SOp}
theorem yv92 {t:TypeId} {sz:Nat} (h:yv137 P t sz=true):∃ e,P.underlying t=some (.slice e)∧sizeN P e=some sz:=by
 unfold yv137 at h
 split at h
 ·exact ⟨_,by assumption,by simpa using h⟩
 ·cases h
theorem yv153 {t:TypeId} {m sz:Nat} (h:yv331 P t m sz=true):∃ e,P.underlying t=some (.array m e)∧sizeN P e=some sz:=by
 unfold yv331 at h
 split at h
 ·simp at h;obtain ⟨rfl,h⟩:=h;exact ⟨_,by assumption,h⟩
 ·cases h
theorem yv708 {sz:Nat} (hop:s.op=.ia sz) (ok:okOp P o s=true):Right P W0 o s:=by
 intro φ g w H a as us r H' hi hh ha he
 simp only [okOp,hop] at ok
 simp only [hop,POp.ev] at he
 split at ok
 case h_2=>cases ok
 rename_i t x' y' hy
 simp only [Bool.and_eq_true] at ok
 obtain ⟨ok1,ok2⟩:=ok
 obtain ⟨x,y,hs,k1,k2⟩:=opds_two' ok1
 rw [hs] at ha
 obtain ⟨e,he1,he2⟩:=yv92 ok2
 obtain ⟨_,_,_,hsz⟩:=yv38 he2 w
 split at he
 ·rename_i z rows k i
  split at he
  case isFalse=>cases he
  rename_i hi0
  obtain ⟨rfl,hi0⟩:=hi0
  split at he
  case h_2=>cases he
  rename_i row hrow
  simp at he;obtain ⟨rfl,rfl⟩:=he
  obtain ⟨u,v,rfl,h1,h2,r1,r2⟩:=ha.two
  obtain ⟨rfl,_⟩:=r2.of_lit
  have h0:=r1.of_0 trivial
  cases h0 with
  | pv _ _ h0 =>
   cases h0 with
   | none=>simp at hrow
   | sl _ _ b off cap val q1 q2 q3 q6 q4 q5 =>
    have hlt:i.toNat < rows.length:=(List.getElem?_eq_some_iff.1 hrow).1
    have hlt':i < (rows.length:Int):=by omega
    refine ⟨_,φ,g,w,.inl ?_,.same hi hh (.r0 (.eref row 0 b (off + i.toNat * z) (fun j=>val i.toNat j) q3 ?_ ?_ ?_))⟩
    ·simp [execOp,hy,yv0 k1 h1,yv0 k2 h2,Instr.indexAt,asIntOf,run_underlying he1,hi0,hlt',hsz,yv20]
    ·intro j hj
     have h4:(i.toNat + 1) * z ≤ rows.length * z:=Nat.mul_le_mul_right _ hlt
     rw [Nat.add_mul] at h4
     have:=q1 row (List.mem_of_getElem? hrow)
     exact q2 _ (by omega) (by omega)
    ·intro j c hj
     have:=q4 i.toNat row j c hrow hj
     rwa [← Nat.add_assoc] at this
    ·exact fun j c hj=>q5 i.toNat row j c hrow hj
 ·rename_i id off m z0 k i
  split at he
  case isFalse=>cases he
  rename_i hi0
  simp at he;obtain ⟨rfl,rfl⟩:=he
  obtain ⟨u,v,rfl,h1,h2,r1,r2⟩:=ha.two
  obtain ⟨rfl,_⟩:=r2.of_lit
  have h0:=r1.of_0 trivial
  cases h0 with
  | view0=>omega
  | view _ _ _ cap _ hn hc _ =>
   refine ⟨_,φ,g,w,.inl ?_,.same hi hh (.r0 (.ref id _ hn))⟩
   simp [execOp,hy,yv0 k1 h1,yv0 k2 h2,Instr.indexAt,asIntOf,run_underlying he1,hi0.1,hi0.2,hsz,yv20]
 ·cases he
theorem yv502 {m sz:Nat} (hop:s.op=.iarr m sz) (ok:okOp P o s=true):Right P W0 o s:=by
 intro φ g w H a as us r H' hi hh ha he
 simp only [okOp,hop] at ok
 simp only [hop,POp.ev] at he
 split at ok
 case h_2=>cases ok
 rename_i t x' y' hy
 simp only [Bool.and_eq_true] at ok
 obtain ⟨ok1,ok2⟩:=ok
 obtain ⟨x,y,hs,k1,k2⟩:=opds_two' ok1
 rw [hs] at ha
 obtain ⟨e,he1,he2⟩:=yv153 ok2
 obtain ⟨_,_,_,hsz⟩:=yv38 he2 w
 split at he
 ·rename_i id off k i
  split at he
  case isFalse=>cases he
  rename_i hi0
  simp at he;obtain ⟨rfl,rfl⟩:=he
  obtain ⟨u,v,rfl,h1,h2,r1,r2⟩:=ha.two
  obtain ⟨rfl,_⟩:=r2.of_lit
  obtain ⟨rfl,hn⟩:=r1.of_ref
  refine ⟨_,φ,g,w,.inl ?_,.same hi hh (.r0 (.ref id _ hn))⟩
  simp [execOp,hy,yv0 k1 h1,yv0 k2 h2,Instr.indexAt,asIntOf,run_underlying he1,Instr.sureAddr,hi0.1,hi0.2,hsz,yv20]
 ·rename_i row off k i
  split at he
  case isFalse=>cases he
  rename_i hi0
  simp at he;obtain ⟨rfl,rfl⟩:=he
  obtain ⟨u,v,rfl,h1,h2,r1,r2⟩:=ha.two
  obtain ⟨rfl,_⟩:=r2.of_lit
  have h0:=r1.of_eref
  cases h0 with
  | eref _ _ b o2 val q1 q2 q3 q4 =>
   refine ⟨_,φ,g,w,.inl ?_,.same hi hh (.r0 (.eref _ _ b o2 val q1 q2 q3 q4))⟩
   simp [execOp,hy,yv0 k1 h1,yv0 k2 h2,Instr.indexAt,asIntOf,run_underlying he1,Instr.sureAddr,hi0.1,hi0.2,hsz,yv20,Nat.add_assoc]
 ·cases he
theorem yv52 {t:TypeId} (h:isUnd P t dStr=true):P.underlying t=some .string:=by
 obtain ⟨d,hd,hk⟩:=yv36 h
 unfold dStr at hk
 split at hk
 ·exact hd
 ·cases hk
theorem yv508 (hop:s.op=.sidx) (ok:okOp P o s=true):Right P W0 o s:=by
 intro φ g w H a as us r H' hi hh ha he
 simp only [okOp,hop] at ok
 simp only [hop,POp.ev] at he
 split at ok
 case h_2=>cases ok
 rename_i t x' y' hy
 simp only [Bool.and_eq_true] at ok
 obtain ⟨ok1,ok2⟩:=ok
 obtain ⟨x,y,hs,k1,k2⟩:=opds_two' ok1
 rw [hs] at ha
 have he1:=yv52 ok2
 split at he
 case h_2=>cases he
 rename_i str k i
 split at he
 case isFalse=>cases he
 rename_i hi0
 simp only [Option.map_eq_some_iff] at he
 obtain ⟨b,hb,he⟩:=he
 simp at he;obtain ⟨rfl,rfl⟩:=he
 obtain ⟨u,v,rfl,h1,h2,r1,r2⟩:=ha.two
 obtain ⟨rfl,_⟩:=r1.of_lit
 obtain ⟨rfl,_⟩:=r2.of_lit
 have hlt:i.toNat < str.data.toList.length:=(List.getElem?_eq_some_iff.1 hb).1
 have hlt':i.toNat < str.size:=by simpa using hlt
 have hb':str[i.toNat]?=some b:=by
  rw [getElem?_pos str i.toNat hlt']
  rw [List.getElem?_eq_getElem hlt] at hb
  simp at hb
  rw [← hb];rfl
 exact ⟨_,φ,g,w,.inl (by simp [execOp,hy,yv0 k1 h1,yv0 k2 h2,Instr.index,asIntOf,run_underlying he1,hi0,hb']),.same hi hh (.lit rfl)⟩
theorem yv497 {m sz:Nat} {k:Option Nat} (hop:s.op=.aidx m sz k) (ok:okOp P o s=true):Right P W0 o s:=by
 intro φ g w H a as us r H' hi hh ha he
 simp only [okOp,hop] at ok
 simp only [hop,POp.ev] at he
 split at ok
 case h_2=>cases ok
 rename_i t x' y' hy
 simp only [Bool.and_eq_true] at ok
 obtain ⟨⟨ok1,ok2⟩,ok3⟩:=ok
 obtain ⟨x,y,hs,k1,k2⟩:=opds_two' ok1
 rw [hs] at ha
 obtain ⟨e,he1,he2⟩:=yv153 ok2
 obtain ⟨_,_,_,hsz⟩:=yv38 he2 w
 rw [he1] at ok3
 simp only [beq_iff_eq] at ok3
 split at he
 case h_2=>cases he
 rename_i cs ki i
 split at he
 case isFalse=>cases he
 rename_i hi0
 obtain ⟨u,v,rfl,h1,h2,r1,r2⟩:=ha.two
 obtain ⟨rfl,_⟩:=r2.of_lit
 obtain ⟨vs,rfl,q1,q2,q3⟩:=r1.of_agg
 have hp:=yv68 ok3 vs (i.toNat * sz) w
 split at he
 ·simp only [yv155,Option.map_eq_some_iff] at he
  obtain ⟨c,hc,he⟩:=he
  simp at he;obtain ⟨rfl,rfl⟩:=he
  have hlt:i.toNat * sz < vs.size:=by rw [← q1];exact (List.getElem?_eq_some_iff.1 hc).1
  simp [hlt] at hp
  refine ⟨vs[i.toNat * sz],φ,g,w,.inl ?_,.same hi hh (.b _ _ (.c _ _ ((q2 _ c _ hc (by simp [hlt])).strip)))⟩
  simp [execOp,hy,yv0 k1 h1,yv0 k2 h2,Instr.index,asIntOf,run_underlying he1,hi0.1,hi0.2,hsz,hp]
 ·split at he
  ·rename_i m' hm
   simp at he;obtain ⟨rfl,rfl⟩:=he
   simp at hp
   refine ⟨_,φ,g,w,.inl ?_,.same hi hh (.b _ _ (yv484 q1 q2 q3 hm))⟩
   simp [execOp,hy,yv0 k1 h1,yv0 k2 h2,Instr.index,asIntOf,run_underlying he1,hi0.1,hi0.2,hsz,hp]
  ·cases he
theorem yv579 {base n:Nat} {φ:Nat->Nat} {g:Gh} {w:World} {l:Loc} {a:AV} {v:Value} {m:Nat} (h:lenOf a=some m) (r:RepA base n φ g w l a v) :
 ∃ ad cap,v=.slice ad m cap:=by
 unfold lenOf at h
 split at h
 ·simp at h;subst h
  have h0:=r.of_0 trivial
  cases h0 with
  | pv _ _ h0=>cases h0<;>exact ⟨_,_,rfl⟩
 ·simp at h;subst h
  cases r with
  | b _ _ r=>cases r with
   | c _ _ r=>cases r with
    | zero _ _ r=>cases r
    | own _ _ _ _ _ _ _ r=>exact ⟨_,_,r.v⟩
 ·simp at h;subst h
  obtain ⟨rfl,_⟩:=r.of_lit
  exact ⟨_,_,rfl⟩
 ·simp at h;subst h
  have h0:=r.of_0 trivial
  cases h0<;>exact ⟨_,_,rfl⟩
 ·cases h
theorem yv22 {c:Callee} {b:Builtin} (h:yv90 c=some b):c=.builtin b:=by
 cases c<;>simp [yv90] at h
 subst h;rfl
theorem yv611 (hop:s.op=.min) (ok:okOp P o s=true):Right P W0 o s:=by
 intro φ g w H a as us r H' hi hh ha he
 simp only [okOp,hop] at ok
 simp only [hop,POp.ev] at he
 split at ok
 case h_2=>cases ok
 rename_i c hy
 obtain ⟨cal,args,tys⟩:=c
 simp only [Bool.and_eq_true,beq_iff_eq] at ok
 obtain ⟨ok1,ok2⟩:=ok
 obtain rfl:=yv22 ok1
 split at he
 case h_2=>cases he
 simp at he;obtain ⟨rfl,rfl⟩:=he
 have hl:=yv31 ok2
 have hl2:=ha.l1
 obtain ⟨args⟩:=args
 simp at hl hl2 ok2
 rw [hl2] at hl
 match args,hl with
 | [x',y'],_ =>
  obtain ⟨x,y,hs,k1,k2⟩:=opds_two' ok2
  rw [hs] at ha
  obtain ⟨u,v,rfl,h1,h2,r1,r2⟩:=ha.two
  obtain ⟨rfl,_⟩:=r1.of_lit
  obtain ⟨rfl,_⟩:=r2.of_lit
  exact ⟨_,φ,g,w,.inl (by simp [execOp,hy,resolve,invoke,builtin,yv0 k1 h1,yv0 k2 h2,Builtin.min_,Builtin.min2,List.foldlM]),.same hi hh (.lit rfl)⟩
theorem yv610 (hop:s.op=.max) (ok:okOp P o s=true):Right P W0 o s:=by
 intro φ g w H a as us r H' hi hh ha he
 simp only [okOp,hop] at ok
 simp only [hop,POp.ev] at he
 split at ok
 case h_2=>cases ok
 rename_i c hy
 obtain ⟨cal,args,tys⟩:=c
 simp only [Bool.and_eq_true,beq_iff_eq] at ok
 obtain ⟨ok1,ok2⟩:=ok
 obtain rfl:=yv22 ok1
 split at he
 case h_2=>cases he
 simp at he;obtain ⟨rfl,rfl⟩:=he
 have hl:=yv31 ok2
 have hl2:=ha.l1
 obtain ⟨args⟩:=args
 simp at hl hl2 ok2
 rw [hl2] at hl
 match args,hl with
 | [x',y'],_ =>
  obtain ⟨x,y,hs,k1,k2⟩:=opds_two' ok2
  rw [hs] at ha
  obtain ⟨u,v,rfl,h1,h2,r1,r2⟩:=ha.two
  obtain ⟨rfl,_⟩:=r1.of_lit
  obtain ⟨rfl,_⟩:=r2.of_lit
  exact ⟨_,φ,g,w,.inl (by simp [execOp,hy,resolve,invoke,builtin,yv0 k1 h1,yv0 k2 h2,Builtin.max_,Builtin.max2,List.foldlM]),.same hi hh (.lit rfl)⟩
theorem yv609 (hop:s.op=.len) (ok:okOp P o s=true):Right P W0 o s:=by
 intro φ g w H a as us r H' hi hh ha he
 simp only [okOp,hop] at ok
 simp only [hop,POp.ev] at he
 split at ok
 case h_2=>cases ok
 rename_i x c hs hy
 obtain ⟨cal,args,tys⟩:=c
 simp only [Bool.and_eq_true,beq_iff_eq] at ok
 obtain ⟨⟨ok1,ok2⟩,ok3⟩:=ok
 obtain rfl:=yv22 ok1
 rw [hs] at ha
 have hl:=yv31 ok2
 obtain ⟨args⟩:=args
 obtain ⟨tys⟩:=tys
 simp at hl ok2 ok3
 match args,hl with
 | [x'],_ =>
  have k1:opd x x'=true:=by simpa [opds] using ok2
  split at ok3
  case h_2=>cases ok3
  rename_i t
  obtain ⟨d,hd,hk⟩:=yv36 ok3
  obtain ⟨a0,rfl⟩:=yv206 ha
  obtain ⟨u,rfl,h1,r1⟩:=ha.one
  have fin:∀ (m:Nat),r=.i .i64 (m:Int)->H'=H->(∀ {q},(Builtin.len_ #[t] q #[u]).run P w=.ok (.int .i64 m) w) ->
   ∃ v φ' g' w',Done P o a w v w'∧Post W0 H.length φ g w φ' g' w' H' r v:=by
   intro m hr hH hrun
   subst hr hH
   exact ⟨_,φ,g,w,.inl (by simp [execOp,hy,resolve,invoke,builtin,yv0 k1 h1,hrun]),.same hi hh (.lit rfl)⟩
  simp only at he
  split at he
  case h_2=>cases he
  rename_i m hm
  simp at he;obtain ⟨rfl,rfl⟩:=he
  refine fin m rfl rfl ?_
  intro q
  cases d<;>simp at hk
  obtain ⟨ad,cap,rfl⟩:=yv579 hm r1
  simp [Builtin.len_,run_underlying hd,goInt]
theorem yv503 (hop:s.op=.lens) (ok:okOp P o s=true):Right P W0 o s:=by
 intro φ g w H a as us r H' hi hh ha he
 simp only [okOp,hop] at ok
 simp only [hop,POp.ev] at he
 split at ok
 case h_2=>cases ok
 rename_i x c hs hy
 obtain ⟨cal,args,tys⟩:=c
 simp only [Bool.and_eq_true,beq_iff_eq] at ok
 obtain ⟨⟨ok1,ok2⟩,ok3⟩:=ok
 obtain rfl:=yv22 ok1
 rw [hs] at ha
 have hl:=yv31 ok2
 obtain ⟨args⟩:=args
 obtain ⟨tys⟩:=tys
 simp at hl ok2 ok3
 match args,hl with
 | [x'],_ =>
  have k1:opd x x'=true:=by simpa [opds] using ok2
  split at ok3
  case h_2=>cases ok3
  rename_i t
  have hd:=yv52 ok3
  split at he
  case h_2=>cases he
  simp at he;obtain ⟨rfl,rfl⟩:=he
  obtain ⟨u,rfl,h1,r1⟩:=ha.one
  obtain ⟨rfl,_⟩:=r1.of_lit
  exact ⟨_,φ,g,w,.inl (by simp [execOp,hy,resolve,invoke,builtin,yv0 k1 h1,Builtin.len_,run_underlying hd,goInt]),.same hi hh (.lit rfl)⟩
theorem yv181 {base n m c:Nat} {φ:Nat->Nat} {g:Gh} {w:World} {a:Act} {lo hi isS:Bool} {l h:Option Operand} {is:List AV} {r:Nat × Nat} {xs:List Arg} {us:List Value}
 (hlo:loOk lo l=true) (hhi:loOk hi h=true) (hop:opds xs (l.toList++h.toList)=true)
 (hc:∀ (i:Nat) (x:Arg) (u:Value),xs[i]?=some x->us[i]?=some u->ArgC a.tmps x u) (h1:xs.length=is.length) (h2:us.length=is.length)
 (hr:∀ (i:Nat) (q:AV) (u:Value),is[i]?=some q->us[i]?=some u->∃ l,RepA base n φ g w l q u) (hb:yv50 m lo hi is=some r) (hmc:m ≤ c) (P:Program) :
 r.1 ≤ r.2∧r.2 ≤ m∧(Instr.sliceBounds isS m c (l.map a.eval) (h.map a.eval) none).run P w=.ok (r.1,r.2,c) w:=by
 unfold yv50 at hb
 split at hb
 ·simp at hb;subst hb
  cases l<;>simp [loOk] at hlo
  cases h<;>simp [loOk] at hhi
  exact ⟨Nat.zero_le _,Nat.le_refl _,by simp [Instr.sliceBounds]⟩
 ·rename_i k i
  split at hb
  case isFalse=>cases hb
  rename_i hi0
  simp at hb;subst hb
  cases l<;>simp [loOk] at hlo
  cases h<;>simp [loOk] at hhi
  rename_i lo'
  match xs,us,h1,h2 with
  | [x],[u],_,_ =>
   obtain ⟨_,hr⟩:=hr 0 _ u rfl rfl
   obtain ⟨rfl,_⟩:=hr.of_lit
   have k1:opd x lo'=true:=by simpa [opds] using hop
   have e1:=yv0 k1 (hc 0 x _ rfl rfl)
   refine ⟨by simp;omega,Nat.le_refl _,?_⟩
   simp [Instr.sliceBounds,e1,Instr.sliceBound,asIntOf,hi0.1,hi0.2]
 ·rename_i k i
  split at hb
  case isFalse=>cases hb
  rename_i hi0
  simp at hb;subst hb
  cases l<;>simp [loOk] at hlo
  cases h<;>simp [loOk] at hhi
  rename_i lo'
  match xs,us,h1,h2 with
  | [x],[u],_,_ =>
   obtain ⟨_,hr⟩:=hr 0 _ u rfl rfl
   obtain ⟨rfl,_⟩:=hr.of_lit
   have k1:opd x lo'=true:=by simpa [opds] using hop
   have e1:=yv0 k1 (hc 0 x _ rfl rfl)
   have hcc:i ≤ (c:Int):=by omega
   refine ⟨Nat.zero_le _,by simp;omega,?_⟩
   simp [Instr.sliceBounds,e1,Instr.sliceBound,asIntOf,hi0.1,hcc]
 ·rename_i k i k' i'
  split at hb
  case isFalse=>cases hb
  rename_i hi0
  simp at hb;subst hb
  cases l<;>simp [loOk] at hlo
  cases h<;>simp [loOk] at hhi
  rename_i lo' hi'
  match xs,us,h1,h2 with
  | [x,y],[u,v],_,_ =>
   obtain ⟨_,hr0⟩:=hr 0 _ u rfl rfl
   obtain ⟨rfl,_⟩:=hr0.of_lit
   obtain ⟨_,hr1⟩:=hr 1 _ v rfl rfl
   obtain ⟨rfl,_⟩:=hr1.of_lit
   have k12:=yv483 (by simpa using hop:opds [x,y] [lo',hi']=true)
   have e1:=yv0 k12.1 (hc 0 x _ rfl rfl)
   have e2:=yv0 k12.2 (hc 1 y _ rfl rfl)
   have hcc:i' ≤ (c:Int):=by omega
   have h0:0 ≤ i':=by omega
   have hle:i ≤ ((i'.toNat:Nat):Int):=by omega
   refine ⟨by simp;omega,by simp;omega,?_⟩
   simp [Instr.sliceBounds,e1,e2,Instr.sliceBound,asIntOf,hi0.1,hcc,h0]
   intro hh;omega
 ·cases hb
theorem yv509 {lo hi':Bool} (hop:s.op=.sstr lo hi') (ok:okOp P o s=true):Right P W0 o s:=by
 intro φ g w H a as us r H' hi hh ha he
 simp only [okOp,hop] at ok
 simp only [hop,POp.ev] at he
 split at ok
 case h_2=>cases ok
 rename_i t x' l h hy
 simp only [Bool.and_eq_true] at ok
 obtain ⟨⟨⟨ok1,ok2⟩,ok3⟩,ok4⟩:=ok
 have hd:=yv52 ok1
 split at he
 case h_2=>cases he
 rename_i str is
 simp only [Option.map_eq_some_iff] at he
 obtain ⟨b,hb,he⟩:=he
 simp at he;obtain ⟨rfl,rfl⟩:=he
 obtain ⟨l1,l2,hc,hr⟩:=ha
 cases hsa:s.args with
 | nil=>simp [hsa] at l1
 | cons x xs =>
  cases us with
  | nil=>simp at l2
  | cons u us =>
   rw [hsa] at ok4 l1 hc
   have ok5:opd x x'=true∧opds xs (l.toList++h.toList)=true:=by simpa [opds] using ok4
   obtain ⟨rfl,_⟩:=(hr 0 _ u rfl rfl).of_lit
   have e1:=yv0 ok5.1 (hc 0 x _ rfl rfl)
   obtain ⟨q1,q2,q3⟩:=yv181 (isS:=false) ok2 ok3 ok5.2 (fun i x u p q=>hc (i + 1) x u p q) (by simpa using l1) (by simpa using l2) (fun i q u p p2=>⟨_,hr (i + 1) q u p p2⟩) hb (Nat.le_refl _) P
   exact ⟨_,φ,g,w,.inl (by simp [execOp,hy,e1,Instr.sliceAt,Instr.slice,run_underlying hd,q3]),.same hi hh (.lit rfl)⟩
theorem yv614 {sz:Nat} {lo hi':Bool} (hop:s.op=.ssl sz lo hi') (ok:okOp P o s=true):Right P W0 o s:=by
 intro φ g w H a as us r H' hi hh ha he
 simp only [okOp,hop] at ok
 simp only [hop,POp.ev] at he
 split at ok
 case h_2=>cases ok
 rename_i t x' l h hy
 simp only [Bool.and_eq_true] at ok
 obtain ⟨⟨⟨ok1,ok2⟩,ok3⟩,ok4⟩:=ok
 obtain ⟨e,hd,he2⟩:=yv92 ok1
 obtain ⟨_,_,_,hsz⟩:=yv38 he2 w
 obtain ⟨l1,l2,hc,hr⟩:=ha
 cases has:as with
 | nil=>rw [has] at he;simp at he
 | cons a0 is =>
 rw [has] at he l1 l2 hr
 cases hsa:s.args with
 | nil=>simp [hsa] at l1
 | cons x xs =>
  cases us with
  | nil=>simp at l2
  | cons u us =>
   rw [hsa] at ok4 l1 hc
   have ok5:opd x x'=true∧opds xs (l.toList++h.toList)=true:=by simpa [opds] using ok4
   have e1:=yv0 ok5.1 (hc 0 x _ rfl rfl)
   have key:∀ {m:Nat} {b:Nat × Nat} (c:Nat),yv50 m lo hi' is=some b->m ≤ c->b.1 ≤ b.2∧b.2 ≤ m∧(Instr.sliceBounds true m c (l.map a.eval) (h.map a.eval) none).run P w=.ok (b.1,b.2,c) w :=
    fun c hb hmc=>yv181 ok2 ok3 ok5.2 (fun i x u p q=>hc (i + 1) x u p q) (by simpa using l1) (by simpa using l2) (fun i q u p p2=>⟨_,hr (i + 1) q u p p2⟩) hb hmc P
   split at he
   ·rename_i is' heq
    simp at heq;obtain ⟨rfl,rfl⟩:=heq
    simp only [Option.map_eq_some_iff] at he
    obtain ⟨b,hb,he⟩:=he
    simp at he;obtain ⟨rfl,rfl⟩:=he
    obtain ⟨rfl,_⟩:=(hr 0 _ u rfl rfl).of_lit
    obtain ⟨q1,q2,q3⟩:=key 0 hb (Nat.le_refl _)
    have z2:b.2=0:=by omega
    have z1:b.1=0:=by omega
    refine ⟨.slice none 0 0,φ,g,w,.inl ?_,.same hi hh (.lit rfl)⟩
    simp [execOp,hy,e1,Instr.sliceAt,Instr.slice,run_underlying hd,q3,hsz,z1,z2]
   ·rename_i z rows is' heq
    simp at heq;obtain ⟨rfl,rfl⟩:=heq
    split at he
    case isFalse=>cases he
    rename_i hz;subst hz
    simp only [Option.map_eq_some_iff] at he
    obtain ⟨b,hb,he⟩:=he
    simp at he;obtain ⟨rfl,rfl⟩:=he
    have h0:=(hr 0 _ u rfl rfl).of_0 trivial
    cases h0 with
    | pv _ _ h0 =>
     cases h0 with
     | none _ ad cap =>
      obtain ⟨q1,q2,q3⟩:=key (m:=0) cap (by simpa using hb) (Nat.zero_le _)
      have z2:b.2=0:=by omega
      have z1:b.1=0:=by omega
      refine ⟨.slice (if cap=b.1 then some ad else some (ad.add (b.1 * z))) (b.2 - b.1) (cap - b.1),φ,g,w,.inl (by simp [execOp,hy,e1,Instr.sliceAt,Instr.slice,run_underlying hd,q3,hsz]),.same hi hh (.r0 (.pv _ _ ?_))⟩
      rw [z1,z2]
      have:(List.take 0 ([]:List (List PV))).drop 0=[]:=rfl
      rw [this]
      split<;>exact .none _ _ _
     | sl _ _ b0 off cap val p1 p2 p3 p6 p4 p5 =>
      obtain ⟨q1,q2,q3⟩:=key cap hb p6
      refine ⟨.slice (if cap=b.1 then some ⟨b0,off,none⟩ else some ((⟨b0,off,none⟩:Addr).add (b.1 * z))) (b.2 - b.1) (cap - b.1),φ,g,w,.inl (by simp [execOp,hy,e1,Instr.sliceAt,Instr.slice,run_underlying hd,q3,hsz]),.same hi hh (.r0 (.pv _ _ ?_))⟩
      have hlen:((rows.take b.2).drop b.1).length=b.2 - b.1:=by simp;omega
      by_cases hemp:b.1=b.2
      ·have hnil:(rows.take b.2).drop b.1=[]:=List.eq_nil_of_length_eq_zero (by omega)
       rw [hnil,show b.2 - b.1=0 by omega]
       split<;>exact .none _ _ _
      ·rw [if_neg (by omega),yv20,← hlen]
       have hget:∀ i,((rows.take b.2).drop b.1)[i]?=if b.1 + i < b.2 then rows[b.1 + i]? else none:=by
        intro i
        rw [List.getElem?_drop,List.getElem?_take]
       refine .sl z _ b0 (off + b.1 * z) (cap - b.1) (fun i j=>val (b.1 + i) j) ?_ ?_ p3 (by omega) ?_ ?_
       ·exact fun r hr=>p1 r (List.mem_of_mem_take (List.mem_of_mem_drop hr))
       ·intro o h1 h2
        rw [hlen,Nat.sub_mul] at h2
        have h3:b.2 * z ≤ rows.length * z:=Nat.mul_le_mul_right _ q2
        have h4:b.1 * z ≤ b.2 * z:=Nat.mul_le_mul_right _ q1
        exact p2 o (by omega) (by omega)
       ·intro i r j c h1 h2
        rw [hget] at h1
        split at h1
        ·have:=p4 (b.1 + i) r j c h1 h2
         rw [Nat.add_mul] at this
         rw [← this]
         congr 2
         omega
        ·cases h1
       ·intro i r j c h1 h2
        rw [hget] at h1
        split at h1
        ·exact p5 (b.1 + i) r j c h1 h2
        ·cases h1
   ·rename_i id off m z is' heq
    simp at heq;obtain ⟨rfl,rfl⟩:=heq
    split at he
    case isFalse=>cases he
    rename_i hz;have hz:=hz.symm;subst hz
    simp only [Option.map_eq_some_iff] at he
    obtain ⟨b,hb,he⟩:=he
    simp at he;obtain ⟨rfl,rfl⟩:=he
    have h0:=(hr 0 _ u rfl rfl).of_0 trivial
    cases h0 with
    | view0 _ _ cap _ ad hn =>
     obtain ⟨q1,q2,q3⟩:=key cap hb (Nat.zero_le _)
     have z2:b.2=0:=by omega
     have z1:b.1=0:=by omega
     refine ⟨.slice (if cap=b.1 then some ad else some (ad.add (b.1 * sz))) (b.2 - b.1) (cap - b.1),φ,g,w,.inl (by simp [execOp,hy,e1,Instr.sliceAt,Instr.slice,run_underlying hd,q3,hsz]),.same hi hh (.r0 ?_)⟩
     rw [z1,z2]
     split<;>exact .view0 _ _ _ _ _ hn
    | view _ _ _ cap _ hn hcap hsp =>
     obtain ⟨q1,q2,q3⟩:=key cap hb hcap
     refine ⟨.slice (if cap=b.1 then some ⟨φ id,off,none⟩ else some ((⟨φ id,off,none⟩:Addr).add (b.1 * sz))) (b.2 - b.1) (cap - b.1),φ,g,w,.inl (by simp [execOp,hy,e1,Instr.sliceAt,Instr.slice,run_underlying hd,q3,hsz]),.same hi hh (.r0 ?_)⟩
     split
     ·rename_i hcl
      rw [show b.2 - b.1=0 by omega]
      exact .view0 _ _ _ _ _ hn
     ·rw [yv20]
      refine .view id _ _ _ _ hn (by omega) (hsp.imp (fun q=>q) fun q=>?_)
      rw [Nat.sub_mul]
      have:b.1 * sz ≤ cap * sz:=Nat.mul_le_mul_right _ (by omega)
      omega
   ·cases he
end Go.Rv
namespace Go.Rv
open Go.RowKit
variable {P:Program} {W0:World} {o:Oper} {s:SOp}
def noOwn:AV->Bool
 | .own _ _=>false
 | _=>true
theorem yv111 (a:AV):noOwn (strip a)=true:=by cases a<;>rfl
theorem RepC.keepN {base n n':Nat} {φ φ':Nat->Nat} {g g':Gh} {w w':World} {l l':Loc} (x:Ext base g w g' w') (hn:n ≤ n') (hφ:∀ i,i < n->φ' i=φ i)
 {a:AV} {v:Value} (ha:noOwn a=true) (h:RepC base n φ g w l a v):RepC base n' φ' g' w' l' a v:=by
 cases h with
 | zero a v h=>exact .zero a v (h.ext x hn hφ)
 | own=>cases ha
 | clo fn fs cs vs us h1 h2 r1 r2=>exact .clo fn fs cs vs us h1 h2 (fun i a v p q=>(r1 i a v p q).ext x hn hφ) (fun i a v p q=>(r2 i a v p q).ext x hn hφ)
 | junk v=>exact .junk v
def Gh.own (g:Gh) (b:Nat) (l:Loc) (m:Nat):Gh:={ lim:=fun k=>if k=b then m else g.lim k,ow:=fun k=>if k=b then some l else g.ow k }
theorem Gh.own_lim_self {g:Gh} {b:Nat} {l:Loc} {m:Nat}:(g.own b l m).lim b=m:=by simp [Gh.own]
theorem Gh.own_ow_self {g:Gh} {b:Nat} {l:Loc} {m:Nat}:(g.own b l m).ow b=some l:=by simp [Gh.own]
theorem Gh.own_lim {g:Gh} {b k:Nat} {l:Loc} {m:Nat} (h:k ≠ b):(g.own b l m).lim k=g.lim k:=by simp [Gh.own,h]
theorem Gh.own_ow {g:Gh} {b k:Nat} {l:Loc} {m:Nat} (h:k ≠ b):(g.own b l m).ow k=g.ow k:=by simp [Gh.own,h]
theorem yv133 {g:Gh} {w:World} (hi:Inv W0 g w) (ob:Obj) (l:Loc) (m:Nat):Ext W0.heap.size g w (g.own w.heap.size l m) (w.alloc ob):=by
 refine ⟨by simp,fun b=>?_,fun b o hb _=>World.cell?_alloc_lt w ob ⟨b,o,none⟩ hb,yv132 fun b hb=>Below.heap_alloc w _ b hb⟩
 by_cases h:b=w.heap.size
 ·subst h;rw [(hi.new _ (Nat.le_refl _)).2];exact Nat.zero_le _
 ·rw [Gh.own_lim h];exact Nat.le_refl _
theorem yv330 {g:Gh} {w:World} (hi:Inv W0 g w) (ob:Obj) (l:Loc) (m:Nat):Inv W0 (g.own w.heap.size l m) (w.alloc ob):=by
 have hb:=hi.below.size
 refine ⟨hi.below.alloc hb ob,fun b h=>?_,fun b h=>?_⟩
 ·rw [Gh.own_lim (by omega),Gh.own_ow (by omega)];exact hi.old b h
 ·have:w.heap.size + 1 ≤ b:=by simpa using h
  rw [Gh.own_lim (by omega),Gh.own_ow (by omega)];exact hi.new b (by omega)
theorem ow_lt {g:Gh} {w:World} (hi:Inv W0 g w) {b:Nat} {l:Loc} (h:g.ow b=some l):b < w.heap.size:=by
 rcases Nat.lt_or_ge b w.heap.size with h1|h1
 ·exact h1
 ·rw [(hi.new b h1).1] at h;cases h
theorem yv63 {g:Gh} {w:World} (hi:Inv W0 g w) (ob:Obj) (l:Loc) (m:Nat) (p:Loc):Keep W0.heap.size g w (g.own w.heap.size l m) (w.alloc ob) p p:=by
 refine ⟨fun b hb=>?_⟩
 have:=ow_lt hi hb
 rw [Gh.own_lim (by omega),Gh.own_ow (by omega)]
 exact ⟨Below.heap_alloc w ob b this,rfl,hb⟩
theorem yv190 {g:Gh} {w:World} (hi:Inv W0 g w) (ob:Obj) (l:Loc) (m:Nat) (p:Loc):KeepU W0.heap.size g w (g.own w.heap.size l m) (w.alloc ob) p p :=
 ⟨yv63 hi ob l m p,fun _=>yv63 hi ob l m _,fun _ _=>yv63 hi ob l m _⟩
theorem Post.fresh {φ:Nat->Nat} {g:Gh} {w:World} {H:Heap} (hi:Inv W0 g w) (hh:RepH W0.heap.size φ g w H) (ob:Obj) (l:Loc) (m:Nat) {r:AV} {v:Value}
 (hr:RepA W0.heap.size H.length φ (g.own w.heap.size l m) (w.alloc ob) .res r v):Post W0 H.length φ g w φ (g.own w.heap.size l m) (w.alloc ob) H r v:=by
 refine ⟨yv330 hi ob l m,yv133 hi ob l m,fun id hid=>(hh id hid).keep (yv133 hi ob l m) (Nat.le_refl _) (fun _ _=>rfl) hid (yv63 hi ob l m _) (fun _=>yv190 hi ob l m _),Nat.le_refl _,fun _ _=>rfl,hr,?_⟩
 intro b hb _
 rw [Gh.own_lim (by omega),Gh.own_ow (by omega)]
 exact ⟨Below.heap_alloc w ob b hb,rfl,rfl⟩
def phiAt (φ:Nat->Nat) (n b:Nat):Nat->Nat:=fun i=>if i=n then b else φ i
theorem yv72 {φ:Nat->Nat} {n b i:Nat} (h:i < n):phiAt φ n b i=φ i:=by simp [phiAt,Nat.ne_of_lt h]
theorem yv77 {H:Heap} {cs:List AV} {id:Nat} (h:id < H.length):hget (H++[cs]) id=hget H id:=by
 rw [yv19,yv19,List.getElem?_append_left h]
theorem yv76 {H:Heap} {cs:List AV}:hget (H++[cs]) H.length=cs:=by
 rw [yv19];simp
theorem Post.newObj {φ:Nat->Nat} {g:Gh} {w:World} {H:Heap} (hi:Inv W0 g w) (hh:RepH W0.heap.size φ g w H) (cs:List AV) (vs:Array Value) (T:TypeId) (hl:cs.length ≤ vs.size)
 (hc:∀ (j:Nat) (a:AV) (v:Value),cs[j]?=some a->vs[j]?=some v->noOwn a=true∧(∃ l,RepC W0.heap.size H.length φ g w l a v)∧v.oneCell'=true)
 {r:AV} {v:Value} (hr:Rep0 W0.heap.size (H.length + 1) (phiAt φ H.length w.heap.size) (g.own w.heap.size (.obj H.length) 0) (w.alloc (.cells vs T)) r v) :
 Post W0 H.length φ g w (phiAt φ H.length w.heap.size) (g.own w.heap.size (.obj H.length) 0) (w.alloc (.cells vs T)) (H++[cs]) r v:=by
 have x:=yv133 hi (.cells vs T) (.obj H.length) 0
 have hb:=hi.below.size
 refine ⟨yv330 hi _ _ _,x,?_,by simp,fun i h=>yv72 h,by simpa using RepA.r0 hr,?_⟩
 ·intro id hid
  have hid':id < H.length + 1:=by simpa using hid
  rw [show (H++[cs]).length=H.length + 1 by simp]
  by_cases he:id=H.length
  ·subst he
   rw [yv76]
   refine ⟨.inr ⟨vs,T,?_,hl,?_,?_,?_,?_⟩⟩
   ·simp only [phiAt,if_true];exact heap_alloc_new w _
   ·simp only [phiAt,if_true];exact hb
   ·simp only [phiAt,if_true];exact Gh.own_ow_self
   ·simp only [phiAt,if_true];exact Gh.own_lim_self
   ·intro j a v p q
    obtain ⟨h1,⟨l,h2⟩,h3⟩:=hc j a v p q
    exact ⟨h2.keepN x (Nat.le_succ _) (fun i h=>yv72 h) h1,h3⟩
  ·have hlt:id < H.length:=by omega
   rw [yv77 hlt]
   exact (hh id hlt).keep x (Nat.le_succ _) (fun i h=>yv72 h) hlt (yv63 hi _ _ _ _) (fun _=>yv190 hi _ _ _ _)
 ·intro b hb' _
  rw [Gh.own_lim (by omega),Gh.own_ow (by omega)]
  exact ⟨Below.heap_alloc w _ b hb',rfl,rfl⟩
theorem yv55 {t:TypeId} {zs:List AV} (h:yv202 P t zs=true) (w:World):∃ z,(zeroValue t).run P w=.ok z w∧yv35 zs z.cells.toList=true:=by
 unfold yv202 at h
 split at h
 ·rename_i i hi
  split at h
  ·rename_i z hz
   exact ⟨z,by simp [zeroValue,typeInfo,hi,hz],h⟩
  ·cases h
 ·cases h
theorem yv40 {base n:Nat} {φ:Nat->Nat} {g:Gh} {w:World} {zs:List AV} {vs:Array Value} (h:yv35 zs vs.toList=true) :
 zs.length=vs.size∧∀ (j:Nat) (a:AV) (v:Value),zs[j]?=some a->vs[j]?=some v->noOwn a=true∧(∃ l,RepC base n φ g w l a v)∧v.oneCell'=true:=by
 obtain ⟨h1,h2⟩:=yv180 h
 refine ⟨by simpa using h1,fun j a v p q=>?_⟩
 obtain ⟨h3,h4⟩:=h2 j a v p (by simpa using q)
 refine ⟨?_,⟨.res,yv143 h3⟩,h4⟩
 rcases yv100 h3 with rfl|⟨f,rfl,_⟩<;>rfl
theorem yv373 {zs:List AV} (hop:s.op=.alloc zs) (ok:okOp P o s=true):Right P W0 o s:=by
 intro φ g w H a as us r H' hi hh ha he
 simp only [okOp,hop] at ok
 simp only [hop,POp.ev] at he
 split at ok
 case h_2=>cases ok
 rename_i t hs hy
 simp at he;obtain ⟨rfl,rfl⟩:=he
 obtain ⟨z,hz,hok⟩:=yv55 ok w
 obtain ⟨h1,h2⟩:=yv40 (base:=W0.heap.size) (n:=H.length) (φ:=φ) (g:=g) (w:=w) hok
 refine ⟨.pointer (some ⟨w.heap.size,0,none⟩),_,_,_,.inl ?_,.newObj hi hh zs z.cells t (by omega) h2 ?_⟩
 ·simp [execOp,hy,Instr.alloc,hz,newVar,newRow]
 ·have:=Rep0.ref (base:=W0.heap.size) (n:=H.length + 1) (φ:=phiAt φ H.length w.heap.size) (g:=g.own w.heap.size (.obj H.length) 0) (w:=w.alloc (.cells z.cells t)) H.length 0 (Nat.lt_succ_self _)
  simpa [phiAt] using this
theorem yv103 {base n:Nat} {φ:Nat->Nat} {g:Gh} {w:World} {l:Loc} {a:AV} {v:Value} (h:RepA base n φ g w l a v) (ht:yv218 a=true) :
 (cellsOf (strip a)).length=v.cells.size∧∀ (j:Nat) (x:AV) (u:Value),(cellsOf (strip a))[j]?=some x->v.cells[j]?=some u->noOwn x=true∧(∃ l,RepC base n φ g w l x u)∧u.oneCell'=true:=by
 cases h with
 | tup=>cases ht
 | b _ _ h =>
  cases h with
  | agg cs vs h1 h2 h3 =>
   refine ⟨by simp [strip,cellsOf,yv14,Value.cells,h1],?_⟩
   intro j x u p q
   simp only [strip,cellsOf,yv14,List.getElem?_map,Option.map_map] at p
   simp only [Value.cells] at q
   cases hc:cs[j]? with
   | none=>simp [hc] at p
   | some c =>
    simp [hc] at p;subst p
    exact ⟨yv111 _,⟨.res,((h2 j c u hc q).strip (l':=.res)).strip⟩,h3 u (Array.mem_of_getElem? q)⟩
  | c _ _ h =>
   have h1:v.oneCell'=true:=h.one (by rintro rfl;cases ht)
   have h2:v.cells=#[v]:=by cases v<;>first|rfl|(simp [Value.oneCell'] at h1)
   have h3:cellsOf (strip a)=[strip a]:=by
    cases a<;>first|rfl|(cases h with|zero _ _ h=>cases h)
   rw [h2,h3]
   refine ⟨rfl,?_⟩
   intro j x u p q
   cases j with
   | zero=>simp at p q;subst p q;exact ⟨yv111 _,⟨.res,h.strip⟩,h1⟩
   | succ j=>simp at p
theorem yv604 (hop:s.op=.box) (ok:okOp P o s=true):Right P W0 o s:=by
 intro φ g w H a as us r H' hi hh ha he
 simp only [okOp,hop] at ok
 simp only [hop,POp.ev] at he
 split at ok
 case h_2=>cases ok
 rename_i x t y hs hy
 rw [hs] at ha
 split at he
 case h_2=>cases he
 rename_i a0
 split at he
 case isFalse=>cases he
 rename_i hnt
 simp at he;obtain ⟨rfl,rfl⟩:=he
 obtain ⟨u,rfl,h1,r1⟩:=ha.one
 obtain ⟨q1,q2⟩:=yv103 r1 hnt
 refine ⟨.pointer (some ⟨w.heap.size,0,none⟩),_,_,_,.inl ?_,.newObj hi hh _ u.cells t (by omega) q2 ?_⟩
 ·simp [execOp,hy,yv0 ok h1,Instr.box,newVar,newRow]
 ·have:=Rep0.ref (base:=W0.heap.size) (n:=H.length + 1) (φ:=phiAt φ H.length w.heap.size) (g:=g.own w.heap.size (.obj H.length) 0) (w:=w.alloc (.cells u.cells t)) H.length 0 (Nat.lt_succ_self _)
  simpa [phiAt] using this
theorem yv123 {w:World} {b:Nat} {cur:Array Value} {T:TypeId} {fz:Nat × Nat} (h:w.heap[b]?=some (.cells cur T fz)) {off k:Nat} (hl:off + k ≤ cur.size) :
 (loadCells ⟨b,off,none⟩ k).run P w=.ok (cur.extract off (off + k)) w:=by
 have hk:(cur.extract off (off + k)).toList.length=k:=by simp;omega
 have:=run_loadCells_list (P:=P) w ⟨b,off,none⟩ (cur.extract off (off + k)).toList (fun j v hj=>by
  rw [yv20]
  simp only [World.cell?,h,Option.isSome_none,Bool.false_eq_true,if_false]
  simp only [Array.getElem?_toList,Array.getElem?_extract] at hj
  split at hj
  ·exact hj
  ·cases hj)
 rw [hk] at this
 exact this.trans (by rw [Array.toArray_toList])
theorem yv73 {t:TypeId} {k:Option Nat} (h:aggN P t=some k) (ad:Addr) (w:World) :
 (loadVar t ad).run P w=k.elim ((load ad).run P w) fun m=>((loadCells ad m).run P w).andThen fun vs w'=>.ok (.agg vs) w':=by
 obtain ⟨d,i,hd,hi,rfl⟩:=yv302 h
 unfold loadVar
 rw [Sem.run_bind,yv345 hd]
 cases hg:yv366 d with
 | false=>simp
 | true=>simp [Go.sizeOf,typeInfo,hi]
theorem yv504 {k:Option Nat} (hop:s.op=.load k) (ok:okOp P o s=true):Right P W0 o s:=by
 intro φ g w H a as us r H' hi hh ha he
 simp only [okOp,hop] at ok
 simp only [hop,POp.ev] at he
 split at ok
 case h_2=>cases ok
 rename_i x t y hs hy
 simp only [Bool.and_eq_true,beq_iff_eq] at ok
 obtain ⟨ok1,ok2⟩:=ok
 rw [hs] at ha
 split at he
 ·rename_i id off
  obtain ⟨u,rfl,h1,r1⟩:=ha.one
  obtain ⟨rfl,hn⟩:=r1.of_ref
  have hp:=yv73 ok2 ⟨φ id,off,none⟩ w
  obtain ⟨ho⟩:=hh id hn
  split at he
  ·simp only [yv155,Option.map_eq_some_iff] at he
   obtain ⟨c,hc,he⟩:=he
   simp at he;obtain ⟨rfl,rfl⟩:=he
   rcases ho with ho|⟨cur,T,p1,p2,p3,p4,p5,p6⟩
   ·rw [ho] at hc;simp at hc
   have hlt:off < cur.size:=Nat.lt_of_lt_of_le (List.getElem?_eq_some_iff.1 hc).1 p2
   obtain ⟨q1,q2⟩:=p6 off c cur[off] hc (by simp [hlt])
   refine ⟨cur[off],φ,g,w,.inl ?_,.same hi hh (.b _ _ (.c _ _ q1.strip))⟩
   have hcell:w.cell? ⟨φ id,off,none⟩=some cur[off]:=by simp [World.cell?,p1,hlt]
   simp [execOp,hy,yv0 ok1 h1,Instr.loadAt,Instr.sureAddr,hp,hcell]
  ·rename_i m
   split at he
   case isFalse=>cases he
   rename_i hm
   simp at he;obtain ⟨rfl,rfl⟩:=he
   rcases ho with ho|⟨cur,T,p1,p2,p3,p4,p5,p6⟩
   ·rw [ho] at hm ⊢
    have:off=0∧m=0:=by simpa using hm
    obtain ⟨rfl,rfl⟩:=this
    refine ⟨.agg #[],φ,g,w,.inl ?_,.same hi hh (.b _ _ (.agg _ _ (by simp [yv26]) (fun i a v p=>by simp [yv26] at p) (by simp)))⟩
    simp [execOp,hy,yv0 ok1 h1,Instr.loadAt,Instr.sureAddr,hp,loadCells,loadCellsFrom]
   ·have hm':off + m ≤ cur.size:=Nat.le_trans hm p2
    refine ⟨.agg (cur.extract off (off + m)),φ,g,w,.inl ?_,.same hi hh (.b _ _ ?_)⟩
    ·simp [execOp,hy,yv0 ok1 h1,Instr.loadAt,Instr.sureAddr,hp,yv123 p1 hm']
    ·refine .agg _ _ (by simp [yv14];omega) ?_ ?_
     ·intro i a v p q
      rw [yv14,List.getElem?_map] at p
      cases hc:(((hget H id).drop off).take m)[i]? with
      | none=>simp [hc] at p
      | some x =>
       simp [hc] at p;subst p
       rw [List.getElem?_take] at hc
       split at hc
       ·rw [List.getElem?_drop] at hc
        rw [Array.getElem?_extract] at q
        split at q
        ·exact (p6 (off + i) x v hc q).1.strip
        ·cases q
       ·cases hc
     ·intro v hv
      obtain ⟨i,hi'⟩:=List.getElem?_of_mem (Array.mem_toList_iff.2 hv)
      simp only [Array.getElem?_toList] at hi'
      rw [Array.getElem?_extract] at hi'
      split at hi'
      ·rename_i hlt
       have hlt2:off + i < (hget H id).length:=by omega
       exact (p6 (off + i) _ v (List.getElem?_eq_getElem hlt2) hi').2
      ·cases hi'
 ·rename_i row off
  obtain ⟨u,rfl,h1,r1⟩:=ha.one
  have h0:=r1.of_eref
  cases h0 with
  | eref _ _ b o2 val q1 q2 q3 q4 =>
  have hp:=yv73 ok2 ⟨b,o2 + off,none⟩ w
  split at he
  ·simp only [Option.map_eq_some_iff] at he
   obtain ⟨c,hc,he⟩:=he
   simp at he;obtain ⟨rfl,rfl⟩:=he
   have hcell:=q3 off c hc
   refine ⟨val off,φ,g,w,.inl ?_,.same hi hh (.r0 (.pv _ _ (q4 off c hc)))⟩
   simp [execOp,hy,yv0 ok1 h1,Instr.loadAt,Instr.sureAddr,hp,hcell]
  ·rename_i m
   split at he
   case isFalse=>cases he
   rename_i hm
   simp at he;obtain ⟨rfl,rfl⟩:=he
   have hrun:(loadCells ⟨b,o2 + off,none⟩ m).run P w=.ok ((List.range m).map fun j=>val (off + j)).toArray w:=by
    refine run_loadCells w _ m _ (fun j hj=>?_)
    rw [yv20,Nat.add_assoc]
    have hlt:off + j < row.length:=by omega
    exact q3 (off + j) _ (List.getElem?_eq_getElem hlt)
   refine ⟨.agg ((List.range m).map fun j=>val (off + j)).toArray,φ,g,w,.inl ?_,.same hi hh (.b _ _ (.agg _ _ (by simp;omega) ?_ ?_))⟩
   ·simp [execOp,hy,yv0 ok1 h1,Instr.loadAt,Instr.sureAddr,hp,hrun]
   ·intro i a v p q
    simp only [List.getElem?_map,List.getElem?_take,List.getElem?_drop] at p
    split at p
    ·rename_i him
     have hlt:off + i < row.length:=by omega
     rw [List.getElem?_eq_getElem hlt] at p
     simp [him] at p q;subst p q
     exact .zero _ _ (.pv _ _ (q4 (off + i) _ (List.getElem?_eq_getElem hlt)))
    ·simp at p
   ·intro v hv
    simp at hv
    obtain ⟨j,hj,rfl⟩:=hv
    have hlt:off + j < row.length:=by omega
    exact (q4 (off + j) _ (List.getElem?_eq_getElem hlt)).one
 ·cases he
end Go.Rv
