/- The types of the program. -/
import Derived.Test.YtckhkfheimmffaaDoorShelf
set_option linter.unusedSimpArgs false
set_option linter.unusedVariables false
set_option maxRecDepth 100000
namespace Go.Rv
structure fn104 where
 Id:UInt8
 N:UInt32
 A:List UInt8
 B:List UInt8
 deriving DecidableEq
def xv15 (x:fn104):List PV:=[.lit (.int .u8 (x.Id.toNat:Int)),.lit (.int .u32 (x.N.toNat:Int)),.lit (.string ⟨x.A.toArray⟩),.lit (.string ⟨x.B.toArray⟩)]
structure fn86 where
 Id:UInt8
 N:UInt32
 A:List UInt8
 B:List UInt8
 deriving DecidableEq
def xv45 (x:fn86):List PV:=[.lit (.int .u8 (x.Id.toNat:Int)),.lit (.int .u32 (x.N.toNat:Int)),.lit (.string ⟨x.A.toArray⟩),.lit (.string ⟨x.B.toArray⟩)]
structure fn105 where
 kind:Int
 kinds:Option (List Int)
 deriving DecidableEq
def xv55 (x:fn105):List PV:=[.lit (.int .i64 x.kind),oP 1 rowI x.kinds]
structure fn55 where
 b:List UInt8
 err:Int
 deriving DecidableEq
def xv118 (x:fn55):List PV:=[.lit (.string ⟨x.b.toArray⟩),.lit (.int .i64 x.err)]
structure fn71 where
 B:List UInt8
 At:Int
 Bad:Int
 deriving DecidableEq
def xv137 (x:fn71):List PV:=[.lit (.string ⟨x.B.toArray⟩),.lit (.int .i64 x.At),.lit (.int .i64 x.Bad)]
structure fn42 where
 x0:Option (List fn104)
 x1:Option (List fn104)
 deriving DecidableEq
def xv20 (x:fn42):List PV:=[oP 4 xv15 x.x0,oP 4 xv15 x.x1]
def Tb:Nat->Type
 | 0=>UInt8
 | 1=>fn104
 | 2=>Int
 | 3=>fn105
 | 4=>fn86
 | 5=>List UInt8
 | 6=>fn42
 | _=>Unit
def tabSh:Nat->List Tm
 | 0=>[.u8]
 | 1=>[.u8,.u32,.s,.s]
 | 2=>[(.n .i64)]
 | 3=>[(.n .i64),(.sl 2)]
 | 4=>[.u8,.u32,.s,.s]
 | 5=>[.s]
 | 6=>[(.sl 1),(.sl 1)]
 | _=>[]
def tabUn:(k:Nat)->Tb k->tyA Tb (tabSh k)
 | 0,x=>(x,())
 | 1,x=>(x.Id,x.N,x.A,x.B,())
 | 2,x=>(x,())
 | 3,x=>(x.kind,x.kinds,())
 | 4,x=>(x.Id,x.N,x.A,x.B,())
 | 5,x=>(x,())
 | 6,x=>(x.x0,x.x1,())
 | (_ + 7),x=>()
def tabBk:(k:Nat)->tyA Tb (tabSh k)->Tb k
 | 0,x=>x.1
 | 1,x=>(⟨x.1,x.2.1,x.2.2.1,x.2.2.2.1⟩:fn104)
 | 2,x=>x.1
 | 3,x=>(⟨x.1,x.2.1⟩:fn105)
 | 4,x=>(⟨x.1,x.2.1,x.2.2.1,x.2.2.2.1⟩:fn86)
 | 5,x=>x.1
 | 6,x=>(⟨x.1,x.2.1⟩:fn42)
 | (_ + 7),x=>()
def xv228:(k:Nat)->Tb k->List PV
 | 0,x=>yv5 x
 | 1,x=>xv15 x
 | 2,x=>rowI x
 | 3,x=>xv55 x
 | 4,x=>xv45 x
 | 5,x=>rowS x
 | 6,x=>xv20 x
 | (_ + 7),x=>[]
def tab:Tab Tb:=⟨tabSh,tabUn,tabBk,xv228,fun l=>l⟩
theorem tabOk:tab.Ok:=⟨fun k x=>by
 match k,x with
 | 0,x=>rfl
 | 1,x=>rfl
 | 2,x=>rfl
 | 3,x=>rfl
 | 4,x=>rfl
 | 5,x=>rfl
 | 6,x=>rfl
 | (_ + 7),x=>rfl,fun k x=>by
 match k,x with
 | 0,x=>rfl
 | 1,x=>rfl
 | 2,x=>rfl
 | 3,x=>rfl
 | 4,x=>rfl
 | 5,x=>rfl
 | 6,x=>rfl
 | (_ + 7),x=>rfl,rfl,fun _=>rfl⟩
abbrev iS:Sh:=.g (.f (.a (.n .i64)))
abbrev boS:Sh:=.g (.f .bo)
abbrev rS (a b:Nat):Sh:=.g (.f (.ref a b))
abbrev lS (k:Nat):Sh:=.g (.f (.a (.sl k)))
abbrev wS (k:Nat):Sh:=.g (.f (.ow k))
abbrev bS:Sh:=.g (.f (.a .b))
abbrev sS:Sh:=.g (.f (.a .s))
abbrev u8S:Sh:=.g (.f (.a .u8))
abbrev u16S:Sh:=.g (.f (.a .u16))
abbrev u32S:Sh:=.g (.f (.a .u32))
abbrev u64S:Sh:=.g (.f (.a .u64))
abbrev bsS:Sh:=.g (.f (.a .bs))
def Op (o:TOp Tb) (a:List (TArg Tb)) (n:Nat):TSOp Tb:=⟨o,a,some n,none⟩
def Ld (i n:Nat):TSOp Tb:=⟨.load none,[.m i],some n,none⟩
def Mv (i n:Nat):TSOp Tb:=⟨.mv,[.m i],some n,none⟩
def Yes (o:TOp Tb) (a:List (TArg Tb)) (n g:Nat):TSOp Tb:=⟨o,a,some n,some (g,true)⟩
def No (o:TOp Tb) (a:List (TArg Tb)) (n g:Nat):TSOp Tb:=⟨o,a,some n,some (g,false)⟩
def Do (o:TOp Tb) (a:List (TArg Tb)):TSOp Tb:=⟨o,a,none,none⟩
def bi (o:BinOp):TOp Tb:=.bin o .i
def ki (z:Int):TArg Tb:=.k (.n .i64 z)
def kf:TArg Tb:=.k (.b false)
def kt:TArg Tb:=.k (.b true)
def ld:TOp Tb:=.load none
def Mw (i n:Nat):TSOp Tb:=⟨.mv,[.v i],some n,none⟩
def Mk (a:TArg Tb) (n:Nat):TSOp Tb:=⟨.mv,[a],some n,none⟩
def Bi (o:BinOp) (a:List (TArg Tb)) (n:Nat):TSOp Tb:=⟨.bin o .i,a,some n,none⟩
def Cl (f k:Nat) (a:List (TArg Tb)) (n:Nat):TSOp Tb:=⟨.call (some f) k,a,some n,none⟩
def Pf (a b n:Nat):TSOp Tb:=⟨.pick,[.m a,.m b,kf],some n,none⟩
def Pt (a b n:Nat):TSOp Tb:=⟨.pick,[.m a,kt,.m b],some n,none⟩
def sq (l:List (TSOp Tb)) (c:TCode Tb):TCode Tb:=.seq (.reg l none) c
def rg (l:List (TSOp Tb)):TCode Tb:=.reg l none
def dp (l:List Nat) (c:TCode Tb):TCode Tb:=.drop l c
def se (a b:TCode Tb):TCode Tb:=.seq a b
def cn (i:Nat) (a b:TCode Tb):TCode Tb:=.cond i a b
def Fav (k i n:Nat):TSOp Tb:=⟨.fa k,[.v i],some n,none⟩
def Fam (k i n:Nat):TSOp Tb:=⟨.fa k,[.m i],some n,none⟩
end Go.Rv
