/- The types of the program. -/
import Derived.Test.YtlmnicmjhcblcaaGreatDoorShelf
set_option linter.unusedSimpArgs false
set_option linter.unusedVariables false
set_option maxRecDepth 100000
namespace Go.Rv
structure fn163 where
 Id:UInt8
 N:UInt32
 A:List UInt8
 B:List UInt8
 deriving DecidableEq
def xv32 (x:fn163):List PV:=[.lit (.int .u8 (x.Id.toNat:Int)),.lit (.int .u32 (x.N.toNat:Int)),.lit (.string ⟨x.A.toArray⟩),.lit (.string ⟨x.B.toArray⟩)]
structure fn112 where
 Text:List UInt8
 Opt:UInt8
 deriving DecidableEq
def xv36 (x:fn112):List PV:=[.lit (.string ⟨x.Text.toArray⟩),.lit (.int .u8 (x.Opt.toNat:Int))]
structure fn113 where
 Kind:Int
 Dup:Bool
 Retain:Bool
 QoS:UInt8
 Id:UInt16
 Clean:Bool
 Keep:UInt16
 Client:List UInt8
 HasWill:Bool
 HasUser:Bool
 HasPass:Bool
 WillQoS:UInt8
 WillRetain:Bool
 WillProps:Option (List fn163)
 WillTopic:List UInt8
 WillLoad:List UInt8
 User:List UInt8
 Pass:List UInt8
 Present:Bool
 Code:UInt8
 Topic:List UInt8
 Load:List UInt8
 Filters:Option (List fn112)
 Codes:Option (List UInt8)
 Props:Option (List fn163)
 deriving DecidableEq
def xv63 (x:fn113):List PV:=[.lit (.int .i64 x.Kind),.lit (.bool x.Dup),.lit (.bool x.Retain),.lit (.int .u8 (x.QoS.toNat:Int)),.lit (.int .u16 (x.Id.toNat:Int)),.lit (.bool x.Clean),.lit (.int .u16 (x.Keep.toNat:Int)),.lit (.string ⟨x.Client.toArray⟩),.lit (.bool x.HasWill),.lit (.bool x.HasUser),.lit (.bool x.HasPass),.lit (.int .u8 (x.WillQoS.toNat:Int)),.lit (.bool x.WillRetain),oP 4 xv32 x.WillProps,.lit (.string ⟨x.WillTopic.toArray⟩),.lit (.string ⟨x.WillLoad.toArray⟩),.lit (.string ⟨x.User.toArray⟩),.lit (.string ⟨x.Pass.toArray⟩),.lit (.bool x.Present),.lit (.int .u8 (x.Code.toNat:Int)),.lit (.string ⟨x.Topic.toArray⟩),.lit (.string ⟨x.Load.toArray⟩),oP 2 xv36 x.Filters,oP 1 yv8 x.Codes,oP 4 xv32 x.Props]
structure fn140 where
 Id:UInt8
 N:UInt32
 A:List UInt8
 B:List UInt8
 deriving DecidableEq
def xv26 (x:fn140):List PV:=[.lit (.int .u8 (x.Id.toNat:Int)),.lit (.int .u32 (x.N.toNat:Int)),.lit (.string ⟨x.A.toArray⟩),.lit (.string ⟨x.B.toArray⟩)]
structure fn59 where
 Text:List UInt8
 Opt:UInt8
 deriving DecidableEq
def xv21 (x:fn59):List PV:=[.lit (.string ⟨x.Text.toArray⟩),.lit (.int .u8 (x.Opt.toNat:Int))]
structure fn60 where
 Kind:Int
 Dup:Bool
 Retain:Bool
 QoS:UInt8
 Id:UInt16
 Clean:Bool
 Keep:UInt16
 Client:List UInt8
 HasWill:Bool
 HasUser:Bool
 HasPass:Bool
 WillQoS:UInt8
 WillRetain:Bool
 WillProps:Option (List fn140)
 WillTopic:List UInt8
 WillLoad:List UInt8
 User:List UInt8
 Pass:List UInt8
 Present:Bool
 Code:UInt8
 Topic:List UInt8
 Load:List UInt8
 Filters:Option (List fn59)
 Codes:Option (List UInt8)
 Props:Option (List fn140)
 deriving DecidableEq
def xv41 (x:fn60):List PV:=[.lit (.int .i64 x.Kind),.lit (.bool x.Dup),.lit (.bool x.Retain),.lit (.int .u8 (x.QoS.toNat:Int)),.lit (.int .u16 (x.Id.toNat:Int)),.lit (.bool x.Clean),.lit (.int .u16 (x.Keep.toNat:Int)),.lit (.string ⟨x.Client.toArray⟩),.lit (.bool x.HasWill),.lit (.bool x.HasUser),.lit (.bool x.HasPass),.lit (.int .u8 (x.WillQoS.toNat:Int)),.lit (.bool x.WillRetain),oP 4 xv26 x.WillProps,.lit (.string ⟨x.WillTopic.toArray⟩),.lit (.string ⟨x.WillLoad.toArray⟩),.lit (.string ⟨x.User.toArray⟩),.lit (.string ⟨x.Pass.toArray⟩),.lit (.bool x.Present),.lit (.int .u8 (x.Code.toNat:Int)),.lit (.string ⟨x.Topic.toArray⟩),.lit (.string ⟨x.Load.toArray⟩),oP 2 xv21 x.Filters,oP 1 yv8 x.Codes,oP 4 xv26 x.Props]
structure arr7_s where
 x0:List UInt8
 x1:List UInt8
 x2:List UInt8
 x3:List UInt8
 x4:List UInt8
 x5:List UInt8
 x6:List UInt8
 deriving DecidableEq
def xv295 (x:arr7_s):List PV:=[.lit (.string ⟨x.x0.toArray⟩),.lit (.string ⟨x.x1.toArray⟩),.lit (.string ⟨x.x2.toArray⟩),.lit (.string ⟨x.x3.toArray⟩),.lit (.string ⟨x.x4.toArray⟩),.lit (.string ⟨x.x5.toArray⟩),.lit (.string ⟨x.x6.toArray⟩)]
structure fn72 where
 kind:Int
 dup:Bool
 retain:Bool
 clean:Bool
 willRetain:Bool
 will:Bool
 user:Bool
 pass:Bool
 present:Bool
 qos:UInt8
 willQoS:UInt8
 code:UInt8
 id:UInt16
 keep:UInt16
 texts:arr7_s
 deriving DecidableEq
def xv46 (x:fn72):List PV:=[.lit (.int .i64 x.kind),.lit (.bool x.dup),.lit (.bool x.retain),.lit (.bool x.clean),.lit (.bool x.willRetain),.lit (.bool x.will),.lit (.bool x.user),.lit (.bool x.pass),.lit (.bool x.present),.lit (.int .u8 (x.qos.toNat:Int)),.lit (.int .u8 (x.willQoS.toNat:Int)),.lit (.int .u8 (x.code.toNat:Int)),.lit (.int .u16 (x.id.toNat:Int)),.lit (.int .u16 (x.keep.toNat:Int)),.lit (.string ⟨x.texts.x0.toArray⟩),.lit (.string ⟨x.texts.x1.toArray⟩),.lit (.string ⟨x.texts.x2.toArray⟩),.lit (.string ⟨x.texts.x3.toArray⟩),.lit (.string ⟨x.texts.x4.toArray⟩),.lit (.string ⟨x.texts.x5.toArray⟩),.lit (.string ⟨x.texts.x6.toArray⟩)]
structure fn164 where
 kind:Int
 kinds:Option (List Int)
 deriving DecidableEq
def xv83 (x:fn164):List PV:=[.lit (.int .i64 x.kind),oP 1 rowI x.kinds]
structure fn61 where
 Receive:UInt16
 Alias:UInt16
 Size:Int
 QoS:UInt8
 Retain:Bool
 Wild:Bool
 Number:Bool
 Shared:Bool
 deriving DecidableEq
def xv40 (x:fn61):List PV:=[.lit (.int .u16 (x.Receive.toNat:Int)),.lit (.int .u16 (x.Alias.toNat:Int)),.lit (.int .i64 x.Size),.lit (.int .u8 (x.QoS.toNat:Int)),.lit (.bool x.Retain),.lit (.bool x.Wild),.lit (.bool x.Number),.lit (.bool x.Shared)]
structure fn114 where
 Receive:UInt16
 Alias:UInt16
 Size:Int
 QoS:UInt8
 Retain:Bool
 Wild:Bool
 Number:Bool
 Shared:Bool
 deriving DecidableEq
def xv64 (x:fn114):List PV:=[.lit (.int .u16 (x.Receive.toNat:Int)),.lit (.int .u16 (x.Alias.toNat:Int)),.lit (.int .i64 x.Size),.lit (.int .u8 (x.QoS.toNat:Int)),.lit (.bool x.Retain),.lit (.bool x.Wild),.lit (.bool x.Number),.lit (.bool x.Shared)]
structure fn165 where
 x0:Int
 x1:Int
 deriving DecidableEq
def xv82 (x:fn165):List PV:=[.lit (.int .i64 x.x0),.lit (.int .i64 x.x1)]
def Tb:Nat->Type
 | 0=>UInt8
 | 1=>fn163
 | 2=>fn112
 | 3=>fn113
 | 4=>fn140
 | 5=>fn59
 | 6=>fn60
 | 7=>fn72
 | 8=>List UInt8
 | 9=>Int
 | 10=>fn164
 | 11=>fn61
 | 12=>fn114
 | 13=>fn165
 | _=>Unit
def tabSh:Nat->List Tm
 | 0=>[.u8]
 | 1=>[.u8,.u32,.s,.s]
 | 2=>[.s,.u8]
 | 3=>[(.n .i64),.b,.b,.u8,.u16,.b,.u16,.s,.b,.b,.b,.u8,.b,(.sl 1),.s,.s,.s,.s,.b,.u8,.s,.s,(.sl 2),.bs,(.sl 1)]
 | 4=>[.u8,.u32,.s,.s]
 | 5=>[.s,.u8]
 | 6=>[(.n .i64),.b,.b,.u8,.u16,.b,.u16,.s,.b,.b,.b,.u8,.b,(.sl 4),.s,.s,.s,.s,.b,.u8,.s,.s,(.sl 5),.bs,(.sl 4)]
 | 7=>[(.n .i64),.b,.b,.b,.b,.b,.b,.b,.b,.u8,.u8,.u8,.u16,.u16,.s,.s,.s,.s,.s,.s,.s]
 | 8=>[.s]
 | 9=>[(.n .i64)]
 | 10=>[(.n .i64),(.sl 9)]
 | 11=>[.u16,.u16,(.n .i64),.u8,.b,.b,.b,.b]
 | 12=>[.u16,.u16,(.n .i64),.u8,.b,.b,.b,.b]
 | 13=>[(.n .i64),(.n .i64)]
 | _=>[]
def tabUn:(k:Nat)->Tb k->tyA Tb (tabSh k)
 | 0,x=>(x,())
 | 1,x=>(x.Id,x.N,x.A,x.B,())
 | 2,x=>(x.Text,x.Opt,())
 | 3,x=>(x.Kind,x.Dup,x.Retain,x.QoS,x.Id,x.Clean,x.Keep,x.Client,x.HasWill,x.HasUser,x.HasPass,x.WillQoS,x.WillRetain,x.WillProps,x.WillTopic,x.WillLoad,x.User,x.Pass,x.Present,x.Code,x.Topic,x.Load,x.Filters,x.Codes,x.Props,())
 | 4,x=>(x.Id,x.N,x.A,x.B,())
 | 5,x=>(x.Text,x.Opt,())
 | 6,x=>(x.Kind,x.Dup,x.Retain,x.QoS,x.Id,x.Clean,x.Keep,x.Client,x.HasWill,x.HasUser,x.HasPass,x.WillQoS,x.WillRetain,x.WillProps,x.WillTopic,x.WillLoad,x.User,x.Pass,x.Present,x.Code,x.Topic,x.Load,x.Filters,x.Codes,x.Props,())
 | 7,x=>(x.kind,x.dup,x.retain,x.clean,x.willRetain,x.will,x.user,x.pass,x.present,x.qos,x.willQoS,x.code,x.id,x.keep,x.texts.x0,x.texts.x1,x.texts.x2,x.texts.x3,x.texts.x4,x.texts.x5,x.texts.x6,())
 | 8,x=>(x,())
 | 9,x=>(x,())
 | 10,x=>(x.kind,x.kinds,())
 | 11,x=>(x.Receive,x.Alias,x.Size,x.QoS,x.Retain,x.Wild,x.Number,x.Shared,())
 | 12,x=>(x.Receive,x.Alias,x.Size,x.QoS,x.Retain,x.Wild,x.Number,x.Shared,())
 | 13,x=>(x.x0,x.x1,())
 | (_ + 14),x=>()
def tabBk:(k:Nat)->tyA Tb (tabSh k)->Tb k
 | 0,x=>x.1
 | 1,x=>(⟨x.1,x.2.1,x.2.2.1,x.2.2.2.1⟩:fn163)
 | 2,x=>(⟨x.1,x.2.1⟩:fn112)
 | 3,x=>(⟨x.1,x.2.1,x.2.2.1,x.2.2.2.1,x.2.2.2.2.1,x.2.2.2.2.2.1,x.2.2.2.2.2.2.1,x.2.2.2.2.2.2.2.1,x.2.2.2.2.2.2.2.2.1,x.2.2.2.2.2.2.2.2.2.1,x.2.2.2.2.2.2.2.2.2.2.1,x.2.2.2.2.2.2.2.2.2.2.2.1,x.2.2.2.2.2.2.2.2.2.2.2.2.1,x.2.2.2.2.2.2.2.2.2.2.2.2.2.1,x.2.2.2.2.2.2.2.2.2.2.2.2.2.2.1,x.2.2.2.2.2.2.2.2.2.2.2.2.2.2.2.1,x.2.2.2.2.2.2.2.2.2.2.2.2.2.2.2.2.1,x.2.2.2.2.2.2.2.2.2.2.2.2.2.2.2.2.2.1,x.2.2.2.2.2.2.2.2.2.2.2.2.2.2.2.2.2.2.1,x.2.2.2.2.2.2.2.2.2.2.2.2.2.2.2.2.2.2.2.1,x.2.2.2.2.2.2.2.2.2.2.2.2.2.2.2.2.2.2.2.2.1,x.2.2.2.2.2.2.2.2.2.2.2.2.2.2.2.2.2.2.2.2.2.1,x.2.2.2.2.2.2.2.2.2.2.2.2.2.2.2.2.2.2.2.2.2.2.1,x.2.2.2.2.2.2.2.2.2.2.2.2.2.2.2.2.2.2.2.2.2.2.2.1,x.2.2.2.2.2.2.2.2.2.2.2.2.2.2.2.2.2.2.2.2.2.2.2.2.1⟩:fn113)
 | 4,x=>(⟨x.1,x.2.1,x.2.2.1,x.2.2.2.1⟩:fn140)
 | 5,x=>(⟨x.1,x.2.1⟩:fn59)
 | 6,x=>(⟨x.1,x.2.1,x.2.2.1,x.2.2.2.1,x.2.2.2.2.1,x.2.2.2.2.2.1,x.2.2.2.2.2.2.1,x.2.2.2.2.2.2.2.1,x.2.2.2.2.2.2.2.2.1,x.2.2.2.2.2.2.2.2.2.1,x.2.2.2.2.2.2.2.2.2.2.1,x.2.2.2.2.2.2.2.2.2.2.2.1,x.2.2.2.2.2.2.2.2.2.2.2.2.1,x.2.2.2.2.2.2.2.2.2.2.2.2.2.1,x.2.2.2.2.2.2.2.2.2.2.2.2.2.2.1,x.2.2.2.2.2.2.2.2.2.2.2.2.2.2.2.1,x.2.2.2.2.2.2.2.2.2.2.2.2.2.2.2.2.1,x.2.2.2.2.2.2.2.2.2.2.2.2.2.2.2.2.2.1,x.2.2.2.2.2.2.2.2.2.2.2.2.2.2.2.2.2.2.1,x.2.2.2.2.2.2.2.2.2.2.2.2.2.2.2.2.2.2.2.1,x.2.2.2.2.2.2.2.2.2.2.2.2.2.2.2.2.2.2.2.2.1,x.2.2.2.2.2.2.2.2.2.2.2.2.2.2.2.2.2.2.2.2.2.1,x.2.2.2.2.2.2.2.2.2.2.2.2.2.2.2.2.2.2.2.2.2.2.1,x.2.2.2.2.2.2.2.2.2.2.2.2.2.2.2.2.2.2.2.2.2.2.2.1,x.2.2.2.2.2.2.2.2.2.2.2.2.2.2.2.2.2.2.2.2.2.2.2.2.1⟩:fn60)
 | 7,x=>(⟨x.1,x.2.1,x.2.2.1,x.2.2.2.1,x.2.2.2.2.1,x.2.2.2.2.2.1,x.2.2.2.2.2.2.1,x.2.2.2.2.2.2.2.1,x.2.2.2.2.2.2.2.2.1,x.2.2.2.2.2.2.2.2.2.1,x.2.2.2.2.2.2.2.2.2.2.1,x.2.2.2.2.2.2.2.2.2.2.2.1,x.2.2.2.2.2.2.2.2.2.2.2.2.1,x.2.2.2.2.2.2.2.2.2.2.2.2.2.1,(⟨x.2.2.2.2.2.2.2.2.2.2.2.2.2.2.1,x.2.2.2.2.2.2.2.2.2.2.2.2.2.2.2.1,x.2.2.2.2.2.2.2.2.2.2.2.2.2.2.2.2.1,x.2.2.2.2.2.2.2.2.2.2.2.2.2.2.2.2.2.1,x.2.2.2.2.2.2.2.2.2.2.2.2.2.2.2.2.2.2.1,x.2.2.2.2.2.2.2.2.2.2.2.2.2.2.2.2.2.2.2.1,x.2.2.2.2.2.2.2.2.2.2.2.2.2.2.2.2.2.2.2.2.1⟩:arr7_s)⟩:fn72)
 | 8,x=>x.1
 | 9,x=>x.1
 | 10,x=>(⟨x.1,x.2.1⟩:fn164)
 | 11,x=>(⟨x.1,x.2.1,x.2.2.1,x.2.2.2.1,x.2.2.2.2.1,x.2.2.2.2.2.1,x.2.2.2.2.2.2.1,x.2.2.2.2.2.2.2.1⟩:fn61)
 | 12,x=>(⟨x.1,x.2.1,x.2.2.1,x.2.2.2.1,x.2.2.2.2.1,x.2.2.2.2.2.1,x.2.2.2.2.2.2.1,x.2.2.2.2.2.2.2.1⟩:fn114)
 | 13,x=>(⟨x.1,x.2.1⟩:fn165)
 | (_ + 14),x=>()
def xv326:(k:Nat)->Tb k->List PV
 | 0,x=>yv8 x
 | 1,x=>xv32 x
 | 2,x=>xv36 x
 | 3,x=>xv63 x
 | 4,x=>xv26 x
 | 5,x=>xv21 x
 | 6,x=>xv41 x
 | 7,x=>xv46 x
 | 8,x=>rowS x
 | 9,x=>rowI x
 | 10,x=>xv83 x
 | 11,x=>xv40 x
 | 12,x=>xv64 x
 | 13,x=>xv82 x
 | (_ + 14),x=>[]
def tab:Tab Tb:=⟨tabSh,tabUn,tabBk,xv326,fun l=>l⟩
theorem tabOk:tab.Ok:=⟨fun k x=>by
 match k,x with
 | 0,x=>rfl
 | 1,x=>rfl
 | 2,x=>rfl
 | 3,x=>rfl
 | 4,x=>rfl
 | 5,x=>rfl
 | 6,x=>rfl
 | 7,x=>rfl
 | 8,x=>rfl
 | 9,x=>rfl
 | 10,x=>rfl
 | 11,x=>rfl
 | 12,x=>rfl
 | 13,x=>rfl
 | (_ + 14),x=>rfl,fun k x=>by
 match k,x with
 | 0,x=>rfl
 | 1,x=>rfl
 | 2,x=>rfl
 | 3,x=>rfl
 | 4,x=>rfl
 | 5,x=>rfl
 | 6,x=>rfl
 | 7,x=>rfl
 | 8,x=>rfl
 | 9,x=>rfl
 | 10,x=>rfl
 | 11,x=>rfl
 | 12,x=>rfl
 | 13,x=>rfl
 | (_ + 14),x=>rfl,rfl,fun _=>rfl⟩
abbrev hS0:List Sh:=[.g (.f (.a (.n .i64))),.g (.f (.a .b)),.g (.f (.a .b)),.g (.f (.a .u8)),.g (.f (.a .u16)),.g (.f (.a .b)),.g (.f (.a .u16)),.g (.f (.a .s)),.g (.f (.a .b)),.g (.f (.a .b)),.g (.f (.a .b)),.g (.f (.a .u8)),.g (.f (.a .b)),.g (.f (.a (.sl 1))),.g (.f (.a .s)),.g (.f (.a .s)),.g (.f (.a .s)),.g (.f (.a .s)),.g (.f (.a .b)),.g (.f (.a .u8)),.g (.f (.a .s)),.g (.f (.a .s)),.g (.f (.a (.sl 2))),.g (.f (.a .bs)),.g (.f (.a (.sl 1)))]
abbrev hS1:List Sh:=[.g (.f (.a (.n .i64))),.g (.f (.a .b)),.g (.f (.a .b)),.g (.f (.a .u8)),.g (.f (.a .u16)),.g (.f (.a .b)),.g (.f (.a .u16)),.g (.f (.a .s)),.g (.f (.a .b)),.g (.f (.a .b)),.g (.f (.a .b)),.g (.f (.a .u8)),.g (.f (.a .b)),.g (.f (.a (.sl 4))),.g (.f (.a .s)),.g (.f (.a .s)),.g (.f (.a .s)),.g (.f (.a .s)),.g (.f (.a .b)),.g (.f (.a .u8)),.g (.f (.a .s)),.g (.f (.a .s)),.g (.f (.a (.sl 5))),.g (.f (.a .bs)),.g (.f (.a (.sl 4)))]
abbrev hS2:List Sh:=[.g (.f (.a (.n .i64))),.g (.f (.a .b)),.g (.f (.a .b)),.g (.f (.a .u8)),.g (.f (.a .u16)),.g (.f (.a .b)),.g (.f (.a .u16)),.g (.f (.a .s)),.g (.f (.a .b)),.g (.f (.a .b)),.g (.f (.a .b)),.g (.f (.a .u8)),.g (.f (.a .b)),.g (.f (.ow 4)),.g (.f (.a .s)),.g (.f (.a .s)),.g (.f (.a .s)),.g (.f (.a .s)),.g (.f (.a .b)),.g (.f (.a .u8)),.g (.f (.a .s)),.g (.f (.a .s)),.g (.f (.ow 5)),.g (.f (.bo)),.g (.f (.ow 4))]
abbrev hS3:List Sh:=[.g (.f (.a (.n .i64))),.g (.f (.a .b)),.g (.f (.a .b)),.g (.f (.a .u8)),.g (.f (.a .u16)),.g (.f (.a .b)),.g (.f (.a .u16)),.g (.f (.a .s)),.g (.f (.a .b)),.g (.f (.a .b)),.g (.f (.a .b)),.g (.f (.a .u8)),.g (.f (.a .b)),.g (.f (.a (.sl 4))),.g (.f (.a .s)),.g (.f (.a .s)),.g (.f (.a .s)),.g (.f (.a .s)),.g (.f (.a .b)),.g (.f (.a .u8)),.g (.f (.a .s)),.g (.f (.a .s)),.g (.f (.ow 5)),.g (.f (.bo)),.g (.f (.a (.sl 4)))]
abbrev hS4:List Sh:=[.g (.f (.a (.n .i64))),.g (.f (.a .b)),.g (.f (.a .b)),.g (.f (.a .u8)),.g (.f (.a .u16)),.g (.f (.a .b)),.g (.f (.a .u16)),.g (.f (.a .s)),.g (.f (.a .b)),.g (.f (.a .b)),.g (.f (.a .b)),.g (.f (.a .u8)),.g (.f (.a .b)),.g (.f (.ow 4)),.g (.f (.a .s)),.g (.f (.a .s)),.g (.f (.a .s)),.g (.f (.a .s)),.g (.f (.a .b)),.g (.f (.a .u8)),.g (.f (.a .s)),.g (.f (.a .s)),.g (.f (.ow 5)),.g (.f (.bo)),.g (.f (.a (.sl 4)))]
abbrev hS5:List Sh:=[.g (.f (.a (.n .i64))),.g (.f (.a .b)),.g (.f (.a .b)),.g (.f (.a .u8)),.g (.f (.a .u16)),.g (.f (.a .b)),.g (.f (.a .u16)),.g (.f (.a .s)),.g (.f (.a .b)),.g (.f (.a .b)),.g (.f (.a .b)),.g (.f (.a .u8)),.g (.f (.a .b)),.g (.f (.ow 4)),.g (.f (.a .s)),.g (.f (.a .s)),.g (.f (.a .s)),.g (.f (.a .s)),.g (.f (.a .b)),.g (.f (.a .u8)),.g (.f (.a .s)),.g (.f (.a .s)),.g (.f (.ow 5)),.g (.f (.a .bs)),.g (.f (.a (.sl 4)))]
abbrev hS6:List Sh:=[.g (.f (.a (.n .i64))),.g (.f (.a .b)),.g (.f (.a .b)),.g (.f (.a .u8)),.g (.f (.a .u16)),.g (.f (.a .b)),.g (.f (.a .u16)),.g (.f (.a .s)),.g (.f (.a .b)),.g (.f (.a .b)),.g (.f (.a .b)),.g (.f (.a .u8)),.g (.f (.a .b)),.g (.f (.ow 4)),.g (.f (.a .s)),.g (.f (.a .s)),.g (.f (.a .s)),.g (.f (.a .s)),.g (.f (.a .b)),.g (.f (.a .u8)),.g (.f (.a .s)),.g (.f (.a .s)),.g (.f (.a (.sl 5))),.g (.f (.bo)),.g (.f (.a (.sl 4)))]
abbrev hS7:List Sh:=[.g (.f (.a (.n .i64))),.g (.f (.a .b)),.g (.f (.a .b)),.g (.f (.a .u8)),.g (.f (.a .u16)),.g (.f (.a .b)),.g (.f (.a .u16)),.g (.f (.a .s)),.g (.f (.a .b)),.g (.f (.a .b)),.g (.f (.a .b)),.g (.f (.a .u8)),.g (.f (.a .b)),.g (.f (.a (.sl 4))),.g (.f (.a .s)),.g (.f (.a .s)),.g (.f (.a .s)),.g (.f (.a .s)),.g (.f (.a .b)),.g (.f (.a .u8)),.g (.f (.a .s)),.g (.f (.a .s)),.g (.f (.ow 5)),.g (.f (.a .bs)),.g (.f (.a (.sl 4)))]
abbrev hS8:List Sh:=[.g (.f (.a (.n .i64))),.g (.f (.a .b)),.g (.f (.a .b)),.g (.f (.a .u8)),.g (.f (.a .u16)),.g (.f (.a .b)),.g (.f (.a .u16)),.g (.f (.a .s)),.g (.f (.a .b)),.g (.f (.a .b)),.g (.f (.a .b)),.g (.f (.a .u8)),.g (.f (.a .b)),.g (.f (.ow 1)),.g (.f (.a .s)),.g (.f (.a .s)),.g (.f (.a .s)),.g (.f (.a .s)),.g (.f (.a .b)),.g (.f (.a .u8)),.g (.f (.a .s)),.g (.f (.a .s)),.g (.f (.ow 2)),.g (.f (.bo)),.g (.f (.ow 1))]
abbrev hS9:List Sh:=[.g (.f (.a (.n .i64))),.g (.f (.a .b)),.g (.f (.a .b)),.g (.f (.a .u8)),.g (.f (.a .u16)),.g (.f (.a .b)),.g (.f (.a .u16)),.g (.f (.a .s)),.g (.f (.a .b)),.g (.f (.a .b)),.g (.f (.a .b)),.g (.f (.a .u8)),.g (.f (.a .b)),.g (.f (.a (.sl 1))),.g (.f (.a .s)),.g (.f (.a .s)),.g (.f (.a .s)),.g (.f (.a .s)),.g (.f (.a .b)),.g (.f (.a .u8)),.g (.f (.a .s)),.g (.f (.a .s)),.g (.f (.ow 2)),.g (.f (.bo)),.g (.f (.a (.sl 1)))]
abbrev hS10:List Sh:=[.g (.f (.a (.n .i64))),.g (.f (.a .b)),.g (.f (.a .b)),.g (.f (.a .u8)),.g (.f (.a .u16)),.g (.f (.a .b)),.g (.f (.a .u16)),.g (.f (.a .s)),.g (.f (.a .b)),.g (.f (.a .b)),.g (.f (.a .b)),.g (.f (.a .u8)),.g (.f (.a .b)),.g (.f (.ow 1)),.g (.f (.a .s)),.g (.f (.a .s)),.g (.f (.a .s)),.g (.f (.a .s)),.g (.f (.a .b)),.g (.f (.a .u8)),.g (.f (.a .s)),.g (.f (.a .s)),.g (.f (.ow 2)),.g (.f (.bo)),.g (.f (.a (.sl 1)))]
abbrev hS11:List Sh:=[.g (.f (.a (.n .i64))),.g (.f (.a .b)),.g (.f (.a .b)),.g (.f (.a .u8)),.g (.f (.a .u16)),.g (.f (.a .b)),.g (.f (.a .u16)),.g (.f (.a .s)),.g (.f (.a .b)),.g (.f (.a .b)),.g (.f (.a .b)),.g (.f (.a .u8)),.g (.f (.a .b)),.g (.f (.ow 1)),.g (.f (.a .s)),.g (.f (.a .s)),.g (.f (.a .s)),.g (.f (.a .s)),.g (.f (.a .b)),.g (.f (.a .u8)),.g (.f (.a .s)),.g (.f (.a .s)),.g (.f (.ow 2)),.g (.f (.a .bs)),.g (.f (.a (.sl 1)))]
abbrev hS12:List Sh:=[.g (.f (.a (.n .i64))),.g (.f (.a .b)),.g (.f (.a .b)),.g (.f (.a .u8)),.g (.f (.a .u16)),.g (.f (.a .b)),.g (.f (.a .u16)),.g (.f (.a .s)),.g (.f (.a .b)),.g (.f (.a .b)),.g (.f (.a .b)),.g (.f (.a .u8)),.g (.f (.a .b)),.g (.f (.ow 1)),.g (.f (.a .s)),.g (.f (.a .s)),.g (.f (.a .s)),.g (.f (.a .s)),.g (.f (.a .b)),.g (.f (.a .u8)),.g (.f (.a .s)),.g (.f (.a .s)),.g (.f (.a (.sl 2))),.g (.f (.bo)),.g (.f (.a (.sl 1)))]
abbrev hS13:List Sh:=[.g (.f (.a (.n .i64))),.g (.f (.a .b)),.g (.f (.a .b)),.g (.f (.a .u8)),.g (.f (.a .u16)),.g (.f (.a .b)),.g (.f (.a .u16)),.g (.f (.a .s)),.g (.f (.a .b)),.g (.f (.a .b)),.g (.f (.a .b)),.g (.f (.a .u8)),.g (.f (.a .b)),.g (.f (.a (.sl 1))),.g (.f (.a .s)),.g (.f (.a .s)),.g (.f (.a .s)),.g (.f (.a .s)),.g (.f (.a .b)),.g (.f (.a .u8)),.g (.f (.a .s)),.g (.f (.a .s)),.g (.f (.ow 2)),.g (.f (.a .bs)),.g (.f (.a (.sl 1)))]
abbrev hS14:List Sh:=[.g (.f (.a .u16)),.g (.f (.a .u16)),.g (.f (.a (.n .i64))),.g (.f (.a .u8)),.g (.f (.a .b)),.g (.f (.a .b)),.g (.f (.a .b)),.g (.f (.a .b))]
abbrev hS15:List Sh:=[.g (.f (.a (.n .i64))),.g (.f (.a .b)),.g (.f (.a .b)),.g (.f (.a .u8)),.g (.f (.a .u16)),.g (.f (.a .b)),.g (.f (.a .u16)),.g (.f (.a .s)),.g (.f (.a .b)),.g (.f (.a .b)),.g (.f (.a .b)),.g (.f (.a .u8)),.g (.f (.a .b)),.g (.f (.ow 1)),.g (.f (.a .s)),.g (.f (.a .s)),.g (.f (.a .s)),.g (.f (.a .s)),.g (.f (.a .b)),.g (.f (.a .u8)),.g (.f (.a .s)),.g (.f (.a .s)),.g (.f (.a (.sl 2))),.g (.f (.a .bs)),.g (.f (.ow 1))]
def zV0:List (TV Tb):=[.s [],.s [],.s [],.s [],.s [],.s [],.s [],.s [],.s [],.s [],.s [],.s [],.s [],.s [],.s []]
def zV1:List (TV Tb):=[.n .i64 0,.b false,.b false,.u8 (0:UInt8),.u16 (0:UInt16),.b false,.u16 (0:UInt16),.s [],.b false,.b false,.b false,.u8 (0:UInt8),.b false,.sl 4 none,.s [],.s [],.s [],.s [],.b false,.u8 (0:UInt8),.s [],.s [],.sl 5 none,.bs none,.sl 4 none]
def zV2:List (TV Tb):=[.n .i64 0,.b false,.b false,.u8 (0:UInt8),.u16 (0:UInt16),.b false,.u16 (0:UInt16),.s [],.b false,.b false,.b false,.u8 (0:UInt8),.b false,.sl 1 none,.s [],.s [],.s [],.s [],.b false,.u8 (0:UInt8),.s [],.s [],.sl 2 none,.bs none,.sl 1 none]
def zV3:List (TV Tb):=[.u16 (0:UInt16),.u16 (0:UInt16),.n .i64 0,.u8 (0:UInt8),.b false,.b false,.b false,.b false]
def hB0 (x:tyA Tb (tabSh 6)):fn60:=⟨x.1,x.2.1,x.2.2.1,x.2.2.2.1,x.2.2.2.2.1,x.2.2.2.2.2.1,x.2.2.2.2.2.2.1,x.2.2.2.2.2.2.2.1,x.2.2.2.2.2.2.2.2.1,x.2.2.2.2.2.2.2.2.2.1,x.2.2.2.2.2.2.2.2.2.2.1,x.2.2.2.2.2.2.2.2.2.2.2.1,x.2.2.2.2.2.2.2.2.2.2.2.2.1,x.2.2.2.2.2.2.2.2.2.2.2.2.2.1,x.2.2.2.2.2.2.2.2.2.2.2.2.2.2.1,x.2.2.2.2.2.2.2.2.2.2.2.2.2.2.2.1,x.2.2.2.2.2.2.2.2.2.2.2.2.2.2.2.2.1,x.2.2.2.2.2.2.2.2.2.2.2.2.2.2.2.2.2.1,x.2.2.2.2.2.2.2.2.2.2.2.2.2.2.2.2.2.2.1,x.2.2.2.2.2.2.2.2.2.2.2.2.2.2.2.2.2.2.2.1,x.2.2.2.2.2.2.2.2.2.2.2.2.2.2.2.2.2.2.2.2.1,x.2.2.2.2.2.2.2.2.2.2.2.2.2.2.2.2.2.2.2.2.2.1,x.2.2.2.2.2.2.2.2.2.2.2.2.2.2.2.2.2.2.2.2.2.2.1,x.2.2.2.2.2.2.2.2.2.2.2.2.2.2.2.2.2.2.2.2.2.2.2.1,x.2.2.2.2.2.2.2.2.2.2.2.2.2.2.2.2.2.2.2.2.2.2.2.2.1⟩
def hL1 (x:tyL Tb hS1):List (TV Tb):=[.n .i64 x.1,.b x.2.1,.b x.2.2.1,.u8 x.2.2.2.1,.u16 x.2.2.2.2.1,.b x.2.2.2.2.2.1,.u16 x.2.2.2.2.2.2.1,.s x.2.2.2.2.2.2.2.1,.b x.2.2.2.2.2.2.2.2.1,.b x.2.2.2.2.2.2.2.2.2.1,.b x.2.2.2.2.2.2.2.2.2.2.1,.u8 x.2.2.2.2.2.2.2.2.2.2.2.1,.b x.2.2.2.2.2.2.2.2.2.2.2.2.1,.sl 4 x.2.2.2.2.2.2.2.2.2.2.2.2.2.1,.s x.2.2.2.2.2.2.2.2.2.2.2.2.2.2.1,.s x.2.2.2.2.2.2.2.2.2.2.2.2.2.2.2.1,.s x.2.2.2.2.2.2.2.2.2.2.2.2.2.2.2.2.1,.s x.2.2.2.2.2.2.2.2.2.2.2.2.2.2.2.2.2.1,.b x.2.2.2.2.2.2.2.2.2.2.2.2.2.2.2.2.2.2.1,.u8 x.2.2.2.2.2.2.2.2.2.2.2.2.2.2.2.2.2.2.2.1,.s x.2.2.2.2.2.2.2.2.2.2.2.2.2.2.2.2.2.2.2.2.1,.s x.2.2.2.2.2.2.2.2.2.2.2.2.2.2.2.2.2.2.2.2.2.1,.sl 5 x.2.2.2.2.2.2.2.2.2.2.2.2.2.2.2.2.2.2.2.2.2.2.1,.bs x.2.2.2.2.2.2.2.2.2.2.2.2.2.2.2.2.2.2.2.2.2.2.2.1,.sl 4 x.2.2.2.2.2.2.2.2.2.2.2.2.2.2.2.2.2.2.2.2.2.2.2.2.1]
def hU2 (x:fn60):List (TV Tb):=[.n .i64 x.Kind,.b x.Dup,.b x.Retain,.u8 x.QoS,.u16 x.Id,.b x.Clean,.u16 x.Keep,.s x.Client,.b x.HasWill,.b x.HasUser,.b x.HasPass,.u8 x.WillQoS,.b x.WillRetain,.sl 4 x.WillProps,.s x.WillTopic,.s x.WillLoad,.s x.User,.s x.Pass,.b x.Present,.u8 x.Code,.s x.Topic,.s x.Load,.sl 5 x.Filters,.bs x.Codes,.sl 4 x.Props]
def hU3 (x:fn60):List (TV Tb):=[.n .i64 x.Kind,.b x.Dup,.b x.Retain,.u8 x.QoS,.u16 x.Id,.b x.Clean,.u16 x.Keep,.s x.Client,.b x.HasWill,.b x.HasUser,.b x.HasPass,.u8 x.WillQoS,.b x.WillRetain,.sl 4 x.WillProps,.s x.WillTopic,.s x.WillLoad,.s x.User,.s x.Pass,.b x.Present,.u8 x.Code,.s x.Topic,.s x.Load,.ow 5 x.Filters,.bo x.Codes,.sl 4 x.Props]
def hB4 (x:tyA Tb (tabSh 3)):fn113:=⟨x.1,x.2.1,x.2.2.1,x.2.2.2.1,x.2.2.2.2.1,x.2.2.2.2.2.1,x.2.2.2.2.2.2.1,x.2.2.2.2.2.2.2.1,x.2.2.2.2.2.2.2.2.1,x.2.2.2.2.2.2.2.2.2.1,x.2.2.2.2.2.2.2.2.2.2.1,x.2.2.2.2.2.2.2.2.2.2.2.1,x.2.2.2.2.2.2.2.2.2.2.2.2.1,x.2.2.2.2.2.2.2.2.2.2.2.2.2.1,x.2.2.2.2.2.2.2.2.2.2.2.2.2.2.1,x.2.2.2.2.2.2.2.2.2.2.2.2.2.2.2.1,x.2.2.2.2.2.2.2.2.2.2.2.2.2.2.2.2.1,x.2.2.2.2.2.2.2.2.2.2.2.2.2.2.2.2.2.1,x.2.2.2.2.2.2.2.2.2.2.2.2.2.2.2.2.2.2.1,x.2.2.2.2.2.2.2.2.2.2.2.2.2.2.2.2.2.2.2.1,x.2.2.2.2.2.2.2.2.2.2.2.2.2.2.2.2.2.2.2.2.1,x.2.2.2.2.2.2.2.2.2.2.2.2.2.2.2.2.2.2.2.2.2.1,x.2.2.2.2.2.2.2.2.2.2.2.2.2.2.2.2.2.2.2.2.2.2.1,x.2.2.2.2.2.2.2.2.2.2.2.2.2.2.2.2.2.2.2.2.2.2.2.1,x.2.2.2.2.2.2.2.2.2.2.2.2.2.2.2.2.2.2.2.2.2.2.2.2.1⟩
def hL5 (x:tyL Tb hS0):List (TV Tb):=[.n .i64 x.1,.b x.2.1,.b x.2.2.1,.u8 x.2.2.2.1,.u16 x.2.2.2.2.1,.b x.2.2.2.2.2.1,.u16 x.2.2.2.2.2.2.1,.s x.2.2.2.2.2.2.2.1,.b x.2.2.2.2.2.2.2.2.1,.b x.2.2.2.2.2.2.2.2.2.1,.b x.2.2.2.2.2.2.2.2.2.2.1,.u8 x.2.2.2.2.2.2.2.2.2.2.2.1,.b x.2.2.2.2.2.2.2.2.2.2.2.2.1,.sl 1 x.2.2.2.2.2.2.2.2.2.2.2.2.2.1,.s x.2.2.2.2.2.2.2.2.2.2.2.2.2.2.1,.s x.2.2.2.2.2.2.2.2.2.2.2.2.2.2.2.1,.s x.2.2.2.2.2.2.2.2.2.2.2.2.2.2.2.2.1,.s x.2.2.2.2.2.2.2.2.2.2.2.2.2.2.2.2.2.1,.b x.2.2.2.2.2.2.2.2.2.2.2.2.2.2.2.2.2.2.1,.u8 x.2.2.2.2.2.2.2.2.2.2.2.2.2.2.2.2.2.2.2.1,.s x.2.2.2.2.2.2.2.2.2.2.2.2.2.2.2.2.2.2.2.2.1,.s x.2.2.2.2.2.2.2.2.2.2.2.2.2.2.2.2.2.2.2.2.2.1,.sl 2 x.2.2.2.2.2.2.2.2.2.2.2.2.2.2.2.2.2.2.2.2.2.2.1,.bs x.2.2.2.2.2.2.2.2.2.2.2.2.2.2.2.2.2.2.2.2.2.2.2.1,.sl 1 x.2.2.2.2.2.2.2.2.2.2.2.2.2.2.2.2.2.2.2.2.2.2.2.2.1]
def hL6 (x:tyL Tb hS2):List (TV Tb):=[.n .i64 x.1,.b x.2.1,.b x.2.2.1,.u8 x.2.2.2.1,.u16 x.2.2.2.2.1,.b x.2.2.2.2.2.1,.u16 x.2.2.2.2.2.2.1,.s x.2.2.2.2.2.2.2.1,.b x.2.2.2.2.2.2.2.2.1,.b x.2.2.2.2.2.2.2.2.2.1,.b x.2.2.2.2.2.2.2.2.2.2.1,.u8 x.2.2.2.2.2.2.2.2.2.2.2.1,.b x.2.2.2.2.2.2.2.2.2.2.2.2.1,.ow 4 x.2.2.2.2.2.2.2.2.2.2.2.2.2.1,.s x.2.2.2.2.2.2.2.2.2.2.2.2.2.2.1,.s x.2.2.2.2.2.2.2.2.2.2.2.2.2.2.2.1,.s x.2.2.2.2.2.2.2.2.2.2.2.2.2.2.2.2.1,.s x.2.2.2.2.2.2.2.2.2.2.2.2.2.2.2.2.2.1,.b x.2.2.2.2.2.2.2.2.2.2.2.2.2.2.2.2.2.2.1,.u8 x.2.2.2.2.2.2.2.2.2.2.2.2.2.2.2.2.2.2.2.1,.s x.2.2.2.2.2.2.2.2.2.2.2.2.2.2.2.2.2.2.2.2.1,.s x.2.2.2.2.2.2.2.2.2.2.2.2.2.2.2.2.2.2.2.2.2.1,.ow 5 x.2.2.2.2.2.2.2.2.2.2.2.2.2.2.2.2.2.2.2.2.2.2.1,.bo x.2.2.2.2.2.2.2.2.2.2.2.2.2.2.2.2.2.2.2.2.2.2.2.1,.ow 4 x.2.2.2.2.2.2.2.2.2.2.2.2.2.2.2.2.2.2.2.2.2.2.2.2.1]
def hU7 (x:fn60):List (TV Tb):=[.n .i64 x.Kind,.b x.Dup,.b x.Retain,.u8 x.QoS,.u16 x.Id,.b x.Clean,.u16 x.Keep,.s x.Client,.b x.HasWill,.b x.HasUser,.b x.HasPass,.u8 x.WillQoS,.b x.WillRetain,.sl 4 x.WillProps,.s x.WillTopic,.s x.WillLoad,.s x.User,.s x.Pass,.b x.Present,.u8 x.Code,.s x.Topic,.s x.Load,.ow 5 x.Filters,.bs x.Codes,.sl 4 x.Props]
def hL8 (x:tyL Tb hS8):List (TV Tb):=[.n .i64 x.1,.b x.2.1,.b x.2.2.1,.u8 x.2.2.2.1,.u16 x.2.2.2.2.1,.b x.2.2.2.2.2.1,.u16 x.2.2.2.2.2.2.1,.s x.2.2.2.2.2.2.2.1,.b x.2.2.2.2.2.2.2.2.1,.b x.2.2.2.2.2.2.2.2.2.1,.b x.2.2.2.2.2.2.2.2.2.2.1,.u8 x.2.2.2.2.2.2.2.2.2.2.2.1,.b x.2.2.2.2.2.2.2.2.2.2.2.2.1,.ow 1 x.2.2.2.2.2.2.2.2.2.2.2.2.2.1,.s x.2.2.2.2.2.2.2.2.2.2.2.2.2.2.1,.s x.2.2.2.2.2.2.2.2.2.2.2.2.2.2.2.1,.s x.2.2.2.2.2.2.2.2.2.2.2.2.2.2.2.2.1,.s x.2.2.2.2.2.2.2.2.2.2.2.2.2.2.2.2.2.1,.b x.2.2.2.2.2.2.2.2.2.2.2.2.2.2.2.2.2.2.1,.u8 x.2.2.2.2.2.2.2.2.2.2.2.2.2.2.2.2.2.2.2.1,.s x.2.2.2.2.2.2.2.2.2.2.2.2.2.2.2.2.2.2.2.2.1,.s x.2.2.2.2.2.2.2.2.2.2.2.2.2.2.2.2.2.2.2.2.2.1,.ow 2 x.2.2.2.2.2.2.2.2.2.2.2.2.2.2.2.2.2.2.2.2.2.2.1,.bo x.2.2.2.2.2.2.2.2.2.2.2.2.2.2.2.2.2.2.2.2.2.2.2.1,.ow 1 x.2.2.2.2.2.2.2.2.2.2.2.2.2.2.2.2.2.2.2.2.2.2.2.2.1]
def hU9 (x:fn113):List (TV Tb):=[.n .i64 x.Kind,.b x.Dup,.b x.Retain,.u8 x.QoS,.u16 x.Id,.b x.Clean,.u16 x.Keep,.s x.Client,.b x.HasWill,.b x.HasUser,.b x.HasPass,.u8 x.WillQoS,.b x.WillRetain,.sl 1 x.WillProps,.s x.WillTopic,.s x.WillLoad,.s x.User,.s x.Pass,.b x.Present,.u8 x.Code,.s x.Topic,.s x.Load,.ow 2 x.Filters,.bo x.Codes,.sl 1 x.Props]
def hU10 (x:fn113):List (TV Tb):=[.n .i64 x.Kind,.b x.Dup,.b x.Retain,.u8 x.QoS,.u16 x.Id,.b x.Clean,.u16 x.Keep,.s x.Client,.b x.HasWill,.b x.HasUser,.b x.HasPass,.u8 x.WillQoS,.b x.WillRetain,.sl 1 x.WillProps,.s x.WillTopic,.s x.WillLoad,.s x.User,.s x.Pass,.b x.Present,.u8 x.Code,.s x.Topic,.s x.Load,.ow 2 x.Filters,.bs x.Codes,.sl 1 x.Props]
def hU11 (x:fn113):List (TV Tb):=[.n .i64 x.Kind,.b x.Dup,.b x.Retain,.u8 x.QoS,.u16 x.Id,.b x.Clean,.u16 x.Keep,.s x.Client,.b x.HasWill,.b x.HasUser,.b x.HasPass,.u8 x.WillQoS,.b x.WillRetain,.ow 1 x.WillProps,.s x.WillTopic,.s x.WillLoad,.s x.User,.s x.Pass,.b x.Present,.u8 x.Code,.s x.Topic,.s x.Load,.ow 2 x.Filters,.bo x.Codes,.ow 1 x.Props]
abbrev iS:Sh:=.g (.f (.a (.n .i64)))
abbrev boS:Sh:=.g (.f .bo)
abbrev rS (a b:Nat):Sh:=.g (.f (.ref a b))
abbrev lS (k:Nat):Sh:=.g (.f (.a (.sl k)))
abbrev wS (k:Nat):Sh:=.g (.f (.ow k))
abbrev bS:Sh:=.g (.f (.a .b))
abbrev sS:Sh:=.g (.f (.a .s))
abbrev u8S:Sh:=.g (.f (.a .u8))
abbrev u16S:Sh:=.g (.f (.a .u16))
abbrev u32S:Sh:=.g (.f (.a .u32))
abbrev u64S:Sh:=.g (.f (.a .u64))
abbrev bsS:Sh:=.g (.f (.a .bs))
def Op (o:TOp Tb) (a:List (TArg Tb)) (n:Nat):TSOp Tb:=⟨o,a,some n,none⟩
def Ld (i n:Nat):TSOp Tb:=⟨.load none,[.m i],some n,none⟩
def Mv (i n:Nat):TSOp Tb:=⟨.mv,[.m i],some n,none⟩
def Yes (o:TOp Tb) (a:List (TArg Tb)) (n g:Nat):TSOp Tb:=⟨o,a,some n,some (g,true)⟩
def No (o:TOp Tb) (a:List (TArg Tb)) (n g:Nat):TSOp Tb:=⟨o,a,some n,some (g,false)⟩
def Do (o:TOp Tb) (a:List (TArg Tb)):TSOp Tb:=⟨o,a,none,none⟩
def bi (o:BinOp):TOp Tb:=.bin o .i
def ki (z:Int):TArg Tb:=.k (.n .i64 z)
def kf:TArg Tb:=.k (.b false)
def kt:TArg Tb:=.k (.b true)
def ld:TOp Tb:=.load none
def Mw (i n:Nat):TSOp Tb:=⟨.mv,[.v i],some n,none⟩
def Mk (a:TArg Tb) (n:Nat):TSOp Tb:=⟨.mv,[a],some n,none⟩
def Bi (o:BinOp) (a:List (TArg Tb)) (n:Nat):TSOp Tb:=⟨.bin o .i,a,some n,none⟩
def Cl (f k:Nat) (a:List (TArg Tb)) (n:Nat):TSOp Tb:=⟨.call (some f) k,a,some n,none⟩
def Pf (a b n:Nat):TSOp Tb:=⟨.pick,[.m a,.m b,kf],some n,none⟩
def Pt (a b n:Nat):TSOp Tb:=⟨.pick,[.m a,kt,.m b],some n,none⟩
def sq (l:List (TSOp Tb)) (c:TCode Tb):TCode Tb:=.seq (.reg l none) c
def rg (l:List (TSOp Tb)):TCode Tb:=.reg l none
def dp (l:List Nat) (c:TCode Tb):TCode Tb:=.drop l c
def se (a b:TCode Tb):TCode Tb:=.seq a b
def cn (i:Nat) (a b:TCode Tb):TCode Tb:=.cond i a b
def Fav (k i n:Nat):TSOp Tb:=⟨.fa k,[.v i],some n,none⟩
def Fam (k i n:Nat):TSOp Tb:=⟨.fa k,[.m i],some n,none⟩
end Go.Rv
