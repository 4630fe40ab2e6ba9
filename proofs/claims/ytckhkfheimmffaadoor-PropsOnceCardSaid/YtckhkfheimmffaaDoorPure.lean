/- The program's functions as plain functions. -/
import Derived.Test.YtckhkfheimmffaaDoorTys
set_option linter.unusedSimpArgs false
set_option linter.unusedVariables false
set_option maxRecDepth 100000
namespace Go.Rv
def fn43_c1 {ρ:Type} (x9:Option (List Int)) (x10:Option (List Int)) (x11:UInt8) (x12:Bool) (k1_:(Option (List Int))->Option ρ) (k2_:fn105->Option ρ) (k3_:Option ρ):Option ρ :=
 if x12 then (slO x9 1 ((L x9).length:Int)).bind fun x14=>k1_ x14 else if decide (x11=(38:UInt8)) then k2_ (⟨7,x10⟩:fn105) else if decide (x11=(39:UInt8)) then k2_ (⟨3,x9⟩:fn105) else k3_
def fn43_c0 {ρ:Type} (x4:Option (List Int)) (x5:Option (List Int)) (x6:UInt8) (x7:Bool) (k1_:fn105->Option ρ) (k2_:(Option (List Int))->Option ρ) (k3_:Option ρ):Option ρ :=
 if x7 then k1_ (⟨2,x4⟩:fn105) else if decide (x6=(35:UInt8)) then k1_ (⟨2,(some [3])⟩:fn105) else if decide (x6=(36:UInt8)) then fn43_c1 x4 x5 x6 (decide (x6=(36:UInt8))) (fun x17=>k2_ x17) (fun x18=>k1_ x18) k3_ else if decide (x6=(37:UInt8)) then fn43_c1 x4 x5 x6 (decide (x6=(37:UInt8))) (fun x19=>k2_ x19) (fun x20=>k1_ x20) k3_ else if decide (x6=(40:UInt8)) then fn43_c1 x4 x5 x6 (decide (x6=(40:UInt8))) (fun x21=>k2_ x21) (fun x22=>k1_ x22) k3_ else if decide (x6=(41:UInt8)) then fn43_c1 x4 x5 x6 (decide (x6=(41:UInt8))) (fun x23=>k2_ x23) (fun x24=>k1_ x24) k3_ else fn43_c1 x4 x5 x6 (decide (x6=(42:UInt8))) (fun x25=>k2_ x25) (fun x26=>k1_ x26) k3_
def fn43 (a1:UInt8) (a2:Option (List Int)) (a3:Option (List Int)):Option fn105 :=
 if decide (a1=(28:UInt8)) then some (⟨5,(some [2,14])⟩:fn105) else if decide (a1=(31:UInt8)) then some (⟨5,(some [2,4,5,6,7,9,11,14,15])⟩:fn105) else if decide (a1=(33:UInt8)) then fn43_c0 a2 a3 a1 (decide (a1=(33:UInt8))) (fun x29=>some x29) (fun x30=>some (⟨1,x30⟩:fn105)) (some (⟨0,none⟩:fn105)) else fn43_c0 a2 a3 a1 (decide (a1=(34:UInt8))) (fun x31=>some x31) (fun x32=>some (⟨1,x32⟩:fn105)) (some (⟨0,none⟩:fn105))
def fn56_b0 {ρ:Type} (x5:Option (List Int)) (x6:Int) (kb_:(Option (List Int))->Int->Option ρ) (k1_:(Option (List Int))->Option ρ):Option ρ :=
 if decide (x6 ≤ 16) then if !decide (x6=12) then if !decide (x6=13) then (appO 8 x5 (some [x6])).bind fun x8=>kb_ x8 (w64 (x6 + 1)) else kb_ x5 (w64 (x6 + 1)) else kb_ x5 (w64 (x6 + 1)) else k1_ x5
def fn56_l0 (z:(Option (List Int)) × Int):Option (((Option (List Int)) × Int) ⊕ (Option (List Int))) :=
 fn56_b0 z.1 z.2 (fun x5 x6=>some (.inl (x5,x6))) (fun y9=>some (.inr y9))
def fn56_c3 {ρ:Type} (x31:Option (List Int)) (x32:Option (List Int)) (x34:UInt8) (x35:Bool) (k1_:(Option (List Int))->Option ρ) (k2_:(Option (List Int))->Option ρ) (k3_:Option ρ):Option ρ :=
 if x35 then (slO x32 0 1).bind fun x37=>k1_ x37 else if decide (x34=(24:UInt8)) then (slO x31 1 ((L x31).length:Int)).bind fun x38=>k2_ x38 else k3_
def fn56_c2 {ρ:Type} (x20:Option (List Int)) (x21:Option (List Int)) (x23:UInt8) (x24:Bool) (k1_:(Option (List Int))->Option ρ) (k2_:(Option (List Int))->Option ρ) (k3_:fn105->Option ρ) (k4_:(Option (List Int))->Option ρ) (k5_:(Option (List Int))->Option ρ) (k6_:Option ρ):Option ρ :=
 if x24 then (slO x21 1 ((L x21).length:Int)).bind fun x26=>k1_ x26 else if decide (x23=(19:UInt8)) then (slO x21 1 ((L x21).length:Int)).bind fun x27=>k2_ x27 else if decide (x23=(21:UInt8)) then (appO 8 x21 (some [15])).bind fun x28=>k3_ (⟨5,x28⟩:fn105) else if decide (x23=(22:UInt8)) then (appO 8 x21 (some [15])).bind fun x29=>k3_ (⟨6,x29⟩:fn105) else if decide (x23=(23:UInt8)) then fn56_c3 x20 x21 x23 (decide (x23=(23:UInt8))) (fun x41=>k4_ x41) (fun x42=>k5_ x42) k6_ else fn56_c3 x20 x21 x23 (decide (x23=(25:UInt8))) (fun x43=>k4_ x43) (fun x44=>k5_ x44) k6_
def fn56_c1 {ρ:Type} (x12:Option (List Int)) (x13:Option (List Int)) (x15:UInt8) (x16:Bool) (k1_:fn105->Option ρ) (k2_:(Option (List Int))->Option ρ) (k3_:(Option (List Int))->Option ρ) (k4_:(Option (List Int))->Option ρ) (k5_:(Option (List Int))->Option ρ) (k6_:Option ρ):Option ρ :=
 if x16 then k1_ (⟨5,x12⟩:fn105) else if decide (x15=(9:UInt8)) then k1_ (⟨6,x12⟩:fn105) else if decide (x15=(11:UInt8)) then k1_ (⟨4,(some [3,8])⟩:fn105) else if decide (x15=(17:UInt8)) then (appO 8 x13 (some [14])).bind fun x18=>k1_ (⟨3,x18⟩:fn105) else if decide (x15=(18:UInt8)) then fn56_c2 x12 x13 x15 (decide (x15=(18:UInt8))) (fun x50=>k2_ x50) (fun x51=>k3_ x51) (fun x52=>k1_ x52) (fun x53=>k4_ x53) (fun x54=>k5_ x54) k6_ else fn56_c2 x12 x13 x15 (decide (x15=(26:UInt8))) (fun x55=>k2_ x55) (fun x56=>k3_ x56) (fun x57=>k1_ x57) (fun x58=>k4_ x58) (fun x59=>k5_ x59) k6_
def fn56_c4 {ρ:Type} (x75:UInt8) (x76:Option (List Int)) (x77:Option (List Int)) (k1_:fn105->Option ρ):Option ρ :=
 (fn43 x75 x76 x77).bind fun x79=>k1_ x79
def fn56 (a1:UInt8):Option fn105 :=
 (iter fn56_l0 ((some []),1)).bind fun x10=>if decide (a1=(1:UInt8)) then some (⟨1,(some [3,16])⟩:fn105) else if decide (a1=(2:UInt8)) then some (⟨3,(some [3,16])⟩:fn105) else if decide (a1=(3:UInt8)) then fn56_c1 (some [3,16]) (some [1,2]) a1 (decide (a1=(3:UInt8))) (fun x65=>some x65) (fun x66=>some (⟨5,x66⟩:fn105)) (fun x67=>some (⟨2,x67⟩:fn105)) (fun x68=>some (⟨1,x68⟩:fn105)) (fun x69=>some (⟨3,x69⟩:fn105)) (fn56_c4 a1 (some [1,2]) x10 (fun x81=>some x81)) else fn56_c1 (some [3,16]) (some [1,2]) a1 (decide (a1=(8:UInt8))) (fun x70=>some x70) (fun x71=>some (⟨5,x71⟩:fn105)) (fun x72=>some (⟨2,x72⟩:fn105)) (fun x73=>some (⟨1,x73⟩:fn105)) (fun x74=>some (⟨3,x74⟩:fn105)) (fn56_c4 a1 (some [1,2]) x10 (fun x82=>some x82))
def fn72 (a1:UInt8):Option Int :=
 (fn56 a1).bind fun x2=>some x2.kind
def fn57 (a1:List UInt8):Option Bool :=
 if decide ((a1.length:Int) ≤ 65535) then (fn19 a1).bind fun x2=>if x2 then (fn20 a1 [0]).bind fun x3=>some (!x3) else some false else some false
def fn58_c0 {ρ:Type} (x2:Bool) (x3:Bool) (x4:fn86) (k1_:Bool->Option ρ):Option ρ :=
 (fn72 x4.Id).bind fun x5=>if decide (x5=1) then if decide (x4.N < (256:UInt32)) then k1_ x2 else k1_ false else if decide (x5=2) then if decide (x4.N < (65536:UInt32)) then k1_ x2 else k1_ false else if decide (x5=3) then k1_ x2 else if decide (x5=4) then if decide (x4.N ≤ (268435455:UInt32)) then k1_ x2 else k1_ false else if decide (x5=5) then if x3 then (fn57 x4.A).bind fun x6=>if x6 then k1_ (decide (x4.B=[])) else k1_ false else k1_ false else if decide (x5=6) then if x3 then if decide ((x4.A.length:Int) ≤ 65535) then k1_ (decide (x4.B=[])) else k1_ false else k1_ false else if decide (x5=7) then if x3 then (fn57 x4.A).bind fun x7=>if x7 then (fn57 x4.B).bind fun x8=>k1_ x8 else k1_ false else k1_ false else k1_ false
def fn58 (a1:fn86):Option Bool :=
 if decide (a1.A=[]) then fn58_c0 (decide (a1.B=[])) (decide (a1.N=(0:UInt32))) a1 (fun x10=>some x10) else fn58_c0 false (decide (a1.N=(0:UInt32))) a1 (fun x11=>some x11)
def fn15 (a1:Option (List UInt8)):Option (Option (List UInt8)) :=
 if a1.isNone then some none else (appO 1 (some []) a1).bind fun x2=>some x2
def fn73 (a1:Option (List UInt8)) (a2:UInt8):Option (Option (List UInt8)) :=
 (fn15 a1).bind fun x3=>(appO 1 x3 (some [a2])).bind fun x4=>some x4
def fn87 (a1:Option (List UInt8)) (a2:UInt16):Option (Option (List UInt8)) :=
 (fn15 a1).bind fun x3=>(appO 1 x3 (some [u8 ((yv517 a2 ((8:UInt64).toNat:Int)).toNat:Int),u8 (a2.toNat:Int)])).bind fun x4=>some x4
def fn74 (a1:Option (List UInt8)) (a2:UInt32):Option (Option (List UInt8)) :=
 (fn87 a1 (u16 ((yv518 a2 ((16:UInt64).toNat:Int)).toNat:Int))).bind fun x3=>(fn87 x3 (u16 (a2.toNat:Int))).bind fun x4=>some x4
def fn88_b0 {ρ:Type} (x4:UInt32) (x5:Option (List UInt8)) (kb_:UInt32->(Option (List UInt8))->Option ρ) (k1_:UInt32->(Option (List UInt8))->Option ρ):Option ρ :=
 if decide (x4 ≥ (128:UInt32)) then (appO 1 x5 (some [(u8 (x4.toNat:Int)) ||| (128:UInt8)])).bind fun x6=>kb_ (yv518 x4 ((7:UInt64).toNat:Int)) x6 else k1_ x4 x5
def fn88_l0 (z:UInt32 × (Option (List UInt8))):Option ((UInt32 × (Option (List UInt8))) ⊕ (UInt32 × (Option (List UInt8)))) :=
 fn88_b0 z.1 z.2 (fun x4 x5=>some (.inl (x4,x5))) (fun y7 y8=>some (.inr (y7,y8)))
def fn88 (a1:Option (List UInt8)) (a2:UInt32):Option (Option (List UInt8)) :=
 (fn15 a1).bind fun x3=>if decide (a2 > (268435455:UInt32)) then some x3 else (iter fn88_l0 (a2,x3)).bind fun (x9,x10)=>(appO 1 x10 (some [u8 (x9.toNat:Int)])).bind fun x11=>some x11
def fn89 (a1:Option (List UInt8)) (a2:List UInt8):Option (Option (List UInt8)) :=
 if decide ((a2.length:Int) > 65535) then (fn15 a1).bind fun x3=>some x3 else (fn87 a1 (u16 (a2.length:Int))).bind fun x4=>(appO 1 x4 (some a2)).bind fun x5=>some x5
def fn75 (a1:Option (List UInt8)) (a2:fn86):Option (Option (List UInt8)) :=
 (appO 1 a1 (some [a2.Id])).bind fun x3=>(fn72 a2.Id).bind fun x4=>if decide (x4=1) then (fn73 x3 (u8 (a2.N.toNat:Int))).bind fun x5=>some x5 else if decide (x4=2) then (fn87 x3 (u16 (a2.N.toNat:Int))).bind fun x6=>some x6 else if decide (x4=3) then (fn74 x3 a2.N).bind fun x7=>some x7 else if decide (x4=4) then (fn88 x3 a2.N).bind fun x8=>some x8 else if decide (x4=7) then (fn89 x3 a2.A).bind fun x9=>(fn89 x9 a2.B).bind fun x10=>some x10 else (fn89 x3 a2.A).bind fun x11=>some x11
def fn44_b0 {ρ:Type} (x3:Option (List fn86)) (x4:Int) (x2:Option (List UInt8)) (x5:Int) (kb_:(Option (List UInt8))->Int->Option ρ) (k1_:fn86->Option ρ) (k2_:(Option (List UInt8))->Option ρ):Option ρ :=
 if decide (x5 < x4) then (ix (L x3) x5).bind fun x6=>(fn58 (⟨x6.Id,x6.N,x6.A,x6.B⟩:fn86)).bind fun x7=>if !x7 then k1_ x6 else (fn75 x2 (⟨x6.Id,x6.N,x6.A,x6.B⟩:fn86)).bind fun x8=>kb_ x8 (w64 (x5 + 1)) else k2_ x2
def fn44_l0 (x3:Option (List fn86)) (x4:Int) (z:(Option (List UInt8)) × Int):Option (((Option (List UInt8)) × Int) ⊕ (fn86 ⊕ ((Option (List UInt8))))) :=
 fn44_b0 x3 x4 z.1 z.2 (fun x2 x5=>some (.inl (x2,x5))) (fun y13=>some (.inr (.inl y13))) (fun y14=>some (.inr (.inr y14)))
def fn44 (a1:Option (List fn86)):Option ((Option (List UInt8)) × Bool) :=
 (iter (fn44_l0 a1 ((L a1).length:Int)) (none,0)).bind fun|.inl x15=>some (none,false)|.inr x16=>some (x16,decide (((L x16).length:Int) ≤ 268435455))
def fn76 (a1:Option (List UInt8)) (a2:Option (List fn86)):Option (Option (List UInt8)) :=
 (fn44 a2).bind fun (x3,x4)=>if !x4 then (fn15 a1).bind fun x5=>some x5 else (fn88 a1 (u32 ((L x3).length:Int))).bind fun x6=>(appO 1 x6 x3).bind fun x7=>some x7
def fn77 (a1:Option (List UInt8)):Option fn55 :=
 some (⟨L a1,0⟩:fn55)
def fn26 (o1:fn55):Option (Int × fn55) :=
 some (o1.err,o1)
def fn52_b0 {ρ:Type} (x2:List UInt8) (x3:UInt32) (x4:Int) (kb_:UInt32->Int->Option ρ) (k1_:UInt32->Int->Int->Option ρ) (k2_:Option ρ):Option ρ :=
 if decide (x4 < 4) then if decide (x4 ≥ (x2.length:Int)) then k1_ (0:UInt32) 0 2 else (ix x2 x4).bind fun x5=>(chk (decide (0 ≤ (w64 (7 * x4))))).bind fun _=>if decide (x5 ≥ (128:UInt8)) then kb_ (x3 ||| (yv645 (u32 ((x5 &&& ~~~(128:UInt8)).toNat:Int)) (w64 (7 * x4)))) (w64 (x4 + 1)) else if decide (x5=(0:UInt8)) then if decide (x4 > 0) then k1_ (0:UInt32) 0 3 else k1_ (x3 ||| (yv645 (u32 ((x5 &&& ~~~(128:UInt8)).toNat:Int)) (w64 (7 * x4)))) (w64 (x4 + 1)) 0 else k1_ (x3 ||| (yv645 (u32 ((x5 &&& ~~~(128:UInt8)).toNat:Int)) (w64 (7 * x4)))) (w64 (x4 + 1)) 0 else k2_
def fn52_l0 (x2:List UInt8) (z:UInt32 × Int):Option ((UInt32 × Int) ⊕ ((UInt32 × Int × Int) ⊕ Unit)) :=
 fn52_b0 x2 z.1 z.2 (fun x3 x4=>some (.inl (x3,x4))) (fun y6 y7 y8=>some (.inr (.inl (y6,y7,y8)))) (some (.inr (.inr ())))
def fn52 (a1:List UInt8):Option (UInt32 × Int × Int) :=
 (iter (fn52_l0 a1) ((0:UInt32),0)).bind fun|.inl (x9,x10,x11)=>some (x9,x10,x11)|.inr _=>some ((0:UInt32),0,3)
def fn27 (o1:fn55):Option (UInt32 × fn55) :=
 (fn26 o1).bind fun (x2,x3)=>if !decide (x2=0) then some ((0:UInt32),x3) else (fn52 x3.b).bind fun (x4,x5,x6)=>(slc x3.b x5 (x3.b.length:Int)).bind fun x7=>some (x4,(⟨x7,x6⟩:fn55))
def fn21_c0 {ρ:Type} (x6:Bool) (k1_:Option ρ) (k2_:Option ρ):Option ρ :=
 if x6 then k1_ else k2_
def fn21_c1 {ρ:Type} (x8:Int) (x9:fn55) (k1_:(List UInt8)->(List UInt8)->Option ρ):Option ρ :=
 (slc x9.b 0 x8).bind fun x10=>(slc x9.b x8 (x9.b.length:Int)).bind fun x11=>k1_ x10 x11
def fn21 (a1:Int) (o2:fn55):Option ((List UInt8) × Bool × fn55) :=
 (fn26 (⟨o2.b,o2.err⟩:fn55)).bind fun (x3,x4)=>if !decide (x3=0) then some ([],false,x4) else if decide (a1 < 0) then fn21_c0 true (some ([],false,(⟨x4.b,2⟩:fn55))) (fn21_c1 a1 x4 (fun x14 x15=>some (x14,true,(⟨x15,x4.err⟩:fn55)))) else fn21_c0 (decide (a1 > (x4.b.length:Int))) (some ([],false,(⟨x4.b,2⟩:fn55))) (fn21_c1 a1 x4 (fun x16 x17=>some (x16,true,(⟨x17,x4.err⟩:fn55))))
def fn28 (a1:Int) (o2:fn55):Option (fn55 × fn55) :=
 (fn21 a1 o2).bind fun (x3,x4,x5)=>some (x5,(⟨x3,x5.err⟩:fn55))
def fn22 (o1:fn55):Option (Int × fn55) :=
 (fn26 o1).bind fun (x2,x3)=>if !decide (x2=0) then some (0,x3) else some ((x3.b.length:Int),x3)
def fn23 (o1:fn55):Option ((List UInt8) × fn55) :=
 (fn22 o1).bind fun (x2,x3)=>(fn21 x2 (⟨x3.b,x3.err⟩:fn55)).bind fun (x4,x5,x6)=>some (x4,x6)
def fn59 (a1:Option (List UInt8)):Option (Option (List UInt8)) :=
 (fn15 a1).bind fun x2=>some x2
def fn24 (o1:fn55):Option (UInt8 × fn55) :=
 (fn21 1 (⟨o1.b,o1.err⟩:fn55)).bind fun (x2,x3,x4)=>if !x3 then some ((0:UInt8),x4) else (ix x2 0).bind fun x5=>some (x5,x4)
def fn29 (o1:fn55):Option (UInt16 × fn55) :=
 (fn21 2 (⟨o1.b,o1.err⟩:fn55)).bind fun (x2,x3,x4)=>if !x3 then some ((0:UInt16),x4) else (ix x2 0).bind fun x5=>(ix x2 1).bind fun x6=>some ((yv644 (u16 (x5.toNat:Int)) ((8:UInt64).toNat:Int)) ||| (u16 (x6.toNat:Int)),x4)
def fn25 (o1:fn55):Option (UInt32 × fn55) :=
 (fn21 4 (⟨o1.b,o1.err⟩:fn55)).bind fun (x2,x3,x4)=>if !x3 then some ((0:UInt32),x4) else (ix x2 0).bind fun x5=>(ix x2 1).bind fun x6=>(ix x2 2).bind fun x7=>(ix x2 3).bind fun x8=>some ((((yv645 (u32 (x5.toNat:Int)) ((24:UInt64).toNat:Int)) ||| (yv645 (u32 (x6.toNat:Int)) ((16:UInt64).toNat:Int))) ||| (yv645 (u32 (x7.toNat:Int)) ((8:UInt64).toNat:Int))) ||| (u32 (x8.toNat:Int)),x4)
def fn30 (o1:fn55):Option ((List UInt8) × fn55) :=
 (fn29 o1).bind fun (x2,x3)=>(fn21 (w64 (x2.toNat:Int)) (⟨x3.b,x3.err⟩:fn55)).bind fun (x4,x5,x6)=>some (x4,x6)
def fn60_c0 {ρ:Type} (x13:Int) (x14:Bool) (x15:fn55) (x17:fn86) (k1_:fn55->(List UInt8)->(List UInt8)->Option ρ):Option ρ :=
 if x14 then (fn30 (⟨x15.b,x15.err⟩:fn55)).bind fun (x18,x19)=>k1_ x19 x18 x17.B else if decide (x13=7) then (fn30 (⟨x15.b,x15.err⟩:fn55)).bind fun (x20,x21)=>(fn30 (⟨x21.b,x21.err⟩:fn55)).bind fun (x22,x23)=>k1_ x23 x20 x22 else k1_ x15 x17.A x17.B
def fn60_c1 {ρ:Type} (x33:fn55) (x35:fn86) (k1_:Bool->fn55->fn86->Option ρ):Option ρ :=
 (fn26 (⟨x33.b,x33.err⟩:fn55)).bind fun (x36,x37)=>if !decide (x36=0) then k1_ false x37 (⟨(0:UInt8),(0:UInt32),[],[]⟩:fn86) else (fn58 (⟨x35.Id,x35.N,x35.A,x35.B⟩:fn86)).bind fun x38=>if !x38 then k1_ false x37 (⟨(0:UInt8),(0:UInt32),[],[]⟩:fn86) else k1_ true x37 x35
def fn60 (o1:fn55):Option (fn86 × Bool × fn55) :=
 (fn24 o1).bind fun (x2,x3)=>(fn72 x2).bind fun x4=>if decide (x4=1) then (fn24 (⟨x3.b,x3.err⟩:fn55)).bind fun (x5,x6)=>fn60_c1 x6 (⟨x2,u32 (x5.toNat:Int),[],[]⟩:fn86) (fun x42 x43 x44=>some (x44,x42,x43)) else if decide (x4=2) then (fn29 (⟨x3.b,x3.err⟩:fn55)).bind fun (x7,x8)=>fn60_c1 x8 (⟨x2,u32 (x7.toNat:Int),[],[]⟩:fn86) (fun x45 x46 x47=>some (x47,x45,x46)) else if decide (x4=3) then (fn25 (⟨x3.b,x3.err⟩:fn55)).bind fun (x9,x10)=>fn60_c1 x10 (⟨x2,x9,[],[]⟩:fn86) (fun x48 x49 x50=>some (x50,x48,x49)) else if decide (x4=4) then (fn27 x3).bind fun (x11,x12)=>fn60_c1 x12 (⟨x2,x11,[],[]⟩:fn86) (fun x51 x52 x53=>some (x53,x51,x52)) else if decide (x4=5) then fn60_c0 x4 (decide (x4=5)) x3 (⟨x2,(0:UInt32),[],[]⟩:fn86) (fun x27 x28 x29=>fn60_c1 x27 (⟨x2,(0:UInt32),x28,x29⟩:fn86) (fun x54 x55 x56=>some (x56,x54,x55))) else fn60_c0 x4 (decide (x4=6)) x3 (⟨x2,(0:UInt32),[],[]⟩:fn86) (fun x30 x31 x32=>fn60_c1 x30 (⟨x2,(0:UInt32),x31,x32⟩:fn86) (fun x57 x58 x59=>some (x59,x57,x58)))
def fn48_b {ρ:Type} (x4:Option (List UInt8)) (x5:fn55) (y_:(fn86 × Bool × Unit)->(Bool->Option ρ)->Option ρ) (kb_:(Option (List UInt8))->fn55->Option ρ) (k1_:(Option (List UInt8))->fn55->fn86->Option ρ) (k2_:(Option (List UInt8))->fn55->Option ρ):Option ρ :=
 (fn22 (⟨x5.b,x5.err⟩:fn55)).bind fun (x6,x7)=>if decide (x6 > 0) then (fn60 (⟨x7.b,x7.err⟩:fn55)).bind fun (x8,x9,x10)=>y_ (x8,x9,()) fun x11=>if !x11 then k1_ x4 x10 x8 else if !x9 then k1_ x4 x10 x8 else kb_ x4 x10 else k2_ x4 x7
def fn48_l (z:(Option (List UInt8)) × fn55):Option (List (fn86 × Bool × Unit) × (((Option (List UInt8)) × fn55) ⊕ (((Option (List UInt8)) × fn55 × fn86) ⊕ ((Option (List UInt8)) × fn55)))) :=
 fn48_b z.1 z.2 hand (fun x4 x5=>some ([],.inl (x4,x5))) (fun y15 y16 y17=>some ([],.inr (.inl (y15,y16,y17)))) (fun y18 y19=>some ([],.inr (.inr (y18,y19))))
def fn48_g (o1:Option (List UInt8)):Option ((Option (List UInt8)) × fn55) :=
 (fn77 o1).bind fun x2=>some (o1,x2)
def fn48 (o1:Option (List UInt8)):Option (List (fn86 × Bool × Unit)):=(fn48_g o1).bind fun z=>yv752 fn48_l z
def fn5 (a1:Option (List fn86)):Option (Option (List fn86)) :=
 if a1.isNone then some none else (appO 40 (some []) a1).bind fun x2=>some x2
def fn6 (a1:Option (List fn86)):Option (((Option (List fn86))) ⊕ (Nat × (List fn86))) :=
 if a1.isNone then some (.inl none) else (chk (decide ((L a1).length * 40 ≤ room∧(L a1).length ≤ room))).bind fun _=>some (.inr ((L a1).length,L a1))
def fn2:Option Unit :=
 if decide ((w64 (0 + 1)) < 0) then if decide ((w64 (0 + 1)) > 0) then none else none else some ()
def fn10:Option Unit :=
 (fn2).bind fun _=>some ()
def fn0:Option Unit :=
 (fn10).bind fun _=>some ()
def fn49 (a1:Option (List fn86)):Option (Option (List fn86)) :=
 (yv740 Tb 4 40 a1).bind fun|.inl _=>(fn0).bind fun _=>some none|.inr (.inl _)=>none|.inr (.inr x2)=>none
def fn31 (a1:UInt8):Option Bool :=
 some (!decide (a1=a1))
def fn18 (a1:UInt8) (a2:UInt8):Option Int :=
 (fn31 a1).bind fun x3=>(fn31 a2).bind fun x4=>if x3 then if x4 then some 0 else some (-1) else if x4 then some 1 else if decide (a1 < a2) then some (-1) else if decide (a1 > a2) then some 1 else some 0
def fn50 (a1:fn86) (a2:fn86):Option Int :=
 (fn18 a1.Id a2.Id).bind fun x3=>some x3
def fn4_b1 {ρ:Type} (x10:Nat) (x11:Int) (x14:Int) (x15:List fn86) (kb_:Int->(List fn86)->Option ρ) (k1_:(List fn86)->Option ρ):Option ρ :=
 if decide (x14 > x11) then (chk (decide (0 ≤ x14∧x14 < ((x10:Nat):Int)))).bind fun _=>(ix x15 x14).bind fun x16=>(chk (decide (0 ≤ (w64 (x14 - 1))∧(w64 (x14 - 1)) < ((x10:Nat):Int)))).bind fun _=>(ix x15 (w64 (x14 - 1))).bind fun x17=>(fn50 (⟨x16.Id,x16.N,x16.A,x16.B⟩:fn86) (⟨x17.Id,x17.N,x17.A,x17.B⟩:fn86)).bind fun x18=>if decide (x18 < 0) then (chk (decide (0 ≤ (w64 (x14 - 1))∧(w64 (x14 - 1)) < ((x10:Nat):Int)))).bind fun _=>(ix x15 (w64 (x14 - 1))).bind fun x19=>(chk (decide (0 ≤ x14∧x14 < ((x10:Nat):Int)))).bind fun _=>(ix x15 x14).bind fun x20=>(chk (decide (0 ≤ x14∧x14 < ((x10:Nat):Int)))).bind fun _=>((ix x15 x14).bind fun x21=>some x19).bind fun x22=>(chk (decide (0 ≤ (w64 (x14 - 1))∧(w64 (x14 - 1)) < ((x10:Nat):Int)))).bind fun _=>((ix (setR x15 x14.toNat x22) (w64 (x14 - 1))).bind fun x23=>some x20).bind fun x24=>kb_ (w64 (x14 - 1)) (setR (setR x15 x14.toNat x22) (w64 (x14 - 1)).toNat x24) else k1_ x15 else k1_ x15
def fn4_l1 (x10:Nat) (x11:Int) (z:Int × (List fn86)):Option ((Int × (List fn86)) ⊕ (List fn86)) :=
 fn4_b1 x10 x11 z.1 z.2 (fun x14 x15=>some (.inl (x14,x15))) (fun y25=>some (.inr y25))
def fn4_b0 {ρ:Type} (x5:Nat) (x6:Int) (x7:Int) (x8:Int) (x9:List fn86) (kb_:Int->(List fn86)->Option ρ) (k1_:(List fn86)->Option ρ):Option ρ :=
 if decide (x8 < x7) then (iter (fn4_l1 x5 x6) (x8,x9)).bind fun x26=>kb_ (w64 (x8 + 1)) x26 else k1_ x9
def fn4_l0 (x5:Nat) (x6:Int) (x7:Int) (z:Int × (List fn86)):Option ((Int × (List fn86)) ⊕ (List fn86)) :=
 fn4_b0 x5 x6 x7 z.1 z.2 (fun x8 x9=>some (.inl (x8,x9))) (fun y27=>some (.inr y27))
def fn4 (a1:Nat) (a2:Int) (a3:Int) (o4:List fn86):Option (List fn86) :=
 (iter (fn4_l0 a1 a2 a3) (w64 (a2 + 1),o4)).bind fun x28=>some x28
def fn9_b0 {ρ:Type} (x6:Nat) (x7:Int) (x8:Int) (x9:Int) (x10:Int) (x11:List fn86) (kb_:Int->(List fn86)->Option ρ) (k1_:(List fn86)->Option ρ):Option ρ :=
 if decide (x10 < x9) then (chk (decide (0 ≤ (w64 (x8 + x10))∧(w64 (x8 + x10)) < ((x6:Nat):Int)))).bind fun _=>(ix x11 (w64 (x8 + x10))).bind fun x12=>(chk (decide (0 ≤ (w64 (x7 + x10))∧(w64 (x7 + x10)) < ((x6:Nat):Int)))).bind fun _=>(ix x11 (w64 (x7 + x10))).bind fun x13=>(chk (decide (0 ≤ (w64 (x7 + x10))∧(w64 (x7 + x10)) < ((x6:Nat):Int)))).bind fun _=>((ix x11 (w64 (x7 + x10))).bind fun x14=>some x12).bind fun x15=>(chk (decide (0 ≤ (w64 (x8 + x10))∧(w64 (x8 + x10)) < ((x6:Nat):Int)))).bind fun _=>((ix (setR x11 (w64 (x7 + x10)).toNat x15) (w64 (x8 + x10))).bind fun x16=>some x13).bind fun x17=>kb_ (w64 (x10 + 1)) (setR (setR x11 (w64 (x7 + x10)).toNat x15) (w64 (x8 + x10)).toNat x17) else k1_ x11
def fn9_l0 (x6:Nat) (x7:Int) (x8:Int) (x9:Int) (z:Int × (List fn86)):Option ((Int × (List fn86)) ⊕ (List fn86)) :=
 fn9_b0 x6 x7 x8 x9 z.1 z.2 (fun x10 x11=>some (.inl (x10,x11))) (fun y18=>some (.inr y18))
def fn9 (a1:Nat) (a2:Int) (a3:Int) (a4:Int) (o5:List fn86):Option (List fn86) :=
 (iter (fn9_l0 a1 a2 a3 a4) (0,o5)).bind fun x19=>some x19
def fn12_b0 {ρ:Type} (x6:Nat) (x7:Int) (x8:Int) (x9:Int) (x10:List fn86) (kb_:Int->Int->(List fn86)->Option ρ) (k1_:Int->(List fn86)->Option ρ):Option ρ :=
 if !decide (x8=x9) then if decide (x8 > x9) then (fn9 x6 (w64 (x7 - x8)) x7 x9 x10).bind fun x11=>kb_ (w64 (x8 - x9)) x9 x11 else (fn9 x6 (w64 (x7 - x8)) (w64 ((w64 (x7 + x9)) - x8)) x8 x10).bind fun x12=>kb_ x8 (w64 (x9 - x8)) x12 else k1_ x8 x10
def fn12_l0 (x6:Nat) (x7:Int) (z:Int × Int × (List fn86)):Option ((Int × Int × (List fn86)) ⊕ (Int × (List fn86))) :=
 fn12_b0 x6 x7 z.1 z.2.1 z.2.2 (fun x8 x9 x10=>some (.inl (x8,x9,x10))) (fun y13 y14=>some (.inr (y13,y14)))
def fn12 (a1:Nat) (a2:Int) (a3:Int) (a4:Int) (o5:List fn86):Option (List fn86) :=
 (iter (fn12_l0 a1 a3) (w64 (a3 - a2),w64 (a4 - a3),o5)).bind fun (x15,x16)=>(fn9 a1 (w64 (a3 - x15)) a3 x15 x16).bind fun x17=>some x17
def fn11_b0 {ρ:Type} (r_:Nat->Int->Int->Int->(List fn86)->Option (List fn86)) (x6:Nat) (x7:Int) (x10:List fn86) (x8:Int) (x9:Int) (kb_:Int->Int->Option ρ) (k1_:Int->Option ρ):Option ρ :=
 if decide (x8 < x9) then (chk (decide (0 ≤ (w64 ((yv519 (u64 (w64 (x8 + x9))) ((1:UInt64).toNat:Int)).toNat:Int))∧(w64 ((yv519 (u64 (w64 (x8 + x9))) ((1:UInt64).toNat:Int)).toNat:Int)) < ((x6:Nat):Int)))).bind fun _=>(ix x10 (w64 ((yv519 (u64 (w64 (x8 + x9))) ((1:UInt64).toNat:Int)).toNat:Int))).bind fun x11=>(chk (decide (0 ≤ x7∧x7 < ((x6:Nat):Int)))).bind fun _=>(ix x10 x7).bind fun x12=>(fn50 (⟨x11.Id,x11.N,x11.A,x11.B⟩:fn86) (⟨x12.Id,x12.N,x12.A,x12.B⟩:fn86)).bind fun x13=>if decide (x13 < 0) then kb_ (w64 ((w64 ((yv519 (u64 (w64 (x8 + x9))) ((1:UInt64).toNat:Int)).toNat:Int)) + 1)) x9 else kb_ x8 (w64 ((yv519 (u64 (w64 (x8 + x9))) ((1:UInt64).toNat:Int)).toNat:Int)) else k1_ x8
def fn11_l0 (r_:Nat->Int->Int->Int->(List fn86)->Option (List fn86)) (x6:Nat) (x7:Int) (x10:List fn86) (z:Int × Int):Option ((Int × Int) ⊕ Int) :=
 fn11_b0 r_ x6 x7 x10 z.1 z.2 (fun x8 x9=>some (.inl (x8,x9))) (fun y14=>some (.inr y14))
def fn11_b1 {ρ:Type} (r_:Nat->Int->Int->Int->(List fn86)->Option (List fn86)) (x16:Nat) (x17:Int) (x18:Int) (x19:List fn86) (kb_:Int->(List fn86)->Option ρ) (k1_:(List fn86)->Option ρ):Option ρ :=
 if decide (x18 < (w64 (x17 - 1))) then (chk (decide (0 ≤ (w64 (x18 + 1))∧(w64 (x18 + 1)) < ((x16:Nat):Int)))).bind fun _=>(ix x19 (w64 (x18 + 1))).bind fun x20=>(chk (decide (0 ≤ x18∧x18 < ((x16:Nat):Int)))).bind fun _=>(ix x19 x18).bind fun x21=>(chk (decide (0 ≤ x18∧x18 < ((x16:Nat):Int)))).bind fun _=>((ix x19 x18).bind fun x22=>some x20).bind fun x23=>(chk (decide (0 ≤ (w64 (x18 + 1))∧(w64 (x18 + 1)) < ((x16:Nat):Int)))).bind fun _=>((ix (setR x19 x18.toNat x23) (w64 (x18 + 1))).bind fun x24=>some x21).bind fun x25=>kb_ (w64 (x18 + 1)) (setR (setR x19 x18.toNat x23) (w64 (x18 + 1)).toNat x25) else k1_ x19
def fn11_l1 (r_:Nat->Int->Int->Int->(List fn86)->Option (List fn86)) (x16:Nat) (x17:Int) (z:Int × (List fn86)):Option ((Int × (List fn86)) ⊕ (List fn86)) :=
 fn11_b1 r_ x16 x17 z.1 z.2 (fun x18 x19=>some (.inl (x18,x19))) (fun y26=>some (.inr y26))
def fn11_b2 {ρ:Type} (r_:Nat->Int->Int->Int->(List fn86)->Option (List fn86)) (x28:Nat) (x29:Int) (x32:List fn86) (x30:Int) (x31:Int) (kb_:Int->Int->Option ρ) (k1_:Int->Option ρ):Option ρ :=
 if decide (x30 < x31) then (chk (decide (0 ≤ x29∧x29 < ((x28:Nat):Int)))).bind fun _=>(ix x32 x29).bind fun x33=>(chk (decide (0 ≤ (w64 ((yv519 (u64 (w64 (x30 + x31))) ((1:UInt64).toNat:Int)).toNat:Int))∧(w64 ((yv519 (u64 (w64 (x30 + x31))) ((1:UInt64).toNat:Int)).toNat:Int)) < ((x28:Nat):Int)))).bind fun _=>(ix x32 (w64 ((yv519 (u64 (w64 (x30 + x31))) ((1:UInt64).toNat:Int)).toNat:Int))).bind fun x34=>(fn50 (⟨x33.Id,x33.N,x33.A,x33.B⟩:fn86) (⟨x34.Id,x34.N,x34.A,x34.B⟩:fn86)).bind fun x35=>if !(decide (x35 < 0)) then kb_ (w64 ((w64 ((yv519 (u64 (w64 (x30 + x31))) ((1:UInt64).toNat:Int)).toNat:Int)) + 1)) x31 else kb_ x30 (w64 ((yv519 (u64 (w64 (x30 + x31))) ((1:UInt64).toNat:Int)).toNat:Int)) else k1_ x30
def fn11_l2 (r_:Nat->Int->Int->Int->(List fn86)->Option (List fn86)) (x28:Nat) (x29:Int) (x32:List fn86) (z:Int × Int):Option ((Int × Int) ⊕ Int) :=
 fn11_b2 r_ x28 x29 x32 z.1 z.2 (fun x30 x31=>some (.inl (x30,x31))) (fun y36=>some (.inr y36))
def fn11_b3 {ρ:Type} (r_:Nat->Int->Int->Int->(List fn86)->Option (List fn86)) (x38:Nat) (x39:Int) (x40:Int) (x41:List fn86) (kb_:Int->(List fn86)->Option ρ) (k1_:(List fn86)->Option ρ):Option ρ :=
 if decide (x40 > x39) then (chk (decide (0 ≤ (w64 (x40 - 1))∧(w64 (x40 - 1)) < ((x38:Nat):Int)))).bind fun _=>(ix x41 (w64 (x40 - 1))).bind fun x42=>(chk (decide (0 ≤ x40∧x40 < ((x38:Nat):Int)))).bind fun _=>(ix x41 x40).bind fun x43=>(chk (decide (0 ≤ x40∧x40 < ((x38:Nat):Int)))).bind fun _=>((ix x41 x40).bind fun x44=>some x42).bind fun x45=>(chk (decide (0 ≤ (w64 (x40 - 1))∧(w64 (x40 - 1)) < ((x38:Nat):Int)))).bind fun _=>((ix (setR x41 x40.toNat x45) (w64 (x40 - 1))).bind fun x46=>some x43).bind fun x47=>kb_ (w64 (x40 - 1)) (setR (setR x41 x40.toNat x45) (w64 (x40 - 1)).toNat x47) else k1_ x41
def fn11_l3 (r_:Nat->Int->Int->Int->(List fn86)->Option (List fn86)) (x38:Nat) (x39:Int) (z:Int × (List fn86)):Option ((Int × (List fn86)) ⊕ (List fn86)) :=
 fn11_b3 r_ x38 x39 z.1 z.2 (fun x40 x41=>some (.inl (x40,x41))) (fun y48=>some (.inr y48))
def fn11_b5 {ρ:Type} (r_:Nat->Int->Int->Int->(List fn86)->Option (List fn86)) (x59:Nat) (x67:Int) (x68:List fn86) (x65:Int) (x66:Int) (kb_:Int->Int->Option ρ) (k1_:Int->Option ρ):Option ρ :=
 if decide (x65 < x66) then (chk (decide (0 ≤ (w64 (x67 - (w64 ((yv519 (u64 (w64 (x65 + x66))) ((1:UInt64).toNat:Int)).toNat:Int))))∧(w64 (x67 - (w64 ((yv519 (u64 (w64 (x65 + x66))) ((1:UInt64).toNat:Int)).toNat:Int)))) < ((x59:Nat):Int)))).bind fun _=>(ix x68 (w64 (x67 - (w64 ((yv519 (u64 (w64 (x65 + x66))) ((1:UInt64).toNat:Int)).toNat:Int))))).bind fun x69=>(chk (decide (0 ≤ (w64 ((yv519 (u64 (w64 (x65 + x66))) ((1:UInt64).toNat:Int)).toNat:Int))∧(w64 ((yv519 (u64 (w64 (x65 + x66))) ((1:UInt64).toNat:Int)).toNat:Int)) < ((x59:Nat):Int)))).bind fun _=>(ix x68 (w64 ((yv519 (u64 (w64 (x65 + x66))) ((1:UInt64).toNat:Int)).toNat:Int))).bind fun x70=>(fn50 (⟨x69.Id,x69.N,x69.A,x69.B⟩:fn86) (⟨x70.Id,x70.N,x70.A,x70.B⟩:fn86)).bind fun x71=>if !(decide (x71 < 0)) then kb_ (w64 ((w64 ((yv519 (u64 (w64 (x65 + x66))) ((1:UInt64).toNat:Int)).toNat:Int)) + 1)) x66 else kb_ x65 (w64 ((yv519 (u64 (w64 (x65 + x66))) ((1:UInt64).toNat:Int)).toNat:Int)) else k1_ x65
def fn11_l5 (r_:Nat->Int->Int->Int->(List fn86)->Option (List fn86)) (x59:Nat) (x67:Int) (x68:List fn86) (z:Int × Int):Option ((Int × Int) ⊕ Int) :=
 fn11_b5 r_ x59 x67 x68 z.1 z.2 (fun x65 x66=>some (.inl (x65,x66))) (fun y72=>some (.inr y72))
def fn11_c6 {ρ:Type} (r_:Nat->Int->Int->Int->(List fn86)->Option (List fn86)) (x74:Nat) (x76:Int) (x79:Int) (x80:Int) (x81:Bool) (x82:List fn86) (k1_:(List fn86)->Option ρ) (k2_:Option ρ):Option ρ :=
 if x81 then (fn12 x74 x79 x76 x80 x82).bind fun x83=>k1_ x83 else k2_
def fn11_c8 {ρ:Type} (r_:Nat->Int->Int->Int->(List fn86)->Option (List fn86)) (x94:Nat) (x95:Int) (x97:Int) (x98:Int) (x100:Bool) (x101:List fn86) (k1_:(List fn86)->Option ρ) (k2_:Option ρ):Option ρ :=
 if x100 then (r_ x94 x95 x98 x97 x101).bind fun x102=>k1_ x102 else k2_
def fn11_c10 {ρ:Type} (r_:Nat->Int->Int->Int->(List fn86)->Option (List fn86)) (x111:Nat) (x112:Int) (x113:Int) (x114:Int) (x115:Bool) (x116:List fn86) (k1_:(List fn86)->Option ρ) (k2_:Option ρ):Option ρ :=
 if x115 then (r_ x111 x113 x114 x112 x116).bind fun x117=>k1_ x117 else k2_
def fn11_c9 {ρ:Type} (r_:Nat->Int->Int->Int->(List fn86)->Option (List fn86)) (x106:Nat) (x107:Int) (x108:Int) (x109:Int) (x110:List fn86) (k1_:(List fn86)->Option ρ) (k2_:Option ρ):Option ρ :=
 if decide (x108 < x109) then fn11_c10 r_ x106 x107 x108 x109 (decide (x109 < x107)) x110 (fun x119=>k1_ x119) k2_ else fn11_c10 r_ x106 x107 x108 x109 false x110 (fun x120=>k1_ x120) k2_
def fn11_c7 {ρ:Type} (r_:Nat->Int->Int->Int->(List fn86)->Option (List fn86)) (x87:Nat) (x88:Int) (x89:Int) (x90:Int) (x91:Int) (x92:Int) (x93:List fn86) (k1_:(List fn86)->Option ρ) (k2_:(List fn86)->Option ρ):Option ρ :=
 if decide (x88 < x91) then fn11_c8 r_ x87 x88 x90 x91 (decide (x91 < x90)) x93 (fun x104=>fn11_c9 r_ x87 x89 x90 x92 x104 (fun x122=>k1_ x122) (k2_ x104)) (fn11_c9 r_ x87 x89 x90 x92 x93 (fun x123=>k1_ x123) (k2_ x93)) else fn11_c8 r_ x87 x88 x90 x91 false x93 (fun x105=>fn11_c9 r_ x87 x89 x90 x92 x105 (fun x124=>k1_ x124) (k2_ x105)) (fn11_c9 r_ x87 x89 x90 x92 x93 (fun x125=>k1_ x125) (k2_ x93))
def fn11_c4 {ρ:Type} (r_:Nat->Int->Int->Int->(List fn86)->Option (List fn86)) (x50:Nat) (x51:Int) (x52:Int) (x53:Int) (x54:Int) (x55:Int) (x56:Int) (x57:Int) (x58:List fn86) (k1_:(List fn86)->Option ρ) (k2_:(List fn86)->Option ρ):Option ρ :=
 (iter (fn11_l5 r_ x50 (w64 (x55 - 1)) x58) (x56,x57)).bind fun x73=>if decide (x73 < x52) then fn11_c6 r_ x50 x52 x73 (w64 (x55 - x73)) (decide (x52 < (w64 (x55 - x73)))) x58 (fun x85=>fn11_c7 r_ x50 x51 x53 x54 x73 (w64 (x55 - x73)) x85 (fun x128=>k1_ x128) (fun x129=>k2_ x129)) (fn11_c7 r_ x50 x51 x53 x54 x73 (w64 (x55 - x73)) x58 (fun x130=>k1_ x130) (fun x131=>k2_ x131)) else fn11_c6 r_ x50 x52 x73 (w64 (x55 - x73)) false x58 (fun x86=>fn11_c7 r_ x50 x51 x53 x54 x73 (w64 (x55 - x73)) x86 (fun x132=>k1_ x132) (fun x133=>k2_ x133)) (fn11_c7 r_ x50 x51 x53 x54 x73 (w64 (x55 - x73)) x58 (fun x134=>k1_ x134) (fun x135=>k2_ x135))
def fn11_body (r_:Nat->Int->Int->Int->(List fn86)->Option (List fn86)) (a1:Nat) (a2:Int) (a3:Int) (a4:Int) (o5:List fn86):Option (List fn86) :=
 if decide ((w64 (a3 - a2))=1) then (iter (fn11_l0 r_ a1 a2 o5) (a3,a4)).bind fun x15=>(iter (fn11_l1 r_ a1 x15) (a2,o5)).bind fun x27=>some x27 else if decide ((w64 (a4 - a3))=1) then (iter (fn11_l2 r_ a1 a3 o5) (a2,a3)).bind fun x37=>(iter (fn11_l3 r_ a1 x37) (a3,o5)).bind fun x49=>some x49 else if decide (a3 > (w64 ((yv519 (u64 (w64 (a2 + a4))) ((1:UInt64).toNat:Int)).toNat:Int))) then fn11_c4 r_ a1 a2 a3 a4 (w64 ((yv519 (u64 (w64 (a2 + a4))) ((1:UInt64).toNat:Int)).toNat:Int)) (w64 ((w64 ((yv519 (u64 (w64 (a2 + a4))) ((1:UInt64).toNat:Int)).toNat:Int)) + a3)) (w64 ((w64 ((w64 ((yv519 (u64 (w64 (a2 + a4))) ((1:UInt64).toNat:Int)).toNat:Int)) + a3)) - a4)) (w64 ((yv519 (u64 (w64 (a2 + a4))) ((1:UInt64).toNat:Int)).toNat:Int)) o5 (fun x138=>some x138) (fun x139=>some x139) else fn11_c4 r_ a1 a2 a3 a4 (w64 ((yv519 (u64 (w64 (a2 + a4))) ((1:UInt64).toNat:Int)).toNat:Int)) (w64 ((w64 ((yv519 (u64 (w64 (a2 + a4))) ((1:UInt64).toNat:Int)).toNat:Int)) + a3)) a2 a3 o5 (fun x140=>some x140) (fun x141=>some x141)
def fn11:Nat->Nat->Int->Int->Int->(List fn86)->Option (List fn86)
 | 0,_,_,_,_,_=>none
 | n_ + 1,a1,a2,a3,a4,o5=>fn11_body (fn11 n_) a1 a2 a3 a4 o5
def fn13_b0 {ρ:Type} (x4:Nat) (x5:Int) (x6:Int) (x7:Int) (x8:Int) (x9:List fn86) (kb_:Int->Int->(List fn86)->Option ρ) (k1_:Int->(List fn86)->Option ρ):Option ρ :=
 if decide (x8 ≤ x5) then (fn4 x4 x7 x8 x9).bind fun x10=>kb_ x8 (w64 (x8 + x6)) x10 else k1_ x7 x9
def fn13_l0 (x4:Nat) (x5:Int) (x6:Int) (z:Int × Int × (List fn86)):Option ((Int × Int × (List fn86)) ⊕ (Int × (List fn86))) :=
 fn13_b0 x4 x5 x6 z.1 z.2.1 z.2.2 (fun x7 x8 x9=>some (.inl (x7,x8,x9))) (fun y11 y12=>some (.inr (y11,y12)))
def fn13_b2 {ρ:Type} (x20:Nat) (x21:Int) (x22:Int) (x23:Int) (x24:Int) (x25:List fn86) (kb_:Int->Int->(List fn86)->Option ρ) (k1_:Int->(List fn86)->Option ρ):Option ρ :=
 if decide (x24 ≤ x21) then (fn11 48 x20 x23 (w64 (x23 + x22)) x24 x25).bind fun x26=>kb_ x24 (w64 (x24 + (w64 (2 * x22)))) x26 else k1_ x23 x25
def fn13_l2 (x20:Nat) (x21:Int) (x22:Int) (z:Int × Int × (List fn86)):Option ((Int × Int × (List fn86)) ⊕ (Int × (List fn86))) :=
 fn13_b2 x20 x21 x22 z.1 z.2.1 z.2.2 (fun x23 x24 x25=>some (.inl (x23,x24,x25))) (fun y27 y28=>some (.inr (y27,y28)))
def fn13_b1 {ρ:Type} (x16:Nat) (x17:Int) (x18:Int) (x19:List fn86) (kb_:Int->(List fn86)->Option ρ) (k1_:(List fn86)->Option ρ):Option ρ :=
 if decide (x18 < x17) then (iter (fn13_l2 x16 x17 x18) (0,w64 (2 * x18),x19)).bind fun (x29,x30)=>if decide ((w64 (x29 + x18)) < x17) then (fn11 48 x16 x29 (w64 (x29 + x18)) x17 x30).bind fun x31=>kb_ (w64 (x18 * 2)) x31 else kb_ (w64 (x18 * 2)) x30 else k1_ x19
def fn13_l1 (x16:Nat) (x17:Int) (z:Int × (List fn86)):Option ((Int × (List fn86)) ⊕ (List fn86)) :=
 fn13_b1 x16 x17 z.1 z.2 (fun x18 x19=>some (.inl (x18,x19))) (fun y32=>some (.inr y32))
def fn13 (a1:Nat) (a2:Int) (o3:List fn86):Option (List fn86) :=
 (iter (fn13_l0 a1 a2 20) (0,20,o3)).bind fun (x13,x14)=>(fn4 a1 x13 a2 x14).bind fun x15=>(iter (fn13_l1 a1 a2) (20,x15)).bind fun x33=>some x33
def fn1 (a1:Nat) (o2:List fn86):Option (List fn86) :=
 (fn13 a1 ((a1:Nat):Int) o2).bind fun x3=>some x3
def fn51 (a1:Option (List fn86)):Option (Option (List fn86)) :=
 (yv740 Tb 4 40 a1).bind fun|.inl _=>none|.inr (.inl _)=>none|.inr (.inr x2)=>(fn1 x2.length x2).bind fun x3=>(chk (decide (x2.length ≤ x3.length))).bind fun _=>some (some (x3.take x2.length))
def fn61 (a1:Option (List fn86)):Option (Option (List fn86)):=bif a1.isNone then fn49 a1 else fn51 a1
def fn62_b0 {ρ:Type} (x15:Option (List fn86)) (x17:fn86) (x18:Bool) (kb_:(Option (List fn86))->Option ρ) (k1_:(Option (List fn86))->fn86->Option ρ):Option ρ :=
 if !x18 then k1_ x15 x17 else (appO 40 x15 (some [x17])).bind fun x19=>kb_ x19
def fn62_l0 (z:(Option (List fn86))) (i:fn86 × Bool × Unit):Option ((Option (List fn86)) ⊕ ((Option (List fn86)) × fn86)) :=
 fn62_b0 z (⟨i.1.Id,i.1.N,i.1.A,i.1.B⟩:fn86) i.2.1 (fun x15=>some (.inl x15)) (fun y24 y25=>some (.inr (y24,y25)))
def fn62 (o1:fn55):Option ((Option (List fn86)) × Bool × fn55) :=
 (fn27 o1).bind fun (x2,x3)=>(fn28 (w64 (x2.toNat:Int)) (⟨x3.b,x3.err⟩:fn55)).bind fun (x4,x5)=>(fn26 (⟨x4.b,x4.err⟩:fn55)).bind fun (x6,x7)=>if !decide (x6=0) then some (none,false,x7) else (fn23 (⟨x5.b,x5.err⟩:fn55)).bind fun (x8,x9)=>(s2b x8).bind fun x10=>(fn59 x10).bind fun x11=>(fn48 x11).bind fun l_=>(iterL fn62_l0 l_ none).bind fun|.inl x26=>(fn61 x26).bind fun x29=>some (x29,true,x7)|.inr (x27,x28)=>some (none,false,x7)
def fn63 (a1:Option (List fn86)):Option Int :=
 (fn76 none a1).bind fun x2=>some ((L x2).length:Int)
def fn64 (a1:List UInt8):Option Bool :=
 (fn17 a1 [43,35]).bind fun x2=>some x2
def fn65 (a1:List UInt8):Option Bool :=
 if !decide (a1=[]) then (fn57 a1).bind fun x2=>if x2 then (fn64 a1).bind fun x3=>some (!x3) else some false else some false
def fn66_c0 {ρ:Type} (x4:Bool) (x5:fn86) (k1_:Bool->Option ρ) (k2_:Option ρ):Option ρ :=
 if x4 then k1_ (!decide (x5.N=(0:UInt32))) else if decide (x5.Id=(8:UInt8)) then (fn65 x5.A).bind fun x6=>k1_ x6 else k2_
def fn66 (a1:fn86):Option Bool :=
 (fn58 a1).bind fun x2=>if !x2 then some false else (fn72 a1.Id).bind fun x3=>if decide (x3=1) then some (decide (a1.N ≤ (1:UInt32))) else if decide (a1.Id=(11:UInt8)) then fn66_c0 (decide (a1.Id=(11:UInt8))) a1 (fun x8=>some x8) (some true) else if decide (a1.Id=(33:UInt8)) then fn66_c0 (decide (a1.Id=(33:UInt8))) a1 (fun x9=>some x9) (some true) else if decide (a1.Id=(35:UInt8)) then fn66_c0 (decide (a1.Id=(35:UInt8))) a1 (fun x10=>some x10) (some true) else fn66_c0 (decide (a1.Id=(39:UInt8))) a1 (fun x11=>some x11) (some true)
def fn16_b0 {ρ:Type} (x3:Option (List Int)) (x4:Int) (x5:Int) (x6:Int) (kb_:Int->Option ρ) (k1_:Int->Option ρ) (k2_:Option ρ):Option ρ :=
 if decide (x6 < x5) then (ix (L x3) x6).bind fun x7=>if decide (x4=x7) then k1_ x6 else kb_ (w64 (x6 + 1)) else k2_
def fn16_l0 (x3:Option (List Int)) (x4:Int) (x5:Int) (z:Int):Option (Int ⊕ (Int ⊕ Unit)) :=
 fn16_b0 x3 x4 x5 z (fun x6=>some (.inl x6)) (fun y8=>some (.inr (.inl y8))) (some (.inr (.inr ())))
def fn16 (a1:Option (List Int)) (a2:Int):Option Int :=
 (iter (fn16_l0 a1 a2 ((L a1).length:Int)) 0).bind fun|.inl x9=>some x9|.inr _=>some (-1)
def fn14 (a1:Option (List Int)) (a2:Int):Option Bool :=
 (fn16 a1 a2).bind fun x3=>some (decide (x3 ≥ 0))
def fn90 (a1:UInt8) (a2:Int):Option Bool :=
 (fn56 a1).bind fun x3=>(fn14 x3.kinds a2).bind fun x4=>some x4
def fn67 (a1:UInt8) (a2:Int):Option Bool :=
 (fn90 a1 a2).bind fun x3=>if x3 then if decide (a1=(38:UInt8)) then some true else if decide (a1=(11:UInt8)) then some (decide (a2=3)) else some false else some false
def fn53 (a1:fn86) (o2:UInt8):Option (Bool × UInt8) :=
 some (decide (a1.Id=o2),o2)
def fn3_b0 {ρ:Type} (x3:Option (List fn86)) (x4:Int) (x5:Int) (x6:UInt8) (kb_:Int->UInt8->Option ρ) (k1_:Int->UInt8->Option ρ) (k2_:UInt8->Option ρ):Option ρ :=
 if decide (x5 < x4) then (ix (L x3) x5).bind fun x7=>(fn53 (⟨x7.Id,x7.N,x7.A,x7.B⟩:fn86) x6).bind fun (x8,x9)=>if x8 then k1_ x5 x9 else kb_ (w64 (x5 + 1)) x9 else k2_ x6
def fn3_l0 (x3:Option (List fn86)) (x4:Int) (z:Int × UInt8):Option ((Int × UInt8) ⊕ ((Int × UInt8) ⊕ UInt8)) :=
 fn3_b0 x3 x4 z.1 z.2 (fun x5 x6=>some (.inl (x5,x6))) (fun y10 y11=>some (.inr (.inl (y10,y11)))) (fun y12=>some (.inr (.inr y12)))
def fn3 (a1:Option (List fn86)) (o2:UInt8):Option (Int × UInt8) :=
 (iter (fn3_l0 a1 ((L a1).length:Int)) (0,o2)).bind fun|.inl (x13,x14)=>some (x13,x14)|.inr x15=>some ((-1),x15)
def fn78 (a1:Option (List fn86)) (a2:UInt8):Option (fn86 × Bool) :=
 (fn3 a1 a2).bind fun (x3,x4)=>if decide (x3 < 0) then some ((⟨(0:UInt8),(0:UInt32),[],[]⟩:fn86),false) else (ix (L a1) x3).bind fun x5=>some (x5,true)
def fn54_b0 {ρ:Type} (x3:Int) (x4:Option (List fn86)) (x5:Option (List fn86)) (x6:Int) (x7:Int) (kb_:Int->Option ρ) (k1_:fn86->Option ρ) (k2_:Option ρ):Option ρ :=
 if decide (x7 < x6) then (ix (L x5) x7).bind fun x8=>(fn66 (⟨x8.Id,x8.N,x8.A,x8.B⟩:fn86)).bind fun x9=>if !x9 then k1_ x8 else (fn90 x8.Id x3).bind fun x10=>if !x10 then k1_ x8 else if decide (x7=0) then kb_ (w64 (x7 + 1)) else (ix (L x4) (w64 (x7 - 1))).bind fun x11=>if decide (x11.Id > x8.Id) then k1_ x8 else if decide (x11.Id=x8.Id) then (fn67 x8.Id x3).bind fun x12=>if !x12 then k1_ x8 else kb_ (w64 (x7 + 1)) else kb_ (w64 (x7 + 1)) else k2_
def fn54_l0 (x3:Int) (x4:Option (List fn86)) (x5:Option (List fn86)) (x6:Int) (z:Int):Option (Int ⊕ (fn86 ⊕ Unit)) :=
 fn54_b0 x3 x4 x5 x6 z (fun x7=>some (.inl x7)) (fun y18=>some (.inr (.inl y18))) (some (.inr (.inr ())))
def fn54 (a1:Int) (a2:Option (List fn86)):Option Bool :=
 if decide (((L a2).length:Int) > 1024) then some false else (iter (fn54_l0 a1 a2 a2 ((L a2).length:Int)) 0).bind fun|.inl x19=>some false|.inr _=>(fn78 a2 (22:UInt8)).bind fun (x20,x21)=>(fn78 a2 (21:UInt8)).bind fun (x22,x23)=>if x23 then some true else some (!x21)
def fn91:Option Bool :=
 (fn76 none (some [(⟨(33:UInt8),(7:UInt32),[],[]⟩:fn86)])).bind fun x1=>(fn77 x1).bind fun x2=>(fn62 (⟨x2.b,x2.err⟩:fn55)).bind fun (x3,x4,x5)=>if decide (L x1=[3,33,0,7]) then if x4 then if decide (((L x3).length:Int)=1) then (ix (L x3) 0).bind fun x6=>if decide (x6.N=(7:UInt32)) then (fn63 x3).bind fun x7=>if decide (x7=4) then (fn76 none none).bind fun x8=>if decide (L x8=[0]) then (fn54 1 x3).bind fun x9=>if x9 then (fn54 3 x3).bind fun x10=>some (!x10) else some false else some false else some false else some false else some false else some false else some false
def l05_To (a1:fn104):Option fn86 :=
 some (⟨a1.Id,a1.N,a1.A,a1.B⟩:fn86)
def l06_To_b0 {ρ:Type} (x2:Option (List fn104)) (x3:Option (List fn86)) (x4:Int) (kb_:(Option (List fn86))->Int->Option ρ) (k1_:(Option (List fn86))->Option ρ):Option ρ :=
 if decide (x4 < ((L x2).length:Int)) then (ix (L x2) x4).bind fun x5=>(l05_To (⟨x5.Id,x5.N,x5.A,x5.B⟩:fn104)).bind fun x6=>(appO 40 x3 (some [x6])).bind fun x7=>kb_ x7 (w64 (x4 + 1)) else k1_ x3
def l06_To_l0 (x2:Option (List fn104)) (z:(Option (List fn86)) × Int):Option (((Option (List fn86)) × Int) ⊕ (Option (List fn86))) :=
 l06_To_b0 x2 z.1 z.2 (fun x3 x4=>some (.inl (x3,x4))) (fun y8=>some (.inr y8))
def l06_To (a1:Option (List fn104)):Option (Option (List fn86)) :=
 (iter (l06_To_l0 a1) (none,0)).bind fun x9=>some x9
def fn92_c3 {ρ:Type} (x8:UInt8) (x9:Bool) (k1_:Int->Option ρ) (k2_:Option ρ):Option ρ :=
 if x9 then k1_ 5 else if decide (x8=(9:UInt8)) then if decide (x8=(9:UInt8)) then k1_ 6 else if decide (x8=(38:UInt8)) then k1_ 7 else k2_ else if decide (x8=(22:UInt8)) then k1_ 6 else if decide (x8=(38:UInt8)) then k1_ 7 else k2_
def fn92_c2 {ρ:Type} (x6:UInt8) (x7:Bool) (k1_:Int->Option ρ) (k2_:Option ρ):Option ρ :=
 if x7 then k1_ 3 else if decide (x6=(11:UInt8)) then k1_ 4 else if decide (x6=(3:UInt8)) then fn92_c3 x6 (decide (x6=(3:UInt8))) (fun x11=>k1_ x11) k2_ else if decide (x6=(8:UInt8)) then fn92_c3 x6 (decide (x6=(8:UInt8))) (fun x12=>k1_ x12) k2_ else if decide (x6=(18:UInt8)) then fn92_c3 x6 (decide (x6=(18:UInt8))) (fun x13=>k1_ x13) k2_ else if decide (x6=(21:UInt8)) then fn92_c3 x6 (decide (x6=(21:UInt8))) (fun x14=>k1_ x14) k2_ else if decide (x6=(26:UInt8)) then fn92_c3 x6 (decide (x6=(26:UInt8))) (fun x15=>k1_ x15) k2_ else if decide (x6=(28:UInt8)) then fn92_c3 x6 (decide (x6=(28:UInt8))) (fun x16=>k1_ x16) k2_ else fn92_c3 x6 (decide (x6=(31:UInt8))) (fun x17=>k1_ x17) k2_
def fn92_c1 {ρ:Type} (x4:UInt8) (x5:Bool) (k1_:Int->Option ρ) (k2_:Option ρ):Option ρ :=
 if x5 then k1_ 2 else if decide (x4=(2:UInt8)) then fn92_c2 x4 (decide (x4=(2:UInt8))) (fun x19=>k1_ x19) k2_ else if decide (x4=(17:UInt8)) then fn92_c2 x4 (decide (x4=(17:UInt8))) (fun x20=>k1_ x20) k2_ else if decide (x4=(24:UInt8)) then fn92_c2 x4 (decide (x4=(24:UInt8))) (fun x21=>k1_ x21) k2_ else fn92_c2 x4 (decide (x4=(39:UInt8))) (fun x22=>k1_ x22) k2_
def fn92_c0 {ρ:Type} (x2:UInt8) (x3:Bool) (k1_:Int->Option ρ) (k2_:Option ρ):Option ρ :=
 if x3 then k1_ 1 else if decide (x2=(19:UInt8)) then fn92_c1 x2 (decide (x2=(19:UInt8))) (fun x24=>k1_ x24) k2_ else if decide (x2=(33:UInt8)) then fn92_c1 x2 (decide (x2=(33:UInt8))) (fun x25=>k1_ x25) k2_ else if decide (x2=(34:UInt8)) then fn92_c1 x2 (decide (x2=(34:UInt8))) (fun x26=>k1_ x26) k2_ else fn92_c1 x2 (decide (x2=(35:UInt8))) (fun x27=>k1_ x27) k2_
def fn92 (a1:UInt8):Option Int :=
 if decide (a1=(1:UInt8)) then fn92_c0 a1 (decide (a1=(1:UInt8))) (fun x29=>some x29) (some 0) else if decide (a1=(23:UInt8)) then fn92_c0 a1 (decide (a1=(23:UInt8))) (fun x30=>some x30) (some 0) else if decide (a1=(25:UInt8)) then fn92_c0 a1 (decide (a1=(25:UInt8))) (fun x31=>some x31) (some 0) else if decide (a1=(36:UInt8)) then fn92_c0 a1 (decide (a1=(36:UInt8))) (fun x32=>some x32) (some 0) else if decide (a1=(37:UInt8)) then fn92_c0 a1 (decide (a1=(37:UInt8))) (fun x33=>some x33) (some 0) else if decide (a1=(40:UInt8)) then fn92_c0 a1 (decide (a1=(40:UInt8))) (fun x34=>some x34) (some 0) else if decide (a1=(41:UInt8)) then fn92_c0 a1 (decide (a1=(41:UInt8))) (fun x35=>some x35) (some 0) else fn92_c0 a1 (decide (a1=(42:UInt8))) (fun x36=>some x36) (some 0)
def fn93_b1 {ρ:Type} (x10:List UInt8) (x11:Int) (x12:Int) (x13:Int) (x15:Int) (kb_:Int->Int->Option ρ) (k1_:Option ρ) (k2_:Int->Option ρ):Option ρ :=
 if decide (x15 < x12) then (ix x10 (w64 (x11 + x15))).bind fun x16=>if decide ((w64 (x16.toNat:Int)) < 128) then k1_ else if decide ((w64 (x16.toNat:Int)) ≥ 192) then k1_ else kb_ (w64 ((w64 ((w64 (64 * x13)) + (w64 (x16.toNat:Int)))) - 128)) (w64 (x15 + 1)) else k2_ x13
def fn93_l1 (x10:List UInt8) (x11:Int) (x12:Int) (z:Int × Int):Option ((Int × Int) ⊕ (Unit ⊕ Int)) :=
 fn93_b1 x10 x11 x12 z.1 z.2 (fun x13 x15=>some (.inl (x13,x15))) (some (.inr (.inl ()))) (fun y17=>some (.inr (.inr y17)))
def fn93_c0 {ρ:Type} (x4:List UInt8) (x5:Int) (x6:Int) (x7:Int) (x8:Int) (x9:Int) (k1_:Int->Int->Option ρ):Option ρ :=
 if decide (x6 ≥ 248) then k1_ 0 0 else if decide ((w64 (x5 + x7)) > (x4.length:Int)) then k1_ 0 0 else (iter (fn93_l1 x4 x5 x7) (x8,1)).bind fun|.inl _=>k1_ 0 0|.inr x18=>if decide (x18 < x9) then k1_ 0 0 else if decide (x18 > 1114111) then k1_ 0 0 else if decide (x18 ≥ 55296) then if decide (x18 ≤ 57343) then k1_ 0 0 else k1_ x18 x7 else k1_ x18 x7
def fn93 (a1:List UInt8) (a2:Int):Option (Int × Int) :=
 (ix a1 a2).bind fun x3=>if decide ((w64 (x3.toNat:Int)) ≥ 240) then fn93_c0 a1 a2 (w64 (x3.toNat:Int)) 4 (w64 ((w64 (x3.toNat:Int)) - 240)) 65536 (fun x21 x22=>some (x21,x22)) else if decide ((w64 (x3.toNat:Int)) ≥ 224) then fn93_c0 a1 a2 (w64 (x3.toNat:Int)) 3 (w64 ((w64 (x3.toNat:Int)) - 224)) 2048 (fun x23 x24=>some (x23,x24)) else if decide ((w64 (x3.toNat:Int)) ≥ 192) then fn93_c0 a1 a2 (w64 (x3.toNat:Int)) 2 (w64 ((w64 (x3.toNat:Int)) - 192)) 128 (fun x25 x26=>some (x25,x26)) else if decide ((w64 (x3.toNat:Int)) ≥ 128) then some (0,0) else fn93_c0 a1 a2 (w64 (x3.toNat:Int)) 1 (w64 (x3.toNat:Int)) 1 (fun x27 x28=>some (x27,x28))
def fn79_b0 {ρ:Type} (x2:List UInt8) (x3:Int) (x4:Int) (kb_:Int->Int->Option ρ) (k1_:Option ρ) (k2_:Int->Option ρ):Option ρ :=
 if decide (x4 < (x2.length:Int)) then (fn93 x2 x4).bind fun (x5,x6)=>if decide (x6=0) then k1_ else kb_ (w64 (x3 + 1)) (w64 (x4 + x6)) else k2_ x3
def fn79_l0 (x2:List UInt8) (z:Int × Int):Option ((Int × Int) ⊕ (Unit ⊕ Int)) :=
 fn79_b0 x2 z.1 z.2 (fun x3 x4=>some (.inl (x3,x4))) (some (.inr (.inl ()))) (fun y7=>some (.inr (.inr y7)))
def fn79 (a1:List UInt8):Option Int :=
 if decide ((a1.length:Int) > 65535) then some (-1) else (iter (fn79_l0 a1) (0,0)).bind fun|.inl _=>some (-1)|.inr x8=>some x8
def fn80 (a1:List UInt8):Option Bool :=
 (fn79 a1).bind fun x2=>some (decide (x2 ≥ 0))
def fn81_c0 {ρ:Type} (x2:Bool) (x3:fn104) (k1_:Bool->Option ρ):Option ρ :=
 (fn92 x3.Id).bind fun x4=>if decide (x4=1) then if decide (x3.N < (256:UInt32)) then k1_ x2 else k1_ false else if decide (x4=2) then if decide (x3.N < (65536:UInt32)) then k1_ x2 else k1_ false else if decide (x4=3) then k1_ x2 else if decide (x4=4) then if decide (x3.N < (268435456:UInt32)) then k1_ x2 else k1_ false else if decide (x4=5) then if decide (x3.N=(0:UInt32)) then (fn80 x3.A).bind fun x5=>if x5 then k1_ (decide (x3.B=[])) else k1_ false else k1_ false else if decide (x4=6) then if decide (x3.N=(0:UInt32)) then if decide ((x3.A.length:Int) ≤ 65535) then k1_ (decide (x3.B=[])) else k1_ false else k1_ false else if decide (x4=7) then if decide (x3.N=(0:UInt32)) then (fn80 x3.A).bind fun x6=>if x6 then (fn80 x3.B).bind fun x7=>k1_ x7 else k1_ false else k1_ false else k1_ false
def fn81 (a1:fn104):Option Bool :=
 if decide (a1.A=[]) then fn81_c0 (decide (a1.B=[])) a1 (fun x9=>some x9) else fn81_c0 false a1 (fun x10=>some x10)
def fn94 (a1:fn86):Option fn104 :=
 some (⟨a1.Id,a1.N,a1.A,a1.B⟩:fn104)
def fn95_b0 {ρ:Type} (x2:Option (List fn86)) (x3:Option (List fn104)) (x4:Int) (kb_:(Option (List fn104))->Int->Option ρ) (k1_:(Option (List fn104))->Option ρ):Option ρ :=
 if decide (x4 < ((L x2).length:Int)) then (ix (L x2) x4).bind fun x5=>(fn94 (⟨x5.Id,x5.N,x5.A,x5.B⟩:fn86)).bind fun x6=>(appO 40 x3 (some [x6])).bind fun x7=>kb_ x7 (w64 (x4 + 1)) else k1_ x3
def fn95_l0 (x2:Option (List fn86)) (z:(Option (List fn104)) × Int):Option (((Option (List fn104)) × Int) ⊕ (Option (List fn104))) :=
 fn95_b0 x2 z.1 z.2 (fun x3 x4=>some (.inl (x3,x4))) (fun y8=>some (.inr y8))
def fn95 (a1:Option (List fn86)):Option (Option (List fn104)) :=
 (iter (fn95_l0 a1) (none,0)).bind fun x9=>some x9
def fn68_b1 {ρ:Type} (x5:Option (List fn104)) (x7:Int) (kb_:Option ρ) (k1_:Option ρ):Option ρ :=
 if decide (x7 > 0) then (ix (L x5) (w64 (x7 - 1))).bind fun x8=>(ix (L x5) x7).bind fun x9=>if decide (x8.Id > x9.Id) then (ix (L x5) x7).bind fun x10=>(ix (L x5) (w64 (x7 - 1))).bind fun x11=>(ix (L x5) (w64 (x7 - 1))).bind fun x12=>none else k1_ else k1_
def fn68_l1 (x5:Option (List fn104)) (x7:Int) (z:Unit):Option (Unit ⊕ Unit) :=
 fn68_b1 x5 x7 (some (.inl ())) (some (.inr ()))
def fn68_b0 {ρ:Type} (x3:Option (List fn104)) (x4:Int) (kb_:Int->Option ρ) (k1_:Option ρ):Option ρ :=
 if decide (x4 < ((L x3).length:Int)) then (iter (fn68_l1 x3 x4) ()).bind fun _=>kb_ (w64 (x4 + 1)) else k1_
def fn68_l0 (x3:Option (List fn104)) (z:Int):Option (Int ⊕ Unit) :=
 fn68_b0 x3 z (fun x4=>some (.inl x4)) (some (.inr ()))
def fn68 (a1:Option (List fn104)):Option (Option (List fn104)) :=
 (appO 40 (some []) a1).bind fun x2=>(iter (fn68_l0 x2) 1).bind fun _=>some x2
def fn69_b1 {ρ:Type} (x5:Nat) (x7:Int) (x8:List fn104) (kb_:Int->(List fn104)->Option ρ) (k1_:(List fn104)->Option ρ):Option ρ :=
 if decide (x7 > 0) then (chk (decide (0 ≤ (w64 (x7 - 1))∧(w64 (x7 - 1)) < ((x5:Nat):Int)))).bind fun _=>(ix x8 (w64 (x7 - 1))).bind fun x9=>(chk (decide (0 ≤ x7∧x7 < ((x5:Nat):Int)))).bind fun _=>(ix x8 x7).bind fun x10=>if decide (x9.Id > x10.Id) then (chk (decide (0 ≤ x7∧x7 < ((x5:Nat):Int)))).bind fun _=>(ix x8 x7).bind fun x11=>(chk (decide (0 ≤ (w64 (x7 - 1))∧(w64 (x7 - 1)) < ((x5:Nat):Int)))).bind fun _=>(ix x8 (w64 (x7 - 1))).bind fun x12=>(chk (decide (0 ≤ (w64 (x7 - 1))∧(w64 (x7 - 1)) < ((x5:Nat):Int)))).bind fun _=>((ix x8 (w64 (x7 - 1))).bind fun x13=>some x11).bind fun x14=>(chk (decide (0 ≤ x7∧x7 < ((x5:Nat):Int)))).bind fun _=>((ix (setR x8 (w64 (x7 - 1)).toNat x14) x7).bind fun x15=>some x12).bind fun x16=>kb_ (w64 (x7 - 1)) (setR (setR x8 (w64 (x7 - 1)).toNat x14) x7.toNat x16) else k1_ x8 else k1_ x8
def fn69_l1 (x5:Nat) (z:Int × (List fn104)):Option ((Int × (List fn104)) ⊕ (List fn104)) :=
 fn69_b1 x5 z.1 z.2 (fun x7 x8=>some (.inl (x7,x8))) (fun y17=>some (.inr y17))
def fn69_b0 {ρ:Type} (x2:Nat) (x3:Int) (x4:List fn104) (kb_:Int->(List fn104)->Option ρ) (k1_:(List fn104)->Option ρ):Option ρ :=
 if decide (x3 < ((x2:Nat):Int)) then (iter (fn69_l1 x2) (x3,x4)).bind fun x18=>kb_ (w64 (x3 + 1)) x18 else k1_ x4
def fn69_l0 (x2:Nat) (z:Int × (List fn104)):Option ((Int × (List fn104)) ⊕ (List fn104)) :=
 fn69_b0 x2 z.1 z.2 (fun x3 x4=>some (.inl (x3,x4))) (fun y19=>some (.inr y19))
def fn69 (a1:Option (List fn104)):Option (Option (List fn104)) :=
 (chk (decide ((L a1).length * 40 ≤ room∧(L a1).length ≤ room))).bind fun _=>(iter (fn69_l0 ((L a1).length)) (1,L a1)).bind fun x20=>(chk (decide (0 < ((L a1).length)∧((L a1).length) ≤ x20.length))).bind fun _=>some (some (x20.take ((L a1).length)))
def fn96 (a1:Option (List fn104)):Option (Option (List fn104)):=bif (L a1).isEmpty then fn68 a1 else fn69 a1
def fn97_b0 {ρ:Type} (x3:Option (List fn104)) (x4:Option (List fn104)) (x5:Int) (kb_:Int->Option ρ) (k1_:Option ρ) (k2_:Option ρ):Option ρ :=
 if decide (x5 < ((L x3).length:Int)) then (ix (L x3) x5).bind fun x6=>(ix (L x4) x5).bind fun x7=>if !((decide (x6.Id=x7.Id)) && ((decide (x6.N=x7.N)) && ((decide (x6.A=x7.A)) && (decide (x6.B=x7.B))))) then k1_ else kb_ (w64 (x5 + 1)) else k2_
def fn97_l0 (x3:Option (List fn104)) (x4:Option (List fn104)) (z:Int):Option (Int ⊕ (Unit ⊕ Unit)) :=
 fn97_b0 x3 x4 z (fun x5=>some (.inl x5)) (some (.inr (.inl ()))) (some (.inr (.inr ())))
def fn97 (a1:Option (List fn104)) (a2:Option (List fn104)):Option Bool :=
 if !decide (((L a1).length:Int)=((L a2).length:Int)) then some false else (iter (fn97_l0 a1 a2) 0).bind fun|.inl _=>some false|.inr _=>some true
def fn36_c1 {ρ:Type} (x9:Int) (x10:UInt32) (x11:fn71) (k1_:Int->Option ρ) (k2_:Option ρ):Option ρ :=
 if decide (x10 < (128:UInt32)) then k1_ (w64 ((w64 (x11.At + x9)) + 1)) else k2_
def fn36_b0 {ρ:Type} (x5:fn71) (x2:UInt32) (x3:UInt32) (x4:Int) (kb_:UInt32->UInt32->Int->Option ρ) (k1_:UInt32->Int->Int->Option ρ) (k2_:Option ρ):Option ρ :=
 if decide (x4 < 4) then if decide ((w64 (x5.At + x4)) ≥ (x5.B.length:Int)) then k1_ (0:UInt32) x5.At 2 else (ix x5.B (w64 (x5.At + x4))).bind fun x6=>(chk (decide ((128:UInt32) ≠ 0))).bind fun _=>if decide ((u32 (x6.toNat:Int)) ≥ (128:UInt32)) then if decide (x4=3) then k1_ (0:UInt32) x5.At 3 else if decide ((u32 (x6.toNat:Int))=(0:UInt32)) then if decide (x4 > 0) then k1_ (0:UInt32) x5.At 3 else fn36_c1 x4 (u32 (x6.toNat:Int)) x5 (fun x13=>k1_ (x2 + (((u32 (x6.toNat:Int)) % (128:UInt32)) * x3)) x13 x5.Bad) (kb_ (x2 + (((u32 (x6.toNat:Int)) % (128:UInt32)) * x3)) (x3 * (128:UInt32)) (w64 (x4 + 1))) else fn36_c1 x4 (u32 (x6.toNat:Int)) x5 (fun x14=>k1_ (x2 + (((u32 (x6.toNat:Int)) % (128:UInt32)) * x3)) x14 x5.Bad) (kb_ (x2 + (((u32 (x6.toNat:Int)) % (128:UInt32)) * x3)) (x3 * (128:UInt32)) (w64 (x4 + 1))) else if decide ((u32 (x6.toNat:Int))=(0:UInt32)) then if decide (x4 > 0) then k1_ (0:UInt32) x5.At 3 else fn36_c1 x4 (u32 (x6.toNat:Int)) x5 (fun x15=>k1_ (x2 + (((u32 (x6.toNat:Int)) % (128:UInt32)) * x3)) x15 x5.Bad) (kb_ (x2 + (((u32 (x6.toNat:Int)) % (128:UInt32)) * x3)) (x3 * (128:UInt32)) (w64 (x4 + 1))) else fn36_c1 x4 (u32 (x6.toNat:Int)) x5 (fun x16=>k1_ (x2 + (((u32 (x6.toNat:Int)) % (128:UInt32)) * x3)) x16 x5.Bad) (kb_ (x2 + (((u32 (x6.toNat:Int)) % (128:UInt32)) * x3)) (x3 * (128:UInt32)) (w64 (x4 + 1))) else k2_
def fn36_l0 (x5:fn71) (z:UInt32 × UInt32 × Int):Option ((UInt32 × UInt32 × Int) ⊕ ((UInt32 × Int × Int) ⊕ Unit)) :=
 fn36_b0 x5 z.1 z.2.1 z.2.2 (fun x2 x3 x4=>some (.inl (x2,x3,x4))) (fun y17 y18 y19=>some (.inr (.inl (y17,y18,y19)))) (some (.inr (.inr ())))
def fn36 (o1:fn71):Option (UInt32 × fn71) :=
 if !decide (o1.Bad=0) then some ((0:UInt32),o1) else (iter (fn36_l0 o1) ((0:UInt32),(1:UInt32),0)).bind fun|.inl (x20,x21,x22)=>some (x20,(⟨o1.B,x21,x22⟩:fn71))|.inr _=>some ((0:UInt32),o1)
def fn32_c0 {ρ:Type} (x4:Bool) (k1_:Option ρ) (k2_:Option ρ):Option ρ :=
 if x4 then k1_ else k2_
def fn32_c1 {ρ:Type} (x6:Int) (x7:fn71) (k1_:(List UInt8)->Int->Option ρ):Option ρ :=
 (slc x7.B x7.At (w64 (x7.At + x6))).bind fun x8=>k1_ x8 (w64 (x7.At + x6))
def fn32 (a1:Int) (o2:fn71):Option ((List UInt8) × Bool × fn71) :=
 if !decide (o2.Bad=0) then some ([],false,o2) else if decide (a1 < 0) then fn32_c0 true (some ([],false,(⟨o2.B,o2.At,2⟩:fn71))) (fn32_c1 a1 o2 (fun x11 x12=>some (x11,true,(⟨o2.B,x12,o2.Bad⟩:fn71)))) else fn32_c0 (decide (a1 > (w64 ((o2.B.length:Int) - o2.At)))) (some ([],false,(⟨o2.B,o2.At,2⟩:fn71))) (fn32_c1 a1 o2 (fun x13 x14=>some (x13,true,(⟨o2.B,x14,o2.Bad⟩:fn71))))
def fn38_b0 {ρ:Type} (x6:List UInt8) (x7:UInt64) (x8:Int) (kb_:UInt64->Int->Option ρ) (k1_:UInt64->Option ρ):Option ρ :=
 if decide (x8 < (x6.length:Int)) then (ix x6 x8).bind fun x10=>kb_ (((256:UInt64) * x7) + (u64 (x10.toNat:Int))) (w64 (x8 + 1)) else k1_ x7
def fn38_l0 (x6:List UInt8) (z:UInt64 × Int):Option ((UInt64 × Int) ⊕ UInt64) :=
 fn38_b0 x6 z.1 z.2 (fun x7 x8=>some (.inl (x7,x8))) (fun y11=>some (.inr y11))
def fn38 (a1:Int) (o2:fn71):Option (UInt64 × fn71) :=
 (fn32 a1 o2).bind fun (x3,x4,x5)=>if !x4 then some ((0:UInt64),x5) else (iter (fn38_l0 x3) ((0:UInt64),0)).bind fun x12=>some (x12,x5)
def fn39 (o1:fn71):Option ((List UInt8) × fn71) :=
 (fn38 2 (⟨o1.B,o1.At,o1.Bad⟩:fn71)).bind fun (x2,x3)=>(fn32 (w64 (x2.toNat:Int)) (⟨x3.B,x3.At,x3.Bad⟩:fn71)).bind fun (x4,x5,x6)=>some (x4,x6)
def fn98_c0 {ρ:Type} (x13:Int) (x14:Bool) (x16:fn71) (x17:fn104) (k1_:fn71->(List UInt8)->(List UInt8)->Option ρ):Option ρ :=
 if x14 then (fn39 (⟨x16.B,x16.At,x16.Bad⟩:fn71)).bind fun (x18,x19)=>k1_ x19 x18 x17.B else if decide (x13=7) then (fn39 (⟨x16.B,x16.At,x16.Bad⟩:fn71)).bind fun (x20,x21)=>(fn39 (⟨x21.B,x21.At,x21.Bad⟩:fn71)).bind fun (x22,x23)=>k1_ x23 x20 x22 else k1_ x16 x17.A x17.B
def fn98_c1 {ρ:Type} (x34:fn71) (x35:fn104) (k1_:Int->fn104->Option ρ):Option ρ :=
 if !decide (x34.Bad=0) then k1_ 0 (⟨(0:UInt8),(0:UInt32),[],[]⟩:fn104) else (fn81 (⟨x35.Id,x35.N,x35.A,x35.B⟩:fn104)).bind fun x36=>if !x36 then k1_ 0 (⟨(0:UInt8),(0:UInt32),[],[]⟩:fn104) else k1_ x34.At x35
def fn98 (a1:List UInt8):Option (fn104 × Int) :=
 (fn38 1 (⟨a1,0,0⟩:fn71)).bind fun (x2,x3)=>(fn92 (u8 (x2.toNat:Int))).bind fun x4=>if decide (x4=0) then some ((⟨(0:UInt8),(0:UInt32),[],[]⟩:fn104),0) else if decide (x4=1) then (fn38 1 (⟨x3.B,x3.At,x3.Bad⟩:fn71)).bind fun (x5,x6)=>fn98_c1 x6 (⟨u8 (x2.toNat:Int),u32 (x5.toNat:Int),[],[]⟩:fn104) (fun x39 x40=>some (x40,x39)) else if decide (x4=2) then (fn38 2 (⟨x3.B,x3.At,x3.Bad⟩:fn71)).bind fun (x7,x8)=>fn98_c1 x8 (⟨u8 (x2.toNat:Int),u32 (x7.toNat:Int),[],[]⟩:fn104) (fun x41 x42=>some (x42,x41)) else if decide (x4=3) then (fn38 4 (⟨x3.B,x3.At,x3.Bad⟩:fn71)).bind fun (x9,x10)=>fn98_c1 x10 (⟨u8 (x2.toNat:Int),u32 (x9.toNat:Int),[],[]⟩:fn104) (fun x43 x44=>some (x44,x43)) else if decide (x4=4) then (fn36 (⟨x3.B,x3.At,x3.Bad⟩:fn71)).bind fun (x11,x12)=>fn98_c1 x12 (⟨u8 (x2.toNat:Int),x11,[],[]⟩:fn104) (fun x45 x46=>some (x46,x45)) else if decide (x4=5) then fn98_c0 x4 (decide (x4=5)) x3 (⟨u8 (x2.toNat:Int),(0:UInt32),[],[]⟩:fn104) (fun x27 x28 x29=>fn98_c1 x27 (⟨(u8 (x2.toNat:Int)),(0:UInt32),x28,x29⟩:fn104) (fun x47 x48=>some (x48,x47))) else fn98_c0 x4 (decide (x4=6)) x3 (⟨u8 (x2.toNat:Int),(0:UInt32),[],[]⟩:fn104) (fun x30 x31 x32=>fn98_c1 x30 (⟨(u8 (x2.toNat:Int)),(0:UInt32),x31,x32⟩:fn104) (fun x49 x50=>some (x50,x49)))
def fn112_b0 {ρ:Type} (x3:Option (List fn104)) (x4:UInt8) (x5:Int) (kb_:Int->Option ρ) (k1_:fn104->Option ρ) (k2_:Option ρ):Option ρ :=
 if decide (x5 < ((L x3).length:Int)) then (ix (L x3) x5).bind fun x7=>if decide (x7.Id=x4) then (ix (L x3) x5).bind fun x8=>k1_ x8 else kb_ (w64 (x5 + 1)) else k2_
def fn112_l0 (x3:Option (List fn104)) (x4:UInt8) (z:Int):Option (Int ⊕ (fn104 ⊕ Unit)) :=
 fn112_b0 x3 x4 z (fun x5=>some (.inl x5)) (fun y9=>some (.inr (.inl y9))) (some (.inr (.inr ())))
def fn112 (a1:Option (List fn104)) (a2:UInt8):Option (fn104 × Bool) :=
 (iter (fn112_l0 a1 a2) 0).bind fun|.inl x10=>some (x10,true)|.inr _=>some ((⟨(0:UInt8),(0:UInt32),[],[]⟩:fn104),false)
def fn83_c4 {ρ:Type} (x10:UInt8) (x11:Bool) (k1_:(Option (List Int))->Option ρ) (k2_:Option ρ):Option ρ :=
 if x11 then k1_ (some [1,2]) else if decide (x10=(35:UInt8)) then k1_ (some [3]) else if decide (x10=(38:UInt8)) then k1_ (some [1,2,3,4,5,6,7,8,9,10,11,14,15,16]) else k2_
def fn83_c3 {ρ:Type} (x8:UInt8) (x9:Bool) (k1_:(Option (List Int))->Option ρ) (k2_:Option ρ):Option ρ :=
 if x9 then k1_ (some [1]) else if decide (x8=(24:UInt8)) then k1_ (some [16]) else if decide (x8=(28:UInt8)) then k1_ (some [2,14]) else if decide (x8=(31:UInt8)) then k1_ (some [2,4,5,6,7,9,11,14,15]) else if decide (x8=(33:UInt8)) then fn83_c4 x8 (decide (x8=(33:UInt8))) (fun x13=>k1_ x13) k2_ else if decide (x8=(34:UInt8)) then fn83_c4 x8 (decide (x8=(34:UInt8))) (fun x14=>k1_ x14) k2_ else fn83_c4 x8 (decide (x8=(39:UInt8))) (fun x15=>k1_ x15) k2_
def fn83_c2 {ρ:Type} (x6:UInt8) (x7:Bool) (k1_:(Option (List Int))->Option ρ) (k2_:Option ρ):Option ρ :=
 if x7 then k1_ (some [1,2,15]) else if decide (x6=(23:UInt8)) then fn83_c3 x6 (decide (x6=(23:UInt8))) (fun x17=>k1_ x17) k2_ else fn83_c3 x6 (decide (x6=(25:UInt8))) (fun x18=>k1_ x18) k2_
def fn83_c1 {ρ:Type} (x4:UInt8) (x5:Bool) (k1_:(Option (List Int))->Option ρ) (k2_:Option ρ):Option ρ :=
 if x5 then k1_ (some [2]) else if decide (x4=(21:UInt8)) then fn83_c2 x4 (decide (x4=(21:UInt8))) (fun x20=>k1_ x20) k2_ else fn83_c2 x4 (decide (x4=(22:UInt8))) (fun x21=>k1_ x21) k2_
def fn83_c0 {ρ:Type} (x2:UInt8) (x3:Bool) (k1_:(Option (List Int))->Option ρ) (k2_:Option ρ):Option ρ :=
 if x3 then k1_ (some [3,16]) else if decide (x2=(11:UInt8)) then k1_ (some [3,8]) else if decide (x2=(17:UInt8)) then k1_ (some [1,2,14]) else if decide (x2=(18:UInt8)) then fn83_c1 x2 (decide (x2=(18:UInt8))) (fun x23=>k1_ x23) k2_ else if decide (x2=(19:UInt8)) then fn83_c1 x2 (decide (x2=(19:UInt8))) (fun x24=>k1_ x24) k2_ else if decide (x2=(26:UInt8)) then fn83_c1 x2 (decide (x2=(26:UInt8))) (fun x25=>k1_ x25) k2_ else if decide (x2=(36:UInt8)) then fn83_c1 x2 (decide (x2=(36:UInt8))) (fun x26=>k1_ x26) k2_ else if decide (x2=(37:UInt8)) then fn83_c1 x2 (decide (x2=(37:UInt8))) (fun x27=>k1_ x27) k2_ else if decide (x2=(40:UInt8)) then fn83_c1 x2 (decide (x2=(40:UInt8))) (fun x28=>k1_ x28) k2_ else if decide (x2=(41:UInt8)) then fn83_c1 x2 (decide (x2=(41:UInt8))) (fun x29=>k1_ x29) k2_ else fn83_c1 x2 (decide (x2=(42:UInt8))) (fun x30=>k1_ x30) k2_
def fn83 (a1:UInt8):Option (Option (List Int)) :=
 if decide (a1=(1:UInt8)) then fn83_c0 a1 (decide (a1=(1:UInt8))) (fun x32=>some x32) (some none) else if decide (a1=(2:UInt8)) then fn83_c0 a1 (decide (a1=(2:UInt8))) (fun x33=>some x33) (some none) else if decide (a1=(3:UInt8)) then fn83_c0 a1 (decide (a1=(3:UInt8))) (fun x34=>some x34) (some none) else if decide (a1=(8:UInt8)) then fn83_c0 a1 (decide (a1=(8:UInt8))) (fun x35=>some x35) (some none) else fn83_c0 a1 (decide (a1=(9:UInt8))) (fun x36=>some x36) (some none)
def fn114_b0 {ρ:Type} (x4:Int) (x5:Option (List Int)) (x6:Int) (kb_:Int->Option ρ) (k1_:Option ρ) (k2_:Option ρ):Option ρ :=
 if decide (x6 < ((L x5).length:Int)) then (ix (L x5) x6).bind fun x7=>if decide (x7=x4) then k1_ else kb_ (w64 (x6 + 1)) else k2_
def fn114_l0 (x4:Int) (x5:Option (List Int)) (z:Int):Option (Int ⊕ (Unit ⊕ Unit)) :=
 fn114_b0 x4 x5 z (fun x6=>some (.inl x6)) (some (.inr (.inl ()))) (some (.inr (.inr ())))
def fn114 (a1:UInt8) (a2:Int):Option Bool :=
 (fn83 a1).bind fun x3=>(iter (fn114_l0 a2 x3) 0).bind fun|.inl _=>some true|.inr _=>some false
def fn84 (a1:UInt8) (a2:Int):Option Bool :=
 (fn114 a1 a2).bind fun x3=>if x3 then if decide (a1=(38:UInt8)) then some true else if decide (a1=(11:UInt8)) then some (decide (a2=3)) else some false else some false
def fn115:Option (Option (List UInt8)) :=
 some (some [(1:UInt8),(2:UInt8),(3:UInt8),(8:UInt8),(9:UInt8),(11:UInt8),(17:UInt8),(18:UInt8),(19:UInt8),(21:UInt8),(22:UInt8),(23:UInt8),(24:UInt8),(25:UInt8),(26:UInt8),(28:UInt8),(31:UInt8),(33:UInt8),(34:UInt8),(35:UInt8),(36:UInt8),(37:UInt8),(38:UInt8),(39:UInt8),(40:UInt8),(41:UInt8),(42:UInt8)])
def fn116_b0 {ρ:Type} (x2:List UInt8) (x3:Option (List (List UInt8))) (x4:List UInt8) (x5:Int) (kb_:(List UInt8)->Int->Option ρ) (k1_:(List UInt8)->Option ρ):Option ρ :=
 if decide (x5 < (x2.length:Int)) then if decide (x5 < 8) then (ix x2 x5).bind fun x6=>(chk (decide (((L x3).length:Int) ≠ 0))).bind fun _=>(ix (L x3) ((w64 (x6.toNat:Int)).tmod ((L x3).length:Int))).bind fun x7=>(catS x4 x7).bind fun x8=>kb_ x8 (w64 (x5 + 1)) else k1_ x4 else k1_ x4
def fn116_l0 (x2:List UInt8) (x3:Option (List (List UInt8))) (z:(List UInt8) × Int):Option (((List UInt8) × Int) ⊕ (List UInt8)) :=
 fn116_b0 x2 x3 z.1 z.2 (fun x4 x5=>some (.inl (x4,x5))) (fun y9=>some (.inr y9))
def fn116 (a1:List UInt8):Option (List UInt8) :=
 (iter (fn116_l0 a1 (some [[97],[98],[97,98],[195,164],[226,130,172],[240,159,153,130],[49],[99]])) ([],0)).bind fun x10=>some x10
def fn117_b0 {ρ:Type} (x2:List UInt8) (x3:Option (List (List UInt8))) (x4:List UInt8) (x5:Int) (kb_:(List UInt8)->Int->Option ρ) (k1_:(List UInt8)->Option ρ):Option ρ :=
 if decide (x5 < (x2.length:Int)) then if decide (x5 < 8) then (ix x2 x5).bind fun x6=>(chk (decide (((L x3).length:Int) ≠ 0))).bind fun _=>(ix (L x3) ((w64 (x6.toNat:Int)).tmod ((L x3).length:Int))).bind fun x7=>(catS x4 x7).bind fun x8=>kb_ x8 (w64 (x5 + 1)) else k1_ x4 else k1_ x4
def fn117_l0 (x2:List UInt8) (x3:Option (List (List UInt8))) (z:(List UInt8) × Int):Option (((List UInt8) × Int) ⊕ (List UInt8)) :=
 fn117_b0 x2 x3 z.1 z.2 (fun x4 x5=>some (.inl (x4,x5))) (fun y9=>some (.inr y9))
def fn117 (a1:List UInt8):Option (List UInt8) :=
 (iter (fn117_l0 a1 (some [[97],[98],[47],[99],[100],[47],[195,164],[101]])) ([],0)).bind fun x10=>if decide (x10=[]) then some [97] else some x10
def fn118_b0 {ρ:Type} (x4:Int) (x6:Option (List UInt8)) (x5:Option (List UInt8)) (x7:Int) (kb_:(Option (List UInt8))->Int->Option ρ) (k1_:(Option (List UInt8))->Option ρ):Option ρ :=
 if decide (x7 < ((L x6).length:Int)) then (ix (L x6) x7).bind fun x10=>(fn114 x10 x4).bind fun x11=>if x11 then (ix (L x6) x7).bind fun x12=>(appO 1 x5 (some [x12])).bind fun x13=>kb_ x13 (w64 (x7 + 1)) else kb_ x5 (w64 (x7 + 1)) else k1_ x5
def fn118_l0 (x4:Int) (x6:Option (List UInt8)) (z:(Option (List UInt8)) × Int):Option (((Option (List UInt8)) × Int) ⊕ (Option (List UInt8))) :=
 fn118_b0 x4 x6 z.1 z.2 (fun x5 x7=>some (.inl (x5,x7))) (fun y14=>some (.inr y14))
def fn118 (a1:fn104) (a2:Int):Option fn104 :=
 (fn115).bind fun x3=>(iter (fn118_l0 a2 x3) (none,0)).bind fun x15=>if decide (((L x15).length:Int)=0) then some (⟨(0:UInt8),(0:UInt32),[],[]⟩:fn104) else (chk (decide (((L x15).length:Int) ≠ 0))).bind fun _=>(ix (L x15) ((w64 (a1.Id.toNat:Int)).tmod ((L x15).length:Int))).bind fun x16=>(fn92 x16).bind fun x17=>if decide (x17=1) then (chk (decide ((2:UInt32) ≠ 0))).bind fun _=>some (⟨x16,a1.N % (2:UInt32),[],[]⟩:fn104) else if decide (x17=2) then (chk (decide ((65535:UInt32) ≠ 0))).bind fun _=>some (⟨x16,(1:UInt32) + (a1.N % (65535:UInt32)),[],[]⟩:fn104) else if decide (x17=3) then if decide (x16=(39:UInt8)) then if decide (a1.N=(0:UInt32)) then some (⟨x16,(7:UInt32),[],[]⟩:fn104) else some (⟨x16,a1.N,[],[]⟩:fn104) else some (⟨x16,a1.N,[],[]⟩:fn104) else if decide (x17=4) then (chk (decide ((268435455:UInt32) ≠ 0))).bind fun _=>some (⟨x16,(1:UInt32) + (a1.N % (268435455:UInt32)),[],[]⟩:fn104) else if decide (x17=5) then (fn116 a1.A).bind fun x18=>if decide (x16=(8:UInt8)) then (fn117 a1.A).bind fun x19=>some (⟨x16,(0:UInt32),x19,[]⟩:fn104) else some (⟨x16,(0:UInt32),x18,[]⟩:fn104) else if decide (x17=6) then (slc a1.A 0 (imin (a1.A.length:Int) 9)).bind fun x20=>some (⟨x16,(0:UInt32),x20,[]⟩:fn104) else if decide (x17=7) then (fn116 a1.A).bind fun x21=>(fn116 a1.B).bind fun x22=>some (⟨x16,(0:UInt32),x21,x22⟩:fn104) else some (⟨x16,(0:UInt32),[],[]⟩:fn104)
def fn119_b0 {ρ:Type} (x3:Option (List fn104)) (x4:Int) (x5:Option (List fn104)) (x6:Int) (kb_:(Option (List fn104))->Int->Option ρ) (k1_:fn104->Option ρ) (k2_:(Option (List fn104))->Option ρ):Option ρ :=
 if decide (x6 < ((L x3).length:Int)) then if decide (x6 < 8) then (ix (L x3) x6).bind fun x7=>(fn118 (⟨x7.Id,x7.N,x7.A,x7.B⟩:fn104) x4).bind fun x8=>if decide (x8.Id=(0:UInt8)) then k1_ x8 else (fn112 x5 x8.Id).bind fun (x9,x10)=>if x10 then (fn84 x8.Id x4).bind fun x11=>if !x11 then kb_ x5 (w64 (x6 + 1)) else (appO 40 x5 (some [x8])).bind fun x12=>kb_ x12 (w64 (x6 + 1)) else (appO 40 x5 (some [x8])).bind fun x13=>kb_ x13 (w64 (x6 + 1)) else k2_ x5 else k2_ x5
def fn119_l0 (x3:Option (List fn104)) (x4:Int) (z:(Option (List fn104)) × Int):Option (((Option (List fn104)) × Int) ⊕ (fn104 ⊕ ((Option (List fn104))))) :=
 fn119_b0 x3 x4 z.1 z.2 (fun x5 x6=>some (.inl (x5,x6))) (fun y18=>some (.inr (.inl y18))) (fun y19=>some (.inr (.inr y19)))
def fn119_c2 {ρ:Type} (x28:Option (List fn104)) (k1_:(Option (List fn104))->Option ρ):Option ρ :=
 (fn96 x28).bind fun x29=>k1_ x29
def fn119 (a1:Option (List fn104)) (a2:Int):Option (Option (List fn104)) :=
 (iter (fn119_l0 a1 a2) (none,0)).bind fun|.inl x20=>some none|.inr x21=>(fn112 x21 (22:UInt8)).bind fun (x22,x23)=>if x23 then (fn112 x21 (21:UInt8)).bind fun (x24,x25)=>if !x25 then (fn116 [109]).bind fun x26=>(appO 40 x21 (some [(⟨(21:UInt8),(0:UInt32),x26,[]⟩:fn104)])).bind fun x27=>fn119_c2 x27 (fun x31=>some x31) else fn119_c2 x21 (fun x32=>some x32) else fn119_c2 x21 (fun x33=>some x33)
def fn47_b0 {ρ:Type} (x12:Option (List Int)) (x14:Nat) (x15:Int) (x16:List fn104) (kb_:Int->(List fn104)->Option ρ) (k1_:(List fn104)->Option ρ):Option ρ :=
 if decide (x15 < ((L x12).length:Int)) then if decide (x15 < 10) then if decide (((x14:Nat):Int) > 0) then (chk (decide (((x14:Nat):Int) ≠ 0))).bind fun _=>(ix (L x12) x15).bind fun x17=>(chk (decide ((u64 ((x14:Nat):Int)) ≠ 0))).bind fun _=>(chk (decide (0 ≤ (x15.tmod ((x14:Nat):Int))∧(x15.tmod ((x14:Nat):Int)) < ((x14:Nat):Int)))).bind fun _=>(ix x16 (x15.tmod ((x14:Nat):Int))).bind fun x18=>(chk (decide (0 ≤ (w64 (((u64 x17) % (u64 ((x14:Nat):Int))).toNat:Int))∧(w64 (((u64 x17) % (u64 ((x14:Nat):Int))).toNat:Int)) < ((x14:Nat):Int)))).bind fun _=>(ix x16 (w64 (((u64 x17) % (u64 ((x14:Nat):Int))).toNat:Int))).bind fun x19=>if !decide (x18.Id=x19.Id) then (chk (decide (0 ≤ (w64 (((u64 x17) % (u64 ((x14:Nat):Int))).toNat:Int))∧(w64 (((u64 x17) % (u64 ((x14:Nat):Int))).toNat:Int)) < ((x14:Nat):Int)))).bind fun _=>(ix x16 (w64 (((u64 x17) % (u64 ((x14:Nat):Int))).toNat:Int))).bind fun x20=>(chk (decide (0 ≤ (x15.tmod ((x14:Nat):Int))∧(x15.tmod ((x14:Nat):Int)) < ((x14:Nat):Int)))).bind fun _=>(ix x16 (x15.tmod ((x14:Nat):Int))).bind fun x21=>(chk (decide (0 ≤ (x15.tmod ((x14:Nat):Int))∧(x15.tmod ((x14:Nat):Int)) < ((x14:Nat):Int)))).bind fun _=>((ix x16 (x15.tmod ((x14:Nat):Int))).bind fun x22=>some x20).bind fun x23=>(chk (decide (0 ≤ (w64 (((u64 x17) % (u64 ((x14:Nat):Int))).toNat:Int))∧(w64 (((u64 x17) % (u64 ((x14:Nat):Int))).toNat:Int)) < ((x14:Nat):Int)))).bind fun _=>((ix (setR x16 (x15.tmod ((x14:Nat):Int)).toNat x23) (w64 (((u64 x17) % (u64 ((x14:Nat):Int))).toNat:Int))).bind fun x24=>some x21).bind fun x25=>kb_ (w64 (x15 + 1)) (setR (setR x16 (x15.tmod ((x14:Nat):Int)).toNat x23) (w64 (((u64 x17) % (u64 ((x14:Nat):Int))).toNat:Int)).toNat x25) else kb_ (w64 (x15 + 1)) x16 else k1_ x16 else k1_ x16 else k1_ x16
def fn47_l0 (x12:Option (List Int)) (x14:Nat) (z:Int × (List fn104)):Option ((Int × (List fn104)) ⊕ (List fn104)) :=
 fn47_b0 x12 x14 z.1 z.2 (fun x15 x16=>some (.inl (x15,x16))) (fun y26=>some (.inr y26))
def fn47 (a1:Int) (a2:fn42) (a3:Option (List Int)):Option Bool :=
 (chk (decide ((16:UInt64) ≠ 0))).bind fun _=>(fn119 a2.x0 (w64 (1 + (w64 (((u64 a1) % (16:UInt64)).toNat:Int))))).bind fun x4=>(fn119 a2.x1 (w64 (1 + (w64 (((u64 a1) % (16:UInt64)).toNat:Int))))).bind fun x5=>(fn91).bind fun x6=>if !x6 then some false else (l06_To x4).bind fun x7=>(fn76 none x7).bind fun x8=>(l06_To x5).bind fun x9=>(fn76 none x9).bind fun x10=>(fn97 x4 x5).bind fun x11=>if !((decide (L x8=L x10)) == x11) then some false else (chk (decide ((L x4).length * 40 ≤ room∧(L x4).length ≤ room))).bind fun _=>(iter (fn47_l0 a3 ((L x4).length)) (0,L x4)).bind fun x27=>(chk (decide (((L x4).length) ≤ x27.length))).bind fun _=>(l06_To (some (x27.take ((L x4).length)))).bind fun x28=>(fn76 none x28).bind fun x29=>(fn77 x29).bind fun x30=>(fn62 (⟨x30.b,x30.err⟩:fn55)).bind fun (x31,x32,x33)=>if x32 then (fn95 x31).bind fun x34=>(fn96 (some (x27.take ((L x4).length)))).bind fun x35=>(fn97 x34 x35).bind fun x36=>if x36 then some (decide (((L x31).length:Int)=((L x4).length:Int))) else some false else some false
end Go.Rv
