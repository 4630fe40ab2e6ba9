/- The program's functions as plain functions. -/
import Derived.Test.YtlmnicmjhcblcaaGreatDoorTys
set_option linter.unusedSimpArgs false
set_option linter.unusedVariables false
set_option maxRecDepth 100000
namespace Go.Rv
def fn18_c1 {ρ:Type} (x5:fn60) (x7:fn60) (k1_:(List UInt8)->(List UInt8)->Option ρ):Option ρ :=
 if x5.HasPass then k1_ x5.Pass x5.Pass else k1_ x7.Pass x7.Pass
def fn18_c0 {ρ:Type} (x2:fn60) (x4:fn60) (k1_:fn60->fn60->Option ρ):Option ρ :=
 if x2.HasUser then fn18_c1 x2 ({x4 with User:=x2.User}:fn60) (fun x10 x11=>k1_ ({x4 with User:=x2.User,Pass:=x10}:fn60) ({x4 with User:=x2.User,Pass:=x11}:fn60)) else fn18_c1 x2 x4 (fun x12 x13=>k1_ ({x4 with Pass:=x12}:fn60) ({x4 with Pass:=x13}:fn60))
def fn18 (a1:fn60):Option fn60 :=
 if a1.HasWill then fn18_c0 a1 (⟨a1.Kind,false,false,(0:UInt8),(0:UInt16),a1.Clean,a1.Keep,a1.Client,a1.HasWill,a1.HasUser,a1.HasPass,a1.WillQoS,a1.WillRetain,a1.WillProps,a1.WillTopic,a1.WillLoad,[],[],false,(0:UInt8),[],[],none,none,a1.Props⟩:fn60) (fun x16 x17=>some x16) else fn18_c0 a1 (⟨a1.Kind,false,false,(0:UInt8),(0:UInt16),a1.Clean,a1.Keep,a1.Client,a1.HasWill,a1.HasUser,a1.HasPass,(0:UInt8),false,none,[],[],[],[],false,(0:UInt8),[],[],none,none,a1.Props⟩:fn60) (fun x18 x19=>some x18)
def fn73_c3 {ρ:Type} (x18:Bool) (k1_:Option ρ) (k2_:Option ρ):Option ρ :=
 if x18 then k1_ else k2_
def fn73_c2 {ρ:Type} (x13:Int) (x14:Bool) (k1_:Option ρ) (k2_:Option ρ) (k3_:Option ρ):Option ρ :=
 if x14 then k1_ else if decide (x13=14) then fn73_c3 (decide (x13=14)) k2_ k3_ else fn73_c3 (decide (x13=15)) k2_ k3_
def fn73_c1 {ρ:Type} (x8:Int) (x9:Bool) (k1_:Option ρ) (k2_:Option ρ) (k3_:Option ρ) (k4_:Option ρ):Option ρ :=
 if x9 then k1_ else if decide (x8=9) then fn73_c2 x8 (decide (x8=9)) k2_ k3_ k4_ else fn73_c2 x8 (decide (x8=11)) k2_ k3_ k4_
def fn73_c0 {ρ:Type} (x3:Int) (x4:Bool) (k1_:Option ρ) (k2_:Option ρ) (k3_:Option ρ) (k4_:Option ρ) (k5_:Option ρ):Option ρ :=
 if x4 then k1_ else if decide (x3=8) then fn73_c1 x3 (decide (x3=8)) k2_ k3_ k4_ k5_ else fn73_c1 x3 (decide (x3=10)) k2_ k3_ k4_ k5_
def fn73 (a1:fn60):Option fn60 :=
 if decide (a1.Kind=1) then (fn18 a1).bind fun x2=>some x2 else if decide (a1.Kind=2) then some (⟨a1.Kind,false,false,(0:UInt8),(0:UInt16),false,(0:UInt16),[],false,false,false,(0:UInt8),false,none,[],[],[],[],a1.Present,a1.Code,[],[],none,none,a1.Props⟩:fn60) else if decide (a1.Kind=3) then some (⟨a1.Kind,a1.Dup,a1.Retain,a1.QoS,a1.Id,false,(0:UInt16),[],false,false,false,(0:UInt8),false,none,[],[],[],[],false,(0:UInt8),a1.Topic,a1.Load,none,none,a1.Props⟩:fn60) else if decide (a1.Kind=4) then fn73_c0 a1.Kind (decide (a1.Kind=4)) (some (⟨a1.Kind,false,false,(0:UInt8),a1.Id,false,(0:UInt16),[],false,false,false,(0:UInt8),false,none,[],[],[],[],false,a1.Code,[],[],none,none,a1.Props⟩:fn60)) (some (⟨a1.Kind,false,false,(0:UInt8),a1.Id,false,(0:UInt16),[],false,false,false,(0:UInt8),false,none,[],[],[],[],false,(0:UInt8),[],[],a1.Filters,none,a1.Props⟩:fn60)) (some (⟨a1.Kind,false,false,(0:UInt8),a1.Id,false,(0:UInt16),[],false,false,false,(0:UInt8),false,none,[],[],[],[],false,(0:UInt8),[],[],none,a1.Codes,a1.Props⟩:fn60)) (some (⟨a1.Kind,false,false,(0:UInt8),(0:UInt16),false,(0:UInt16),[],false,false,false,(0:UInt8),false,none,[],[],[],[],false,a1.Code,[],[],none,none,a1.Props⟩:fn60)) (some (⟨a1.Kind,false,false,(0:UInt8),(0:UInt16),false,(0:UInt16),[],false,false,false,(0:UInt8),false,none,[],[],[],[],false,(0:UInt8),[],[],none,none,none⟩:fn60)) else if decide (a1.Kind=5) then fn73_c0 a1.Kind (decide (a1.Kind=5)) (some (⟨a1.Kind,false,false,(0:UInt8),a1.Id,false,(0:UInt16),[],false,false,false,(0:UInt8),false,none,[],[],[],[],false,a1.Code,[],[],none,none,a1.Props⟩:fn60)) (some (⟨a1.Kind,false,false,(0:UInt8),a1.Id,false,(0:UInt16),[],false,false,false,(0:UInt8),false,none,[],[],[],[],false,(0:UInt8),[],[],a1.Filters,none,a1.Props⟩:fn60)) (some (⟨a1.Kind,false,false,(0:UInt8),a1.Id,false,(0:UInt16),[],false,false,false,(0:UInt8),false,none,[],[],[],[],false,(0:UInt8),[],[],none,a1.Codes,a1.Props⟩:fn60)) (some (⟨a1.Kind,false,false,(0:UInt8),(0:UInt16),false,(0:UInt16),[],false,false,false,(0:UInt8),false,none,[],[],[],[],false,a1.Code,[],[],none,none,a1.Props⟩:fn60)) (some (⟨a1.Kind,false,false,(0:UInt8),(0:UInt16),false,(0:UInt16),[],false,false,false,(0:UInt8),false,none,[],[],[],[],false,(0:UInt8),[],[],none,none,none⟩:fn60)) else if decide (a1.Kind=6) then fn73_c0 a1.Kind (decide (a1.Kind=6)) (some (⟨a1.Kind,false,false,(0:UInt8),a1.Id,false,(0:UInt16),[],false,false,false,(0:UInt8),false,none,[],[],[],[],false,a1.Code,[],[],none,none,a1.Props⟩:fn60)) (some (⟨a1.Kind,false,false,(0:UInt8),a1.Id,false,(0:UInt16),[],false,false,false,(0:UInt8),false,none,[],[],[],[],false,(0:UInt8),[],[],a1.Filters,none,a1.Props⟩:fn60)) (some (⟨a1.Kind,false,false,(0:UInt8),a1.Id,false,(0:UInt16),[],false,false,false,(0:UInt8),false,none,[],[],[],[],false,(0:UInt8),[],[],none,a1.Codes,a1.Props⟩:fn60)) (some (⟨a1.Kind,false,false,(0:UInt8),(0:UInt16),false,(0:UInt16),[],false,false,false,(0:UInt8),false,none,[],[],[],[],false,a1.Code,[],[],none,none,a1.Props⟩:fn60)) (some (⟨a1.Kind,false,false,(0:UInt8),(0:UInt16),false,(0:UInt16),[],false,false,false,(0:UInt8),false,none,[],[],[],[],false,(0:UInt8),[],[],none,none,none⟩:fn60)) else fn73_c0 a1.Kind (decide (a1.Kind=7)) (some (⟨a1.Kind,false,false,(0:UInt8),a1.Id,false,(0:UInt16),[],false,false,false,(0:UInt8),false,none,[],[],[],[],false,a1.Code,[],[],none,none,a1.Props⟩:fn60)) (some (⟨a1.Kind,false,false,(0:UInt8),a1.Id,false,(0:UInt16),[],false,false,false,(0:UInt8),false,none,[],[],[],[],false,(0:UInt8),[],[],a1.Filters,none,a1.Props⟩:fn60)) (some (⟨a1.Kind,false,false,(0:UInt8),a1.Id,false,(0:UInt16),[],false,false,false,(0:UInt8),false,none,[],[],[],[],false,(0:UInt8),[],[],none,a1.Codes,a1.Props⟩:fn60)) (some (⟨a1.Kind,false,false,(0:UInt8),(0:UInt16),false,(0:UInt16),[],false,false,false,(0:UInt8),false,none,[],[],[],[],false,a1.Code,[],[],none,none,a1.Props⟩:fn60)) (some (⟨a1.Kind,false,false,(0:UInt8),(0:UInt16),false,(0:UInt16),[],false,false,false,(0:UInt8),false,none,[],[],[],[],false,(0:UInt8),[],[],none,none,none⟩:fn60))
def fn35 (a1:fn60):Option fn72 :=
 some (⟨a1.Kind,a1.Dup,a1.Retain,a1.Clean,a1.WillRetain,a1.HasWill,a1.HasUser,a1.HasPass,a1.Present,a1.QoS,a1.WillQoS,a1.Code,a1.Id,a1.Keep,(⟨a1.Client,a1.WillTopic,a1.WillLoad,a1.User,a1.Pass,a1.Topic,a1.Load⟩:arr7_s)⟩:fn72)
def fn2_b0 {ρ:Type} (x3:Option (List fn59)) (x4:Option (List fn59)) (x5:Int) (x6:Int) (kb_:Int->Option ρ) (k1_:Option ρ) (k2_:Option ρ):Option ρ :=
 if decide (x6 < x5) then (ix (L x3) x6).bind fun x7=>(ix (L x4) x6).bind fun x8=>if !((decide (x7.Text=x8.Text)) && (decide (x7.Opt=x8.Opt))) then k1_ else kb_ (w64 (x6 + 1)) else k2_
def fn2_l0 (x3:Option (List fn59)) (x4:Option (List fn59)) (x5:Int) (z:Int):Option (Int ⊕ (Unit ⊕ Unit)) :=
 fn2_b0 x3 x4 x5 z (fun x6=>some (.inl x6)) (some (.inr (.inl ()))) (some (.inr (.inr ())))
def fn2 (a1:Option (List fn59)) (a2:Option (List fn59)):Option Bool :=
 if !decide (((L a1).length:Int)=((L a2).length:Int)) then some false else (iter (fn2_l0 a1 a2 ((L a1).length:Int)) 0).bind fun|.inl _=>some false|.inr _=>some true
def fn10_b0 {ρ:Type} (x3:Option (List UInt8)) (x4:Option (List UInt8)) (x5:Int) (x6:Int) (kb_:Int->Option ρ) (k1_:Option ρ) (k2_:Option ρ):Option ρ :=
 if decide (x6 < x5) then (ix (L x3) x6).bind fun x7=>(ix (L x4) x6).bind fun x8=>if !decide (x7=x8) then k1_ else kb_ (w64 (x6 + 1)) else k2_
def fn10_l0 (x3:Option (List UInt8)) (x4:Option (List UInt8)) (x5:Int) (z:Int):Option (Int ⊕ (Unit ⊕ Unit)) :=
 fn10_b0 x3 x4 x5 z (fun x6=>some (.inl x6)) (some (.inr (.inl ()))) (some (.inr (.inr ())))
def fn10 (a1:Option (List UInt8)) (a2:Option (List UInt8)):Option Bool :=
 if !decide (((L a1).length:Int)=((L a2).length:Int)) then some false else (iter (fn10_l0 a1 a2 ((L a1).length:Int)) 0).bind fun|.inl _=>some false|.inr _=>some true
def fn4_b0 {ρ:Type} (x3:Option (List fn140)) (x4:Option (List fn140)) (x5:Int) (x6:Int) (kb_:Int->Option ρ) (k1_:Option ρ) (k2_:Option ρ):Option ρ :=
 if decide (x6 < x5) then (ix (L x3) x6).bind fun x7=>(ix (L x4) x6).bind fun x8=>if !((decide (x7.Id=x8.Id)) && ((decide (x7.N=x8.N)) && ((decide (x7.A=x8.A)) && (decide (x7.B=x8.B))))) then k1_ else kb_ (w64 (x6 + 1)) else k2_
def fn4_l0 (x3:Option (List fn140)) (x4:Option (List fn140)) (x5:Int) (z:Int):Option (Int ⊕ (Unit ⊕ Unit)) :=
 fn4_b0 x3 x4 x5 z (fun x6=>some (.inl x6)) (some (.inr (.inl ()))) (some (.inr (.inr ())))
def fn4 (a1:Option (List fn140)) (a2:Option (List fn140)):Option Bool :=
 if !decide (((L a1).length:Int)=((L a2).length:Int)) then some false else (iter (fn4_l0 a1 a2 ((L a1).length:Int)) 0).bind fun|.inl _=>some false|.inr _=>some true
def fn90 (a1:Option (List fn140)) (a2:Option (List fn140)):Option Bool :=
 (fn4 a1 a2).bind fun x3=>some x3
def fn74 (a1:fn60) (a2:fn60):Option Bool :=
 (fn35 a1).bind fun x3=>(fn35 (⟨a2.Kind,a2.Dup,a2.Retain,a2.QoS,a2.Id,a2.Clean,a2.Keep,a2.Client,a2.HasWill,a2.HasUser,a2.HasPass,a2.WillQoS,a2.WillRetain,a2.WillProps,a2.WillTopic,a2.WillLoad,a2.User,a2.Pass,a2.Present,a2.Code,a2.Topic,a2.Load,a2.Filters,a2.Codes,a2.Props⟩:fn60)).bind fun x4=>if (decide (x3.kind=x4.kind)) && ((x3.dup == x4.dup) && ((x3.retain == x4.retain) && ((x3.clean == x4.clean) && ((x3.willRetain == x4.willRetain) && ((x3.will == x4.will) && ((x3.user == x4.user) && ((x3.pass == x4.pass) && ((x3.present == x4.present) && ((decide (x3.qos=x4.qos)) && ((decide (x3.willQoS=x4.willQoS)) && ((decide (x3.code=x4.code)) && ((decide (x3.id=x4.id)) && ((decide (x3.keep=x4.keep)) && ((decide (x3.texts.x0=x4.texts.x0)) && ((decide (x3.texts.x1=x4.texts.x1)) && ((decide (x3.texts.x2=x4.texts.x2)) && ((decide (x3.texts.x3=x4.texts.x3)) && ((decide (x3.texts.x4=x4.texts.x4)) && ((decide (x3.texts.x5=x4.texts.x5)) && (decide (x3.texts.x6=x4.texts.x6))))))))))))))))))))) then (fn2 a1.Filters a2.Filters).bind fun x5=>if x5 then (fn10 a1.Codes a2.Codes).bind fun x6=>if x6 then (fn90 a1.Props a2.Props).bind fun x7=>if x7 then (fn90 a1.WillProps a2.WillProps).bind fun x8=>some x8 else some false else some false else some false else some false
def fn91 (a1:List UInt8):Option Bool :=
 if decide ((a1.length:Int) ≤ 65535) then (fn23 a1).bind fun x2=>if x2 then (fn24 a1 [0]).bind fun x3=>some (!x3) else some false else some false
def fn62_b0 {ρ:Type} (x2:Option (List (List UInt8))) (x3:Int) (x4:Int) (kb_:Int->Option ρ) (k1_:Option ρ) (k2_:Option ρ):Option ρ :=
 if decide (x4 < x3) then (ix (L x2) x4).bind fun x6=>(fn91 x6).bind fun x7=>if !x7 then k1_ else kb_ (w64 (x4 + 1)) else k2_
def fn62_l0 (x2:Option (List (List UInt8))) (x3:Int) (z:Int):Option (Int ⊕ (Unit ⊕ Unit)) :=
 fn62_b0 x2 x3 z (fun x4=>some (.inl x4)) (some (.inr (.inl ()))) (some (.inr (.inr ())))
def fn62 (a1:fn60):Option Bool :=
 (iter (fn62_l0 (some [a1.Client,a1.WillTopic,a1.User,a1.Topic]) ((L (some [a1.Client,a1.WillTopic,a1.User,a1.Topic])).length:Int)) 0).bind fun|.inl _=>some false|.inr _=>if decide ((a1.WillLoad.length:Int) ≤ 65535) then some (decide ((a1.Pass.length:Int) ≤ 65535)) else some false
def fn49_c1 {ρ:Type} (x9:Option (List Int)) (x10:Option (List Int)) (x11:UInt8) (x12:Bool) (k1_:(Option (List Int))->Option ρ) (k2_:fn164->Option ρ) (k3_:Option ρ):Option ρ :=
 if x12 then (slO x9 1 ((L x9).length:Int)).bind fun x14=>k1_ x14 else if decide (x11=(38:UInt8)) then k2_ (⟨7,x10⟩:fn164) else if decide (x11=(39:UInt8)) then k2_ (⟨3,x9⟩:fn164) else k3_
def fn49_c0 {ρ:Type} (x4:Option (List Int)) (x5:Option (List Int)) (x6:UInt8) (x7:Bool) (k1_:fn164->Option ρ) (k2_:(Option (List Int))->Option ρ) (k3_:Option ρ):Option ρ :=
 if x7 then k1_ (⟨2,x4⟩:fn164) else if decide (x6=(35:UInt8)) then k1_ (⟨2,(some [3])⟩:fn164) else if decide (x6=(36:UInt8)) then fn49_c1 x4 x5 x6 (decide (x6=(36:UInt8))) (fun x17=>k2_ x17) (fun x18=>k1_ x18) k3_ else if decide (x6=(37:UInt8)) then fn49_c1 x4 x5 x6 (decide (x6=(37:UInt8))) (fun x19=>k2_ x19) (fun x20=>k1_ x20) k3_ else if decide (x6=(40:UInt8)) then fn49_c1 x4 x5 x6 (decide (x6=(40:UInt8))) (fun x21=>k2_ x21) (fun x22=>k1_ x22) k3_ else if decide (x6=(41:UInt8)) then fn49_c1 x4 x5 x6 (decide (x6=(41:UInt8))) (fun x23=>k2_ x23) (fun x24=>k1_ x24) k3_ else fn49_c1 x4 x5 x6 (decide (x6=(42:UInt8))) (fun x25=>k2_ x25) (fun x26=>k1_ x26) k3_
def fn49 (a1:UInt8) (a2:Option (List Int)) (a3:Option (List Int)):Option fn164 :=
 if decide (a1=(28:UInt8)) then some (⟨5,(some [2,14])⟩:fn164) else if decide (a1=(31:UInt8)) then some (⟨5,(some [2,4,5,6,7,9,11,14,15])⟩:fn164) else if decide (a1=(33:UInt8)) then fn49_c0 a2 a3 a1 (decide (a1=(33:UInt8))) (fun x29=>some x29) (fun x30=>some (⟨1,x30⟩:fn164)) (some (⟨0,none⟩:fn164)) else fn49_c0 a2 a3 a1 (decide (a1=(34:UInt8))) (fun x31=>some x31) (fun x32=>some (⟨1,x32⟩:fn164)) (some (⟨0,none⟩:fn164))
def fn92_b0 {ρ:Type} (x5:Option (List Int)) (x6:Int) (kb_:(Option (List Int))->Int->Option ρ) (k1_:(Option (List Int))->Option ρ):Option ρ :=
 if decide (x6 ≤ 16) then if !decide (x6=12) then if !decide (x6=13) then (appO 8 x5 (some [x6])).bind fun x8=>kb_ x8 (w64 (x6 + 1)) else kb_ x5 (w64 (x6 + 1)) else kb_ x5 (w64 (x6 + 1)) else k1_ x5
def fn92_l0 (z:(Option (List Int)) × Int):Option (((Option (List Int)) × Int) ⊕ (Option (List Int))) :=
 fn92_b0 z.1 z.2 (fun x5 x6=>some (.inl (x5,x6))) (fun y9=>some (.inr y9))
def fn92_c3 {ρ:Type} (x31:Option (List Int)) (x32:Option (List Int)) (x34:UInt8) (x35:Bool) (k1_:(Option (List Int))->Option ρ) (k2_:(Option (List Int))->Option ρ) (k3_:Option ρ):Option ρ :=
 if x35 then (slO x32 0 1).bind fun x37=>k1_ x37 else if decide (x34=(24:UInt8)) then (slO x31 1 ((L x31).length:Int)).bind fun x38=>k2_ x38 else k3_
def fn92_c2 {ρ:Type} (x20:Option (List Int)) (x21:Option (List Int)) (x23:UInt8) (x24:Bool) (k1_:(Option (List Int))->Option ρ) (k2_:(Option (List Int))->Option ρ) (k3_:fn164->Option ρ) (k4_:(Option (List Int))->Option ρ) (k5_:(Option (List Int))->Option ρ) (k6_:Option ρ):Option ρ :=
 if x24 then (slO x21 1 ((L x21).length:Int)).bind fun x26=>k1_ x26 else if decide (x23=(19:UInt8)) then (slO x21 1 ((L x21).length:Int)).bind fun x27=>k2_ x27 else if decide (x23=(21:UInt8)) then (appO 8 x21 (some [15])).bind fun x28=>k3_ (⟨5,x28⟩:fn164) else if decide (x23=(22:UInt8)) then (appO 8 x21 (some [15])).bind fun x29=>k3_ (⟨6,x29⟩:fn164) else if decide (x23=(23:UInt8)) then fn92_c3 x20 x21 x23 (decide (x23=(23:UInt8))) (fun x41=>k4_ x41) (fun x42=>k5_ x42) k6_ else fn92_c3 x20 x21 x23 (decide (x23=(25:UInt8))) (fun x43=>k4_ x43) (fun x44=>k5_ x44) k6_
def fn92_c1 {ρ:Type} (x12:Option (List Int)) (x13:Option (List Int)) (x15:UInt8) (x16:Bool) (k1_:fn164->Option ρ) (k2_:(Option (List Int))->Option ρ) (k3_:(Option (List Int))->Option ρ) (k4_:(Option (List Int))->Option ρ) (k5_:(Option (List Int))->Option ρ) (k6_:Option ρ):Option ρ :=
 if x16 then k1_ (⟨5,x12⟩:fn164) else if decide (x15=(9:UInt8)) then k1_ (⟨6,x12⟩:fn164) else if decide (x15=(11:UInt8)) then k1_ (⟨4,(some [3,8])⟩:fn164) else if decide (x15=(17:UInt8)) then (appO 8 x13 (some [14])).bind fun x18=>k1_ (⟨3,x18⟩:fn164) else if decide (x15=(18:UInt8)) then fn92_c2 x12 x13 x15 (decide (x15=(18:UInt8))) (fun x50=>k2_ x50) (fun x51=>k3_ x51) (fun x52=>k1_ x52) (fun x53=>k4_ x53) (fun x54=>k5_ x54) k6_ else fn92_c2 x12 x13 x15 (decide (x15=(26:UInt8))) (fun x55=>k2_ x55) (fun x56=>k3_ x56) (fun x57=>k1_ x57) (fun x58=>k4_ x58) (fun x59=>k5_ x59) k6_
def fn92_c4 {ρ:Type} (x75:UInt8) (x76:Option (List Int)) (x77:Option (List Int)) (k1_:fn164->Option ρ):Option ρ :=
 (fn49 x75 x76 x77).bind fun x79=>k1_ x79
def fn92 (a1:UInt8):Option fn164 :=
 (iter fn92_l0 ((some []),1)).bind fun x10=>if decide (a1=(1:UInt8)) then some (⟨1,(some [3,16])⟩:fn164) else if decide (a1=(2:UInt8)) then some (⟨3,(some [3,16])⟩:fn164) else if decide (a1=(3:UInt8)) then fn92_c1 (some [3,16]) (some [1,2]) a1 (decide (a1=(3:UInt8))) (fun x65=>some x65) (fun x66=>some (⟨5,x66⟩:fn164)) (fun x67=>some (⟨2,x67⟩:fn164)) (fun x68=>some (⟨1,x68⟩:fn164)) (fun x69=>some (⟨3,x69⟩:fn164)) (fn92_c4 a1 (some [1,2]) x10 (fun x81=>some x81)) else fn92_c1 (some [3,16]) (some [1,2]) a1 (decide (a1=(8:UInt8))) (fun x70=>some x70) (fun x71=>some (⟨5,x71⟩:fn164)) (fun x72=>some (⟨2,x72⟩:fn164)) (fun x73=>some (⟨1,x73⟩:fn164)) (fun x74=>some (⟨3,x74⟩:fn164)) (fn92_c4 a1 (some [1,2]) x10 (fun x82=>some x82))
def fn115 (a1:UInt8):Option Int :=
 (fn92 a1).bind fun x2=>some x2.kind
def fn93_c0 {ρ:Type} (x2:Bool) (x3:Bool) (x4:fn140) (k1_:Bool->Option ρ):Option ρ :=
 (fn115 x4.Id).bind fun x5=>if decide (x5=1) then if decide (x4.N < (256:UInt32)) then k1_ x2 else k1_ false else if decide (x5=2) then if decide (x4.N < (65536:UInt32)) then k1_ x2 else k1_ false else if decide (x5=3) then k1_ x2 else if decide (x5=4) then if decide (x4.N ≤ (268435455:UInt32)) then k1_ x2 else k1_ false else if decide (x5=5) then if x3 then (fn91 x4.A).bind fun x6=>if x6 then k1_ (decide (x4.B=[])) else k1_ false else k1_ false else if decide (x5=6) then if x3 then if decide ((x4.A.length:Int) ≤ 65535) then k1_ (decide (x4.B=[])) else k1_ false else k1_ false else if decide (x5=7) then if x3 then (fn91 x4.A).bind fun x7=>if x7 then (fn91 x4.B).bind fun x8=>k1_ x8 else k1_ false else k1_ false else k1_ false
def fn93 (a1:fn140):Option Bool :=
 if decide (a1.A=[]) then fn93_c0 (decide (a1.B=[])) (decide (a1.N=(0:UInt32))) a1 (fun x10=>some x10) else fn93_c0 false (decide (a1.N=(0:UInt32))) a1 (fun x11=>some x11)
def fn94 (a1:List UInt8):Option Bool :=
 (fn17 a1 [43,35]).bind fun x2=>some x2
def fn95 (a1:List UInt8):Option Bool :=
 if !decide (a1=[]) then (fn91 a1).bind fun x2=>if x2 then (fn94 a1).bind fun x3=>some (!x3) else some false else some false
def fn96_c0 {ρ:Type} (x4:Bool) (x5:fn140) (k1_:Bool->Option ρ) (k2_:Option ρ):Option ρ :=
 if x4 then k1_ (!decide (x5.N=(0:UInt32))) else if decide (x5.Id=(8:UInt8)) then (fn95 x5.A).bind fun x6=>k1_ x6 else k2_
def fn96 (a1:fn140):Option Bool :=
 (fn93 a1).bind fun x2=>if !x2 then some false else (fn115 a1.Id).bind fun x3=>if decide (x3=1) then some (decide (a1.N ≤ (1:UInt32))) else if decide (a1.Id=(11:UInt8)) then fn96_c0 (decide (a1.Id=(11:UInt8))) a1 (fun x8=>some x8) (some true) else if decide (a1.Id=(33:UInt8)) then fn96_c0 (decide (a1.Id=(33:UInt8))) a1 (fun x9=>some x9) (some true) else if decide (a1.Id=(35:UInt8)) then fn96_c0 (decide (a1.Id=(35:UInt8))) a1 (fun x10=>some x10) (some true) else fn96_c0 (decide (a1.Id=(39:UInt8))) a1 (fun x11=>some x11) (some true)
def fn15_b0 {ρ:Type} (x3:Option (List Int)) (x4:Int) (x5:Int) (x6:Int) (kb_:Int->Option ρ) (k1_:Int->Option ρ) (k2_:Option ρ):Option ρ :=
 if decide (x6 < x5) then (ix (L x3) x6).bind fun x7=>if decide (x4=x7) then k1_ x6 else kb_ (w64 (x6 + 1)) else k2_
def fn15_l0 (x3:Option (List Int)) (x4:Int) (x5:Int) (z:Int):Option (Int ⊕ (Int ⊕ Unit)) :=
 fn15_b0 x3 x4 x5 z (fun x6=>some (.inl x6)) (fun y8=>some (.inr (.inl y8))) (some (.inr (.inr ())))
def fn15 (a1:Option (List Int)) (a2:Int):Option Int :=
 (iter (fn15_l0 a1 a2 ((L a1).length:Int)) 0).bind fun|.inl x9=>some x9|.inr _=>some (-1)
def fn13 (a1:Option (List Int)) (a2:Int):Option Bool :=
 (fn15 a1 a2).bind fun x3=>some (decide (x3 ≥ 0))
def fn141 (a1:UInt8) (a2:Int):Option Bool :=
 (fn92 a1).bind fun x3=>(fn13 x3.kinds a2).bind fun x4=>some x4
def fn97 (a1:UInt8) (a2:Int):Option Bool :=
 (fn141 a1 a2).bind fun x3=>if x3 then if decide (a1=(38:UInt8)) then some true else if decide (a1=(11:UInt8)) then some (decide (a2=3)) else some false else some false
def fn75 (a1:fn140) (o2:UInt8):Option (Bool × UInt8) :=
 some (decide (a1.Id=o2),o2)
def fn3_b0 {ρ:Type} (x3:Option (List fn140)) (x4:Int) (x5:Int) (x6:UInt8) (kb_:Int->UInt8->Option ρ) (k1_:Int->UInt8->Option ρ) (k2_:UInt8->Option ρ):Option ρ :=
 if decide (x5 < x4) then (ix (L x3) x5).bind fun x7=>(fn75 (⟨x7.Id,x7.N,x7.A,x7.B⟩:fn140) x6).bind fun (x8,x9)=>if x8 then k1_ x5 x9 else kb_ (w64 (x5 + 1)) x9 else k2_ x6
def fn3_l0 (x3:Option (List fn140)) (x4:Int) (z:Int × UInt8):Option ((Int × UInt8) ⊕ ((Int × UInt8) ⊕ UInt8)) :=
 fn3_b0 x3 x4 z.1 z.2 (fun x5 x6=>some (.inl (x5,x6))) (fun y10 y11=>some (.inr (.inl (y10,y11)))) (fun y12=>some (.inr (.inr y12)))
def fn3 (a1:Option (List fn140)) (o2:UInt8):Option (Int × UInt8) :=
 (iter (fn3_l0 a1 ((L a1).length:Int)) (0,o2)).bind fun|.inl (x13,x14)=>some (x13,x14)|.inr x15=>some ((-1),x15)
def fn116 (a1:Option (List fn140)) (a2:UInt8):Option (fn140 × Bool) :=
 (fn3 a1 a2).bind fun (x3,x4)=>if decide (x3 < 0) then some ((⟨(0:UInt8),(0:UInt32),[],[]⟩:fn140),false) else (ix (L a1) x3).bind fun x5=>some (x5,true)
def fn76_b0 {ρ:Type} (x3:Int) (x4:Option (List fn140)) (x5:Option (List fn140)) (x6:Int) (x7:Int) (kb_:Int->Option ρ) (k1_:fn140->Option ρ) (k2_:Option ρ):Option ρ :=
 if decide (x7 < x6) then (ix (L x5) x7).bind fun x8=>(fn96 (⟨x8.Id,x8.N,x8.A,x8.B⟩:fn140)).bind fun x9=>if !x9 then k1_ x8 else (fn141 x8.Id x3).bind fun x10=>if !x10 then k1_ x8 else if decide (x7=0) then kb_ (w64 (x7 + 1)) else (ix (L x4) (w64 (x7 - 1))).bind fun x11=>if decide (x11.Id > x8.Id) then k1_ x8 else if decide (x11.Id=x8.Id) then (fn97 x8.Id x3).bind fun x12=>if !x12 then k1_ x8 else kb_ (w64 (x7 + 1)) else kb_ (w64 (x7 + 1)) else k2_
def fn76_l0 (x3:Int) (x4:Option (List fn140)) (x5:Option (List fn140)) (x6:Int) (z:Int):Option (Int ⊕ (fn140 ⊕ Unit)) :=
 fn76_b0 x3 x4 x5 x6 z (fun x7=>some (.inl x7)) (fun y18=>some (.inr (.inl y18))) (some (.inr (.inr ())))
def fn76 (a1:Int) (a2:Option (List fn140)):Option Bool :=
 if decide (((L a2).length:Int) > 1024) then some false else (iter (fn76_l0 a1 a2 a2 ((L a2).length:Int)) 0).bind fun|.inl x19=>some false|.inr _=>(fn116 a2 (22:UInt8)).bind fun (x20,x21)=>(fn116 a2 (21:UInt8)).bind fun (x22,x23)=>if x23 then some true else some (!x21)
def fn36_c0 {ρ:Type} (x4:Int) (x5:fn60) (k1_:Bool->Option ρ):Option ρ :=
 if decide (x4=5) then k1_ true else if x5.HasUser then if x5.Clean then k1_ true else k1_ (!decide (x5.Client=[])) else if !x5.HasPass then if x5.Clean then k1_ true else k1_ (!decide (x5.Client=[])) else k1_ false
def fn36 (a1:Int) (a2:fn60):Option Bool :=
 if a2.HasWill then if decide (a2.WillQoS > (2:UInt8)) then some false else (fn95 a2.WillTopic).bind fun x3=>if !x3 then some false else fn36_c0 a1 a2 (fun x7=>some x7) else fn36_c0 a1 a2 (fun x8=>some x8)
def fn50_c0 {ρ:Type} (x2:Int) (x3:Bool) (k1_:(Option (List UInt8))->Option ρ) (k2_:Option ρ):Option ρ :=
 if x3 then k1_ (some [(0:UInt8)]) else if decide (x2=9) then k1_ (some [(0:UInt8),(1:UInt8),(2:UInt8),(128:UInt8)]) else k2_
def fn50 (a1:Int):Option (Option (List UInt8)) :=
 if decide (a1=2) then some (some [(0:UInt8),(1:UInt8),(2:UInt8),(3:UInt8),(4:UInt8),(5:UInt8)]) else if decide (a1=4) then fn50_c0 a1 (decide (a1=4)) (fun x5=>some x5) (some none) else if decide (a1=5) then fn50_c0 a1 (decide (a1=5)) (fun x6=>some x6) (some none) else if decide (a1=6) then fn50_c0 a1 (decide (a1=6)) (fun x7=>some x7) (some none) else if decide (a1=7) then fn50_c0 a1 (decide (a1=7)) (fun x8=>some x8) (some none) else fn50_c0 a1 (decide (a1=14)) (fun x9=>some x9) (some none)
def fn63_c1 {ρ:Type} (x4:Int) (x5:Bool) (k1_:(Option (List UInt8))->Option ρ) (k2_:Option ρ):Option ρ :=
 if x5 then k1_ (some [(0:UInt8),(146:UInt8)]) else if decide (x4=9) then k1_ (some [(0:UInt8),(1:UInt8),(2:UInt8),(128:UInt8),(131:UInt8),(135:UInt8),(143:UInt8),(145:UInt8),(151:UInt8),(158:UInt8),(161:UInt8),(162:UInt8)]) else if decide (x4=11) then k1_ (some [(0:UInt8),(17:UInt8),(128:UInt8),(131:UInt8),(135:UInt8),(143:UInt8),(145:UInt8)]) else if decide (x4=14) then k1_ (some [(0:UInt8),(4:UInt8),(128:UInt8),(129:UInt8),(130:UInt8),(131:UInt8),(135:UInt8),(137:UInt8),(139:UInt8),(141:UInt8),(142:UInt8),(143:UInt8),(144:UInt8),(147:UInt8),(148:UInt8),(149:UInt8),(150:UInt8),(151:UInt8),(152:UInt8),(153:UInt8),(154:UInt8),(155:UInt8),(156:UInt8),(157:UInt8),(158:UInt8),(159:UInt8),(160:UInt8),(161:UInt8),(162:UInt8)]) else if decide (x4=15) then k1_ (some [(0:UInt8),(24:UInt8),(25:UInt8)]) else k2_
def fn63_c0 {ρ:Type} (x2:Int) (x3:Bool) (k1_:(Option (List UInt8))->Option ρ) (k2_:Option ρ):Option ρ :=
 if x3 then k1_ (some [(0:UInt8),(16:UInt8),(128:UInt8),(131:UInt8),(135:UInt8),(144:UInt8),(145:UInt8),(151:UInt8),(153:UInt8)]) else if decide (x2=6) then fn63_c1 x2 (decide (x2=6)) (fun x7=>k1_ x7) k2_ else fn63_c1 x2 (decide (x2=7)) (fun x8=>k1_ x8) k2_
def fn63 (a1:Int):Option (Option (List UInt8)) :=
 if decide (a1=2) then some (some [(0:UInt8),(128:UInt8),(129:UInt8),(130:UInt8),(131:UInt8),(132:UInt8),(133:UInt8),(134:UInt8),(135:UInt8),(136:UInt8),(137:UInt8),(138:UInt8),(140:UInt8),(144:UInt8),(149:UInt8),(151:UInt8),(153:UInt8),(154:UInt8),(155:UInt8),(156:UInt8),(157:UInt8),(159:UInt8)]) else if decide (a1=4) then fn63_c0 a1 (decide (a1=4)) (fun x10=>some x10) (some none) else fn63_c0 a1 (decide (a1=5)) (fun x11=>some x11) (some none)
def fn98 (a1:Int) (a2:Int):Option (Option (List UInt8)) :=
 if decide (a1=4) then (fn50 a2).bind fun x3=>some x3 else if decide (a1=5) then (fn63 a2).bind fun x4=>some x4 else some none
def fn11_b0 {ρ:Type} (x3:Option (List UInt8)) (x4:UInt8) (x5:Int) (x6:Int) (kb_:Int->Option ρ) (k1_:Int->Option ρ) (k2_:Option ρ):Option ρ :=
 if decide (x6 < x5) then (ix (L x3) x6).bind fun x7=>if decide (x4=x7) then k1_ x6 else kb_ (w64 (x6 + 1)) else k2_
def fn11_l0 (x3:Option (List UInt8)) (x4:UInt8) (x5:Int) (z:Int):Option (Int ⊕ (Int ⊕ Unit)) :=
 fn11_b0 x3 x4 x5 z (fun x6=>some (.inl x6)) (fun y8=>some (.inr (.inl y8))) (some (.inr (.inr ())))
def fn11 (a1:Option (List UInt8)) (a2:UInt8):Option Int :=
 (iter (fn11_l0 a1 a2 ((L a1).length:Int)) 0).bind fun|.inl x9=>some x9|.inr _=>some (-1)
def fn9 (a1:Option (List UInt8)) (a2:UInt8):Option Bool :=
 (fn11 a1 a2).bind fun x3=>some (decide (x3 ≥ 0))
def fn64 (a1:Int) (a2:Int) (a3:UInt8):Option Bool :=
 (fn98 a1 a2).bind fun x4=>(fn9 x4 a3).bind fun x5=>some x5
def fn37_c0 {ρ:Type} (x3:Int) (x4:fn60) (k1_:Bool->fn140->Option ρ):Option ρ :=
 (fn116 x4.Props (35:UInt8)).bind fun (x5,x6)=>(fn95 x4.Topic).bind fun x7=>if x7 then k1_ true x5 else if decide (x3=5) then if decide (x4.Topic=[]) then k1_ x6 x5 else k1_ false x5 else k1_ false x5
def fn37 (a1:Int) (a2:fn60):Option Bool :=
 if decide (a2.QoS > (2:UInt8)) then some false else if a2.Dup then if decide (a2.QoS=(0:UInt8)) then some false else if !((decide (a2.Id=(0:UInt16))) == (decide (a2.QoS=(0:UInt8)))) then some false else fn37_c0 a1 a2 (fun x10 x11=>some x10) else if !((decide (a2.Id=(0:UInt16))) == (decide (a2.QoS=(0:UInt8)))) then some false else fn37_c0 a1 a2 (fun x12 x13=>some x12)
def fn51 (a1:Int):Option Bool :=
 if decide (a1 ≥ 1) then some (decide (a1 ≤ 1024)) else some false
def fn6 (a1:List UInt8) (a2:List UInt8):Option Bool :=
 if decide ((a1.length:Int) ≥ (a2.length:Int)) then (slc a1 0 (a2.length:Int)).bind fun x3=>some (decide (x3=a2)) else some false
def fn7 (a1:List UInt8) (a2:List UInt8):Option ((List UInt8) × Bool) :=
 (fn6 a1 a2).bind fun x3=>if !x3 then some (a1,false) else (slc a1 (a2.length:Int) (a1.length:Int)).bind fun x4=>some (x4,true)
def fn21 (a1:List UInt8) (a2:List UInt8):Option ((List UInt8) × Bool) :=
 (fn7 a1 a2).bind fun (x3,x4)=>some (x3,x4)
def fn77_c1 {ρ:Type} (x9:List UInt8) (x13:Bool) (k1_:Option ρ) (k2_:Option ρ):Option ρ :=
 if x13 then k1_ else (fn94 x9).bind fun x14=>if x14 then k2_ else k1_
def fn77_b0 {ρ:Type} (x3:Option (List (List UInt8))) (x4:Option (List (List UInt8))) (x5:Int) (x6:Int) (kb_:Int->Option ρ) (k1_:Option ρ) (k2_:Option ρ):Option ρ :=
 if decide (x6 < x5) then (ix (L x4) x6).bind fun x7=>if decide (x7=[43]) then fn77_c1 x7 (decide (x7=[43])) (kb_ (w64 (x6 + 1))) k1_ else if decide (x7=[35]) then fn77_c1 x7 (decide (x6=(w64 (((L x3).length:Int) - 1)))) (kb_ (w64 (x6 + 1))) k1_ else fn77_c1 x7 false (kb_ (w64 (x6 + 1))) k1_ else k2_
def fn77_l0 (x3:Option (List (List UInt8))) (x4:Option (List (List UInt8))) (x5:Int) (z:Int):Option (Int ⊕ (Unit ⊕ Unit)) :=
 fn77_b0 x3 x4 x5 z (fun x6=>some (.inl x6)) (some (.inr (.inl ()))) (some (.inr (.inr ())))
def fn77 (a1:List UInt8):Option Bool :=
 if decide (a1=[]) then some false else (fn52 a1 [47]).bind fun x2=>(iter (fn77_l0 x2 x2 ((L x2).length:Int)) 0).bind fun|.inl _=>some false|.inr _=>some true
def fn65 (a1:List UInt8):Option Bool :=
 (fn91 a1).bind fun x2=>if !x2 then some false else (fn21 a1 [36,115,104,97,114,101,47]).bind fun (x3,x4)=>if !x4 then (fn77 a1).bind fun x5=>some x5 else (fn78 x3 [47]).bind fun (x6,x7,x8)=>if x8 then if !decide (x6=[]) then (fn94 x6).bind fun x9=>if !x9 then (fn77 x7).bind fun x10=>some x10 else some false else some false else some false
def fn66 (a1:List UInt8):Option ((List UInt8) × (List UInt8) × Bool) :=
 (fn21 a1 [36,115,104,97,114,101,47]).bind fun (x2,x3)=>if !x3 then some ([],[],false) else (fn65 a1).bind fun x4=>if !x4 then some ([],[],false) else (fn78 x2 [47]).bind fun (x5,x6,x7)=>some (x5,x6,x7)
def fn16_c0 {ρ:Type} (x8:Int) (x9:Int) (x11:Bool) (x12:fn59) (k1_:Bool->Option ρ) (k2_:Option ρ):Option ρ :=
 if x11 then k1_ false else if decide (x9=10) then k1_ (decide (x12.Opt=(0:UInt8))) else if decide (x8=4) then k1_ (decide (x12.Opt ≤ (2:UInt8))) else k2_
def fn16_c1 {ρ:Type} (x17:Bool) (x18:fn59) (k1_:Bool->Option ρ):Option ρ :=
 if !x17 then k1_ true else k1_ (decide ((x18.Opt &&& (4:UInt8))=(0:UInt8)))
def fn16 (a1:fn59) (a2:Int) (a3:Int):Option Bool :=
 (fn66 a1.Text).bind fun (x4,x5,x6)=>(fn65 a1.Text).bind fun x7=>if !x7 then fn16_c0 a2 a3 (!x7) a1 (fun x14=>some x14) (fn16_c1 x6 a1 (fun x20=>some x20)) else if decide ((a1.Opt &&& (3:UInt8)) > (2:UInt8)) then fn16_c0 a2 a3 (decide ((a1.Opt &&& (3:UInt8)) > (2:UInt8))) a1 (fun x15=>some x15) (fn16_c1 x6 a1 (fun x21=>some x21)) else fn16_c0 a2 a3 (decide (a1.Opt ≥ (48:UInt8))) a1 (fun x16=>some x16) (fn16_c1 x6 a1 (fun x22=>some x22))
def fn25 (a1:fn59) (o2:Int) (o3:fn60):Option (Bool × Int × fn60) :=
 (fn16 a1 o2 o3.Kind).bind fun x4=>some (!x4,o2,o3)
def fn1_b0 {ρ:Type} (x4:Option (List fn59)) (x5:Int) (x6:Int) (x7:Int) (x8:fn60) (kb_:Int->Int->fn60->Option ρ) (k1_:Int->Int->fn60->Option ρ) (k2_:Int->fn60->Option ρ):Option ρ :=
 if decide (x6 < x5) then (ix (L x4) x6).bind fun x9=>(fn25 (⟨x9.Text,x9.Opt⟩:fn59) x7 (⟨x8.Kind,x8.Dup,x8.Retain,x8.QoS,x8.Id,x8.Clean,x8.Keep,x8.Client,x8.HasWill,x8.HasUser,x8.HasPass,x8.WillQoS,x8.WillRetain,x8.WillProps,x8.WillTopic,x8.WillLoad,x8.User,x8.Pass,x8.Present,x8.Code,x8.Topic,x8.Load,x8.Filters,x8.Codes,x8.Props⟩:fn60)).bind fun (x10,x11,x12)=>if x10 then k1_ x6 x11 x12 else kb_ (w64 (x6 + 1)) x11 x12 else k2_ x7 x8
def fn1_l0 (x4:Option (List fn59)) (x5:Int) (z:Int × Int × fn60):Option ((Int × Int × fn60) ⊕ ((Int × Int × fn60) ⊕ (Int × fn60))) :=
 fn1_b0 x4 x5 z.1 z.2.1 z.2.2 (fun x6 x7 x8=>some (.inl (x6,x7,x8))) (fun y13 y14 y15=>some (.inr (.inl (y13,y14,y15)))) (fun y16 y17=>some (.inr (.inr (y16,y17))))
def fn1 (a1:Option (List fn59)) (o2:Int) (o3:fn60):Option (Int × Int × fn60) :=
 (iter (fn1_l0 a1 ((L a1).length:Int)) (0,o2,o3)).bind fun|.inl (x18,x19,x20)=>some (x18,x19,x20)|.inr (x21,x22)=>some ((-1),x21,x22)
def fn0 (a1:Option (List fn59)) (o2:Int) (o3:fn60):Option (Bool × Int × fn60) :=
 (fn1 a1 o2 o3).bind fun (x4,x5,x6)=>some (decide (x4 ≥ 0),x5,x6)
def fn38 (a1:Int) (a2:fn60):Option Bool :=
 (fn51 ((L a2.Filters).length:Int)).bind fun x3=>if x3 then (fn0 a2.Filters a1 (⟨a2.Kind,a2.Dup,a2.Retain,a2.QoS,a2.Id,a2.Clean,a2.Keep,a2.Client,a2.HasWill,a2.HasUser,a2.HasPass,a2.WillQoS,a2.WillRetain,a2.WillProps,a2.WillTopic,a2.WillLoad,a2.User,a2.Pass,a2.Present,a2.Code,a2.Topic,a2.Load,a2.Filters,a2.Codes,a2.Props⟩:fn60)).bind fun (x4,x5,x6)=>some (!x4) else some false
def fn39 (a1:UInt8) (o2:Int) (o3:fn60):Option (Bool × Int × fn60) :=
 (fn64 o2 o3.Kind a1).bind fun x4=>some (!x4,o2,o3)
def fn8_b0 {ρ:Type} (x4:Option (List UInt8)) (x5:Int) (x6:Int) (x7:Int) (x8:fn60) (kb_:Int->Int->fn60->Option ρ) (k1_:Int->Int->fn60->Option ρ) (k2_:Int->fn60->Option ρ):Option ρ :=
 if decide (x6 < x5) then (ix (L x4) x6).bind fun x9=>(fn39 x9 x7 (⟨x8.Kind,x8.Dup,x8.Retain,x8.QoS,x8.Id,x8.Clean,x8.Keep,x8.Client,x8.HasWill,x8.HasUser,x8.HasPass,x8.WillQoS,x8.WillRetain,x8.WillProps,x8.WillTopic,x8.WillLoad,x8.User,x8.Pass,x8.Present,x8.Code,x8.Topic,x8.Load,x8.Filters,x8.Codes,x8.Props⟩:fn60)).bind fun (x10,x11,x12)=>if x10 then k1_ x6 x11 x12 else kb_ (w64 (x6 + 1)) x11 x12 else k2_ x7 x8
def fn8_l0 (x4:Option (List UInt8)) (x5:Int) (z:Int × Int × fn60):Option ((Int × Int × fn60) ⊕ ((Int × Int × fn60) ⊕ (Int × fn60))) :=
 fn8_b0 x4 x5 z.1 z.2.1 z.2.2 (fun x6 x7 x8=>some (.inl (x6,x7,x8))) (fun y13 y14 y15=>some (.inr (.inl (y13,y14,y15)))) (fun y16 y17=>some (.inr (.inr (y16,y17))))
def fn8 (a1:Option (List UInt8)) (o2:Int) (o3:fn60):Option (Int × Int × fn60) :=
 (iter (fn8_l0 a1 ((L a1).length:Int)) (0,o2,o3)).bind fun|.inl (x18,x19,x20)=>some (x18,x19,x20)|.inr (x21,x22)=>some ((-1),x21,x22)
def fn5 (a1:Option (List UInt8)) (o2:Int) (o3:fn60):Option (Bool × Int × fn60) :=
 (fn8 a1 o2 o3).bind fun (x4,x5,x6)=>some (decide (x4 ≥ 0),x5,x6)
def fn67_c0 {ρ:Type} (x3:Int) (x4:fn60) (k1_:Bool->Int->fn60->Option ρ):Option ρ :=
 (fn51 ((L x4.Codes).length:Int)).bind fun x5=>if x5 then (fn5 x4.Codes x3 (⟨x4.Kind,x4.Dup,x4.Retain,x4.QoS,x4.Id,x4.Clean,x4.Keep,x4.Client,x4.HasWill,x4.HasUser,x4.HasPass,x4.WillQoS,x4.WillRetain,x4.WillProps,x4.WillTopic,x4.WillLoad,x4.User,x4.Pass,x4.Present,x4.Code,x4.Topic,x4.Load,x4.Filters,x4.Codes,x4.Props⟩:fn60)).bind fun (x6,x7,x8)=>k1_ (!x6) x7 x8 else k1_ false x3 x4
def fn67 (a1:Int) (a2:fn60):Option Bool :=
 if decide (a1=4) then if decide (a2.Kind=11) then some (decide (((L a2.Codes).length:Int)=0)) else fn67_c0 a1 a2 (fun x12 x13 x14=>some x12) else fn67_c0 a1 a2 (fun x15 x16 x17=>some x15)
def fn99_c2 {ρ:Type} (x16:Int) (x17:Int) (x18:Bool) (x19:fn60) (k1_:Bool->Option ρ) (k2_:Bool->fn140->Option ρ) (k3_:Option ρ):Option ρ :=
 if x18 then k1_ true else if decide (x17=14) then (fn64 x16 x19.Kind x19.Code).bind fun x20=>k1_ x20 else if decide (x17=15) then (fn116 x19.Props (21:UInt8)).bind fun (x21,x22)=>(fn64 x16 x19.Kind x19.Code).bind fun x23=>if x23 then k2_ x22 x21 else k2_ false x21 else k3_
def fn99_c1 {ρ:Type} (x11:Int) (x12:Int) (x13:Bool) (x14:fn60) (k1_:Bool->Option ρ) (k2_:Bool->fn140->Option ρ) (k3_:Option ρ):Option ρ :=
 if x13 then if !decide (x14.Id=(0:UInt16)) then (fn67 x11 x14).bind fun x15=>k1_ x15 else k1_ false else if decide (x12=12) then fn99_c2 x11 x12 (decide (x12=12)) x14 (fun x27=>k1_ x27) (fun x28 x29=>k2_ x28 x29) k3_ else fn99_c2 x11 x12 (decide (x12=13)) x14 (fun x30=>k1_ x30) (fun x31 x32=>k2_ x31 x32) k3_
def fn99_c0 {ρ:Type} (x6:Int) (x7:Int) (x8:Bool) (x9:fn60) (k1_:Bool->Option ρ) (k2_:Bool->fn140->Option ρ) (k3_:Option ρ):Option ρ :=
 if x8 then if !decide (x9.Id=(0:UInt16)) then (fn38 x6 (⟨x9.Kind,x9.Dup,x9.Retain,x9.QoS,x9.Id,x9.Clean,x9.Keep,x9.Client,x9.HasWill,x9.HasUser,x9.HasPass,x9.WillQoS,x9.WillRetain,x9.WillProps,x9.WillTopic,x9.WillLoad,x9.User,x9.Pass,x9.Present,x9.Code,x9.Topic,x9.Load,x9.Filters,x9.Codes,x9.Props⟩:fn60)).bind fun x10=>k1_ x10 else k1_ false else if decide (x7=9) then fn99_c1 x6 x7 (decide (x7=9)) x9 (fun x36=>k1_ x36) (fun x37 x38=>k2_ x37 x38) k3_ else fn99_c1 x6 x7 (decide (x7=11)) x9 (fun x39=>k1_ x39) (fun x40 x41=>k2_ x40 x41) k3_
def fn99_c3 {ρ:Type} (x51:Int) (x52:fn60) (k1_:Bool->Option ρ):Option ρ :=
 if !decide (x52.Id=(0:UInt16)) then (fn64 x51 x52.Kind x52.Code).bind fun x53=>k1_ x53 else k1_ false
def fn99 (a1:Int) (a2:fn60):Option Bool :=
 if decide (a2.Kind=1) then (fn36 a1 a2).bind fun x3=>some x3 else if decide (a2.Kind=2) then (fn64 a1 a2.Kind a2.Code).bind fun x4=>if x4 then if !a2.Present then some true else some (decide (a2.Code=(0:UInt8))) else some false else if decide (a2.Kind=3) then (fn37 a1 a2).bind fun x5=>some x5 else if decide (a2.Kind=8) then fn99_c0 a1 a2.Kind (decide (a2.Kind=8)) a2 (fun x45=>some x45) (fun x46 x47=>some x46) (fn99_c3 a1 a2 (fun x55=>some x55)) else fn99_c0 a1 a2.Kind (decide (a2.Kind=10)) a2 (fun x48=>some x48) (fun x49 x50=>some x49) (fn99_c3 a1 a2 (fun x56=>some x56))
def fn14 (a1:Option (List UInt8)):Option (Option (List UInt8)) :=
 if a1.isNone then some none else (appO 1 (some []) a1).bind fun x2=>some x2
def fn117 (a1:Option (List UInt8)) (a2:UInt8):Option (Option (List UInt8)) :=
 (fn14 a1).bind fun x3=>(appO 1 x3 (some [a2])).bind fun x4=>some x4
def fn142 (a1:Option (List UInt8)) (a2:UInt16):Option (Option (List UInt8)) :=
 (fn14 a1).bind fun x3=>(appO 1 x3 (some [u8 ((yv471 a2 ((8:UInt64).toNat:Int)).toNat:Int),u8 (a2.toNat:Int)])).bind fun x4=>some x4
def fn118 (a1:Option (List UInt8)) (a2:UInt32):Option (Option (List UInt8)) :=
 (fn142 a1 (u16 ((yv472 a2 ((16:UInt64).toNat:Int)).toNat:Int))).bind fun x3=>(fn142 x3 (u16 (a2.toNat:Int))).bind fun x4=>some x4
def fn143_b0 {ρ:Type} (x4:UInt32) (x5:Option (List UInt8)) (kb_:UInt32->(Option (List UInt8))->Option ρ) (k1_:UInt32->(Option (List UInt8))->Option ρ):Option ρ :=
 if decide (x4 ≥ (128:UInt32)) then (appO 1 x5 (some [(u8 (x4.toNat:Int)) ||| (128:UInt8)])).bind fun x6=>kb_ (yv472 x4 ((7:UInt64).toNat:Int)) x6 else k1_ x4 x5
def fn143_l0 (z:UInt32 × (Option (List UInt8))):Option ((UInt32 × (Option (List UInt8))) ⊕ (UInt32 × (Option (List UInt8)))) :=
 fn143_b0 z.1 z.2 (fun x4 x5=>some (.inl (x4,x5))) (fun y7 y8=>some (.inr (y7,y8)))
def fn143 (a1:Option (List UInt8)) (a2:UInt32):Option (Option (List UInt8)) :=
 (fn14 a1).bind fun x3=>if decide (a2 > (268435455:UInt32)) then some x3 else (iter fn143_l0 (a2,x3)).bind fun (x9,x10)=>(appO 1 x10 (some [u8 (x9.toNat:Int)])).bind fun x11=>some x11
def fn144 (a1:Option (List UInt8)) (a2:List UInt8):Option (Option (List UInt8)) :=
 if decide ((a2.length:Int) > 65535) then (fn14 a1).bind fun x3=>some x3 else (fn142 a1 (u16 (a2.length:Int))).bind fun x4=>(appO 1 x4 (some a2)).bind fun x5=>some x5
def fn119 (a1:Option (List UInt8)) (a2:fn140):Option (Option (List UInt8)) :=
 (appO 1 a1 (some [a2.Id])).bind fun x3=>(fn115 a2.Id).bind fun x4=>if decide (x4=1) then (fn117 x3 (u8 (a2.N.toNat:Int))).bind fun x5=>some x5 else if decide (x4=2) then (fn142 x3 (u16 (a2.N.toNat:Int))).bind fun x6=>some x6 else if decide (x4=3) then (fn118 x3 a2.N).bind fun x7=>some x7 else if decide (x4=4) then (fn143 x3 a2.N).bind fun x8=>some x8 else if decide (x4=7) then (fn144 x3 a2.A).bind fun x9=>(fn144 x9 a2.B).bind fun x10=>some x10 else (fn144 x3 a2.A).bind fun x11=>some x11
def fn53_b0 {ρ:Type} (x3:Option (List fn140)) (x4:Int) (x2:Option (List UInt8)) (x5:Int) (kb_:(Option (List UInt8))->Int->Option ρ) (k1_:fn140->Option ρ) (k2_:(Option (List UInt8))->Option ρ):Option ρ :=
 if decide (x5 < x4) then (ix (L x3) x5).bind fun x6=>(fn93 (⟨x6.Id,x6.N,x6.A,x6.B⟩:fn140)).bind fun x7=>if !x7 then k1_ x6 else (fn119 x2 (⟨x6.Id,x6.N,x6.A,x6.B⟩:fn140)).bind fun x8=>kb_ x8 (w64 (x5 + 1)) else k2_ x2
def fn53_l0 (x3:Option (List fn140)) (x4:Int) (z:(Option (List UInt8)) × Int):Option (((Option (List UInt8)) × Int) ⊕ (fn140 ⊕ ((Option (List UInt8))))) :=
 fn53_b0 x3 x4 z.1 z.2 (fun x2 x5=>some (.inl (x2,x5))) (fun y13=>some (.inr (.inl y13))) (fun y14=>some (.inr (.inr y14)))
def fn53 (a1:Option (List fn140)):Option ((Option (List UInt8)) × Bool) :=
 (iter (fn53_l0 a1 ((L a1).length:Int)) (none,0)).bind fun|.inl x15=>some (none,false)|.inr x16=>some (x16,decide (((L x16).length:Int) ≤ 268435455))
def fn120 (a1:Option (List UInt8)) (a2:Option (List fn140)):Option (Option (List UInt8)) :=
 (fn53 a2).bind fun (x3,x4)=>if !x4 then (fn14 a1).bind fun x5=>some x5 else (fn143 a1 (u32 ((L x3).length:Int))).bind fun x6=>(appO 1 x6 x3).bind fun x7=>some x7
def fn100 (a1:Option (List fn140)):Option Int :=
 (fn120 none a1).bind fun x2=>some ((L x2).length:Int)
def fn40 (a1:Int) (a2:Option (List fn140)):Option Int :=
 if decide (a1=4) then some 0 else (fn100 a2).bind fun x3=>some x3
def fn41 (a1:List UInt8):Option Int :=
 some (w64 (2 + (a1.length:Int)))
def fn19_c1 {ρ:Type} (x11:Int) (x12:fn60) (k1_:Int->Option ρ):Option ρ :=
 if x12.HasPass then (fn41 x12.Pass).bind fun x13=>k1_ (w64 (x11 + x13)) else k1_ x11
def fn19_c0 {ρ:Type} (x8:Int) (x9:fn60) (k1_:Int->Option ρ):Option ρ :=
 if x9.HasUser then (fn41 x9.User).bind fun x10=>fn19_c1 (w64 (x8 + x10)) x9 (fun x15=>k1_ x15) else fn19_c1 x8 x9 (fun x16=>k1_ x16)
def fn19 (a1:Int) (a2:fn60):Option Int :=
 (fn40 a1 a2.Props).bind fun x3=>(fn41 a2.Client).bind fun x4=>if a2.HasWill then (fn40 a1 a2.WillProps).bind fun x5=>(fn41 a2.WillTopic).bind fun x6=>(fn41 a2.WillLoad).bind fun x7=>fn19_c0 (w64 ((w64 ((w64 (10 + x3)) + x4)) + (w64 ((w64 (x5 + x6)) + x7)))) a2 (fun x18=>some x18) else fn19_c0 (w64 ((w64 (10 + x3)) + x4)) a2 (fun x19=>some x19)
def fn29_c0 {ρ:Type} (x3:Bool) (x4:fn60) (k1_:Int->Option ρ) (k2_:Option ρ):Option ρ :=
 if x3 then k1_ 0 else if decide (((L x4.Props).length:Int)=0) then k1_ 1 else k2_
def fn29_c1 {ρ:Type} (x9:fn60) (k1_:Int->Option ρ):Option ρ :=
 (fn100 x9.Props).bind fun x10=>k1_ (w64 (1 + x10))
def fn29 (a1:Int) (a2:fn60):Option Int :=
 if decide (a1=4) then fn29_c0 (decide (a1=4)) a2 (fun x6=>some x6) (fn29_c1 a2 (fun x12=>some x12)) else if decide (a2.Code=(0:UInt8)) then fn29_c0 (decide (((L a2.Props).length:Int)=0)) a2 (fun x7=>some x7) (fn29_c1 a2 (fun x13=>some x13)) else fn29_c0 false a2 (fun x8=>some x8) (fn29_c1 a2 (fun x14=>some x14))
def fn20_b0 {ρ:Type} (x3:Option (List fn59)) (x4:Int) (x6:fn60) (x2:Int) (x5:Int) (kb_:Int->Int->Option ρ) (k1_:Int->Option ρ):Option ρ :=
 if decide (x5 < x4) then (ix (L x3) x5).bind fun x7=>(fn41 x7.Text).bind fun x8=>if decide (x6.Kind=8) then kb_ (w64 ((w64 (x2 + x8)) + 1)) (w64 (x5 + 1)) else kb_ (w64 (x2 + x8)) (w64 (x5 + 1)) else k1_ x2
def fn20_l0 (x3:Option (List fn59)) (x4:Int) (x6:fn60) (z:Int × Int):Option ((Int × Int) ⊕ Int) :=
 fn20_b0 x3 x4 x6 z.1 z.2 (fun x2 x5=>some (.inl (x2,x5))) (fun y14=>some (.inr y14))
def fn20 (a1:fn60):Option Int :=
 (iter (fn20_l0 a1.Filters ((L a1.Filters).length:Int) a1) (0,0)).bind fun x15=>some x15
def fn79_c3 {ρ:Type} (x23:Int) (x24:Bool) (x25:fn60) (k1_:Int->Option ρ) (k2_:Option ρ):Option ρ :=
 if x24 then (fn29 x23 (⟨x25.Kind,x25.Dup,x25.Retain,x25.QoS,x25.Id,x25.Clean,x25.Keep,x25.Client,x25.HasWill,x25.HasUser,x25.HasPass,x25.WillQoS,x25.WillRetain,x25.WillProps,x25.WillTopic,x25.WillLoad,x25.User,x25.Pass,x25.Present,x25.Code,x25.Topic,x25.Load,x25.Filters,x25.Codes,x25.Props⟩:fn60)).bind fun x26=>k1_ x26 else k2_
def fn79_c2 {ρ:Type} (x18:Int) (x19:Int) (x20:Bool) (x21:fn60) (k1_:Int->Option ρ) (k2_:Int->Option ρ) (k3_:Option ρ):Option ρ :=
 if x20 then (fn40 x18 x21.Props).bind fun x22=>k1_ (w64 ((w64 (2 + x22)) + ((L x21.Codes).length:Int))) else if decide (x19=14) then fn79_c3 x18 (decide (x19=14)) x21 (fun x28=>k2_ x28) k3_ else fn79_c3 x18 (decide (x19=15)) x21 (fun x29=>k2_ x29) k3_
def fn79_c1 {ρ:Type} (x12:Int) (x13:Int) (x14:Bool) (x15:fn60) (k1_:Int->Option ρ) (k2_:Int->Option ρ) (k3_:Option ρ):Option ρ :=
 if x14 then (fn40 x12 x15.Props).bind fun x16=>(fn20 (⟨x15.Kind,x15.Dup,x15.Retain,x15.QoS,x15.Id,x15.Clean,x15.Keep,x15.Client,x15.HasWill,x15.HasUser,x15.HasPass,x15.WillQoS,x15.WillRetain,x15.WillProps,x15.WillTopic,x15.WillLoad,x15.User,x15.Pass,x15.Present,x15.Code,x15.Topic,x15.Load,x15.Filters,x15.Codes,x15.Props⟩:fn60)).bind fun x17=>k1_ (w64 ((w64 (2 + x16)) + x17)) else if decide (x13=9) then fn79_c2 x12 x13 (decide (x13=9)) x15 (fun x32=>k1_ x32) (fun x33=>k2_ x33) k3_ else fn79_c2 x12 x13 (decide (x13=11)) x15 (fun x34=>k1_ x34) (fun x35=>k2_ x35) k3_
def fn79_c0 {ρ:Type} (x7:Int) (x8:Int) (x9:Bool) (x10:fn60) (k1_:Int->Option ρ) (k2_:Int->Option ρ) (k3_:Option ρ):Option ρ :=
 if x9 then (fn29 x7 (⟨x10.Kind,x10.Dup,x10.Retain,x10.QoS,x10.Id,x10.Clean,x10.Keep,x10.Client,x10.HasWill,x10.HasUser,x10.HasPass,x10.WillQoS,x10.WillRetain,x10.WillProps,x10.WillTopic,x10.WillLoad,x10.User,x10.Pass,x10.Present,x10.Code,x10.Topic,x10.Load,x10.Filters,x10.Codes,x10.Props⟩:fn60)).bind fun x11=>k1_ (w64 (2 + x11)) else if decide (x8=8) then fn79_c1 x7 x8 (decide (x8=8)) x10 (fun x38=>k2_ x38) (fun x39=>k1_ x39) k3_ else fn79_c1 x7 x8 (decide (x8=10)) x10 (fun x40=>k2_ x40) (fun x41=>k1_ x41) k3_
def fn79 (a1:Int) (a2:fn60):Option Int :=
 if decide (a2.Kind=1) then (fn19 a1 a2).bind fun x3=>some x3 else if decide (a2.Kind=2) then (fn40 a1 a2.Props).bind fun x4=>some (w64 (2 + x4)) else if decide (a2.Kind=3) then (fn41 a2.Topic).bind fun x5=>(fn40 a1 a2.Props).bind fun x6=>if decide (a2.QoS > (0:UInt8)) then some (w64 ((w64 ((w64 (x5 + x6)) + (a2.Load.length:Int))) + 2)) else some (w64 ((w64 (x5 + x6)) + (a2.Load.length:Int))) else if decide (a2.Kind=4) then fn79_c0 a1 a2.Kind (decide (a2.Kind=4)) a2 (fun x44=>some x44) (fun x45=>some x45) (some 0) else if decide (a2.Kind=5) then fn79_c0 a1 a2.Kind (decide (a2.Kind=5)) a2 (fun x46=>some x46) (fun x47=>some x47) (some 0) else if decide (a2.Kind=6) then fn79_c0 a1 a2.Kind (decide (a2.Kind=6)) a2 (fun x48=>some x48) (fun x49=>some x49) (some 0) else fn79_c0 a1 a2.Kind (decide (a2.Kind=7)) a2 (fun x50=>some x50) (fun x51=>some x51) (some 0)
def fn68_c0 {ρ:Type} (x3:Int) (x4:Bool) (x5:fn60) (k1_:Bool->Option ρ) (k2_:Option ρ):Option ρ :=
 if x4 then k1_ x4 else if decide (x5.Kind < 1) then k1_ (decide (x5.Kind < 1)) else if decide (x5.Kind > 15) then k1_ (decide (x5.Kind > 15)) else if decide (x3=4) then k1_ (decide (x5.Kind=15)) else k2_
def fn68_c2 {ρ:Type} (x15:Int) (x16:Bool) (x17:fn60) (k1_:Option ρ) (k2_:Option ρ):Option ρ :=
 if x16 then k1_ else if decide (x15=4) then if decide ((w64 (((L x17.Props).length:Int) + ((L x17.WillProps).length:Int))) > 0) then k1_ else k2_ else k2_
def fn68_c1 {ρ:Type} (x9:Int) (x10:Bool) (x11:fn60) (k1_:Option ρ) (k2_:Option ρ):Option ρ :=
 if x10 then k1_ else (fn73 x11).bind fun x12=>(fn74 (⟨x11.Kind,x11.Dup,x11.Retain,x11.QoS,x11.Id,x11.Clean,x11.Keep,x11.Client,x11.HasWill,x11.HasUser,x11.HasPass,x11.WillQoS,x11.WillRetain,x11.WillProps,x11.WillTopic,x11.WillLoad,x11.User,x11.Pass,x11.Present,x11.Code,x11.Topic,x11.Load,x11.Filters,x11.Codes,x11.Props⟩:fn60) (⟨x12.Kind,x12.Dup,x12.Retain,x12.QoS,x12.Id,x12.Clean,x12.Keep,x12.Client,x12.HasWill,x12.HasUser,x12.HasPass,x12.WillQoS,x12.WillRetain,x12.WillProps,x12.WillTopic,x12.WillLoad,x12.User,x12.Pass,x12.Present,x12.Code,x12.Topic,x12.Load,x12.Filters,x12.Codes,x12.Props⟩:fn60)).bind fun x13=>if !x13 then fn68_c2 x9 (!x13) x11 k1_ k2_ else (fn62 (⟨x11.Kind,x11.Dup,x11.Retain,x11.QoS,x11.Id,x11.Clean,x11.Keep,x11.Client,x11.HasWill,x11.HasUser,x11.HasPass,x11.WillQoS,x11.WillRetain,x11.WillProps,x11.WillTopic,x11.WillLoad,x11.User,x11.Pass,x11.Present,x11.Code,x11.Topic,x11.Load,x11.Filters,x11.Codes,x11.Props⟩:fn60)).bind fun x14=>fn68_c2 x9 (!x14) x11 k1_ k2_
def fn68_c3 {ρ:Type} (x18:Int) (x19:fn60) (k1_:Bool->Option ρ):Option ρ :=
 (fn76 x19.Kind x19.Props).bind fun x20=>if x20 then (fn76 16 x19.WillProps).bind fun x21=>if x21 then (fn99 x18 x19).bind fun x22=>if x22 then (fn79 x18 (⟨x19.Kind,x19.Dup,x19.Retain,x19.QoS,x19.Id,x19.Clean,x19.Keep,x19.Client,x19.HasWill,x19.HasUser,x19.HasPass,x19.WillQoS,x19.WillRetain,x19.WillProps,x19.WillTopic,x19.WillLoad,x19.User,x19.Pass,x19.Present,x19.Code,x19.Topic,x19.Load,x19.Filters,x19.Codes,x19.Props⟩:fn60)).bind fun x23=>k1_ (decide (x23 ≤ 268435455)) else k1_ false else k1_ false else k1_ false
def fn68 (a1:Int) (a2:fn60):Option Bool :=
 if !decide (a1=4) then fn68_c0 a1 (!decide (a1=5)) a2 (fun x7=>fn68_c1 a1 x7 a2 (some false) (fn68_c3 a1 a2 (fun x25=>some x25))) (fn68_c1 a1 false a2 (some false) (fn68_c3 a1 a2 (fun x26=>some x26))) else fn68_c0 a1 false a2 (fun x8=>fn68_c1 a1 x8 a2 (some false) (fn68_c3 a1 a2 (fun x27=>some x27))) (fn68_c1 a1 false a2 (some false) (fn68_c3 a1 a2 (fun x28=>some x28)))
def l05_To (a1:fn163):Option fn140 :=
 some (⟨a1.Id,a1.N,a1.A,a1.B⟩:fn140)
def l06_To_b0 {ρ:Type} (x2:Option (List fn163)) (x3:Option (List fn140)) (x4:Int) (kb_:(Option (List fn140))->Int->Option ρ) (k1_:(Option (List fn140))->Option ρ):Option ρ :=
 if decide (x4 < ((L x2).length:Int)) then (ix (L x2) x4).bind fun x5=>(l05_To (⟨x5.Id,x5.N,x5.A,x5.B⟩:fn163)).bind fun x6=>(appO 40 x3 (some [x6])).bind fun x7=>kb_ x7 (w64 (x4 + 1)) else k1_ x3
def l06_To_l0 (x2:Option (List fn163)) (z:(Option (List fn140)) × Int):Option (((Option (List fn140)) × Int) ⊕ (Option (List fn140))) :=
 l06_To_b0 x2 z.1 z.2 (fun x3 x4=>some (.inl (x3,x4))) (fun y8=>some (.inr y8))
def l06_To (a1:Option (List fn163)):Option (Option (List fn140)) :=
 (iter (l06_To_l0 a1) (none,0)).bind fun x9=>some x9
def l07_To_b0 {ρ:Type} (x6:fn113) (x5:Int) (x8:fn60) (kb_:Int->fn60->Option ρ) (k1_:fn60->Option ρ):Option ρ :=
 if decide (x5 < ((L x6.Filters).length:Int)) then (ix (L x6.Filters) x5).bind fun x9=>(ix (L x6.Filters) x5).bind fun x10=>(appO 24 x8.Filters (some [(⟨x9.Text,x10.Opt⟩:fn59)])).bind fun x11=>kb_ (w64 (x5 + 1)) ({x8 with Filters:=x11}:fn60) else k1_ x8
def l07_To_l0 (x6:fn113) (z:Int × fn60):Option ((Int × fn60) ⊕ fn60) :=
 l07_To_b0 x6 z.1 z.2 (fun x5 x8=>some (.inl (x5,x8))) (fun y12=>some (.inr y12))
def l07_To (a1:fn113):Option fn60 :=
 (l06_To a1.WillProps).bind fun x2=>(appO 1 (some []) a1.Codes).bind fun x3=>(l06_To a1.Props).bind fun x4=>(iter (l07_To_l0 a1) (0,({a1 with WillProps:=x2,Filters:=none,Codes:=x3,Props:=x4}:fn60))).bind fun x13=>some x13
def fn146_c1 {ρ:Type} (x5:fn113) (x7:fn113) (k1_:(List UInt8)->Option ρ):Option ρ :=
 if x5.HasPass then k1_ x5.Pass else k1_ x7.Pass
def fn146_c0 {ρ:Type} (x2:fn113) (x4:fn113) (k1_:fn113->Option ρ):Option ρ :=
 if x2.HasUser then fn146_c1 x2 ({x4 with User:=x2.User}:fn113) (fun x9=>k1_ ({x4 with User:=x2.User,Pass:=x9}:fn113)) else fn146_c1 x2 x4 (fun x10=>k1_ ({x4 with Pass:=x10}:fn113))
def fn146_c5 {ρ:Type} (x29:Bool) (k1_:Option ρ) (k2_:Option ρ):Option ρ :=
 if x29 then k1_ else k2_
def fn146_c4 {ρ:Type} (x24:Int) (x25:Bool) (k1_:Option ρ) (k2_:Option ρ) (k3_:Option ρ):Option ρ :=
 if x25 then k1_ else if decide (x24=14) then fn146_c5 (decide (x24=14)) k2_ k3_ else fn146_c5 (decide (x24=15)) k2_ k3_
def fn146_c3 {ρ:Type} (x19:Int) (x20:Bool) (k1_:Option ρ) (k2_:Option ρ) (k3_:Option ρ) (k4_:Option ρ):Option ρ :=
 if x20 then k1_ else if decide (x19=9) then fn146_c4 x19 (decide (x19=9)) k2_ k3_ k4_ else fn146_c4 x19 (decide (x19=11)) k2_ k3_ k4_
def fn146_c2 {ρ:Type} (x14:Int) (x15:Bool) (x16:fn113) (x18:fn113) (k1_:UInt16->Option ρ) (k2_:Option ρ) (k3_:Option ρ) (k4_:Option ρ):Option ρ :=
 if x15 then k1_ x16.Id else if decide (x14=8) then fn146_c3 x14 (decide (x14=8)) k2_ k3_ (k1_ x18.Id) k4_ else fn146_c3 x14 (decide (x14=10)) k2_ k3_ (k1_ x18.Id) k4_
def fn146 (a1:fn113):Option fn113 :=
 if decide (a1.Kind=1) then if a1.HasWill then fn146_c0 a1 (⟨a1.Kind,false,false,(0:UInt8),(0:UInt16),a1.Clean,a1.Keep,a1.Client,a1.HasWill,a1.HasUser,a1.HasPass,a1.WillQoS,a1.WillRetain,a1.WillProps,a1.WillTopic,a1.WillLoad,[],[],false,(0:UInt8),[],[],none,none,a1.Props⟩:fn113) (fun x12=>some x12) else fn146_c0 a1 (⟨a1.Kind,false,false,(0:UInt8),(0:UInt16),a1.Clean,a1.Keep,a1.Client,a1.HasWill,a1.HasUser,a1.HasPass,(0:UInt8),false,none,[],[],[],[],false,(0:UInt8),[],[],none,none,a1.Props⟩:fn113) (fun x13=>some x13) else if decide (a1.Kind=2) then some (⟨a1.Kind,false,false,(0:UInt8),(0:UInt16),false,(0:UInt16),[],false,false,false,(0:UInt8),false,none,[],[],[],[],a1.Present,a1.Code,[],[],none,none,a1.Props⟩:fn113) else if decide (a1.Kind=3) then some (⟨a1.Kind,a1.Dup,a1.Retain,a1.QoS,a1.Id,false,(0:UInt16),[],false,false,false,(0:UInt8),false,none,[],[],[],[],false,(0:UInt8),a1.Topic,a1.Load,none,none,a1.Props⟩:fn113) else if decide (a1.Kind=4) then fn146_c2 a1.Kind (decide (a1.Kind=4)) a1 (⟨a1.Kind,false,false,(0:UInt8),(0:UInt16),false,(0:UInt16),[],false,false,false,(0:UInt8),false,none,[],[],[],[],false,(0:UInt8),[],[],none,none,none⟩:fn113) (fun x34=>some (⟨a1.Kind,false,false,(0:UInt8),x34,false,(0:UInt16),[],false,false,false,(0:UInt8),false,none,[],[],[],[],false,a1.Code,[],[],none,none,a1.Props⟩:fn113)) (some (⟨a1.Kind,false,false,(0:UInt8),a1.Id,false,(0:UInt16),[],false,false,false,(0:UInt8),false,none,[],[],[],[],false,(0:UInt8),[],[],a1.Filters,none,a1.Props⟩:fn113)) (some (⟨a1.Kind,false,false,(0:UInt8),a1.Id,false,(0:UInt16),[],false,false,false,(0:UInt8),false,none,[],[],[],[],false,(0:UInt8),[],[],none,a1.Codes,a1.Props⟩:fn113)) (some (⟨a1.Kind,false,false,(0:UInt8),(0:UInt16),false,(0:UInt16),[],false,false,false,(0:UInt8),false,none,[],[],[],[],false,(0:UInt8),[],[],none,none,none⟩:fn113)) else if decide (a1.Kind=5) then fn146_c2 a1.Kind (decide (a1.Kind=5)) a1 (⟨a1.Kind,false,false,(0:UInt8),(0:UInt16),false,(0:UInt16),[],false,false,false,(0:UInt8),false,none,[],[],[],[],false,(0:UInt8),[],[],none,none,none⟩:fn113) (fun x35=>some (⟨a1.Kind,false,false,(0:UInt8),x35,false,(0:UInt16),[],false,false,false,(0:UInt8),false,none,[],[],[],[],false,a1.Code,[],[],none,none,a1.Props⟩:fn113)) (some (⟨a1.Kind,false,false,(0:UInt8),a1.Id,false,(0:UInt16),[],false,false,false,(0:UInt8),false,none,[],[],[],[],false,(0:UInt8),[],[],a1.Filters,none,a1.Props⟩:fn113)) (some (⟨a1.Kind,false,false,(0:UInt8),a1.Id,false,(0:UInt16),[],false,false,false,(0:UInt8),false,none,[],[],[],[],false,(0:UInt8),[],[],none,a1.Codes,a1.Props⟩:fn113)) (some (⟨a1.Kind,false,false,(0:UInt8),(0:UInt16),false,(0:UInt16),[],false,false,false,(0:UInt8),false,none,[],[],[],[],false,(0:UInt8),[],[],none,none,none⟩:fn113)) else if decide (a1.Kind=6) then fn146_c2 a1.Kind (decide (a1.Kind=6)) a1 (⟨a1.Kind,false,false,(0:UInt8),(0:UInt16),false,(0:UInt16),[],false,false,false,(0:UInt8),false,none,[],[],[],[],false,(0:UInt8),[],[],none,none,none⟩:fn113) (fun x36=>some (⟨a1.Kind,false,false,(0:UInt8),x36,false,(0:UInt16),[],false,false,false,(0:UInt8),false,none,[],[],[],[],false,a1.Code,[],[],none,none,a1.Props⟩:fn113)) (some (⟨a1.Kind,false,false,(0:UInt8),a1.Id,false,(0:UInt16),[],false,false,false,(0:UInt8),false,none,[],[],[],[],false,(0:UInt8),[],[],a1.Filters,none,a1.Props⟩:fn113)) (some (⟨a1.Kind,false,false,(0:UInt8),a1.Id,false,(0:UInt16),[],false,false,false,(0:UInt8),false,none,[],[],[],[],false,(0:UInt8),[],[],none,a1.Codes,a1.Props⟩:fn113)) (some (⟨a1.Kind,false,false,(0:UInt8),(0:UInt16),false,(0:UInt16),[],false,false,false,(0:UInt8),false,none,[],[],[],[],false,(0:UInt8),[],[],none,none,none⟩:fn113)) else fn146_c2 a1.Kind (decide (a1.Kind=7)) a1 (⟨a1.Kind,false,false,(0:UInt8),(0:UInt16),false,(0:UInt16),[],false,false,false,(0:UInt8),false,none,[],[],[],[],false,(0:UInt8),[],[],none,none,none⟩:fn113) (fun x37=>some (⟨a1.Kind,false,false,(0:UInt8),x37,false,(0:UInt16),[],false,false,false,(0:UInt8),false,none,[],[],[],[],false,a1.Code,[],[],none,none,a1.Props⟩:fn113)) (some (⟨a1.Kind,false,false,(0:UInt8),a1.Id,false,(0:UInt16),[],false,false,false,(0:UInt8),false,none,[],[],[],[],false,(0:UInt8),[],[],a1.Filters,none,a1.Props⟩:fn113)) (some (⟨a1.Kind,false,false,(0:UInt8),a1.Id,false,(0:UInt16),[],false,false,false,(0:UInt8),false,none,[],[],[],[],false,(0:UInt8),[],[],none,a1.Codes,a1.Props⟩:fn113)) (some (⟨a1.Kind,false,false,(0:UInt8),(0:UInt16),false,(0:UInt16),[],false,false,false,(0:UInt8),false,none,[],[],[],[],false,(0:UInt8),[],[],none,none,none⟩:fn113))
def fn147_b0 {ρ:Type} (x3:Option (List fn163)) (x4:Option (List fn163)) (x5:Int) (kb_:Int->Option ρ) (k1_:Option ρ) (k2_:Option ρ):Option ρ :=
 if decide (x5 < ((L x3).length:Int)) then (ix (L x3) x5).bind fun x6=>(ix (L x4) x5).bind fun x7=>if !((decide (x6.Id=x7.Id)) && ((decide (x6.N=x7.N)) && ((decide (x6.A=x7.A)) && (decide (x6.B=x7.B))))) then k1_ else kb_ (w64 (x5 + 1)) else k2_
def fn147_l0 (x3:Option (List fn163)) (x4:Option (List fn163)) (z:Int):Option (Int ⊕ (Unit ⊕ Unit)) :=
 fn147_b0 x3 x4 z (fun x5=>some (.inl x5)) (some (.inr (.inl ()))) (some (.inr (.inr ())))
def fn147 (a1:Option (List fn163)) (a2:Option (List fn163)):Option Bool :=
 if !decide (((L a1).length:Int)=((L a2).length:Int)) then some false else (iter (fn147_l0 a1 a2) 0).bind fun|.inl _=>some false|.inr _=>some true
def fn148_b0 {ρ:Type} (x6:fn113) (x7:fn113) (x5:Int) (kb_:Int->Option ρ) (k1_:Option ρ) (k2_:Option ρ):Option ρ :=
 if decide (x5 < ((L x6.Filters).length:Int)) then (ix (L x6.Filters) x5).bind fun x8=>(ix (L x7.Filters) x5).bind fun x9=>if !((decide (x8.Text=x9.Text)) && (decide (x8.Opt=x9.Opt))) then k1_ else kb_ (w64 (x5 + 1)) else k2_
def fn148_l0 (x6:fn113) (x7:fn113) (z:Int):Option (Int ⊕ (Unit ⊕ Unit)) :=
 fn148_b0 x6 x7 z (fun x5=>some (.inl x5)) (some (.inr (.inl ()))) (some (.inr (.inr ())))
def fn148 (a1:fn113) (a2:fn113):Option Bool :=
 if !decide (((L a1.Filters).length:Int)=((L a2.Filters).length:Int)) then some false else if !decide (L a1.Codes=L a2.Codes) then some false else (fn147 a1.Props a2.Props).bind fun x3=>if !x3 then some false else (fn147 a1.WillProps a2.WillProps).bind fun x4=>if !x4 then some false else (iter (fn148_l0 a1 a2) 0).bind fun|.inl _=>some false|.inr _=>if !decide (a1.Kind=a2.Kind) then some false else if !(a1.Dup == a2.Dup) then some false else if !(a1.Retain == a2.Retain) then some false else if !decide (a1.QoS=a2.QoS) then some false else if !decide (a1.Id=a2.Id) then some false else if !(a1.Clean == a2.Clean) then some false else if !decide (a1.Keep=a2.Keep) then some false else if !decide (a1.Client=a2.Client) then some false else if !(a1.HasWill == a2.HasWill) then some false else if !(a1.HasUser == a2.HasUser) then some false else if !(a1.HasPass == a2.HasPass) then some false else if decide (a1.WillQoS=a2.WillQoS) then if a1.WillRetain == a2.WillRetain then if decide (a1.WillTopic=a2.WillTopic) then if decide (a1.WillLoad=a2.WillLoad) then if decide (a1.User=a2.User) then if decide (a1.Pass=a2.Pass) then if a1.Present == a2.Present then if decide (a1.Code=a2.Code) then if decide (a1.Topic=a2.Topic) then some (decide (a1.Load=a2.Load)) else some false else some false else some false else some false else some false else some false else some false else some false else some false
def fn149_c3 {ρ:Type} (x8:UInt8) (x9:Bool) (k1_:Int->Option ρ) (k2_:Option ρ):Option ρ :=
 if x9 then k1_ 5 else if decide (x8=(9:UInt8)) then if decide (x8=(9:UInt8)) then k1_ 6 else if decide (x8=(38:UInt8)) then k1_ 7 else k2_ else if decide (x8=(22:UInt8)) then k1_ 6 else if decide (x8=(38:UInt8)) then k1_ 7 else k2_
def fn149_c2 {ρ:Type} (x6:UInt8) (x7:Bool) (k1_:Int->Option ρ) (k2_:Option ρ):Option ρ :=
 if x7 then k1_ 3 else if decide (x6=(11:UInt8)) then k1_ 4 else if decide (x6=(3:UInt8)) then fn149_c3 x6 (decide (x6=(3:UInt8))) (fun x11=>k1_ x11) k2_ else if decide (x6=(8:UInt8)) then fn149_c3 x6 (decide (x6=(8:UInt8))) (fun x12=>k1_ x12) k2_ else if decide (x6=(18:UInt8)) then fn149_c3 x6 (decide (x6=(18:UInt8))) (fun x13=>k1_ x13) k2_ else if decide (x6=(21:UInt8)) then fn149_c3 x6 (decide (x6=(21:UInt8))) (fun x14=>k1_ x14) k2_ else if decide (x6=(26:UInt8)) then fn149_c3 x6 (decide (x6=(26:UInt8))) (fun x15=>k1_ x15) k2_ else if decide (x6=(28:UInt8)) then fn149_c3 x6 (decide (x6=(28:UInt8))) (fun x16=>k1_ x16) k2_ else fn149_c3 x6 (decide (x6=(31:UInt8))) (fun x17=>k1_ x17) k2_
def fn149_c1 {ρ:Type} (x4:UInt8) (x5:Bool) (k1_:Int->Option ρ) (k2_:Option ρ):Option ρ :=
 if x5 then k1_ 2 else if decide (x4=(2:UInt8)) then fn149_c2 x4 (decide (x4=(2:UInt8))) (fun x19=>k1_ x19) k2_ else if decide (x4=(17:UInt8)) then fn149_c2 x4 (decide (x4=(17:UInt8))) (fun x20=>k1_ x20) k2_ else if decide (x4=(24:UInt8)) then fn149_c2 x4 (decide (x4=(24:UInt8))) (fun x21=>k1_ x21) k2_ else fn149_c2 x4 (decide (x4=(39:UInt8))) (fun x22=>k1_ x22) k2_
def fn149_c0 {ρ:Type} (x2:UInt8) (x3:Bool) (k1_:Int->Option ρ) (k2_:Option ρ):Option ρ :=
 if x3 then k1_ 1 else if decide (x2=(19:UInt8)) then fn149_c1 x2 (decide (x2=(19:UInt8))) (fun x24=>k1_ x24) k2_ else if decide (x2=(33:UInt8)) then fn149_c1 x2 (decide (x2=(33:UInt8))) (fun x25=>k1_ x25) k2_ else if decide (x2=(34:UInt8)) then fn149_c1 x2 (decide (x2=(34:UInt8))) (fun x26=>k1_ x26) k2_ else fn149_c1 x2 (decide (x2=(35:UInt8))) (fun x27=>k1_ x27) k2_
def fn149 (a1:UInt8):Option Int :=
 if decide (a1=(1:UInt8)) then fn149_c0 a1 (decide (a1=(1:UInt8))) (fun x29=>some x29) (some 0) else if decide (a1=(23:UInt8)) then fn149_c0 a1 (decide (a1=(23:UInt8))) (fun x30=>some x30) (some 0) else if decide (a1=(25:UInt8)) then fn149_c0 a1 (decide (a1=(25:UInt8))) (fun x31=>some x31) (some 0) else if decide (a1=(36:UInt8)) then fn149_c0 a1 (decide (a1=(36:UInt8))) (fun x32=>some x32) (some 0) else if decide (a1=(37:UInt8)) then fn149_c0 a1 (decide (a1=(37:UInt8))) (fun x33=>some x33) (some 0) else if decide (a1=(40:UInt8)) then fn149_c0 a1 (decide (a1=(40:UInt8))) (fun x34=>some x34) (some 0) else if decide (a1=(41:UInt8)) then fn149_c0 a1 (decide (a1=(41:UInt8))) (fun x35=>some x35) (some 0) else fn149_c0 a1 (decide (a1=(42:UInt8))) (fun x36=>some x36) (some 0)
def fn150_b1 {ρ:Type} (x10:List UInt8) (x11:Int) (x12:Int) (x13:Int) (x15:Int) (kb_:Int->Int->Option ρ) (k1_:Option ρ) (k2_:Int->Option ρ):Option ρ :=
 if decide (x15 < x12) then (ix x10 (w64 (x11 + x15))).bind fun x16=>if decide ((w64 (x16.toNat:Int)) < 128) then k1_ else if decide ((w64 (x16.toNat:Int)) ≥ 192) then k1_ else kb_ (w64 ((w64 ((w64 (64 * x13)) + (w64 (x16.toNat:Int)))) - 128)) (w64 (x15 + 1)) else k2_ x13
def fn150_l1 (x10:List UInt8) (x11:Int) (x12:Int) (z:Int × Int):Option ((Int × Int) ⊕ (Unit ⊕ Int)) :=
 fn150_b1 x10 x11 x12 z.1 z.2 (fun x13 x15=>some (.inl (x13,x15))) (some (.inr (.inl ()))) (fun y17=>some (.inr (.inr y17)))
def fn150_c0 {ρ:Type} (x4:List UInt8) (x5:Int) (x6:Int) (x7:Int) (x8:Int) (x9:Int) (k1_:Int->Int->Option ρ):Option ρ :=
 if decide (x6 ≥ 248) then k1_ 0 0 else if decide ((w64 (x5 + x7)) > (x4.length:Int)) then k1_ 0 0 else (iter (fn150_l1 x4 x5 x7) (x8,1)).bind fun|.inl _=>k1_ 0 0|.inr x18=>if decide (x18 < x9) then k1_ 0 0 else if decide (x18 > 1114111) then k1_ 0 0 else if decide (x18 ≥ 55296) then if decide (x18 ≤ 57343) then k1_ 0 0 else k1_ x18 x7 else k1_ x18 x7
def fn150 (a1:List UInt8) (a2:Int):Option (Int × Int) :=
 (ix a1 a2).bind fun x3=>if decide ((w64 (x3.toNat:Int)) ≥ 240) then fn150_c0 a1 a2 (w64 (x3.toNat:Int)) 4 (w64 ((w64 (x3.toNat:Int)) - 240)) 65536 (fun x21 x22=>some (x21,x22)) else if decide ((w64 (x3.toNat:Int)) ≥ 224) then fn150_c0 a1 a2 (w64 (x3.toNat:Int)) 3 (w64 ((w64 (x3.toNat:Int)) - 224)) 2048 (fun x23 x24=>some (x23,x24)) else if decide ((w64 (x3.toNat:Int)) ≥ 192) then fn150_c0 a1 a2 (w64 (x3.toNat:Int)) 2 (w64 ((w64 (x3.toNat:Int)) - 192)) 128 (fun x25 x26=>some (x25,x26)) else if decide ((w64 (x3.toNat:Int)) ≥ 128) then some (0,0) else fn150_c0 a1 a2 (w64 (x3.toNat:Int)) 1 (w64 (x3.toNat:Int)) 1 (fun x27 x28=>some (x27,x28))
def fn121_b0 {ρ:Type} (x2:List UInt8) (x3:Int) (x4:Int) (kb_:Int->Int->Option ρ) (k1_:Option ρ) (k2_:Int->Option ρ):Option ρ :=
 if decide (x4 < (x2.length:Int)) then (fn150 x2 x4).bind fun (x5,x6)=>if decide (x6=0) then k1_ else kb_ (w64 (x3 + 1)) (w64 (x4 + x6)) else k2_ x3
def fn121_l0 (x2:List UInt8) (z:Int × Int):Option ((Int × Int) ⊕ (Unit ⊕ Int)) :=
 fn121_b0 x2 z.1 z.2 (fun x3 x4=>some (.inl (x3,x4))) (some (.inr (.inl ()))) (fun y7=>some (.inr (.inr y7)))
def fn121 (a1:List UInt8):Option Int :=
 if decide ((a1.length:Int) > 65535) then some (-1) else (iter (fn121_l0 a1) (0,0)).bind fun|.inl _=>some (-1)|.inr x8=>some x8
def fn122 (a1:List UInt8):Option Bool :=
 (fn121 a1).bind fun x2=>some (decide (x2 ≥ 0))
def fn167_b0 {ρ:Type} (x3:List UInt8) (x4:UInt8) (x5:Int) (kb_:Int->Option ρ) (k1_:Option ρ) (k2_:Option ρ):Option ρ :=
 if decide (x5 < (x3.length:Int)) then (ix x3 x5).bind fun x6=>if decide (x6=x4) then k1_ else kb_ (w64 (x5 + 1)) else k2_
def fn167_l0 (x3:List UInt8) (x4:UInt8) (z:Int):Option (Int ⊕ (Unit ⊕ Unit)) :=
 fn167_b0 x3 x4 z (fun x5=>some (.inl x5)) (some (.inr (.inl ()))) (some (.inr (.inr ())))
def fn167 (a1:List UInt8) (a2:UInt8):Option Bool :=
 (iter (fn167_l0 a1 a2) 0).bind fun|.inl _=>some true|.inr _=>some false
def fn151 (a1:List UInt8):Option Bool :=
 (fn167 a1 (43:UInt8)).bind fun x2=>if x2 then some true else (fn167 a1 (35:UInt8)).bind fun x3=>some x3
def fn125_c4 {ρ:Type} (x10:UInt8) (x11:Bool) (k1_:(Option (List Int))->Option ρ) (k2_:Option ρ):Option ρ :=
 if x11 then k1_ (some [1,2]) else if decide (x10=(35:UInt8)) then k1_ (some [3]) else if decide (x10=(38:UInt8)) then k1_ (some [1,2,3,4,5,6,7,8,9,10,11,14,15,16]) else k2_
def fn125_c3 {ρ:Type} (x8:UInt8) (x9:Bool) (k1_:(Option (List Int))->Option ρ) (k2_:Option ρ):Option ρ :=
 if x9 then k1_ (some [1]) else if decide (x8=(24:UInt8)) then k1_ (some [16]) else if decide (x8=(28:UInt8)) then k1_ (some [2,14]) else if decide (x8=(31:UInt8)) then k1_ (some [2,4,5,6,7,9,11,14,15]) else if decide (x8=(33:UInt8)) then fn125_c4 x8 (decide (x8=(33:UInt8))) (fun x13=>k1_ x13) k2_ else if decide (x8=(34:UInt8)) then fn125_c4 x8 (decide (x8=(34:UInt8))) (fun x14=>k1_ x14) k2_ else fn125_c4 x8 (decide (x8=(39:UInt8))) (fun x15=>k1_ x15) k2_
def fn125_c2 {ρ:Type} (x6:UInt8) (x7:Bool) (k1_:(Option (List Int))->Option ρ) (k2_:Option ρ):Option ρ :=
 if x7 then k1_ (some [1,2,15]) else if decide (x6=(23:UInt8)) then fn125_c3 x6 (decide (x6=(23:UInt8))) (fun x17=>k1_ x17) k2_ else fn125_c3 x6 (decide (x6=(25:UInt8))) (fun x18=>k1_ x18) k2_
def fn125_c1 {ρ:Type} (x4:UInt8) (x5:Bool) (k1_:(Option (List Int))->Option ρ) (k2_:Option ρ):Option ρ :=
 if x5 then k1_ (some [2]) else if decide (x4=(21:UInt8)) then fn125_c2 x4 (decide (x4=(21:UInt8))) (fun x20=>k1_ x20) k2_ else fn125_c2 x4 (decide (x4=(22:UInt8))) (fun x21=>k1_ x21) k2_
def fn125_c0 {ρ:Type} (x2:UInt8) (x3:Bool) (k1_:(Option (List Int))->Option ρ) (k2_:Option ρ):Option ρ :=
 if x3 then k1_ (some [3,16]) else if decide (x2=(11:UInt8)) then k1_ (some [3,8]) else if decide (x2=(17:UInt8)) then k1_ (some [1,2,14]) else if decide (x2=(18:UInt8)) then fn125_c1 x2 (decide (x2=(18:UInt8))) (fun x23=>k1_ x23) k2_ else if decide (x2=(19:UInt8)) then fn125_c1 x2 (decide (x2=(19:UInt8))) (fun x24=>k1_ x24) k2_ else if decide (x2=(26:UInt8)) then fn125_c1 x2 (decide (x2=(26:UInt8))) (fun x25=>k1_ x25) k2_ else if decide (x2=(36:UInt8)) then fn125_c1 x2 (decide (x2=(36:UInt8))) (fun x26=>k1_ x26) k2_ else if decide (x2=(37:UInt8)) then fn125_c1 x2 (decide (x2=(37:UInt8))) (fun x27=>k1_ x27) k2_ else if decide (x2=(40:UInt8)) then fn125_c1 x2 (decide (x2=(40:UInt8))) (fun x28=>k1_ x28) k2_ else if decide (x2=(41:UInt8)) then fn125_c1 x2 (decide (x2=(41:UInt8))) (fun x29=>k1_ x29) k2_ else fn125_c1 x2 (decide (x2=(42:UInt8))) (fun x30=>k1_ x30) k2_
def fn125 (a1:UInt8):Option (Option (List Int)) :=
 if decide (a1=(1:UInt8)) then fn125_c0 a1 (decide (a1=(1:UInt8))) (fun x32=>some x32) (some none) else if decide (a1=(2:UInt8)) then fn125_c0 a1 (decide (a1=(2:UInt8))) (fun x33=>some x33) (some none) else if decide (a1=(3:UInt8)) then fn125_c0 a1 (decide (a1=(3:UInt8))) (fun x34=>some x34) (some none) else if decide (a1=(8:UInt8)) then fn125_c0 a1 (decide (a1=(8:UInt8))) (fun x35=>some x35) (some none) else fn125_c0 a1 (decide (a1=(9:UInt8))) (fun x36=>some x36) (some none)
def fn168_b0 {ρ:Type} (x4:Int) (x5:Option (List Int)) (x6:Int) (kb_:Int->Option ρ) (k1_:Option ρ) (k2_:Option ρ):Option ρ :=
 if decide (x6 < ((L x5).length:Int)) then (ix (L x5) x6).bind fun x7=>if decide (x7=x4) then k1_ else kb_ (w64 (x6 + 1)) else k2_
def fn168_l0 (x4:Int) (x5:Option (List Int)) (z:Int):Option (Int ⊕ (Unit ⊕ Unit)) :=
 fn168_b0 x4 x5 z (fun x6=>some (.inl x6)) (some (.inr (.inl ()))) (some (.inr (.inr ())))
def fn168 (a1:UInt8) (a2:Int):Option Bool :=
 (fn125 a1).bind fun x3=>(iter (fn168_l0 a2 x3) 0).bind fun|.inl _=>some true|.inr _=>some false
def fn126 (a1:UInt8) (a2:Int):Option Bool :=
 (fn168 a1 a2).bind fun x3=>if x3 then if decide (a1=(38:UInt8)) then some true else if decide (a1=(11:UInt8)) then some (decide (a2=3)) else some false else some false
def fn169_b0 {ρ:Type} (x3:Option (List fn163)) (x4:UInt8) (x5:Int) (kb_:Int->Option ρ) (k1_:fn163->Option ρ) (k2_:Option ρ):Option ρ :=
 if decide (x5 < ((L x3).length:Int)) then (ix (L x3) x5).bind fun x7=>if decide (x7.Id=x4) then (ix (L x3) x5).bind fun x8=>k1_ x8 else kb_ (w64 (x5 + 1)) else k2_
def fn169_l0 (x3:Option (List fn163)) (x4:UInt8) (z:Int):Option (Int ⊕ (fn163 ⊕ Unit)) :=
 fn169_b0 x3 x4 z (fun x5=>some (.inl x5)) (fun y9=>some (.inr (.inl y9))) (some (.inr (.inr ())))
def fn169 (a1:Option (List fn163)) (a2:UInt8):Option (fn163 × Bool) :=
 (iter (fn169_l0 a1 a2) 0).bind fun|.inl x10=>some (x10,true)|.inr _=>some ((⟨(0:UInt8),(0:UInt32),[],[]⟩:fn163),false)
def fn128_b0 {ρ:Type} (x3:List UInt8) (x4:Int) (kb_:Int->Option ρ) (k1_:(List UInt8)->(List UInt8)->Int->Option ρ) (k2_:Option ρ):Option ρ :=
 if decide (x4 < (x3.length:Int)) then (ix x3 x4).bind fun x5=>if decide (x5=(47:UInt8)) then (slc x3 7 x4).bind fun x6=>(slc x3 (w64 (x4 + 1)) (x3.length:Int)).bind fun x7=>k1_ x6 x7 x4 else kb_ (w64 (x4 + 1)) else k2_
def fn128_l0 (x3:List UInt8) (z:Int):Option (Int ⊕ (((List UInt8) × (List UInt8) × Int) ⊕ Unit)) :=
 fn128_b0 x3 z (fun x4=>some (.inl x4)) (fun y8 y9 y10=>some (.inr (.inl (y8,y9,y10)))) (some (.inr (.inr ())))
def fn128 (a1:List UInt8):Option ((List UInt8) × (List UInt8) × Bool) :=
 if decide ((a1.length:Int) < 7) then some ([],[],false) else (slc a1 0 7).bind fun x2=>if !decide (x2=[36,115,104,97,114,101,47]) then some ([],[],false) else (iter (fn128_l0 a1) 7).bind fun|.inl (x11,x12,x13)=>some (x11,x12,true)|.inr _=>some ([],[],true)
def fn101_c1 {ρ:Type} (x7:List UInt8) (x8:Option (List (List UInt8))) (x9:Int) (x10:Int) (x11:Bool) (k1_:(Option (List (List UInt8)))->Int->Option ρ):Option ρ :=
 if x11 then (slc x7 x9 x10).bind fun x12=>(appO 16 x8 (some [x12])).bind fun x13=>k1_ x13 (w64 (x10 + 1)) else k1_ x8 x9
def fn101_b0 {ρ:Type} (x2:List UInt8) (x3:Option (List (List UInt8))) (x4:Int) (x5:Int) (kb_:(Option (List (List UInt8)))->Int->Int->Option ρ) (k1_:(Option (List (List UInt8)))->Option ρ):Option ρ :=
 if decide (x5 ≤ (x2.length:Int)) then if decide (x5=(x2.length:Int)) then fn101_c1 x2 x3 x4 x5 true (fun x16 x17=>kb_ x16 x17 (w64 (x5 + 1))) else (ix x2 x5).bind fun x6=>fn101_c1 x2 x3 x4 x5 (decide (x6=(47:UInt8))) (fun x18 x19=>kb_ x18 x19 (w64 (x5 + 1))) else k1_ x3
def fn101_l0 (x2:List UInt8) (z:(Option (List (List UInt8))) × Int × Int):Option (((Option (List (List UInt8))) × Int × Int) ⊕ (Option (List (List UInt8)))) :=
 fn101_b0 x2 z.1 z.2.1 z.2.2 (fun x3 x4 x5=>some (.inl (x3,x4,x5))) (fun y20=>some (.inr y20))
def fn101 (a1:List UInt8):Option (Option (List (List UInt8))) :=
 (iter (fn101_l0 a1) (none,0,0)).bind fun x21=>some x21
def fn129_b0 {ρ:Type} (x4:Option (List (List UInt8))) (x5:Int) (kb_:Int->Option ρ) (k1_:Option ρ) (k2_:Option ρ):Option ρ :=
 if decide (x5 < ((L x4).length:Int)) then (ix (L x4) x5).bind fun x6=>(fn167 x6 (43:UInt8)).bind fun x7=>if x7 then (ix (L x4) x5).bind fun x8=>if !decide (x8=[43]) then k1_ else (ix (L x4) x5).bind fun x9=>(fn167 x9 (35:UInt8)).bind fun x10=>if x10 then (ix (L x4) x5).bind fun x11=>if !decide (x11=[35]) then k1_ else if decide ((w64 (x5 + 1)) < ((L x4).length:Int)) then k1_ else kb_ (w64 (x5 + 1)) else kb_ (w64 (x5 + 1)) else (ix (L x4) x5).bind fun x12=>(fn167 x12 (35:UInt8)).bind fun x13=>if x13 then (ix (L x4) x5).bind fun x14=>if !decide (x14=[35]) then k1_ else if decide ((w64 (x5 + 1)) < ((L x4).length:Int)) then k1_ else kb_ (w64 (x5 + 1)) else kb_ (w64 (x5 + 1)) else k2_
def fn129_l0 (x4:Option (List (List UInt8))) (z:Int):Option (Int ⊕ (Unit ⊕ Unit)) :=
 fn129_b0 x4 z (fun x5=>some (.inl x5)) (some (.inr (.inl ()))) (some (.inr (.inr ())))
def fn129 (a1:List UInt8):Option Bool :=
 (fn101 a1).bind fun x2=>(iter (fn129_l0 x2) 0).bind fun|.inl _=>some false|.inr _=>some (decide ((a1.length:Int) > 0))
def fn102 (a1:List UInt8):Option Bool :=
 (fn122 a1).bind fun x2=>if !x2 then some false else (fn128 a1).bind fun (x3,x4,x5)=>if x5 then if decide ((x3.length:Int) > 0) then (fn151 x3).bind fun x6=>if !x6 then (fn129 x4).bind fun x7=>some x7 else some false else some false else (fn129 a1).bind fun x8=>some x8
def fn103 (a1:List UInt8):Option ((List UInt8) × (List UInt8) × Bool) :=
 (fn128 a1).bind fun (x2,x3,x4)=>if !x4 then some ([],[],false) else (fn102 a1).bind fun x5=>if !x5 then some ([],[],false) else some (x2,x3,true)
def fn130_c0 {ρ:Type} (x3:Int) (x4:Bool) (k1_:(Option (List Int))->Option ρ) (k2_:Option ρ):Option ρ :=
 if x4 then k1_ (some [0,0]) else if decide (x3=9) then k1_ (some [0,2,128,128]) else k2_
def fn130_c2 {ρ:Type} (x13:Int) (x14:Bool) (k1_:(Option (List Int))->Option ρ) (k2_:Option ρ):Option ρ :=
 if x14 then k1_ (some [0,0,146,146]) else if decide (x13=9) then k1_ (some [0,2,128,128,131,131,135,135,143,143,145,145,151,151,158,158,161,162]) else if decide (x13=11) then k1_ (some [0,0,17,17,128,128,131,131,135,135,143,143,145,145]) else if decide (x13=14) then k1_ (some [0,0,4,4,128,131,135,135,137,137,139,139,141,144,147,162]) else if decide (x13=15) then k1_ (some [0,0,24,25]) else k2_
def fn130_c1 {ρ:Type} (x11:Int) (x12:Bool) (k1_:(Option (List Int))->Option ρ) (k2_:Option ρ):Option ρ :=
 if x12 then k1_ (some [0,0,16,16,128,128,131,131,135,135,144,145,151,151,153,153]) else if decide (x11=6) then fn130_c2 x11 (decide (x11=6)) (fun x16=>k1_ x16) k2_ else fn130_c2 x11 (decide (x11=7)) (fun x17=>k1_ x17) k2_
def fn130 (a1:Int) (a2:Int):Option (Option (List Int)) :=
 if decide (a1=4) then if decide (a2=2) then some (some [0,5]) else if decide (a2=4) then fn130_c0 a2 (decide (a2=4)) (fun x6=>some x6) (some none) else if decide (a2=5) then fn130_c0 a2 (decide (a2=5)) (fun x7=>some x7) (some none) else if decide (a2=6) then fn130_c0 a2 (decide (a2=6)) (fun x8=>some x8) (some none) else if decide (a2=7) then fn130_c0 a2 (decide (a2=7)) (fun x9=>some x9) (some none) else fn130_c0 a2 (decide (a2=14)) (fun x10=>some x10) (some none) else if !decide (a1=5) then some none else if decide (a2=2) then some (some [0,0,128,138,140,140,144,144,149,149,151,151,153,157,159,159]) else if decide (a2=4) then fn130_c1 a2 (decide (a2=4)) (fun x19=>some x19) (some none) else fn130_c1 a2 (decide (a2=5)) (fun x20=>some x20) (some none)
def fn131_b0 {ρ:Type} (x5:UInt8) (x6:Option (List Int)) (x7:Int) (kb_:Int->Option ρ) (k1_:Option ρ) (k2_:Option ρ):Option ρ :=
 if decide ((w64 (x7 + 1)) < ((L x6).length:Int)) then (ix (L x6) x7).bind fun x8=>if decide ((w64 (x5.toNat:Int)) ≥ x8) then (ix (L x6) (w64 (x7 + 1))).bind fun x9=>if decide ((w64 (x5.toNat:Int)) ≤ x9) then k1_ else kb_ (w64 (x7 + 2)) else kb_ (w64 (x7 + 2)) else k2_
def fn131_l0 (x5:UInt8) (x6:Option (List Int)) (z:Int):Option (Int ⊕ (Unit ⊕ Unit)) :=
 fn131_b0 x5 x6 z (fun x7=>some (.inl x7)) (some (.inr (.inl ()))) (some (.inr (.inr ())))
def fn131 (a1:Int) (a2:Int) (a3:UInt8):Option Bool :=
 (fn130 a1 a2).bind fun x4=>(iter (fn131_l0 a3 x4) 0).bind fun|.inl _=>some true|.inr _=>some false
def fn104 (a1:Bool) (a2:UInt8):Option UInt8 :=
 if a1 then some a2 else some (0:UInt8)
def fn70 (a1:fn60):Option UInt8 :=
 if decide (a1.Kind=3) then (fn104 a1.Retain (1:UInt8)).bind fun x2=>(fn104 a1.Dup (8:UInt8)).bind fun x3=>some ((x2 ||| ((2:UInt8) * a1.QoS)) ||| x3) else if decide (a1.Kind=6) then if decide (a1.Kind=6) then some (2:UInt8) else some (0:UInt8) else if decide (a1.Kind=8) then if decide (a1.Kind=8) then some (2:UInt8) else some (0:UInt8) else if decide (a1.Kind=10) then some (2:UInt8) else some (0:UInt8)
def fn43 (a1:Int) (a2:Option (List UInt8)) (a3:Option (List fn140)):Option (Option (List UInt8)) :=
 if decide (a1=4) then some a2 else (fn120 a2 a3).bind fun x4=>some x4
def fn44_c1 {ρ:Type} (x21:Option (List UInt8)) (x22:fn60) (k1_:(Option (List UInt8))->Option ρ):Option ρ :=
 if x22.HasPass then (fn144 x21 x22.Pass).bind fun x23=>k1_ x23 else k1_ x21
def fn44_c0 {ρ:Type} (x18:Option (List UInt8)) (x19:fn60) (k1_:(Option (List UInt8))->Option ρ):Option ρ :=
 if x19.HasUser then (fn144 x18 x19.User).bind fun x20=>fn44_c1 x20 x19 (fun x25=>k1_ x25) else fn44_c1 x18 x19 (fun x26=>k1_ x26)
def fn44 (a1:Int) (a2:Option (List UInt8)) (a3:fn60):Option (Option (List UInt8)) :=
 (fn104 a3.Clean (2:UInt8)).bind fun x4=>(fn104 a3.HasWill (4:UInt8)).bind fun x5=>(fn104 a3.WillRetain (32:UInt8)).bind fun x6=>(fn104 a3.HasPass (64:UInt8)).bind fun x7=>(fn104 a3.HasUser (128:UInt8)).bind fun x8=>(fn144 a2 [77,81,84,84]).bind fun x9=>(fn117 x9 (u8 a1)).bind fun x10=>(fn117 x10 (((((x4 ||| x5) ||| ((8:UInt8) * a3.WillQoS)) ||| x6) ||| x7) ||| x8)).bind fun x11=>(fn142 x11 a3.Keep).bind fun x12=>(fn43 a1 x12 a3.Props).bind fun x13=>(fn144 x13 a3.Client).bind fun x14=>if a3.HasWill then (fn43 a1 x14 a3.WillProps).bind fun x15=>(fn144 x15 a3.WillTopic).bind fun x16=>(fn144 x16 a3.WillLoad).bind fun x17=>fn44_c0 x17 a3 (fun x28=>some x28) else fn44_c0 x14 a3 (fun x29=>some x29)
def fn12 (a1:Option (List UInt8)):Option (Option (List UInt8)) :=
 if a1.isNone then some none else (appO 1 (some []) a1).bind fun x2=>some x2
def fn105 (a1:Option (List UInt8)) (a2:UInt16):Option (Option (List UInt8)) :=
 (fn12 a1).bind fun x3=>(appO 1 x3 (some [u8 ((yv471 a2 ((8:UInt64).toNat:Int)).toNat:Int),u8 (a2.toNat:Int)])).bind fun x4=>some x4
def fn106_b0 {ρ:Type} (x4:UInt32) (x5:Option (List UInt8)) (kb_:UInt32->(Option (List UInt8))->Option ρ) (k1_:UInt32->(Option (List UInt8))->Option ρ):Option ρ :=
 if decide (x4 ≥ (128:UInt32)) then (appO 1 x5 (some [(u8 (x4.toNat:Int)) ||| (128:UInt8)])).bind fun x6=>kb_ (yv472 x4 ((7:UInt64).toNat:Int)) x6 else k1_ x4 x5
def fn106_l0 (z:UInt32 × (Option (List UInt8))):Option ((UInt32 × (Option (List UInt8))) ⊕ (UInt32 × (Option (List UInt8)))) :=
 fn106_b0 z.1 z.2 (fun x4 x5=>some (.inl (x4,x5))) (fun y7 y8=>some (.inr (y7,y8)))
def fn106 (a1:Option (List UInt8)) (a2:UInt32):Option (Option (List UInt8)) :=
 (fn12 a1).bind fun x3=>if decide (a2 > (268435455:UInt32)) then some x3 else (iter fn106_l0 (a2,x3)).bind fun (x9,x10)=>(appO 1 x10 (some [u8 (x9.toNat:Int)])).bind fun x11=>some x11
def fn84 (a1:Option (List UInt8)) (a2:Option (List fn140)):Option (Option (List UInt8)) :=
 (fn53 a2).bind fun (x3,x4)=>if !x4 then (fn12 a1).bind fun x5=>some x5 else (fn106 a1 (u32 ((L x3).length:Int))).bind fun x6=>(appO 1 x6 x3).bind fun x7=>some x7
def fn27 (a1:Int) (a2:Option (List UInt8)) (a3:Option (List fn140)):Option (Option (List UInt8)) :=
 if decide (a1=4) then some a2 else (fn84 a2 a3).bind fun x4=>some x4
def fn45_c0 {ρ:Type} (x6:Int) (x7:Option (List UInt8)) (x8:fn60) (k1_:(Option (List UInt8))->Option ρ):Option ρ :=
 (fn27 x6 x7 x8.Props).bind fun x9=>(appO 1 x9 (some x8.Load)).bind fun x10=>k1_ x10
def fn45 (a1:Int) (a2:Option (List UInt8)) (a3:fn60):Option (Option (List UInt8)) :=
 (fn144 a2 a3.Topic).bind fun x4=>if decide (a3.QoS > (0:UInt8)) then (fn105 x4 a3.Id).bind fun x5=>fn45_c0 a1 x5 a3 (fun x12=>some x12) else fn45_c0 a1 x4 a3 (fun x13=>some x13)
def fn85_c0 {ρ:Type} (x4:Option (List UInt8)) (x5:Bool) (x6:fn60) (k1_:Option ρ) (k2_:(Option (List UInt8))->Option ρ) (k3_:Option ρ):Option ρ :=
 if x5 then k1_ else if decide (((L x6.Props).length:Int)=0) then (fn117 x4 x6.Code).bind fun x7=>k2_ x7 else k3_
def fn85_c1 {ρ:Type} (x12:Option (List UInt8)) (x13:fn60) (k1_:(Option (List UInt8))->Option ρ):Option ρ :=
 (fn117 x12 x13.Code).bind fun x14=>(fn120 x14 x13.Props).bind fun x15=>k1_ x15
def fn85 (a1:Int) (a2:Option (List UInt8)) (a3:fn60):Option (Option (List UInt8)) :=
 if decide (a1=4) then fn85_c0 a2 (decide (a1=4)) a3 (some a2) (fun x9=>some x9) (fn85_c1 a2 a3 (fun x17=>some x17)) else if decide (a3.Code=(0:UInt8)) then fn85_c0 a2 (decide (((L a3.Props).length:Int)=0)) a3 (some a2) (fun x10=>some x10) (fn85_c1 a2 a3 (fun x18=>some x18)) else fn85_c0 a2 false a3 (some a2) (fun x11=>some x11) (fn85_c1 a2 a3 (fun x19=>some x19))
def fn46_b0 {ρ:Type} (x4:Option (List fn59)) (x5:Int) (x7:fn60) (x3:Option (List UInt8)) (x6:Int) (kb_:(Option (List UInt8))->Int->Option ρ) (k1_:(Option (List UInt8))->Option ρ):Option ρ :=
 if decide (x6 < x5) then (ix (L x4) x6).bind fun x8=>(fn144 x3 x8.Text).bind fun x9=>if decide (x7.Kind=8) then (appO 1 x9 (some [x8.Opt])).bind fun x10=>kb_ x10 (w64 (x6 + 1)) else kb_ x9 (w64 (x6 + 1)) else k1_ x3
def fn46_l0 (x4:Option (List fn59)) (x5:Int) (x7:fn60) (z:(Option (List UInt8)) × Int):Option (((Option (List UInt8)) × Int) ⊕ (Option (List UInt8))) :=
 fn46_b0 x4 x5 x7 z.1 z.2 (fun x3 x6=>some (.inl (x3,x6))) (fun y16=>some (.inr y16))
def fn46 (a1:Option (List UInt8)) (a2:fn60):Option (Option (List UInt8)) :=
 (iter (fn46_l0 a2.Filters ((L a2.Filters).length:Int) a2) (a1,0)).bind fun x17=>some x17
def fn86 (a1:Option (List UInt8)) (a2:UInt8):Option (Option (List UInt8)) :=
 (fn12 a1).bind fun x3=>(appO 1 x3 (some [a2])).bind fun x4=>some x4
def fn54_c0 {ρ:Type} (x4:Option (List UInt8)) (x5:Bool) (x6:fn60) (k1_:(Option (List UInt8))->Option ρ) (k2_:Option ρ):Option ρ :=
 if x5 then k1_ x4 else if decide (((L x6.Props).length:Int)=0) then (fn86 x4 x6.Code).bind fun x7=>k1_ x7 else k2_
def fn54_c1 {ρ:Type} (x12:Option (List UInt8)) (x13:fn60) (k1_:(Option (List UInt8))->Option ρ):Option ρ :=
 (fn86 x12 x13.Code).bind fun x14=>(fn84 x14 x13.Props).bind fun x15=>k1_ x15
def fn54 (a1:Int) (a2:Option (List UInt8)) (a3:fn60):Option (Option (List UInt8)) :=
 if decide (a1=4) then fn54_c0 a2 (decide (a1=4)) a3 (fun x9=>some x9) (fn54_c1 a2 a3 (fun x17=>some x17)) else if decide (a3.Code=(0:UInt8)) then fn54_c0 a2 (decide (((L a3.Props).length:Int)=0)) a3 (fun x10=>some x10) (fn54_c1 a2 a3 (fun x18=>some x18)) else fn54_c0 a2 false a3 (fun x11=>some x11) (fn54_c1 a2 a3 (fun x19=>some x19))
def fn107 (a1:Option (List UInt8)) (a2:List UInt8):Option (Option (List UInt8)) :=
 if decide ((a2.length:Int) > 65535) then (fn12 a1).bind fun x3=>some x3 else (fn105 a1 (u16 (a2.length:Int))).bind fun x4=>(appO 1 x4 (some a2)).bind fun x5=>some x5
def fn28_b0 {ρ:Type} (x4:Option (List fn59)) (x5:Int) (x7:fn60) (x3:Option (List UInt8)) (x6:Int) (kb_:(Option (List UInt8))->Int->Option ρ) (k1_:(Option (List UInt8))->Option ρ):Option ρ :=
 if decide (x6 < x5) then (ix (L x4) x6).bind fun x8=>(fn107 x3 x8.Text).bind fun x9=>if decide (x7.Kind=8) then (appO 1 x9 (some [x8.Opt])).bind fun x10=>kb_ x10 (w64 (x6 + 1)) else kb_ x9 (w64 (x6 + 1)) else k1_ x3
def fn28_l0 (x4:Option (List fn59)) (x5:Int) (x7:fn60) (z:(Option (List UInt8)) × Int):Option (((Option (List UInt8)) × Int) ⊕ (Option (List UInt8))) :=
 fn28_b0 x4 x5 x7 z.1 z.2 (fun x3 x6=>some (.inl (x3,x6))) (fun y16=>some (.inr y16))
def fn28 (a1:Option (List UInt8)) (a2:fn60):Option (Option (List UInt8)) :=
 (iter (fn28_l0 a2.Filters ((L a2.Filters).length:Int) a2) (a1,0)).bind fun x17=>some x17
def fn55_c3 {ρ:Type} (x33:Int) (x34:Option (List UInt8)) (x35:Bool) (x36:fn60) (k1_:(Option (List UInt8))->Option ρ) (k2_:Option ρ):Option ρ :=
 if x35 then (fn85 x33 x34 (⟨x36.Kind,x36.Dup,x36.Retain,x36.QoS,x36.Id,x36.Clean,x36.Keep,x36.Client,x36.HasWill,x36.HasUser,x36.HasPass,x36.WillQoS,x36.WillRetain,x36.WillProps,x36.WillTopic,x36.WillLoad,x36.User,x36.Pass,x36.Present,x36.Code,x36.Topic,x36.Load,x36.Filters,x36.Codes,x36.Props⟩:fn60)).bind fun x37=>k1_ x37 else k2_
def fn55_c2 {ρ:Type} (x25:Int) (x26:Option (List UInt8)) (x27:Int) (x28:Bool) (x29:fn60) (k1_:(Option (List UInt8))->Option ρ) (k2_:(Option (List UInt8))->Option ρ) (k3_:Option ρ):Option ρ :=
 if x28 then (fn142 x26 x29.Id).bind fun x30=>(fn27 x25 x30 x29.Props).bind fun x31=>(appO 1 x31 x29.Codes).bind fun x32=>k1_ x32 else if decide (x27=14) then fn55_c3 x25 x26 (decide (x27=14)) x29 (fun x39=>k2_ x39) k3_ else fn55_c3 x25 x26 (decide (x27=15)) x29 (fun x40=>k2_ x40) k3_
def fn55_c1 {ρ:Type} (x17:Int) (x18:Option (List UInt8)) (x19:Int) (x20:Bool) (x21:fn60) (k1_:(Option (List UInt8))->Option ρ) (k2_:(Option (List UInt8))->Option ρ) (k3_:Option ρ):Option ρ :=
 if x20 then (fn142 x18 x21.Id).bind fun x22=>(fn27 x17 x22 x21.Props).bind fun x23=>(fn28 x23 (⟨x21.Kind,x21.Dup,x21.Retain,x21.QoS,x21.Id,x21.Clean,x21.Keep,x21.Client,x21.HasWill,x21.HasUser,x21.HasPass,x21.WillQoS,x21.WillRetain,x21.WillProps,x21.WillTopic,x21.WillLoad,x21.User,x21.Pass,x21.Present,x21.Code,x21.Topic,x21.Load,x21.Filters,x21.Codes,x21.Props⟩:fn60)).bind fun x24=>k1_ x24 else if decide (x19=9) then fn55_c2 x17 x18 x19 (decide (x19=9)) x21 (fun x43=>k1_ x43) (fun x44=>k2_ x44) k3_ else fn55_c2 x17 x18 x19 (decide (x19=11)) x21 (fun x45=>k1_ x45) (fun x46=>k2_ x46) k3_
def fn55_c0 {ρ:Type} (x10:Int) (x11:Option (List UInt8)) (x12:Int) (x13:Bool) (x14:fn60) (k1_:(Option (List UInt8))->Option ρ) (k2_:(Option (List UInt8))->Option ρ) (k3_:Option ρ):Option ρ :=
 if x13 then (fn142 x11 x14.Id).bind fun x15=>(fn54 x10 x15 (⟨x14.Kind,x14.Dup,x14.Retain,x14.QoS,x14.Id,x14.Clean,x14.Keep,x14.Client,x14.HasWill,x14.HasUser,x14.HasPass,x14.WillQoS,x14.WillRetain,x14.WillProps,x14.WillTopic,x14.WillLoad,x14.User,x14.Pass,x14.Present,x14.Code,x14.Topic,x14.Load,x14.Filters,x14.Codes,x14.Props⟩:fn60)).bind fun x16=>k1_ x16 else if decide (x12=8) then fn55_c1 x10 x11 x12 (decide (x12=8)) x14 (fun x49=>k1_ x49) (fun x50=>k2_ x50) k3_ else fn55_c1 x10 x11 x12 (decide (x12=10)) x14 (fun x51=>k1_ x51) (fun x52=>k2_ x52) k3_
def fn55 (a1:Int) (a2:Option (List UInt8)) (a3:fn60):Option (Option (List UInt8)) :=
 if decide (a3.Kind=1) then (fn44 a1 a2 a3).bind fun x4=>some x4 else if decide (a3.Kind=2) then (fn104 a3.Present (1:UInt8)).bind fun x5=>(fn117 a2 x5).bind fun x6=>(fn86 x6 a3.Code).bind fun x7=>(fn27 a1 x7 a3.Props).bind fun x8=>some x8 else if decide (a3.Kind=3) then (fn45 a1 a2 a3).bind fun x9=>some x9 else if decide (a3.Kind=4) then fn55_c0 a1 a2 a3.Kind (decide (a3.Kind=4)) a3 (fun x55=>some x55) (fun x56=>some x56) (some a2) else if decide (a3.Kind=5) then fn55_c0 a1 a2 a3.Kind (decide (a3.Kind=5)) a3 (fun x57=>some x57) (fun x58=>some x58) (some a2) else if decide (a3.Kind=6) then fn55_c0 a1 a2 a3.Kind (decide (a3.Kind=6)) a3 (fun x59=>some x59) (fun x60=>some x60) (some a2) else fn55_c0 a1 a2 a3.Kind (decide (a3.Kind=7)) a3 (fun x61=>some x61) (fun x62=>some x62) (some a2)
def fn56 (a1:Int) (a2:fn60):Option ((Option (List UInt8)) × Int) :=
 (fn68 a1 a2).bind fun x3=>if !x3 then some (none,1) else (fn70 (⟨a2.Kind,a2.Dup,a2.Retain,a2.QoS,a2.Id,a2.Clean,a2.Keep,a2.Client,a2.HasWill,a2.HasUser,a2.HasPass,a2.WillQoS,a2.WillRetain,a2.WillProps,a2.WillTopic,a2.WillLoad,a2.User,a2.Pass,a2.Present,a2.Code,a2.Topic,a2.Load,a2.Filters,a2.Codes,a2.Props⟩:fn60)).bind fun x4=>(fn79 a1 a2).bind fun x5=>(fn143 (some [(yv714 (u8 a2.Kind) ((4:UInt64).toNat:Int)) ||| x4]) (u32 x5)).bind fun x6=>(fn55 a1 x6 (⟨a2.Kind,a2.Dup,a2.Retain,a2.QoS,a2.Id,a2.Clean,a2.Keep,a2.Client,a2.HasWill,a2.HasUser,a2.HasPass,a2.WillQoS,a2.WillRetain,a2.WillProps,a2.WillTopic,a2.WillLoad,a2.User,a2.Pass,a2.Present,a2.Code,a2.Topic,a2.Load,a2.Filters,a2.Codes,a2.Props⟩:fn60)).bind fun x7=>some (x7,0)
def fn71 (a1:UInt32):Option Int :=
 (fn143 none a1).bind fun x2=>some ((L x2).length:Int)
def fn87 (a1:Int) (a2:fn60):Option Int :=
 (fn68 a1 a2).bind fun x3=>if !x3 then some 0 else (fn79 a1 a2).bind fun x4=>(fn71 (u32 x4)).bind fun x5=>some (w64 ((w64 (1 + x5)) + x4))
def fn159:Option Bool :=
 (fn56 4 (⟨3,false,false,(1:UInt8),(7:UInt16),false,(0:UInt16),[],false,false,false,(0:UInt8),false,none,[],[],[],[],false,(0:UInt8),[97],[120],none,none,none⟩:fn60)).bind fun (x1,x2)=>if decide (x2=0) then if decide (L x1=[50,6,0,1,97,0,7,120]) then (fn87 4 (⟨3,false,false,(1:UInt8),(7:UInt16),false,(0:UInt16),[],false,false,false,(0:UInt8),false,none,[],[],[],[],false,(0:UInt8),[97],[120],none,none,none⟩:fn60)).bind fun x3=>if decide (x3=8) then (fn70 (⟨3,false,false,(1:UInt8),(7:UInt16),false,(0:UInt16),[],false,false,false,(0:UInt8),false,none,[],[],[],[],false,(0:UInt8),[97],[120],none,none,none⟩:fn60)).bind fun x4=>if decide (x4=(2:UInt8)) then (fn79 4 (⟨3,false,false,(1:UInt8),(7:UInt16),false,(0:UInt16),[],false,false,false,(0:UInt8),false,none,[],[],[],[],false,(0:UInt8),[97],[120],none,none,none⟩:fn60)).bind fun x5=>some (decide (x5=6)) else some false else some false else some false else some false
def fn176_b0 {ρ:Type} (x2:List UInt8) (x3:Option (List (List UInt8))) (x4:List UInt8) (x5:Int) (kb_:(List UInt8)->Int->Option ρ) (k1_:(List UInt8)->Option ρ):Option ρ :=
 if decide (x5 < (x2.length:Int)) then if decide (x5 < 8) then (ix x2 x5).bind fun x6=>(chk (decide (((L x3).length:Int) ≠ 0))).bind fun _=>(ix (L x3) ((w64 (x6.toNat:Int)).tmod ((L x3).length:Int))).bind fun x7=>(catS x4 x7).bind fun x8=>kb_ x8 (w64 (x5 + 1)) else k1_ x4 else k1_ x4
def fn176_l0 (x2:List UInt8) (x3:Option (List (List UInt8))) (z:(List UInt8) × Int):Option (((List UInt8) × Int) ⊕ (List UInt8)) :=
 fn176_b0 x2 x3 z.1 z.2 (fun x4 x5=>some (.inl (x4,x5))) (fun y9=>some (.inr y9))
def fn176 (a1:List UInt8):Option (List UInt8) :=
 (iter (fn176_l0 a1 (some [[97],[98],[97,98],[195,164],[226,130,172],[240,159,153,130],[49],[99]])) ([],0)).bind fun x10=>some x10
def fn177_b0 {ρ:Type} (x2:List UInt8) (x3:Option (List (List UInt8))) (x4:List UInt8) (x5:Int) (kb_:(List UInt8)->Int->Option ρ) (k1_:(List UInt8)->Option ρ):Option ρ :=
 if decide (x5 < (x2.length:Int)) then if decide (x5 < 8) then (ix x2 x5).bind fun x6=>(chk (decide (((L x3).length:Int) ≠ 0))).bind fun _=>(ix (L x3) ((w64 (x6.toNat:Int)).tmod ((L x3).length:Int))).bind fun x7=>(catS x4 x7).bind fun x8=>kb_ x8 (w64 (x5 + 1)) else k1_ x4 else k1_ x4
def fn177_l0 (x2:List UInt8) (x3:Option (List (List UInt8))) (z:(List UInt8) × Int):Option (((List UInt8) × Int) ⊕ (List UInt8)) :=
 fn177_b0 x2 x3 z.1 z.2 (fun x4 x5=>some (.inl (x4,x5))) (fun y9=>some (.inr y9))
def fn177 (a1:List UInt8):Option (List UInt8) :=
 (iter (fn177_l0 a1 (some [[97],[98],[47],[99],[100],[47],[195,164],[101]])) ([],0)).bind fun x10=>if decide (x10=[]) then some [97] else some x10
def fn178_b0 {ρ:Type} (x3:Int) (x4:Int) (x5:Option (List UInt8)) (x6:Int) (kb_:(Option (List UInt8))->Int->Option ρ) (k1_:(Option (List UInt8))->Option ρ):Option ρ :=
 if decide (x6 < 256) then (fn131 x3 x4 (u8 x6)).bind fun x7=>if x7 then (appO 1 x5 (some [u8 x6])).bind fun x8=>kb_ x8 (w64 (x6 + 1)) else kb_ x5 (w64 (x6 + 1)) else k1_ x5
def fn178_l0 (x3:Int) (x4:Int) (z:(Option (List UInt8)) × Int):Option (((Option (List UInt8)) × Int) ⊕ (Option (List UInt8))) :=
 fn178_b0 x3 x4 z.1 z.2 (fun x5 x6=>some (.inl (x5,x6))) (fun y9=>some (.inr y9))
def fn178 (a1:Int) (a2:Int):Option (Option (List UInt8)) :=
 (iter (fn178_l0 a1 a2) (none,0)).bind fun x10=>some x10
def fn179 (a1:Int) (a2:Int) (a3:UInt8):Option UInt8 :=
 (fn178 a1 a2).bind fun x4=>if decide (((L x4).length:Int)=0) then some (0:UInt8) else (chk (decide (((L x4).length:Int) ≠ 0))).bind fun _=>(ix (L x4) ((w64 (a3.toNat:Int)).tmod ((L x4).length:Int))).bind fun x5=>some x5
def fn180:Option (Option (List UInt8)) :=
 some (some [(1:UInt8),(2:UInt8),(3:UInt8),(8:UInt8),(9:UInt8),(11:UInt8),(17:UInt8),(18:UInt8),(19:UInt8),(21:UInt8),(22:UInt8),(23:UInt8),(24:UInt8),(25:UInt8),(26:UInt8),(28:UInt8),(31:UInt8),(33:UInt8),(34:UInt8),(35:UInt8),(36:UInt8),(37:UInt8),(38:UInt8),(39:UInt8),(40:UInt8),(41:UInt8),(42:UInt8)])
def fn181_b0 {ρ:Type} (x4:Int) (x6:Option (List UInt8)) (x5:Option (List UInt8)) (x7:Int) (kb_:(Option (List UInt8))->Int->Option ρ) (k1_:(Option (List UInt8))->Option ρ):Option ρ :=
 if decide (x7 < ((L x6).length:Int)) then (ix (L x6) x7).bind fun x10=>(fn168 x10 x4).bind fun x11=>if x11 then (ix (L x6) x7).bind fun x12=>(appO 1 x5 (some [x12])).bind fun x13=>kb_ x13 (w64 (x7 + 1)) else kb_ x5 (w64 (x7 + 1)) else k1_ x5
def fn181_l0 (x4:Int) (x6:Option (List UInt8)) (z:(Option (List UInt8)) × Int):Option (((Option (List UInt8)) × Int) ⊕ (Option (List UInt8))) :=
 fn181_b0 x4 x6 z.1 z.2 (fun x5 x7=>some (.inl (x5,x7))) (fun y14=>some (.inr y14))
def fn181 (a1:fn163) (a2:Int):Option fn163 :=
 (fn180).bind fun x3=>(iter (fn181_l0 a2 x3) (none,0)).bind fun x15=>if decide (((L x15).length:Int)=0) then some (⟨(0:UInt8),(0:UInt32),[],[]⟩:fn163) else (chk (decide (((L x15).length:Int) ≠ 0))).bind fun _=>(ix (L x15) ((w64 (a1.Id.toNat:Int)).tmod ((L x15).length:Int))).bind fun x16=>(fn149 x16).bind fun x17=>if decide (x17=1) then (chk (decide ((2:UInt32) ≠ 0))).bind fun _=>some (⟨x16,a1.N % (2:UInt32),[],[]⟩:fn163) else if decide (x17=2) then (chk (decide ((65535:UInt32) ≠ 0))).bind fun _=>some (⟨x16,(1:UInt32) + (a1.N % (65535:UInt32)),[],[]⟩:fn163) else if decide (x17=3) then if decide (x16=(39:UInt8)) then if decide (a1.N=(0:UInt32)) then some (⟨x16,(7:UInt32),[],[]⟩:fn163) else some (⟨x16,a1.N,[],[]⟩:fn163) else some (⟨x16,a1.N,[],[]⟩:fn163) else if decide (x17=4) then (chk (decide ((268435455:UInt32) ≠ 0))).bind fun _=>some (⟨x16,(1:UInt32) + (a1.N % (268435455:UInt32)),[],[]⟩:fn163) else if decide (x17=5) then (fn176 a1.A).bind fun x18=>if decide (x16=(8:UInt8)) then (fn177 a1.A).bind fun x19=>some (⟨x16,(0:UInt32),x19,[]⟩:fn163) else some (⟨x16,(0:UInt32),x18,[]⟩:fn163) else if decide (x17=6) then (slc a1.A 0 (imin (a1.A.length:Int) 9)).bind fun x20=>some (⟨x16,(0:UInt32),x20,[]⟩:fn163) else if decide (x17=7) then (fn176 a1.A).bind fun x21=>(fn176 a1.B).bind fun x22=>some (⟨x16,(0:UInt32),x21,x22⟩:fn163) else some (⟨x16,(0:UInt32),[],[]⟩:fn163)
def fn110_b1 {ρ:Type} (x5:Option (List fn163)) (x7:Int) (kb_:Option ρ) (k1_:Option ρ):Option ρ :=
 if decide (x7 > 0) then (ix (L x5) (w64 (x7 - 1))).bind fun x8=>(ix (L x5) x7).bind fun x9=>if decide (x8.Id > x9.Id) then (ix (L x5) x7).bind fun x10=>(ix (L x5) (w64 (x7 - 1))).bind fun x11=>(ix (L x5) (w64 (x7 - 1))).bind fun x12=>none else k1_ else k1_
def fn110_l1 (x5:Option (List fn163)) (x7:Int) (z:Unit):Option (Unit ⊕ Unit) :=
 fn110_b1 x5 x7 (some (.inl ())) (some (.inr ()))
def fn110_b0 {ρ:Type} (x3:Option (List fn163)) (x4:Int) (kb_:Int->Option ρ) (k1_:Option ρ):Option ρ :=
 if decide (x4 < ((L x3).length:Int)) then (iter (fn110_l1 x3 x4) ()).bind fun _=>kb_ (w64 (x4 + 1)) else k1_
def fn110_l0 (x3:Option (List fn163)) (z:Int):Option (Int ⊕ Unit) :=
 fn110_b0 x3 z (fun x4=>some (.inl x4)) (some (.inr ()))
def fn110 (a1:Option (List fn163)):Option (Option (List fn163)) :=
 (appO 40 (some []) a1).bind fun x2=>(iter (fn110_l0 x2) 1).bind fun _=>some x2
def fn111_b1 {ρ:Type} (x5:Nat) (x7:Int) (x8:List fn163) (kb_:Int->(List fn163)->Option ρ) (k1_:(List fn163)->Option ρ):Option ρ :=
 if decide (x7 > 0) then (chk (decide (0 ≤ (w64 (x7 - 1))∧(w64 (x7 - 1)) < ((x5:Nat):Int)))).bind fun _=>(ix x8 (w64 (x7 - 1))).bind fun x9=>(chk (decide (0 ≤ x7∧x7 < ((x5:Nat):Int)))).bind fun _=>(ix x8 x7).bind fun x10=>if decide (x9.Id > x10.Id) then (chk (decide (0 ≤ x7∧x7 < ((x5:Nat):Int)))).bind fun _=>(ix x8 x7).bind fun x11=>(chk (decide (0 ≤ (w64 (x7 - 1))∧(w64 (x7 - 1)) < ((x5:Nat):Int)))).bind fun _=>(ix x8 (w64 (x7 - 1))).bind fun x12=>(chk (decide (0 ≤ (w64 (x7 - 1))∧(w64 (x7 - 1)) < ((x5:Nat):Int)))).bind fun _=>((ix x8 (w64 (x7 - 1))).bind fun x13=>some x11).bind fun x14=>(chk (decide (0 ≤ x7∧x7 < ((x5:Nat):Int)))).bind fun _=>((ix (setR x8 (w64 (x7 - 1)).toNat x14) x7).bind fun x15=>some x12).bind fun x16=>kb_ (w64 (x7 - 1)) (setR (setR x8 (w64 (x7 - 1)).toNat x14) x7.toNat x16) else k1_ x8 else k1_ x8
def fn111_l1 (x5:Nat) (z:Int × (List fn163)):Option ((Int × (List fn163)) ⊕ (List fn163)) :=
 fn111_b1 x5 z.1 z.2 (fun x7 x8=>some (.inl (x7,x8))) (fun y17=>some (.inr y17))
def fn111_b0 {ρ:Type} (x2:Nat) (x3:Int) (x4:List fn163) (kb_:Int->(List fn163)->Option ρ) (k1_:(List fn163)->Option ρ):Option ρ :=
 if decide (x3 < ((x2:Nat):Int)) then (iter (fn111_l1 x2) (x3,x4)).bind fun x18=>kb_ (w64 (x3 + 1)) x18 else k1_ x4
def fn111_l0 (x2:Nat) (z:Int × (List fn163)):Option ((Int × (List fn163)) ⊕ (List fn163)) :=
 fn111_b0 x2 z.1 z.2 (fun x3 x4=>some (.inl (x3,x4))) (fun y19=>some (.inr y19))
def fn111 (a1:Option (List fn163)):Option (Option (List fn163)) :=
 (chk (decide ((L a1).length * 40 ≤ room∧(L a1).length ≤ room))).bind fun _=>(iter (fn111_l0 ((L a1).length)) (1,L a1)).bind fun x20=>(chk (decide (0 < ((L a1).length)∧((L a1).length) ≤ x20.length))).bind fun _=>some (some (x20.take ((L a1).length)))
def fn161 (a1:Option (List fn163)):Option (Option (List fn163)):=bif (L a1).isEmpty then fn110 a1 else fn111 a1
def fn182_b0 {ρ:Type} (x3:Option (List fn163)) (x4:Int) (x5:Option (List fn163)) (x6:Int) (kb_:(Option (List fn163))->Int->Option ρ) (k1_:fn163->Option ρ) (k2_:(Option (List fn163))->Option ρ):Option ρ :=
 if decide (x6 < ((L x3).length:Int)) then if decide (x6 < 8) then (ix (L x3) x6).bind fun x7=>(fn181 (⟨x7.Id,x7.N,x7.A,x7.B⟩:fn163) x4).bind fun x8=>if decide (x8.Id=(0:UInt8)) then k1_ x8 else (fn169 x5 x8.Id).bind fun (x9,x10)=>if x10 then (fn126 x8.Id x4).bind fun x11=>if !x11 then kb_ x5 (w64 (x6 + 1)) else (appO 40 x5 (some [x8])).bind fun x12=>kb_ x12 (w64 (x6 + 1)) else (appO 40 x5 (some [x8])).bind fun x13=>kb_ x13 (w64 (x6 + 1)) else k2_ x5 else k2_ x5
def fn182_l0 (x3:Option (List fn163)) (x4:Int) (z:(Option (List fn163)) × Int):Option (((Option (List fn163)) × Int) ⊕ (fn163 ⊕ ((Option (List fn163))))) :=
 fn182_b0 x3 x4 z.1 z.2 (fun x5 x6=>some (.inl (x5,x6))) (fun y18=>some (.inr (.inl y18))) (fun y19=>some (.inr (.inr y19)))
def fn182_c2 {ρ:Type} (x28:Option (List fn163)) (k1_:(Option (List fn163))->Option ρ):Option ρ :=
 (fn161 x28).bind fun x29=>k1_ x29
def fn182 (a1:Option (List fn163)) (a2:Int):Option (Option (List fn163)) :=
 (iter (fn182_l0 a1 a2) (none,0)).bind fun|.inl x20=>some none|.inr x21=>(fn169 x21 (22:UInt8)).bind fun (x22,x23)=>if x23 then (fn169 x21 (21:UInt8)).bind fun (x24,x25)=>if !x25 then (fn176 [109]).bind fun x26=>(appO 40 x21 (some [(⟨(21:UInt8),(0:UInt32),x26,[]⟩:fn163)])).bind fun x27=>fn182_c2 x27 (fun x31=>some x31) else fn182_c2 x21 (fun x32=>some x32) else fn182_c2 x21 (fun x33=>some x33)
def fn58_b0 {ρ:Type} (x2:List UInt8) (x3:Option (List (List UInt8))) (x4:List UInt8) (x5:Int) (kb_:(List UInt8)->Int->Option ρ) (k1_:(List UInt8)->Option ρ):Option ρ :=
 if decide (x5 < (x2.length:Int)) then if decide (x5 < 6) then (catS x4 [47]).bind fun x6=>(ix x2 x5).bind fun x7=>(chk (decide (8 ≠ 0))).bind fun _=>(ix (L x3) ((w64 (x7.toNat:Int)).tmod 8)).bind fun x8=>(catS x6 x8).bind fun x9=>kb_ x9 (w64 (x5 + 1)) else k1_ x4 else k1_ x4
def fn58_l0 (x2:List UInt8) (x3:Option (List (List UInt8))) (z:(List UInt8) × Int):Option (((List UInt8) × Int) ⊕ (List UInt8)) :=
 fn58_b0 x2 x3 z.1 z.2 (fun x4 x5=>some (.inl (x4,x5))) (fun y10=>some (.inr y10))
def fn58_c2 {ρ:Type} (x18:List UInt8) (x19:List UInt8) (k1_:(List UInt8)->Option ρ):Option ρ :=
 if decide ((x18.length:Int) > 2) then (ix x18 2).bind fun x20=>if decide (x20 ≥ (220:UInt8)) then k1_ [35] else k1_ x19 else k1_ x19
def fn58_c1 {ρ:Type} (x14:List UInt8) (x15:List UInt8) (k1_:(List UInt8)->Option ρ):Option ρ :=
 if decide ((x14.length:Int) > 1) then (ix x14 1).bind fun x16=>if decide (x16 ≥ (200:UInt8)) then (catS [36,115,104,97,114,101,47,103,47] x15).bind fun x17=>fn58_c2 x14 x17 (fun x22=>k1_ x22) else fn58_c2 x14 x15 (fun x23=>k1_ x23) else fn58_c2 x14 x15 (fun x24=>k1_ x24)
def fn58 (a1:List UInt8):Option (List UInt8) :=
 (iter (fn58_l0 a1 (some [[97],[43],[98],[],[99],[97],[43],[98]])) ([116],0)).bind fun x11=>if decide ((a1.length:Int) > 0) then (ix a1 0).bind fun x12=>if decide (x12 ≥ (200:UInt8)) then (catS x11 [47,35]).bind fun x13=>fn58_c1 a1 x13 (fun x26=>some x26) else fn58_c1 a1 x11 (fun x27=>some x27) else fn58_c1 a1 x11 (fun x28=>some x28)
def fn183_c7 {ρ:Type} (x44:Bool) (x47:fn113) (k1_:(Option (List fn163))->Option ρ):Option ρ :=
 if x44 then (appO 40 x47.Props (some [(⟨(21:UInt8),(0:UInt32),[109],[]⟩:fn163)])).bind fun x48=>(fn161 x48).bind fun x49=>k1_ x49 else k1_ x47.Props
def fn183_c8 {ρ:Type} (x54:fn113) (x56:fn113) (k1_:(List UInt8)->fn163->Option ρ):Option ρ :=
 (fn169 x56.Props (35:UInt8)).bind fun (x57,x58)=>if x58 then if decide (x54.Topic=[]) then k1_ [] x57 else k1_ x56.Topic x57 else k1_ x56.Topic x57
def fn183_c12 {ρ:Type} (x87:Int) (x88:Bool) (x89:fn113) (x92:fn112) (k1_:UInt8->Option ρ) (k2_:Option ρ):Option ρ :=
 if x88 then (ix (L x89.Filters) x87).bind fun x93=>(chk (decide ((4:UInt8) ≠ 0))).bind fun _=>(chk (decide ((2:UInt8) ≠ 0))).bind fun _=>(ix (L x89.Filters) x87).bind fun x94=>(chk (decide ((8:UInt8) ≠ 0))).bind fun _=>(chk (decide ((2:UInt8) ≠ 0))).bind fun _=>(ix (L x89.Filters) x87).bind fun x95=>(chk (decide ((16:UInt8) ≠ 0))).bind fun _=>(chk (decide ((3:UInt8) ≠ 0))).bind fun _=>k1_ (((x92.Opt + ((4:UInt8) * ((x93.Opt / (4:UInt8)) % (2:UInt8)))) + ((8:UInt8) * ((x94.Opt / (8:UInt8)) % (2:UInt8)))) + ((16:UInt8) * ((x95.Opt / (16:UInt8)) % (3:UInt8)))) else k2_
def fn183_c13 {ρ:Type} (x104:fn113) (x105:fn112) (k1_:(Option (List fn112))->Option ρ):Option ρ :=
 (appO 24 x104.Filters (some [x105])).bind fun x106=>k1_ x106
def fn183_c11 {ρ:Type} (x77:Int) (x78:Int) (x79:fn113) (x81:fn113) (x82:fn112) (k1_:(Option (List fn112))->fn112->Option ρ):Option ρ :=
 (fn103 x82.Text).bind fun (x83,x84,x85)=>if decide (x81.Kind=8) then if decide (x77=5) then fn183_c12 x78 (!x85) x79 x82 (fun x97=>fn183_c13 x81 (⟨x82.Text,x97⟩:fn112) (fun x108=>k1_ x108 (⟨x82.Text,x97⟩:fn112))) (fn183_c13 x81 x82 (fun x109=>k1_ x109 x82)) else fn183_c12 x78 false x79 x82 (fun x98=>fn183_c13 x81 (⟨x82.Text,x98⟩:fn112) (fun x110=>k1_ x110 (⟨x82.Text,x98⟩:fn112))) (fn183_c13 x81 x82 (fun x111=>k1_ x111 x82)) else fn183_c12 x78 false x79 x82 (fun x99=>fn183_c13 x81 (⟨x82.Text,x99⟩:fn112) (fun x112=>k1_ x112 (⟨x82.Text,x99⟩:fn112))) (fn183_c13 x81 x82 (fun x113=>k1_ x113 x82))
def fn183_b10 {ρ:Type} (x69:Int) (x71:fn113) (x70:Int) (x73:fn113) (kb_:Int->fn113->Option ρ) (k1_:fn113->Option ρ):Option ρ :=
 if decide (x70 < ((L x71.Filters).length:Int)) then if decide (x70 < 5) then (ix (L x71.Filters) x70).bind fun x74=>(fn58 x74.Text).bind fun x75=>(ix (L x71.Filters) x70).bind fun x76=>(chk (decide ((3:UInt8) ≠ 0))).bind fun _=>if decide (x73.Kind=10) then fn183_c11 x69 x70 x71 x73 (⟨x75,(0:UInt8)⟩:fn112) (fun x116 x117=>kb_ (w64 (x70 + 1)) ({x73 with Filters:=x116}:fn113)) else fn183_c11 x69 x70 x71 x73 (⟨x75,x76.Opt % (3:UInt8)⟩:fn112) (fun x118 x119=>kb_ (w64 (x70 + 1)) ({x73 with Filters:=x118}:fn113)) else k1_ x73 else k1_ x73
def fn183_l10 (x69:Int) (x71:fn113) (z:Int × fn113):Option ((Int × fn113) ⊕ fn113) :=
 fn183_b10 x69 x71 z.1 z.2 (fun x70 x73=>some (.inl (x70,x73))) (fun y125=>some (.inr y125))
def fn183_c17 {ρ:Type} (x136:Int) (x137:Int) (x138:fn113) (x140:fn113) (k1_:Int->(Option (List UInt8))->Option ρ):Option ρ :=
 (ix (L x138.Codes) x137).bind fun x141=>(fn179 x136 x140.Kind x141).bind fun x142=>(appO 1 x140.Codes (some [x142])).bind fun x143=>k1_ (w64 (x137 + 1)) x143
def fn183_b16 {ρ:Type} (x131:Int) (x133:fn113) (x132:Int) (x135:fn113) (kb_:Int->fn113->Option ρ) (k1_:fn113->Option ρ):Option ρ :=
 if decide (x132 < ((L x133.Codes).length:Int)) then if decide (x132 < 5) then if decide (x135.Kind=9) then fn183_c17 x131 x132 x133 x135 (fun x146 x147=>kb_ x146 ({x135 with Codes:=x147}:fn113)) else if decide (x135.Kind=11) then if decide (x131=5) then fn183_c17 x131 x132 x133 x135 (fun x148 x149=>kb_ x148 ({x135 with Codes:=x149}:fn113)) else k1_ x135 else k1_ x135 else k1_ x135 else k1_ x135
def fn183_l16 (x131:Int) (x133:fn113) (z:Int × fn113):Option ((Int × fn113) ⊕ fn113) :=
 fn183_b16 x131 x133 z.1 z.2 (fun x132 x135=>some (.inl (x132,x135))) (fun y150=>some (.inr y150))
def fn183_c18 {ρ:Type} (x153:fn113) (k1_:fn113->Option ρ):Option ρ :=
 (fn146 (⟨x153.Kind,x153.Dup,x153.Retain,x153.QoS,x153.Id,x153.Clean,x153.Keep,x153.Client,x153.HasWill,x153.HasUser,x153.HasPass,x153.WillQoS,x153.WillRetain,x153.WillProps,x153.WillTopic,x153.WillLoad,x153.User,x153.Pass,x153.Present,x153.Code,x153.Topic,x153.Load,x153.Filters,x153.Codes,x153.Props⟩:fn113)).bind fun x154=>k1_ x154
def fn183_c15 {ρ:Type} (x127:Int) (x128:fn113) (x130:fn113) (k1_:fn113->fn113->Option ρ):Option ρ :=
 (iter (fn183_l16 x127 x128) (0,x130)).bind fun x151=>if decide (((L x151.Codes).length:Int)=0) then if decide (x151.Kind=9) then fn183_c18 ({x151 with Codes:=(some [(0:UInt8)])}:fn113) (fun x156=>k1_ x156 ({x151 with Codes:=(some [(0:UInt8)])}:fn113)) else if decide (x151.Kind=11) then if decide (x127=5) then fn183_c18 ({x151 with Codes:=(some [(0:UInt8)])}:fn113) (fun x157=>k1_ x157 ({x151 with Codes:=(some [(0:UInt8)])}:fn113)) else fn183_c18 x151 (fun x158=>k1_ x158 x151) else fn183_c18 x151 (fun x159=>k1_ x159 x151) else fn183_c18 x151 (fun x160=>k1_ x160 x151)
def fn183_c9 {ρ:Type} (x65:Int) (x66:fn113) (x68:fn113) (k1_:fn113->fn113->Option ρ):Option ρ :=
 (iter (fn183_l10 x65 x66) (0,({x68 with Filters:=none,Codes:=none}:fn113))).bind fun x126=>if decide (((L x126.Filters).length:Int)=0) then fn183_c15 x65 x66 (⟨x126.Kind,x126.Dup,x126.Retain,x126.QoS,x126.Id,x126.Clean,x126.Keep,x126.Client,x126.HasWill,x126.HasUser,x126.HasPass,x126.WillQoS,x126.WillRetain,x126.WillProps,x126.WillTopic,x126.WillLoad,x126.User,x126.Pass,x126.Present,x126.Code,x126.Topic,x126.Load,(some [(⟨[97,47,43],(0:UInt8)⟩:fn112)]),x126.Codes,x126.Props⟩:fn113) (fun x163 x164=>k1_ x163 x164) else fn183_c15 x65 x66 x126 (fun x165 x166=>k1_ x165 x166)
def fn183_c6 {ρ:Type} (x35:Int) (x36:fn113) (x38:fn113) (k1_:fn113->fn113->Option ρ):Option ρ :=
 if decide (x35=5) then (fn182 x36.Props x38.Kind).bind fun x39=>(fn182 x36.WillProps 16).bind fun x40=>(fn169 x39 (21:UInt8)).bind fun (x41,x42)=>if decide (x38.Kind=15) then fn183_c7 (!x42) ({x38 with WillProps:=x40,Props:=x39}:fn113) (fun x51=>fn183_c8 x36 ({x38 with WillProps:=x40,Props:=x51}:fn113) (fun x61 x62=>fn183_c9 x35 x36 ({x38 with WillProps:=x40,Topic:=x61,Props:=x51}:fn113) (fun x169 x170=>k1_ x169 x170))) else fn183_c7 false ({x38 with WillProps:=x40,Props:=x39}:fn113) (fun x52=>fn183_c8 x36 ({x38 with WillProps:=x40,Props:=x52}:fn113) (fun x63 x64=>fn183_c9 x35 x36 ({x38 with WillProps:=x40,Topic:=x63,Props:=x52}:fn113) (fun x171 x172=>k1_ x171 x172))) else fn183_c9 x35 x36 ({x38 with WillProps:=none,Props:=none}:fn113) (fun x173 x174=>k1_ x173 x174)
def fn183_c5 {ρ:Type} (x30:Int) (x31:fn113) (x33:fn113) (k1_:fn113->fn113->Option ρ):Option ρ :=
 (fn179 x30 x33.Kind x31.Code).bind fun x34=>if x31.Present then fn183_c6 x30 x31 ({x33 with Present:=decide (x34=(0:UInt8)),Code:=x34}:fn113) (fun x177 x178=>k1_ x177 x178) else fn183_c6 x30 x31 ({x33 with Present:=false,Code:=x34}:fn113) (fun x179 x180=>k1_ x179 x180)
def fn183_c4 {ρ:Type} (x26:Int) (x27:fn113) (x29:fn113) (k1_:fn113->fn113->Option ρ):Option ρ :=
 if x27.Clean then fn183_c5 x26 x27 ({x29 with Clean:=true}:fn113) (fun x183 x184=>k1_ x183 x184) else if decide (x26=4) then fn183_c5 x26 x27 ({x29 with Clean:=decide (x29.Client=[])}:fn113) (fun x185 x186=>k1_ x185 x186) else fn183_c5 x26 x27 ({x29 with Clean:=false}:fn113) (fun x187 x188=>k1_ x187 x188)
def fn183_c3 {ρ:Type} (x22:Int) (x23:fn113) (x25:fn113) (k1_:fn113->fn113->Option ρ):Option ρ :=
 if x23.HasPass then if decide (x22=5) then fn183_c4 x22 x23 ({x25 with HasPass:=true}:fn113) (fun x191 x192=>k1_ x191 x192) else fn183_c4 x22 x23 ({x25 with HasPass:=x23.HasUser}:fn113) (fun x193 x194=>k1_ x193 x194) else fn183_c4 x22 x23 ({x25 with HasPass:=false}:fn113) (fun x195 x196=>k1_ x195 x196)
def fn183_c2 {ρ:Type} (x18:Int) (x19:fn113) (x21:fn113) (k1_:fn113->fn113->Option ρ):Option ρ :=
 if decide (x21.Kind=3) then if decide (x21.QoS=(0:UInt8)) then fn183_c3 x18 x19 ({x21 with Id:=(0:UInt16)}:fn113) (fun x199 x200=>k1_ x199 x200) else fn183_c3 x18 x19 x21 (fun x201 x202=>k1_ x201 x202) else fn183_c3 x18 x19 x21 (fun x203 x204=>k1_ x203 x204)
def fn183_c1 {ρ:Type} (x14:Int) (x15:fn113) (x17:fn113) (k1_:fn113->fn113->Option ρ):Option ρ :=
 if decide (x17.Id=(0:UInt16)) then fn183_c2 x14 x15 ({x17 with Id:=(1:UInt16)}:fn113) (fun x207 x208=>k1_ x207 x208) else fn183_c2 x14 x15 x17 (fun x209 x210=>k1_ x209 x210)
def fn183_c0 {ρ:Type} (x3:Int) (x4:Int) (x5:fn113) (k1_:fn113->fn113->Option ρ):Option ρ :=
 (chk (decide ((u64 x4) ≠ 0))).bind fun _=>(fn176 x5.Client).bind fun x7=>(fn176 x5.User).bind fun x8=>(fn177 x5.Topic).bind fun x9=>(fn177 x5.WillTopic).bind fun x10=>(slc x5.Pass 0 (imin (x5.Pass.length:Int) 9)).bind fun x11=>(slc x5.WillLoad 0 (imin (x5.WillLoad.length:Int) 9)).bind fun x12=>(slc x5.Load 0 (imin (x5.Load.length:Int) 40)).bind fun x13=>(chk (decide ((3:UInt8) ≠ 0))).bind fun _=>(chk (decide ((3:UInt8) ≠ 0))).bind fun _=>if x5.Dup then fn183_c1 x3 x5 (⟨w64 (1 + (w64 (((u64 x5.Kind) % (u64 x4)).toNat:Int))),decide ((x5.QoS % (3:UInt8)) > (0:UInt8)),x5.Retain,x5.QoS % (3:UInt8),x5.Id,x5.Clean,x5.Keep,x7,x5.HasWill,x5.HasUser,x5.HasPass,x5.WillQoS % (3:UInt8),x5.WillRetain,x5.WillProps,x10,x12,x8,x11,x5.Present,x5.Code,x9,x13,x5.Filters,x5.Codes,x5.Props⟩:fn113) (fun x213 x214=>k1_ x213 x214) else fn183_c1 x3 x5 (⟨w64 (1 + (w64 (((u64 x5.Kind) % (u64 x4)).toNat:Int))),false,x5.Retain,x5.QoS % (3:UInt8),x5.Id,x5.Clean,x5.Keep,x7,x5.HasWill,x5.HasUser,x5.HasPass,x5.WillQoS % (3:UInt8),x5.WillRetain,x5.WillProps,x10,x12,x8,x11,x5.Present,x5.Code,x9,x13,x5.Filters,x5.Codes,x5.Props⟩:fn113) (fun x215 x216=>k1_ x215 x216)
def fn183 (a1:Int) (a2:fn113):Option fn113 :=
 if decide (a1=5) then fn183_c0 a1 15 a2 (fun x219 x220=>some x219) else fn183_c0 a1 14 a2 (fun x221 x222=>some x221)
def fn48 (a1:Int) (a2:fn113) (a3:fn113):Option Bool :=
 (chk (decide ((2:UInt64) ≠ 0))).bind fun _=>(fn183 (w64 (4 + (w64 (((u64 a1) % (2:UInt64)).toNat:Int)))) a2).bind fun x4=>(fn183 (w64 (4 + (w64 (((u64 a1) % (2:UInt64)).toNat:Int)))) (⟨a3.Kind,a3.Dup,a3.Retain,a3.QoS,a3.Id,a3.Clean,a3.Keep,a3.Client,a3.HasWill,a3.HasUser,a3.HasPass,a3.WillQoS,a3.WillRetain,a3.WillProps,a3.WillTopic,a3.WillLoad,a3.User,a3.Pass,a3.Present,a3.Code,a3.Topic,a3.Load,a3.Filters,a3.Codes,a3.Props⟩:fn113)).bind fun x5=>(l07_To (⟨x4.Kind,x4.Dup,x4.Retain,x4.QoS,x4.Id,x4.Clean,x4.Keep,x4.Client,x4.HasWill,x4.HasUser,x4.HasPass,x4.WillQoS,x4.WillRetain,x4.WillProps,x4.WillTopic,x4.WillLoad,x4.User,x4.Pass,x4.Present,x4.Code,x4.Topic,x4.Load,x4.Filters,x4.Codes,x4.Props⟩:fn113)).bind fun x6=>(fn56 (w64 (4 + (w64 (((u64 a1) % (2:UInt64)).toNat:Int)))) (⟨x6.Kind,x6.Dup,x6.Retain,x6.QoS,x6.Id,x6.Clean,x6.Keep,x6.Client,x6.HasWill,x6.HasUser,x6.HasPass,x6.WillQoS,x6.WillRetain,x6.WillProps,x6.WillTopic,x6.WillLoad,x6.User,x6.Pass,x6.Present,x6.Code,x6.Topic,x6.Load,x6.Filters,x6.Codes,x6.Props⟩:fn60)).bind fun (x7,x8)=>(l07_To (⟨x5.Kind,x5.Dup,x5.Retain,x5.QoS,x5.Id,x5.Clean,x5.Keep,x5.Client,x5.HasWill,x5.HasUser,x5.HasPass,x5.WillQoS,x5.WillRetain,x5.WillProps,x5.WillTopic,x5.WillLoad,x5.User,x5.Pass,x5.Present,x5.Code,x5.Topic,x5.Load,x5.Filters,x5.Codes,x5.Props⟩:fn113)).bind fun x9=>(fn56 (w64 (4 + (w64 (((u64 a1) % (2:UInt64)).toNat:Int)))) (⟨x9.Kind,x9.Dup,x9.Retain,x9.QoS,x9.Id,x9.Clean,x9.Keep,x9.Client,x9.HasWill,x9.HasUser,x9.HasPass,x9.WillQoS,x9.WillRetain,x9.WillProps,x9.WillTopic,x9.WillLoad,x9.User,x9.Pass,x9.Present,x9.Code,x9.Topic,x9.Load,x9.Filters,x9.Codes,x9.Props⟩:fn60)).bind fun (x10,x11)=>(fn159).bind fun x12=>if !x12 then some false else if !decide (x8=0) then some false else if !decide (x11=0) then some false else (fn148 (⟨x4.Kind,x4.Dup,x4.Retain,x4.QoS,x4.Id,x4.Clean,x4.Keep,x4.Client,x4.HasWill,x4.HasUser,x4.HasPass,x4.WillQoS,x4.WillRetain,x4.WillProps,x4.WillTopic,x4.WillLoad,x4.User,x4.Pass,x4.Present,x4.Code,x4.Topic,x4.Load,x4.Filters,x4.Codes,x4.Props⟩:fn113) (⟨x5.Kind,x5.Dup,x5.Retain,x5.QoS,x5.Id,x5.Clean,x5.Keep,x5.Client,x5.HasWill,x5.HasUser,x5.HasPass,x5.WillQoS,x5.WillRetain,x5.WillProps,x5.WillTopic,x5.WillLoad,x5.User,x5.Pass,x5.Present,x5.Code,x5.Topic,x5.Load,x5.Filters,x5.Codes,x5.Props⟩:fn113)).bind fun x13=>if !((decide (L x7=L x10)) == x13) then some false else if decide (((L x7).length:Int) ≥ ((L x10).length:Int)) then some true else (slO x10 0 ((L x7).length:Int)).bind fun x14=>some (!decide (L x14=L x7))
end Go.Rv
