/- Plain laws. -/
import Derived.Test.YtlmnicmjhcblcaaGreatDoorTextA
set_option linter.unusedSimpArgs false
set_option linter.unusedVariables false
set_option maxRecDepth 100000
namespace Go.Rv
open Go.Lib
structure FixP (v:Int) (x:fn113):Prop where
 hv:v=4∨v=5
 kd:1 ≤ x.Kind∧x.Kind ≤ 15∧(v=4->x.Kind ≤ 14)
 cl:good x.Client=true∧x.Client.length ≤ 40
 us:good x.User=true∧x.User.length ≤ 40
 tp:(nameB x.Topic=true∨(v=5∧x.Topic=[]∧hasId (L x.Props) 35=true))∧x.Topic.length ≤ 40∧good x.Topic=true
 wt:nameB x.WillTopic=true∧x.WillTopic.length ≤ 40∧good x.WillTopic=true
 sz:x.Pass.length ≤ 9∧x.WillLoad.length ≤ 9∧x.Load.length ≤ 40
 q:¬ x.QoS > 2
 wq:¬ x.WillQoS > 2
 dup:x.Dup=true->x.QoS ≠ 0
 id3:x.Kind=3->(x.Id=0 ↔ x.QoS=0)
 id0:x.Kind ≠ 3->x.Id ≠ 0
 hp:v=4->x.HasPass=true->x.HasUser=true
 cln:v=4->x.Client=[]->x.Clean=true
 code:knB v x.Kind 0=true->knB v x.Kind x.Code=true
 pres:x.Present=true->x.Code=0
 pc:xv7 x.Kind (L x.Props)=true
 pl:(L x.Props).length ≤ 20
 ps:∀ a ∈ L x.Props,a.A.length ≤ 100∧a.B.length ≤ 100
 p4:v=4->L x.Props=[]
 wc:xv7 16 (L x.WillProps)=true
 wl:(L x.WillProps).length ≤ 20
 ws:∀ a ∈ L x.WillProps,a.A.length ≤ 100∧a.B.length ≤ 100
 w4:v=4->L x.WillProps=[]
 auth:x.Kind=15->hasId (L x.Props) 21=true
 fl:1 ≤ (L x.Filters).length∧(L x.Filters).length ≤ 20
 ft:∀ f ∈ L x.Filters,f.Text.length ≤ 100
 fw:x.Kind=8∨x.Kind=10->∀ f ∈ L x.Filters,wantN v x.Kind f=true
 cdl:(L x.Codes).length ≤ 20
 cd:x.Kind=9∨(x.Kind=11∧v=5)->1 ≤ (L x.Codes).length∧∀ c ∈ L x.Codes,knB v x.Kind c=true
 cd4:v=4->x.Kind=11->(L x.Codes).length=0
theorem xv315 {p:fn113} (h:FewR (nR p)):FewR p:=⟨h.wp,h.pp,h.fl,h.tx,h.ft,h.pt,h.wt⟩
theorem xv4 (k:Int):xv7 k []=true:=rfl
theorem xv65 {s:List UInt8} (h:good s=true) (hl:s.length ≤ 40):textB s=true:=by
 have:s.length ≤ 65535:=by omega
 simp [textB,h,this]
theorem xv215 {v:Int} {x:fn113} (h:FixP v x):FewR (bareN (nR x)):=by
 obtain ⟨hv,kd,cl,us,tp,wt,sz,q,wq,dup,id3,id0,hp,cln,code,pres,pc,pl,ps,p4,wc,wl,ws,w4,auth,fl,ft,fw,cdl,cd,cd4⟩:=h
 have hps:∀ a ∈ L x.Props,a.A.length ≤ 300∧a.B.length ≤ 300:=fun a ha=>⟨by have:=ps a ha;omega,by have:=ps a ha;omega⟩
 have hws:∀ a ∈ L x.WillProps,a.A.length ≤ 300∧a.B.length ≤ 300:=fun a ha=>⟨by have:=ws a ha;omega,by have:=ws a ha;omega⟩
 have hft:∀ f ∈ L x.Filters,f.Text.length ≤ 300:=fun f hf=>by have:=ft f hf;omega
 have n0:∀ (l:List fn163),∀ a ∈ ([]:List fn163),a.A.length ≤ 300∧a.B.length ≤ 300:=fun _ a ha=>by cases ha
 simp only [bareN]
 by_cases k1:(nR x).Kind=1
 ·rw [if_pos k1]
  refine ⟨?_,?_,?_,?_,?_,?_,?_⟩
  ·by_cases hw:x.HasWill=true<;>simp [nR,hw]<;>omega
  ·simp only [nR,xv1];omega
  ·simp
  ·by_cases hw:x.HasWill=true<;>by_cases hu:x.HasUser=true<;>by_cases hp':x.HasPass=true<;>simp [nR,hw,hu,hp']<;>omega
  ·simp
  ·simpa only [nR,xv1] using hps
  ·by_cases hw:x.HasWill=true
   ·simpa [nR,hw] using hws
   ·simp [nR,hw]
 rw [if_neg k1]
 by_cases k2:(nR x).Kind=2
 ·rw [if_pos k2];exact ⟨by simp [z0],by simp only [z0,nR,xv1];omega,by simp [z0],by simp [z0],by simp [z0],by simpa only [z0,nR,xv1] using hps,by simp [z0]⟩
 rw [if_neg k2]
 by_cases k3:(nR x).Kind=3
 ·rw [if_pos k3];exact ⟨by simp [z0],by simp only [z0,nR,xv1];omega,by simp [z0],by simp [z0,nR];omega,by simp [z0],by simpa only [z0,nR,xv1] using hps,by simp [z0]⟩
 rw [if_neg k3]
 by_cases k4:(nR x).Kind=4∨(nR x).Kind=5∨(nR x).Kind=6∨(nR x).Kind=7
 ·rw [if_pos k4];exact ⟨by simp [z0],by simp only [z0,nR,xv1];omega,by simp [z0],by simp [z0],by simp [z0],by simpa only [z0,nR,xv1] using hps,by simp [z0]⟩
 rw [if_neg k4]
 by_cases k5:(nR x).Kind=8∨(nR x).Kind=10
 ·rw [if_pos k5];exact ⟨by simp [z0],by simp only [z0,nR,xv1];omega,by simp only [z0,nR,xv1];omega,by simp [z0],by simpa only [z0,nR,xv1] using hft,by simpa only [z0,nR,xv1] using hps,by simp [z0]⟩
 rw [if_neg k5]
 by_cases k6:(nR x).Kind=9∨(nR x).Kind=11
 ·rw [if_pos k6];exact ⟨by simp [z0],by simp only [z0,nR,xv1];omega,by simp [z0],by simp [z0,nR];omega,by simp [z0],by simpa only [z0,nR,xv1] using hps,by simp [z0]⟩
 rw [if_neg k6]
 by_cases k7:(nR x).Kind=14∨(nR x).Kind=15
 ·rw [if_pos k7];exact ⟨by simp [z0],by simp only [z0,nR,xv1];omega,by simp [z0],by simp [z0],by simp [z0],by simpa only [z0,nR,xv1] using hps,by simp [z0]⟩
 rw [if_neg k7]
 exact ⟨by simp [z0],by simp [z0],by simp [z0],by simp [z0],by simp [z0],by simp [z0],by simp [z0]⟩
theorem xv120 {v:Int} {x:fn113} (h:FixP v x):xv6 v (bareN (nR x))=true:=by
 obtain ⟨hv,kd,cl,us,tp,wt,sz,q,wq,dup,id3,id0,hp,cln,code,pres,pc,pl,ps,p4,wc,wl,ws,w4,auth,fl,ft,fw,cdl,cd,cd4⟩:=h
 obtain ⟨Kind,Dup,Retain,QoS,Id,Clean,Keep,Client,HasWill,HasUser,HasPass,WillQoS,WillRetain,WillProps,WillTopic,WillLoad,User,Pass,Present,Code,Topic,Load,Filters,Codes,Props⟩:=x
 simp only at kd cl us tp wt sz q wq dup id3 id0 hp cln code pres pc pl ps p4 wc wl ws w4 auth fl ft fw cdl cd cd4
 have tcl:=xv65 cl.1 cl.2
 have tus:=xv65 us.1 us.2
 have ttp:=xv65 tp.2.2 tp.2.1
 have twt:=xv65 wt.2.2 wt.2.1
 have tn:=xv193
 have hlp:v=4->¬ (L Props).length > 0:=fun h=>by rw [p4 h];simp
 have hlw:v=4->¬ (L WillProps).length > 0:=fun h=>by rw [w4 h];simp
 have hsum:(v=4->¬ (L Props).length + (L WillProps).length > 0):=fun h=>by have:=hlp h;have:=hlw h;omega
 have z9:Pass.length ≤ 65535:=by omega
 have z8:WillLoad.length ≤ 65535:=by omega
 have cn:xv7 16 []=true:=rfl
 have kk:Kind=1∨Kind=2∨Kind=3∨Kind=4∨Kind=5∨Kind=6∨Kind=7∨Kind=8∨Kind=9∨Kind=10∨Kind=11∨Kind=12∨Kind=13∨Kind=14∨Kind=15:=by omega
 have pcs:∀ p:Prop,[Decidable p]->(¬ p)->(!decide p)=true:=fun p _ h=>by simp [h]
 have u2:∀ u:UInt8,u ≠ 0->decide (u=0)=false:=fun u h=>decide_eq_false h
 have hv2:(decide (v=4) || decide (v=5))=true:=by rcases hv with rfl|rfl<;>rfl
 have hs40:(!(decide (v=4) && decide ((L Props).length + 0 > 0)))=true:=by
  by_cases h4:v=4
  ·have:=hlp h4;simp only [decide_eq_true h4,Nat.add_zero,decide_eq_false this];rfl
  ·simp only [decide_eq_false h4];rfl
 have h4p:¬ v=4∨L Props=[]:=by
  by_cases h4:v=4
  ·exact .inr (p4 h4)
  ·exact .inl h4
 rcases kk with rfl|rfl|rfl|rfl|rfl|rfl|rfl|rfl|rfl|rfl|rfl|rfl|rfl|rfl|rfl
 ·have hc:v=5∨((HasUser=true∨HasPass=false)∧(Clean=true∨¬ Client=[])):=by
   rcases hv with rfl|rfl
   ·refine .inr ⟨?_,?_⟩
    ·cases hpp:HasPass
     ·exact .inr rfl
     ·exact .inl (hp rfl hpp)
    ·by_cases hc:Client=[]
     ·exact .inl (cln rfl hc)
     ·exact .inr hc
   ·exact .inl rfl
  have hc2:(decide (v=5) || ((HasUser || !HasPass) && (Clean || !decide (Client=[]))))=true:=by
   rcases hc with hc|⟨h1,h2⟩
   ·simp [hc]
   ·rcases h1 with h1|h1<;>rcases h2 with h2|h2<;>simp [h1,h2]
  have hs4:(!(decide (v=4) && decide ((L Props).length + (L WillProps).length > 0)))=true:=by
   by_cases h4:v=4
   ·have:=hsum h4;simp only [decide_eq_true h4,decide_eq_false this];rfl
   ·simp only [decide_eq_false h4];rfl
  have hwq:decide (WillQoS > 2)=false:=decide_eq_false wq
  by_cases hw:HasWill=true
  ·subst hw
   cases HasUser<;>cases HasPass <;>
    simp only [xv6,verB,nR,bareN,z0,xv12,ownN,hv2,conN,hwq,wt.1,hc2,tcl,tus,twt,pc,wc,z8,z9,xv1,if_true,if_false,reduceIte,Bool.false_eq_true,hs4]<;>simp [tcl,tus,twt,tn,pc,wc,z8,z9]<;>simpa using hc2
  ·simp only [Bool.not_eq_true] at hw
   subst hw
   cases HasUser<;>cases HasPass <;>
    simp only [xv6,verB,nR,bareN,z0,xv12,ownN,hv2,conN,hc2,tcl,tus,tn,pc,cn,z8,z9,xv1,if_true,if_false,reduceIte,Bool.false_eq_true,hs40,List.length_nil]<;>simp [tcl,tus,tn,pc,z8,z9]<;>simpa using hc2
 ·have hk:=code (kn0 (by rcases hv with rfl|rfl<;>simp))
  have hp2:(!Present || decide (Code=0))=true:=by cases Present<;>simp_all
  simp only [xv6,verB,nR,bareN,z0,xv12,ownN,hv2,xv1,List.length_nil,hs40,pc,cn,tn]
  simp [tn,pc,h4p,xv4,hk,hp2,xv18]
 ·have hpub:pubN v ⟨3,Dup,Retain,QoS,Id,false,0,[],false,false,false,0,false,some [],[],[],[],[],false,0,Topic,Load,some [],some [],some (L Props)⟩=true:=by
   have hi:=id3 rfl
   have h2:(decide (Id=0) == decide (QoS=0))=true:=by
    by_cases h:QoS=0
    ·have:=hi.2 h;simp [h,this]
    ·have:¬ Id=0:=fun e=>h (hi.1 e);simp [h,this]
   have h1:(!(Dup && decide (QoS=0)))=true:=by
    cases hD:Dup with
    | false=>rfl
    | true=>have:=dup hD;simp [this]
   have h3:(nameB Topic || (decide (v=5) && decide (Topic=[]) && hasId (L Props) 35))=true:=by
    rcases tp.1 with h|⟨a,b,c⟩
    ·simp [h]
    ·simp [a,b,c]
   simp only [pubN,decide_eq_false q,h1,h2,h3,xv1,Bool.not_false,Bool.and_self]
  simp only [xv6,verB,nR,bareN,z0,xv12,ownN,hv2,xv1,List.length_nil,hs40,pc,cn,tn]
  simp [tn,pc,h4p,xv4,hpub,ttp]
 ·have hk:=code (kn0 (by rcases hv with rfl|rfl<;>simp))
  have hi:=id0 (by decide)
  simp only [xv6,verB,nR,bareN,z0,xv12,ownN,hv2,xv1,List.length_nil,hs40,pc,cn,tn]
  simp [tn,pc,h4p,xv4,hk,hi]
 ·have hk:=code (kn0 (by rcases hv with rfl|rfl<;>simp))
  have hi:=id0 (by decide)
  simp only [xv6,verB,nR,bareN,z0,xv12,ownN,hv2,xv1,List.length_nil,hs40,pc,cn,tn]
  simp [tn,pc,h4p,xv4,hk,hi]
 ·have hk:=code (kn0 (by rcases hv with rfl|rfl<;>simp))
  have hi:=id0 (by decide)
  simp only [xv6,verB,nR,bareN,z0,xv12,ownN,hv2,xv1,List.length_nil,hs40,pc,cn,tn]
  simp [tn,pc,h4p,xv4,hk,hi]
 ·have hk:=code (kn0 (by rcases hv with rfl|rfl<;>simp))
  have hi:=id0 (by decide)
  simp only [xv6,verB,nR,bareN,z0,xv12,ownN,hv2,xv1,List.length_nil,hs40,pc,cn,tn]
  simp [tn,pc,h4p,xv4,hk,hi]
 ·have hi:=id0 (by decide)
  have hw:xv10 (L Filters).length=true:=by
   have h1:1 ≤ (L Filters).length:=fl.1
   have h2:(L Filters).length ≤ 1024:=by omega
   simp [xv10,h1,h2]
  have ha:(L Filters).all (wantN v 8)=true:=List.all_eq_true.2 (fw (by simp))
  have hf:xv15 v ⟨8,false,false,0,Id,false,0,[],false,false,false,0,false,some [],[],[],[],[],false,0,[],[],some (L Filters),some [],some (L Props)⟩=true:=by
   simp only [xv15,xv1,hw,ha,Bool.and_self]
  simp only [xv6,verB,nR,bareN,z0,xv12,ownN,hv2,xv1,List.length_nil,hs40,pc,cn,tn]
  simp [tn,pc,h4p,xv4,hi,hf]
 ·have hi:=id0 (by decide)
  obtain ⟨c1,c2⟩:=cd (.inl rfl)
  have hw:xv10 (L Codes).length=true:=by
   have h2:(L Codes).length ≤ 1024:=by omega
   simp [xv10,c1,h2]
  have ha:(L Codes).all (knB v 9)=true:=List.all_eq_true.2 c2
  have hf:xv66 v ⟨9,false,false,0,Id,false,0,[],false,false,false,0,false,some [],[],[],[],[],false,0,[],[],some [],some (L Codes),some (L Props)⟩=true:=by
   simp only [xv66]
   rw [if_neg (by omega)]
   simp only [xv1,hw,ha,Bool.and_self]
  simp only [xv6,verB,nR,bareN,z0,xv12,ownN,hv2,xv1,List.length_nil,hs40,pc,cn,tn]
  simp [tn,pc,h4p,xv4,hi,hf]
 ·have hi:=id0 (by decide)
  have hw:xv10 (L Filters).length=true:=by
   have h1:1 ≤ (L Filters).length:=fl.1
   have h2:(L Filters).length ≤ 1024:=by omega
   simp [xv10,h1,h2]
  have ha:(L Filters).all (wantN v 10)=true:=List.all_eq_true.2 (fw (by simp))
  have hf:xv15 v ⟨10,false,false,0,Id,false,0,[],false,false,false,0,false,some [],[],[],[],[],false,0,[],[],some (L Filters),some [],some (L Props)⟩=true:=by
   simp only [xv15,xv1,hw,ha,Bool.and_self]
  simp only [xv6,verB,nR,bareN,z0,xv12,ownN,hv2,xv1,List.length_nil,hs40,pc,cn,tn]
  simp [tn,pc,h4p,xv4,hi,hf]
 ·have hi:=id0 (by decide)
  have hf:xv66 v ⟨11,false,false,0,Id,false,0,[],false,false,false,0,false,some [],[],[],[],[],false,0,[],[],some [],some (L Codes),some (L Props)⟩=true:=by
   simp only [xv66]
   by_cases h4:v=4
   ·rw [if_pos ⟨h4,trivial⟩]
    have:=cd4 h4 rfl
    simpa only [xv1] using decide_eq_true this
   ·have h5:v=5:=by rcases hv with h|h
                    ·exact absurd h h4
                    ·exact h
    rw [if_neg (fun h=>h4 h.1)]
    obtain ⟨c1,c2⟩:=cd (.inr ⟨rfl,h5⟩)
    have hw:xv10 (L Codes).length=true:=by
     have h2:(L Codes).length ≤ 1024:=by omega
     simp [xv10,c1,h2]
    have ha:(L Codes).all (knB v 11)=true:=List.all_eq_true.2 c2
    simp only [xv1,hw,ha,Bool.and_self]
  simp only [xv6,verB,nR,bareN,z0,xv12,ownN,hv2,xv1,List.length_nil,hs40,pc,cn,tn]
  simp [tn,pc,h4p,xv4,hi,hf]
 ·simp only [xv6,verB,nR,bareN,z0,xv12,ownN,hv2,xv1,List.length_nil,hs40,pc,cn,tn]
  simp [tn,h4p,xv4]
 ·simp only [xv6,verB,nR,bareN,z0,xv12,ownN,hv2,xv1,List.length_nil,hs40,pc,cn,tn]
  simp [tn,h4p,xv4]
 ·have hk:=code (kn0 (by rcases hv with rfl|rfl<;>simp))
  simp only [xv6,verB,nR,bareN,z0,xv12,ownN,hv2,xv1,List.length_nil,hs40,pc,cn,tn]
  simp [tn,pc,h4p,xv4,hk]
 ·have h5:v=5:=by rcases hv with rfl|rfl
                  ·have:=kd.2.2 rfl;omega
                  ·rfl
  subst h5
  have hk:=code (kn0 (by simp))
  have ha:=auth rfl
  simp only [xv6,verB,nR,bareN,z0,xv12,ownN,hv2,xv1,List.length_nil,hs40,pc,cn,tn]
  simp [tn,pc,h4p,xv4,hk,ha]
theorem xv236 {v:Int} {x:fn113} (h:FixP v x):∃ b,fn146 x=some b∧FewR b∧xv6 v (nR b)=true∧nR b=bareN (nR x):=by
 obtain ⟨b,h1,h2⟩:=xv250 x
 exact ⟨b,h1,xv315 (by rw [h2];exact xv215 h),by rw [h2];exact xv120 h,h2⟩
end Go.Rv
namespace Go.Rv
open Go.Lib
def MadeP (v:Int) (y:fn113):Prop:=FewR y∧xv6 v (nR y)=true
def setC (x:fn113) (o:Option (List UInt8)):fn113:={ x with Codes:=o }
def setF (x:fn113) (o:Option (List fn112)):fn113:={ x with Filters:=o }
def needC (v k:Int):Bool:=decide (k=9) || (decide (k=11) && decide (v=5))
structure CodesOk (v k:Int) (o:Option (List UInt8)):Prop where
 l:(L o).length ≤ 20
 c:k=9∨(k=11∧v=5)->1 ≤ (L o).length∧∀ c ∈ L o,knB v k c=true
 z:v=4->k=11->(L o).length=0
def PreC (v:Int) (x:fn113):Prop:=∀ o,CodesOk v x.Kind o->FixP v (setC x o)
theorem xv59 {v k:Int}:needC v k=true ↔ (k=9∨(k=11∧v=5)):=by simp [needC]
theorem xv268 {v:Int} {p x:fn113} {i:Nat} {o:Option (List UInt8)} (hi:i < (L p.Codes).length) (h5:i < 5) (hn:needC v x.Kind=true) (ho:(L o).length ≤ 5) :
 ∃ d,fn183_l16 v p ((i:Int),setC x o)=some (.inl (((i + 1:Nat):Int),setC x (some (L o++[d]))))∧(knB v x.Kind 0=true->knB v x.Kind d=true):=by
 obtain ⟨d,h1,h2⟩:=xv147 v x.Kind (L p.Codes)[i]
 have happ:appO 1 o (some [d])=some (some (L o++[d])):=by
  have:=xv23 (n:=1) (x:=o) (a:=d) (l:=[]) (by simp [room];omega) (by simp [room];omega)
  simpa using this
 have h17:∀ {ρ:Type} (k1:Int->Option (List UInt8)->Option ρ),fn183_c17 v (i:Int) p (setC x o) k1=k1 ((i + 1:Nat):Int) (some (L o++[d])):=by
  intro ρ k1
  simp only [fn183_c17,xv2,List.getElem?_eq_getElem hi,Option.bind_some,setC,h1,happ,xv3 (show i < 9223372036854775807 by omega)]
 refine ⟨d,?_,h2⟩
 simp only [fn183_l16,fn183_b16,h17]
 rw [if_pos (by simp;omega),if_pos (by simp;omega)]
 rcases xv59.1 hn with h9|⟨h11,hv⟩
 ·rw [if_pos (decide_eq_true (show (setC x o).Kind=9 from h9))]
  rfl
 ·have:¬ (setC x o).Kind=9:=by show ¬ x.Kind=9;omega
  rw [if_neg (by simpa using this),if_pos (decide_eq_true (show (setC x o).Kind=11 from h11)),if_pos (decide_eq_true hv)]
  rfl
theorem xv267 (v:Int) (p x:fn113) (hn:needC v x.Kind=true) (hk:knB v x.Kind 0=true):∀ (f i:Nat) (o:Option (List UInt8)),f + i=5->(L o).length ≤ i->(∀ c ∈ L o,knB v x.Kind c=true) ->
 ∃ o',iter (fn183_l16 v p) ((i:Int),setC x o)=some (setC x o')∧(L o').length ≤ 5∧∀ c ∈ L o',knB v x.Kind c=true:=by
 have stop:∀ (i:Nat) (o:Option (List UInt8)),¬ (i < (L p.Codes).length∧i < 5)->iter (fn183_l16 v p) ((i:Int),setC x o)=some (setC x o):=by
  intro i o h
  rw [yv700]
  simp only [fn183_l16,fn183_b16]
  by_cases h1:i < (L p.Codes).length
  ·rw [if_pos (by simp;omega),if_neg (by simp;omega)]
  ·rw [if_neg (by simp;omega)]
 intro f
 induction f with
 | zero=>exact fun i o hi hl hc=>⟨o,stop i o (by omega),by omega,hc⟩
 | succ f ih =>
  intro i o hi hl hc
  by_cases h:i < (L p.Codes).length
  ·obtain ⟨d,h1,h2⟩:=xv268 (v:=v) (p:=p) (x:=x) (o:=o) h (by omega) hn (by omega)
   obtain ⟨o',k1,k2⟩:=ih (i + 1) (some (L o++[d])) (by omega) (by simp;omega) (fun c hc'=>by
    simp at hc'
    rcases hc' with hc'|rfl
    ·exact hc c hc'
    ·exact h2 hk)
   refine ⟨o',?_,k2⟩
   rw [yv700,h1];exact k1
  ·exact ⟨o,stop i o (by omega),by omega,hc⟩
theorem xv229 {v:Int} {x:fn113} (h:FixP v x):∃ y,MadeP v y∧∀ {ρ:Type} (k:fn113->Option ρ),fn183_c18 x k=k y:=by
 obtain ⟨b,h1,h2,h3,_⟩:=xv236 h
 refine ⟨b,⟨h2,h3⟩,fun k=>?_⟩
 show (fn146 x).bind _=_
 rw [h1];rfl
theorem xv266 {v:Int} (hv:v=4∨v=5) (p:fn113) {x:fn113} (h:PreC v x):∃ y z,MadeP v y∧∀ {ρ:Type} (k:fn113->fn113->Option ρ),fn183_c15 v p (setC x none) k=k y z:=by
 cases hn:needC v x.Kind with
 | false =>
  have hnn:¬ (x.Kind=9∨(x.Kind=11∧v=5)):=fun e=>by rw [xv59.2 e] at hn;cases hn
  obtain ⟨y,d,hy⟩:=xv229 (h none ⟨by simp,fun e=>absurd e hnn,fun _ _=>by simp⟩)
  have hst:iter (fn183_l16 v p) (0,setC x none)=some (setC x none):=by
   rw [yv700]
   have e9:¬ (setC x none).Kind=9:=fun e=>hnn (.inl e)
   simp only [fn183_l16,fn183_b16]
   by_cases h1:(0:Int) < ((L p.Codes).length:Int)
   ·rw [if_pos (decide_eq_true h1),if_pos (show decide ((0:Int) < 5)=true from rfl),if_neg (by simpa using e9)]
    by_cases h11:(setC x none).Kind=11
    ·rw [if_pos (decide_eq_true h11),if_neg (by simpa using fun e=>hnn (.inr ⟨h11,e⟩))]
    ·rw [if_neg (by simpa using h11)]
   ·rw [if_neg (by simpa using h1)]
  refine ⟨y,setC x none,d,fun k=>?_⟩
  have e9:¬ (setC x none).Kind=9:=fun e=>hnn (.inl e)
  simp only [fn183_c15,hst,Option.bind_some]
  rw [if_pos (by simp [setC]),if_neg (by simpa using e9)]
  by_cases h11:(setC x none).Kind=11
  ·rw [if_pos (decide_eq_true h11),if_neg (by simpa using fun e=>hnn (.inr ⟨h11,e⟩))]
   exact hy _
  ·rw [if_neg (by simpa using h11)]
   exact hy _
 | true =>
  have hnn:=xv59.1 hn
  have hk:knB v x.Kind 0=true:=kn0 (by
   rcases hv with rfl|rfl
   ·left;refine ⟨rfl,?_⟩;rcases hnn with e|⟨_,e⟩
    ·simp [e]
    ·omega
   ·right;refine ⟨rfl,?_⟩;rcases hnn with e|⟨e,_⟩<;>simp [e])
  obtain ⟨o,h1,h2,h3⟩:=xv267 v p x hn hk 5 0 none rfl (by simp) (by simp)
  rw [show ((0:Nat):Int)=0 from rfl] at h1
  have h4:v=4->x.Kind=11->False:=fun e1 e2=>by
   rcases hnn with e|⟨_,e⟩<;>omega
  by_cases he:(L o).length=0
  ·obtain ⟨y,d,hy⟩:=xv229 (h (some [0]) ⟨by simp,fun _=>⟨by simp,fun c hc=>by simp at hc;rw [hc];exact hk⟩,fun a b=>(h4 a b).elim⟩)
   refine ⟨y,setC x (some [0]),d,fun k=>?_⟩
   simp only [fn183_c15,h1,Option.bind_some]
   rw [if_pos (by simp [setC,he])]
   rcases hnn with e9|⟨e11,e5⟩
   ·rw [if_pos (decide_eq_true (show (setC x o).Kind=9 from e9))]
    exact hy _
   ·have:¬ (setC x o).Kind=9:=by show ¬ x.Kind=9;omega
    rw [if_neg (by simpa using this),if_pos (decide_eq_true (show (setC x o).Kind=11 from e11)),if_pos (decide_eq_true e5)]
    exact hy _
  ·obtain ⟨y,d,hy⟩:=xv229 (h o ⟨by omega,fun _=>⟨by omega,h3⟩,fun a b=>(h4 a b).elim⟩)
   refine ⟨y,setC x o,d,fun k=>?_⟩
   simp only [fn183_c15,h1,Option.bind_some]
   rw [if_neg (by have h0:¬ ((L (setC x o).Codes).length:Int)=0:=by { show ¬ ((L o).length:Int)=0;omega };simpa using h0)]
   exact hy _
end Go.Rv
namespace Go.Rv
open Go.Lib
def fullO (o:UInt8):UInt8:=((o % (3:UInt8) + ((4:UInt8) * ((o / (4:UInt8)) % (2:UInt8)))) + ((8:UInt8) * ((o / (8:UInt8)) % (2:UInt8)))) + ((16:UInt8) * ((o / (16:UInt8)) % (3:UInt8)))
theorem xv248:∀ o,optN 5 8 false (fullO o)=true:=all8 (by decide +kernel)
theorem opt_3:∀ sh o,optN 5 8 sh (o % (3:UInt8))=true∧optN 4 8 sh (o % (3:UInt8))=true:=by
 intro sh
 cases sh<;>exact all8 (by decide +kernel)
theorem opt_0:∀ sh:Bool,optN 5 10 sh 0=true∧optN 4 10 sh 0=true∧optN 5 8 sh 0=true∧optN 4 8 sh 0=true:=by
 intro sh
 cases sh<;>decide +kernel
structure FiltsOk (v k:Int) (o:Option (List fn112)):Prop where
 l:1 ≤ (L o).length∧(L o).length ≤ 20
 t:∀ f ∈ L o,f.Text.length ≤ 100
 w:k=8∨k=10->∀ f ∈ L o,wantN v k f=true
def PreF (v:Int) (x:fn113):Prop:=∀ o,FiltsOk v x.Kind o->PreC v (setF x o)
def fOpt (v k:Int) (sh:Bool) (o:UInt8):UInt8:=if k=10 then 0 else if k=8∧v=5∧sh=false then fullO o else o % 3
theorem xv275 {v k:Int} (hv:v=4∨v=5) (hk:k=8∨k=10) (sh:Bool) (o:UInt8):optN v k sh (fOpt v k sh o)=true:=by
 rcases hk with rfl|rfl
 ·simp only [fOpt]
  rw [if_neg (by decide)]
  rcases hv with rfl|rfl
  ·rw [if_neg (by simp)];exact (opt_3 sh o).2
  ·cases sh with
   | false=>rw [if_pos (by simp)];exact xv248 o
   | true=>rw [if_neg (by simp)];exact (opt_3 true o).1
 ·simp only [fOpt]
  rw [if_pos trivial]
  rcases hv with rfl|rfl
  ·exact (opt_0 sh).2.1
  ·exact (opt_0 sh).1
theorem xv274 {v:Int} {p x:fn113} {i:Nat} {o:Option (List fn112)} (hv:v=4∨v=5) (hi:i < (L p.Filters).length) (h5:i < 5) (ho:(L o).length ≤ 5) :
 ∃ f,fn183_l10 v p ((i:Int),setF x o)=some (.inl (((i + 1:Nat):Int),setF x (some (L o++[f]))))∧f.Text.length ≤ 100∧(x.Kind=8∨x.Kind=10->wantN v x.Kind f=true):=by
 obtain ⟨F,hF,hFe⟩:=ff_eq (L p.Filters)[i].Text
 have hFl:=hF.1
 have hff:=xv180 hF
 have happ:∀ q,appO 24 o (some [q])=some (some (L o++[q])):=fun q=>by
  have:=xv23 (n:=24) (x:=o) (a:=q) (l:=[]) (by simp [room];omega) (by simp [room];omega)
  simpa using this
 have hsh:=xv150 F (by omega)
 rcases hs:xv37 F with ⟨s1,s2,s3⟩
 rw [hs] at hsh
 have h12:∀ {ρ:Type} (c:Bool) (f:fn112) (k1:UInt8->Option ρ) (k2:Option ρ),fn183_c12 (i:Int) c p f k1 k2=if c=true then k1 (((f.Opt + ((4:UInt8) * (((L p.Filters)[i].Opt / (4:UInt8)) % (2:UInt8)))) + ((8:UInt8) * (((L p.Filters)[i].Opt / (8:UInt8)) % (2:UInt8)))) + ((16:UInt8) * (((L p.Filters)[i].Opt / (16:UInt8)) % (3:UInt8)))) else k2:=by
  intro ρ c f k1 k2
  simp only [fn183_c12,xv2,List.getElem?_eq_getElem hi,Option.bind_some,show chk (decide ((4:UInt8) ≠ 0))=some () from rfl,show chk (decide ((2:UInt8) ≠ 0))=some () from rfl,show chk (decide ((8:UInt8) ≠ 0))=some () from rfl,show chk (decide ((16:UInt8) ≠ 0))=some () from rfl,show chk (decide ((3:UInt8) ≠ 0))=some () from rfl]
 have h13:∀ {ρ:Type} (f:fn112) (k1:Option (List fn112)->Option ρ),fn183_c13 (setF x o) f k1=k1 (some (L o++[f])):=by
  intro ρ f k1
  simp only [fn183_c13]
  rw [show (setF x o).Filters=o from rfl,happ]
  rfl
 have h11:∀ {ρ:Type} (q:UInt8) (k1:Option (List fn112)->fn112->Option ρ),fn183_c11 v (i:Int) p (setF x o) ⟨F,q⟩ k1 =
  k1 (some (L o++[⟨F,if x.Kind=8∧v=5∧s3=false then ((q + ((4:UInt8) * (((L p.Filters)[i].Opt / (4:UInt8)) % (2:UInt8)))) + ((8:UInt8) * (((L p.Filters)[i].Opt / (8:UInt8)) % (2:UInt8)))) + ((16:UInt8) * (((L p.Filters)[i].Opt / (16:UInt8)) % (3:UInt8))) else q⟩]))
   ⟨F,if x.Kind=8∧v=5∧s3=false then ((q + ((4:UInt8) * (((L p.Filters)[i].Opt / (4:UInt8)) % (2:UInt8)))) + ((8:UInt8) * (((L p.Filters)[i].Opt / (8:UInt8)) % (2:UInt8)))) + ((16:UInt8) * (((L p.Filters)[i].Opt / (16:UInt8)) % (3:UInt8))) else q⟩:=by
  intro ρ q k1
  simp only [fn183_c11,hsh,Option.bind_some,h12,h13]
  by_cases h8:x.Kind=8
  ·rw [if_pos (decide_eq_true (show (setF x o).Kind=8 from h8))]
   by_cases hv5:v=5
   ·rw [if_pos (decide_eq_true hv5)]
    cases s3 with
    | true=>rw [if_neg (by simp),if_neg (by simp)]
    | false=>rw [if_pos (by simp),if_pos ⟨h8,hv5,rfl⟩]
   ·rw [if_neg (by simpa using hv5),if_neg (by simp),if_neg (fun h=>hv5 h.2.1)]
  ·rw [if_neg (by rw [decide_eq_true_eq];exact h8),if_neg (by simp),if_neg (fun h=>h8 h.1)]
 refine ⟨⟨F,fOpt v x.Kind s3 (L p.Filters)[i].Opt⟩,?_,by show F.length ≤ 100;omega,fun hk=>?_⟩
 ·simp only [fn183_l10,fn183_b10,xv2,List.getElem?_eq_getElem hi,Option.bind_some,hFe,h11,xv3 (show i < 9223372036854775807 by omega),show chk (decide ((3:UInt8) ≠ 0))=some () from rfl]
  rw [if_pos (by simp;omega),if_pos (by simp;omega)]
  by_cases h10:x.Kind=10
  ·have h8:¬ (x.Kind=8∧v=5∧s3=false):=fun h=>by omega
   rw [if_pos (decide_eq_true (show (setF x o).Kind=10 from h10))]
   simp only [if_neg h8,fOpt,if_pos h10]
   rfl
  ·rw [if_neg (by rw [decide_eq_true_eq];exact h10)]
   simp only [fOpt,if_neg h10,fullO]
   rfl
 ·show wantN v x.Kind ⟨F,_⟩=true
  simp only [wantN,hff,hs,Bool.true_and]
  exact xv275 hv hk s3 _
theorem xv273 (v:Int) (hv:v=4∨v=5) (p x:fn113):∀ (f i:Nat) (o:Option (List fn112)),f + i=5->(L o).length ≤ i->(∀ f ∈ L o,f.Text.length ≤ 100∧(x.Kind=8∨x.Kind=10->wantN v x.Kind f=true)) ->
 ∃ o',iter (fn183_l10 v p) ((i:Int),setF x o)=some (setF x o')∧(L o').length ≤ 5∧∀ f ∈ L o',f.Text.length ≤ 100∧(x.Kind=8∨x.Kind=10->wantN v x.Kind f=true):=by
 have stop:∀ (i:Nat) (o:Option (List fn112)),¬ (i < (L p.Filters).length∧i < 5)->iter (fn183_l10 v p) ((i:Int),setF x o)=some (setF x o):=by
  intro i o h
  rw [yv700]
  simp only [fn183_l10,fn183_b10]
  by_cases h1:i < (L p.Filters).length
  ·rw [if_pos (by simp;omega),if_neg (by simp;omega)]
  ·rw [if_neg (by simp;omega)]
 intro f
 induction f with
 | zero=>exact fun i o hi hl hc=>⟨o,stop i o (by omega),by omega,hc⟩
 | succ f ih =>
  intro i o hi hl hc
  by_cases h:i < (L p.Filters).length
  ·obtain ⟨d,h1,h2,h3⟩:=xv274 (v:=v) (p:=p) (x:=x) (o:=o) hv h (by omega) (by omega)
   obtain ⟨o',k1,k2⟩:=ih (i + 1) (some (L o++[d])) (by omega) (by simp;omega) (fun c hc'=>by
    simp at hc'
    rcases hc' with hc'|rfl
    ·exact hc c hc'
    ·exact ⟨h2,h3⟩)
   refine ⟨o',?_,k2⟩
   rw [yv700,h1];exact k1
  ·exact ⟨o,stop i o (by omega),by omega,hc⟩
theorem c9_ok {v:Int} (hv:v=4∨v=5) (p:fn113) {x:fn113} (h:PreF v x):∃ y z,MadeP v y∧∀ {ρ:Type} (k:fn113->fn113->Option ρ),fn183_c9 v p x k=k y z:=by
 obtain ⟨o,h1,h2,h3⟩:=xv273 v hv p (setC x none) 5 0 none rfl (by simp) (by simp)
 rw [show ((0:Nat):Int)=0 from rfl] at h1
 by_cases he:(L o).length=0
 ·have hw:x.Kind=8∨x.Kind=10->wantN v x.Kind ⟨[97,47,43],0⟩=true:=by
   intro hk
   have hf:xv9 [97,47,43]=true:=by decide +kernel
   have hs:(xv37 [97,47,43]).2.2=false:=by decide +kernel
   simp only [wantN,hf,hs,Bool.true_and]
   obtain ⟨a,b,c,d⟩:=opt_0 false
   rcases hv with rfl|rfl<;>rcases hk with e|e<;>rw [e]<;>assumption
  obtain ⟨y,z,d,hy⟩:=xv266 hv p (h (some [⟨[97,47,43],0⟩]) ⟨by simp,fun f hf=>by simp at hf;rw [hf];simp,fun hk f hf=>by simp at hf;rw [hf];exact hw hk⟩)
  refine ⟨y,z,d,fun k=>?_⟩
  have e1:iter (fn183_l10 v p) (0,({x with Filters:=none,Codes:=none}:fn113))=some (setF (setC x none) o):=h1
  simp only [fn183_c9]
  rw [e1]
  simp only [Option.bind_some]
  rw [if_pos (by simp [setF,he])]
  exact hy k
 ·obtain ⟨y,z,d,hy⟩:=xv266 hv p (h o ⟨by omega,fun f hf=>(h3 f hf).1,fun hk f hf=>(h3 f hf).2 hk⟩)
  refine ⟨y,z,d,fun k=>?_⟩
  have e1:iter (fn183_l10 v p) (0,({x with Filters:=none,Codes:=none}:fn113))=some (setF (setC x none) o):=h1
  simp only [fn183_c9]
  rw [e1]
  simp only [Option.bind_some]
  rw [if_neg (by have h0:¬ ((L (setF (setC x none) o).Filters).length:Int)=0:=by { show ¬ ((L o).length:Int)=0;omega }
                 simpa using h0)]
  exact hy k
end Go.Rv
namespace Go.Rv
open Go.Lib
structure PropsOk (v k:Int) (w p:Option (List fn163)):Prop where
 pc:xv7 k (L p)=true
 pl:(L p).length ≤ 20
 ps:∀ a ∈ L p,a.A.length ≤ 100∧a.B.length ≤ 100
 p4:v=4->L p=[]
 wc:xv7 16 (L w)=true
 wl:(L w).length ≤ 20
 ws:∀ a ∈ L w,a.A.length ≤ 100∧a.B.length ≤ 100
 w4:v=4->L w=[]
 auth:k=15->hasId (L p) 21=true
def PreP (v:Int) (x:fn113):Prop:=∀ w p t,PropsOk v x.Kind w p->(t=x.Topic∨(v=5∧t=[]∧hasId (L p) 35=true))->PreF v { x with WillProps:=w,Topic:=t,Props:=p }
theorem ManyP.sz {k:Int} {l:List fn163} (h:ManyP k l):∀ a ∈ l,a.A.length ≤ 100∧a.B.length ≤ 100:=fun a ha=>⟨(h.one a ha).a,(h.one a ha).b⟩
theorem c8_ok {v:Int} (hv:v=5) (p x:fn113) (hl:(L x.Props).length ≤ 20):∃ t q,(t=x.Topic∨(v=5∧t=[]∧hasId (L x.Props) 35=true))∧∀ {ρ:Type} (k:List UInt8->fn163->Option ρ),fn183_c8 p x k=k t q:=by
 have hg:=xv70 x.Props 35 (by omega)
 have hg2:=xv67 (L x.Props) 35
 rcases hgn:getN (L x.Props) 35 with ⟨a1,a2⟩
 rw [hgn] at hg hg2
 simp only at hg2
 cases a2 with
 | false=>exact ⟨x.Topic,a1,.inl rfl,fun k=>by simp [fn183_c8,hg]⟩
 | true =>
  by_cases ht:p.Topic=[]
  ·exact ⟨[],a1,.inr ⟨hv,rfl,hg2.symm⟩,fun k=>by simp [fn183_c8,hg,ht]⟩
  ·exact ⟨x.Topic,a1,.inl rfl,fun k=>by simp [fn183_c8,hg,ht]⟩
theorem c6_ok {v:Int} (hv:v=4∨v=5) (p:fn113) {x:fn113} {k:Nat} (hk:x.Kind=(k:Int)) (k1:1 ≤ k) (k15:k ≤ 15) (k4:v=4->k ≤ 14) (h:PreP v x) :
 ∃ y z,MadeP v y∧∀ {ρ:Type} (k:fn113->fn113->Option ρ),fn183_c6 v p x k=k y z:=by
 rcases hv with rfl|rfl
 ·obtain ⟨y,z,d,hy⟩:=c9_ok (.inl rfl) p (h none none x.Topic ⟨rfl,by simp,by simp,fun _=>rfl,rfl,by simp,by simp,fun _=>rfl,fun e=>by have:=k4 rfl;omega⟩ (.inl rfl))
  refine ⟨y,z,d,fun kk=>?_⟩
  simp only [fn183_c6]
  rw [if_neg (by decide)]
  exact hy kk
 ·obtain ⟨r,r1,r2,r3,r4,r5⟩:=xv148 p.Props k k1 (by omega)
  obtain ⟨w,w1,w2,w3,w4,w5⟩:=xv148 p.WillProps 16 (by decide) (by decide)
  rw [show ((16:Nat):Int)=16 from rfl] at w1
  have hg:=xv70 r 21 (by omega)
  have hg2:=xv67 (L r) 21
  rcases hgn:getN (L r) 21 with ⟨a1,a2⟩
  rw [hgn] at hg hg2
  simp only at hg2
  have wck:xv7 16 (L w)=true:=xv123 w3 w4 (by omega) w5
  have go:∀ P:Option (List fn163),(L P).length ≤ 20->ManyP (k:Int) (L P)->SrtP (L P)->(hasId (L P) 21=true∨hasId (L P) 22=false)->(x.Kind=15->hasId (L P) 21=true) ->
   ∃ y z t q,MadeP 5 y∧(∀ {ρ:Type} (kk:List UInt8->fn163->Option ρ),fn183_c8 p ({ x with WillProps:=w,Props:=P }) kk=kk t q)∧∀ {ρ:Type} (kk:fn113->fn113->Option ρ),fn183_c9 5 p ({ x with WillProps:=w,Topic:=t,Props:=P }) kk=kk y z:=by
   intro P hP1 hP2 hP3 hP4 hP5
   obtain ⟨t,q,ht,hc8⟩:=c8_ok (v:=5) rfl p ({ x with WillProps:=w,Props:=P }) hP1
   have hck:xv7 x.Kind (L P)=true:=by rw [hk];exact xv123 hP2 hP3 (by omega) hP4
   obtain ⟨y,z,d,hy⟩:=c9_ok (.inr rfl) p (h w P t ⟨hck,hP1,hP2.sz,fun e=>by omega,wck,by omega,w3.sz,fun e=>by omega,hP5⟩ ht)
   exact ⟨y,z,t,q,d,hc8,hy⟩
  by_cases h15:k=15
  ·have e15:x.Kind=15:=by rw [hk,h15];rfl
   cases a2 with
   | true =>
    obtain ⟨y,z,t,q,d,hc8,hy⟩:=go r (by omega) r3 r4 r5 (fun _=>hg2.symm)
    refine ⟨y,z,d,fun kk=>?_⟩
    simp only [fn183_c6,hk,r1,w1,hg,Option.bind_some]
    rw [if_pos (show decide True=true from rfl),if_pos (by rw [h15];rfl)]
    simp only [fn183_c7,Bool.not_true,Bool.false_eq_true,if_false]
    rw [hk] at hc8 hy
    rw [hc8]
    exact hy _
   | false =>
    have happ:=xv73 (o:=r) (q:=(⟨21,0,[109],[]⟩:fn163)) (by omega)
    obtain ⟨l',s1,s2,s3⟩:=xv155 (some (L r++[⟨21,0,[109],[]⟩])) (by simp;omega)
    have hm:ManyP (k:Int) (L r++[⟨21,0,[109],[]⟩]):=r3.snoc ⟨by rw [h15];decide +kernel,val21 [109] (by decide +kernel),by simp,by simp⟩ (fun hh=>by
     rw [show (⟨21,0,[109],[]⟩:fn163).Id=21 from rfl,← hg2] at hh;cases hh)
    have h21:hasId (L r++[⟨21,0,[109],[]⟩]) 21=true:=xv51.2 ⟨_,List.mem_append_right _ (List.mem_singleton.2 rfl),rfl⟩
    rw [xv1] at s3
    obtain ⟨y,z,t,q,d,hc8,hy⟩:=go (some l') (by rw [xv1,s3.length_eq];simp;omega) (hm.perm s3) s2 (.inl (by rw [xv1,xv56 s3];exact h21)) (fun _=>by rw [xv1,xv56 s3];exact h21)
    refine ⟨y,z,d,fun kk=>?_⟩
    simp only [fn183_c6,hk,r1,w1,hg,Option.bind_some]
    rw [if_pos (show decide True=true from rfl),if_pos (by rw [h15];rfl)]
    simp only [fn183_c7,Bool.not_false,if_true,happ,Option.bind_some,s1]
    rw [hk] at hc8 hy
    rw [hc8]
    exact hy _
  ·have e15:¬ x.Kind=15:=by rw [hk];omega
   obtain ⟨y,z,t,q,d,hc8,hy⟩:=go r (by omega) r3 r4 r5 (fun e=>absurd e e15)
   refine ⟨y,z,d,fun kk=>?_⟩
   simp only [fn183_c6,hk,r1,w1,hg,Option.bind_some]
   rw [if_pos (show decide True=true from rfl),if_neg (by simp;omega)]
   simp only [fn183_c7,Bool.false_eq_true,if_false]
   rw [hk] at hc8 hy
   rw [hc8]
   exact hy _
end Go.Rv
namespace Go.Rv
open Go.Lib
def xv107 (v:Int) (x:fn113):Prop:=∃ k:Nat,x.Kind=(k:Int)∧1 ≤ k∧k ≤ 15∧(v=4->k ≤ 14)
def Pre5 (v:Int) (x:fn113):Prop:=∀ c b,(knB v x.Kind 0=true->knB v x.Kind c=true)->(b=true->c=0)->PreP v { x with Present:=b,Code:=c }
def Pre4 (v:Int) (x:fn113):Prop:=∀ c,(v=4->x.Client=[]->c=true)->Pre5 v { x with Clean:=c }
def Pre3 (v:Int) (p x:fn113):Prop:=∀ b,(v=4->b=true->p.HasUser=true)->Pre4 v { x with HasPass:=b }
def Pre2 (v:Int) (p x:fn113):Prop:=∀ i,(x.Kind=3->(i=0 ↔ x.QoS=0))->(x.Kind ≠ 3->i ≠ 0)->Pre3 v p { x with Id:=i }
theorem c5_ok {v:Int} (hv:v=4∨v=5) (p:fn113) {x:fn113} (hk:xv107 v x) (h:Pre5 v x):∃ y z,MadeP v y∧∀ {ρ:Type} (k:fn113->fn113->Option ρ),fn183_c5 v p x k=k y z:=by
 obtain ⟨n,n0,n1,n2,n3⟩:=hk
 obtain ⟨d,d1,d2⟩:=xv147 v x.Kind p.Code
 by_cases hp:p.Present=true
 ·obtain ⟨y,z,m,hy⟩:=c6_ok hv p (x:={ x with Present:=decide (d=0),Code:=d }) n0 n1 n2 n3 (h d (decide (d=0)) d2 (fun e=>of_decide_eq_true e))
  refine ⟨y,z,m,fun k=>?_⟩
  simp only [fn183_c5,d1,Option.bind_some]
  rw [if_pos hp]
  exact hy k
 ·obtain ⟨y,z,m,hy⟩:=c6_ok hv p (x:={ x with Present:=false,Code:=d }) n0 n1 n2 n3 (h d false d2 (fun e=>by cases e))
  refine ⟨y,z,m,fun k=>?_⟩
  simp only [fn183_c5,d1,Option.bind_some]
  rw [if_neg hp]
  exact hy k
theorem c4_ok {v:Int} (hv:v=4∨v=5) (p:fn113) {x:fn113} (hk:xv107 v x) (h:Pre4 v x):∃ y z,MadeP v y∧∀ {ρ:Type} (k:fn113->fn113->Option ρ),fn183_c4 v p x k=k y z:=by
 by_cases hc:p.Clean=true
 ·obtain ⟨y,z,m,hy⟩:=c5_ok hv p (x:={ x with Clean:=true }) hk (h true (fun _ _=>rfl))
  exact ⟨y,z,m,fun k=>by simp only [fn183_c4];rw [if_pos hc];exact hy k⟩
 ·by_cases h4:v=4
  ·obtain ⟨y,z,m,hy⟩:=c5_ok hv p (x:={ x with Clean:=decide (x.Client=[]) }) hk (h (decide (x.Client=[])) (fun _ e=>decide_eq_true e))
   exact ⟨y,z,m,fun k=>by simp only [fn183_c4];rw [if_neg hc,if_pos (decide_eq_true h4)];exact hy k⟩
  ·obtain ⟨y,z,m,hy⟩:=c5_ok hv p (x:={ x with Clean:=false }) hk (h false (fun e=>absurd e h4))
   exact ⟨y,z,m,fun k=>by simp only [fn183_c4];rw [if_neg hc,if_neg (by simpa using h4)];exact hy k⟩
theorem c3_ok {v:Int} (hv:v=4∨v=5) (p:fn113) {x:fn113} (hk:xv107 v x) (h:Pre3 v p x):∃ y z,MadeP v y∧∀ {ρ:Type} (k:fn113->fn113->Option ρ),fn183_c3 v p x k=k y z:=by
 by_cases hc:p.HasPass=true
 ·by_cases h5:v=5
  ·obtain ⟨y,z,m,hy⟩:=c4_ok hv p (x:={ x with HasPass:=true }) hk (h true (fun e=>by omega))
   exact ⟨y,z,m,fun k=>by simp only [fn183_c3];rw [if_pos hc,if_pos (decide_eq_true h5)];exact hy k⟩
  ·obtain ⟨y,z,m,hy⟩:=c4_ok hv p (x:={ x with HasPass:=p.HasUser }) hk (h p.HasUser (fun _ e=>e))
   exact ⟨y,z,m,fun k=>by simp only [fn183_c3];rw [if_pos hc,if_neg (by simpa using h5)];exact hy k⟩
 ·obtain ⟨y,z,m,hy⟩:=c4_ok hv p (x:={ x with HasPass:=false }) hk (h false (fun _ e=>by cases e))
  exact ⟨y,z,m,fun k=>by simp only [fn183_c3];rw [if_neg hc];exact hy k⟩
theorem c2_ok {v:Int} (hv:v=4∨v=5) (p:fn113) {x:fn113} (hk:xv107 v x) (hi:x.Id ≠ 0) (h:Pre2 v p x):∃ y z,MadeP v y∧∀ {ρ:Type} (k:fn113->fn113->Option ρ),fn183_c2 v p x k=k y z:=by
 by_cases h3:x.Kind=3
 ·by_cases hq:x.QoS=0
  ·obtain ⟨y,z,m,hy⟩:=c3_ok hv p (x:={ x with Id:=0 }) hk (h 0 (fun _=>⟨fun _=>hq,fun _=>rfl⟩) (fun e=>absurd h3 e))
   exact ⟨y,z,m,fun k=>by simp only [fn183_c2];rw [if_pos (decide_eq_true h3),if_pos (decide_eq_true hq)];exact hy k⟩
  ·obtain ⟨y,z,m,hy⟩:=c3_ok hv p (x:=x) hk (h x.Id (fun _=>⟨fun e=>absurd e hi,fun e=>absurd e hq⟩) (fun e=>absurd h3 e))
   exact ⟨y,z,m,fun k=>by simp only [fn183_c2];rw [if_pos (decide_eq_true h3),if_neg (by simpa using hq)];exact hy k⟩
 ·obtain ⟨y,z,m,hy⟩:=c3_ok hv p (x:=x) hk (h x.Id (fun e=>absurd e h3) (fun _=>hi))
  exact ⟨y,z,m,fun k=>by simp only [fn183_c2];rw [if_neg (by simpa using h3)];exact hy k⟩
theorem c1_ok {v:Int} (hv:v=4∨v=5) (p:fn113) {x:fn113} (hk:xv107 v x) (h:Pre2 v p x):∃ y z,MadeP v y∧∀ {ρ:Type} (k:fn113->fn113->Option ρ),fn183_c1 v p x k=k y z:=by
 by_cases hi:x.Id=0
 ·obtain ⟨y,z,m,hy⟩:=c2_ok hv p (x:={ x with Id:=1 }) hk (show (1:UInt16) ≠ 0 by decide) h
  exact ⟨y,z,m,fun k=>by simp only [fn183_c1];rw [if_pos (decide_eq_true hi)];exact hy k⟩
 ·obtain ⟨y,z,m,hy⟩:=c2_ok hv p (x:=x) hk hi h
  exact ⟨y,z,m,fun k=>by simp only [fn183_c1];rw [if_neg (by simpa using hi)];exact hy k⟩
theorem c0_ok {v:Int} (hv:v=4∨v=5) (n:Nat) (hn:(v=4∧n=14)∨(v=5∧n=15)) (p:fn113):∃ y z,MadeP v y∧∀ {ρ:Type} (k:fn113->fn113->Option ρ),fn183_c0 v (n:Int) p k=k y z:=by
 obtain ⟨m1,w1,a1,b1,e1⟩:=xv110 p.Client
 obtain ⟨m2,w2,a2,b2,e2⟩:=xv110 p.User
 obtain ⟨m3,w3,a3,b3,c3,e3⟩:=xv169 p.Topic
 obtain ⟨m4,w4,a4,b4,c4,e4⟩:=xv169 p.WillTopic
 have l1:=b1.len;have l2:=b2.len;have l3:=b3.len;have l4:=b4.len
 have s1:=xv90 p.Pass 9 (by omega)
 have s2:=xv90 p.WillLoad 9 (by omega)
 have s3:=xv90 p.Load 40 (by omega)
 rw [show ((9:Nat):Int)=9 from rfl] at s1 s2
 rw [show ((40:Nat):Int)=40 from rfl] at s3
 have nw3:nameB w3=true:=by
  have hw:wild w3=false:=xv80 fun b h=>⟨(b3.bytes b h).2.1,(b3.bytes b h).2.2.1⟩
  simp [nameB,c3,b3.good,hw]
 have nw4:nameB w4=true:=by
  have hw:wild w4=false:=xv80 fun b h=>⟨(b4.bytes b h).2.1,(b4.bytes b h).2.2.1⟩
  simp [nameB,c4,b4.good,hw]
 have hn0:1 ≤ n∧n ≤ 15:=by omega
 have hun:(u64 (n:Int)).toNat=n:=by rw [u64_toNat'];omega
 have hu0:u64 (n:Int) ≠ 0:=fun e=>by
  have:=congrArg UInt64.toNat e
  rw [hun] at this
  have h0:(0:UInt64).toNat=0:=rfl
  omega
 obtain ⟨j,hj⟩:∃ j:Nat,j=(u64 p.Kind % u64 (n:Int)).toNat:=⟨_,rfl⟩
 have hjn:j < n:=by rw [hj,UInt64.toNat_mod,hun];exact Nat.mod_lt _ (by omega)
 have ek:w64 (1 + w64 ((u64 p.Kind % u64 (n:Int)).toNat:Int))=((j + 1:Nat):Int):=by
  rw [← hj,xv0 (x:=(j:Int)) (by omega) (by omega),xv0 (by omega) (by omega)];omega
 have hq:∀ q:UInt8,¬ q % 3 > 2:=by intro q;revert q;exact all8 (by decide +kernel)
 have hq0:∀ q:UInt8,decide (q % 3 > 0)=true->q % 3 ≠ 0:=by intro q;revert q;exact all8 (by decide +kernel)
 have hkd:∀ x:fn113,x.Kind=((j + 1:Nat):Int)->xv107 v x:=fun x e=>⟨j + 1,e,by omega,by omega,fun e=>by omega⟩
 have main:∀ D:Bool,(D=true->p.QoS % 3 ≠ 0)->Pre2 v p ⟨((j + 1:Nat):Int),D,p.Retain,p.QoS % 3,p.Id,p.Clean,p.Keep,w1,p.HasWill,p.HasUser,p.HasPass,p.WillQoS % 3,p.WillRetain,p.WillProps,w4,p.WillLoad.take 9,w2,p.Pass.take 9,p.Present,p.Code,w3,p.Load.take 40,p.Filters,p.Codes,p.Props⟩:=by
  intro D hD i i1 i2 hp hp1 cl cl1 co pr co1 pr1 w P t hP ht F hF C hC
  refine ⟨hv,⟨by show (1:Int) ≤ ((j + 1:Nat):Int);omega,by show ((j + 1:Nat):Int) ≤ 15;omega,fun e=>by show ((j + 1:Nat):Int) ≤ 14;omega⟩,⟨b1.good,by show w1.length ≤ 40;omega⟩,⟨b2.good,by show w2.length ≤ 40;omega⟩,?_,⟨nw4,by show w4.length ≤ 40;omega,b4.good⟩,
   ⟨by show (p.Pass.take 9).length ≤ 9;rw [List.length_take];omega,by show (p.WillLoad.take 9).length ≤ 9;rw [List.length_take];omega,by show (p.Load.take 40).length ≤ 40;rw [List.length_take];omega⟩,hq _,hq _,hD,i1,i2,hp1,cl1,co1,pr1,hP.pc,hP.pl,hP.ps,hP.p4,hP.wc,hP.wl,hP.ws,hP.w4,hP.auth,hF.l,hF.t,hF.w,hC.l,hC.c,hC.z⟩
  show (nameB t=true∨_)∧t.length ≤ 40∧good t=true
  rcases ht with e|⟨a,e,b⟩
  ·have e:t=w3:=e
   rw [e];exact ⟨.inl nw3,by omega,b3.good⟩
  ·rw [e];exact ⟨.inr ⟨a,rfl,b⟩,by simp,xv18⟩
 have c3':chk (decide ((3:UInt8) ≠ 0))=some ():=rfl
 by_cases hd:p.Dup=true
 ·obtain ⟨y,z,m,hy⟩:=c1_ok hv p (hkd _ rfl) (main (decide (p.QoS % 3 > 0)) (hq0 _))
  refine ⟨y,z,m,fun k=>?_⟩
  simp only [fn183_c0,chk_d hu0,e1,e2,e3,e4,s1,s2,s3,c3',Option.bind_some,ek]
  rw [if_pos hd]
  exact hy k
 ·obtain ⟨y,z,m,hy⟩:=c1_ok hv p (hkd _ rfl) (main false (fun e=>by cases e))
  refine ⟨y,z,m,fun k=>?_⟩
  simp only [fn183_c0,chk_d hu0,e1,e2,e3,e4,s1,s2,s3,c3',Option.bind_some,ek]
  rw [if_neg hd]
  exact hy k
theorem xv91 {v:Int} (hv:v=4∨v=5) (p:fn113):∃ q,fn183 v p=some q∧FewR q∧xv6 v (nR q)=true:=by
 rcases hv with rfl|rfl
 ·obtain ⟨y,z,m,hy⟩:=c0_ok (.inl rfl) 14 (.inl ⟨rfl,rfl⟩) p
  rw [show ((14:Nat):Int)=14 from rfl] at hy
  refine ⟨y,?_,m.1,m.2⟩
  simp only [fn183]
  rw [if_neg (by decide)]
  exact hy _
 ·obtain ⟨y,z,m,hy⟩:=c0_ok (.inr rfl) 15 (.inr ⟨rfl,rfl⟩) p
  rw [show ((15:Nat):Int)=15 from rfl] at hy
  refine ⟨y,?_,m.1,m.2⟩
  simp only [fn183]
  rw [if_pos (by decide)]
  exact hy _
end Go.Rv
namespace Go.Rv
theorem xv154 {v:Int} {y:fn113} (h:xv6 v y=true):y=bareN y:=by
 simp only [xv6,Bool.and_eq_true] at h
 exact of_decide_eq_true h.1.1.1.1.1.2
theorem xv327 (z:Int):w64 (4 + w64 ((u64 z % (2:UInt64)).toNat:Int))=4∨w64 (4 + w64 ((u64 z % (2:UInt64)).toNat:Int))=5:=by
 obtain ⟨j,hj⟩:∃ j:Nat,j=(u64 z % (2:UInt64)).toNat:=⟨_,rfl⟩
 have h2:j < 2:=by rw [hj,UInt64.toNat_mod];exact Nat.mod_lt _ (by decide)
 rw [← hj,xv0 (x:=(j:Int)) (by omega) (by omega),xv0 (by omega) (by omega)]
 omega
end Go.Rv
namespace Go.Rv
theorem xv328:fn86=fn117:=rfl
theorem wTwo1:fn105=fn142:=rfl
theorem sec1:fn27=fn43:=rfl
theorem code1:fn54=fn85:=rfl
theorem fil1:fn28=fn46:=rfl
end Go.Rv
namespace Go.Rv
def secV (v:Int) (l:List fn163):List UInt8:=if v=4 then [] else putN l
def codeN (v:Int) (p:fn113):List UInt8:=if v=4∨(p.Code=0∧L p.Props=[]) then [] else if L p.Props=[] then [p.Code] else p.Code::putN (L p.Props)
def filN (k:Int) (l:List fn112):List UInt8:=l.flatMap fun f=>binN f.Text++if k=8 then [f.Opt] else []
structure Lay (l:List fn163):Prop where
 len:l.length ≤ 1000
 txt:∀ x ∈ l,x.A.length ≤ 9000∧x.B.length ≤ 9000
 ok:l.all okB=true
theorem xv84 (v:Int) {l:List fn163} (h:Lay l):(secV v l).length ≤ 18200000:=by
 have h1:=xv145 l h.len h.txt
 have h2:=h.len
 simp only [secV]
 split
 ·simp
 ·omega
theorem xv17 (v:Int) (b:Option (List UInt8)) (o:Option (List fn140)) (h:Lay ((L o).map pR)) (hb:(L b).length ≤ 130000000000000):∃ x,fn43 v b o=some x∧L x=L b++secV v ((L o).map pR):=by
 have h1:=h.len
 rw [List.length_map] at h1
 simp only [fn43,secV]
 by_cases hv:v=4
 ·exact ⟨b,by simp [hv],by simp [hv]⟩
 ·rw [if_neg (by simp [hv]),xv141 b o hb h1 (fun x hx=>h.txt (pR x) (List.mem_map.2 ⟨x,hx,rfl⟩)),h.ok,if_pos rfl,if_neg hv]
  exact ⟨_,rfl,rfl⟩
theorem len0 {α:Type} (l:List α):decide ((l.length:Int)=0)=decide (l=[]):=by
 cases l<;>simp<;>omega
theorem xv121 (v:Int) (b:Option (List UInt8)) (q:fn60) (h:Lay ((L q.Props).map pR)) (hb:(L b).length ≤ 130000000):∃ x,fn85 v b q=some x∧L x=L b++codeN v (nP q):=by
 have hl:lim=140737488300000:=rfl
 have h1:=h.len
 rw [List.length_map] at h1
 have c1:∀ k:Option (List UInt8)->Option (Option (List UInt8)),fn85_c1 b q k=k (some (L b++q.Code::putN ((L q.Props).map pR))):=fun k=>by
  simp only [fn85_c1]
  rw [xv33 b q.Code (by omega)]
  simp only [Option.bind_some]
  rw [xv141 _ q.Props (by simp [L,xv11];simp [L] at hb;omega) h1 (fun x hx=>h.txt (pR x) (List.mem_map.2 ⟨x,hx,rfl⟩)),h.ok,if_pos rfl]
  simp [L,be1]
 have e1:L (nP q).Props=(L q.Props).map pR:=rfl
 have e2:(nP q).Code=q.Code:=rfl
 simp only [fn85,fn85_c0,c1,codeN,e1,e2,len0]
 by_cases hv:v=4
 ·exact ⟨b,by simp [hv],by simp [hv]⟩
 ·by_cases hp:L q.Props=[]
  ·by_cases hc:q.Code=0
   ·exact ⟨b,by simp [hv,hp,hc],by simp [hv,hp,hc]⟩
   ·refine ⟨some (L b++[q.Code]),?_,by simp [hv,hp,hc,L]⟩
    rw [xv33 b q.Code (by omega)]
    simp [hv,hp,hc,be1]
  ·have hp2:(L q.Props).map pR ≠ []:=by simpa using hp
   by_cases hc:q.Code=0
   ·exact ⟨some (L b++q.Code::putN ((L q.Props).map pR)),by simp [hv,hp,hc],by simp [hv,hp,hc,L]⟩
   ·exact ⟨some (L b++q.Code::putN ((L q.Props).map pR)),by simp [hv,hp,hc],by simp [hv,hp,hc,L]⟩
end Go.Rv
namespace Go.Rv
theorem be1c (c:UInt8):be 1 c.toNat=[c]:=by
 have:=c.toNat_lt
 rw [be1,Nat.mod_eq_of_lt (by omega),UInt8.ofNat_toNat]
theorem xv5 (x:List UInt8):(binN x).length=2 + x.length:=by simp [binN,xv11]
theorem xv200 {α:Type} (k:Int) (tx:α->List UInt8) (op:α->UInt8):∀ (l:List α) (s:Option (List UInt8)),
 ∃ t,runL (fun (s:Option (List UInt8)) (a:α)=>(.inl (some (L s++(binN (tx a)++if k=8 then [op a] else []))):Option (List UInt8) ⊕ Option (List UInt8))) (fun s=>s) s l=t∧L t=L s++l.flatMap fun a=>binN (tx a)++if k=8 then [op a] else []
 | [],s=>⟨s,rfl,by simp⟩
 | a::l,s=>by
  obtain ⟨t,h1,h2⟩:=xv200 k tx op l (some (L s++(binN (tx a)++if k=8 then [op a] else [])))
  exact ⟨t,h1,by rw [h2];simp [L]⟩
theorem xv78 (b:Option (List UInt8)) (q:fn60) (h1:(L q.Filters).length ≤ 1000) (h2:∀ f ∈ L q.Filters,f.Text.length ≤ 9000) (hb:(L b).length ≤ 100000000) :
 ∃ x,fn46 b q=some x∧L x=L b++filN q.Kind ((L q.Filters).map fR):=by
 have hl:lim=140737488300000:=rfl
 simp only [fn46]
 have key:=xv24 (L q.Filters) (fn46_l0 q.Filters ((L q.Filters).length:Int) q) (fun (s:Option (List UInt8)) i=>(s,i)) (fun (s:Option (List UInt8)) (a:fn59)=>(.inl (some (L s++(binN a.Text++if q.Kind=8 then [a.Opt] else []))):Option (List UInt8) ⊕ Option (List UInt8))) (fun s=>s) (fun i s=>(L s).length ≤ 100000000 + 9100 * i)
  (fun s i hi hI=>by
   have hm:(L q.Filters)[i] ∈ L q.Filters:=List.getElem_mem hi
   have ha:=h2 _ hm
   simp only [fn46_l0,fn46_b0]
   rw [if_pos (by simp;omega),xv2,List.getElem?_eq_getElem hi]
   simp only [Option.bind_some]
   rw [xv28 s _ (by omega) (by omega)]
   simp only [Option.bind_some,xv3 (show i < 9223372036854775807 by omega),stepL]
   by_cases hk:q.Kind=8
   ·rw [if_pos (by simpa using hk),xv119 _ _ [] (by show (L s++binN (L q.Filters)[i].Text).length + 0 + 1 ≤ _;rw [List.length_append,xv5];omega)]
    simp [hk,L,binN]
   ·rw [if_neg (by simpa using hk)]
    simp [hk,L,binN])
  (fun s i hi s' hI hg=>by
   have hm:(L q.Filters)[i] ∈ L q.Filters:=List.getElem_mem hi
   have ha:=h2 _ hm
   simp only [Sum.inl.injEq] at hg
   subst hg
   have hn:=xv5 (L q.Filters)[i].Text
   show (L s++(binN (L q.Filters)[i].Text++if q.Kind=8 then [(L q.Filters)[i].Opt] else [])).length ≤ _
   rw [List.length_append,List.length_append,hn]
   split<;>simp<;>omega)
  (fun s hI=>by
   simp only [fn46_l0,fn46_b0]
   rw [if_neg (by simp)])
  b (by omega)
 obtain ⟨t,g1,g2⟩:=xv200 q.Kind (fun a:fn59=>a.Text) (fun a=>a.Opt) (L q.Filters) b
 rw [g1] at key
 rw [key]
 refine ⟨t,rfl,?_⟩
 rw [g2,filN,List.flatMap_map]
 rfl
def fl (b:Bool) (n:UInt8):UInt8:=if b then n else 0
def conF (p:fn113):UInt8:=((((fl p.Clean 2 ||| fl p.HasWill 4) ||| (8 * p.WillQoS)) ||| fl p.WillRetain 32) ||| fl p.HasPass 64) ||| fl p.HasUser 128
def conB (v:Int) (p:fn113):List UInt8 :=
 binN [77,81,84,84]++[u8 v,conF p]++be 2 p.Keep.toNat++secV v (L p.Props)++binN p.Client++(if p.HasWill then secV v (L p.WillProps)++binN p.WillTopic++binN p.WillLoad else [])++(if p.HasUser then binN p.User else [])++(if p.HasPass then binN p.Pass else [])
theorem xv256 (b:Bool) (n:UInt8):fn104 b n=some (fl b n):=by cases b<;>rfl
structure Txt (p:fn113):Prop where
 cl:p.Client.length ≤ 65535
 wt:p.WillTopic.length ≤ 65535
 wl:p.WillLoad.length ≤ 65535
 us:p.User.length ≤ 65535
 ps:p.Pass.length ≤ 65535
 tp:p.Topic.length ≤ 65535
 ld:p.Load.length ≤ 1000000
 cs:(L p.Codes).length ≤ 1000000
 fl:(L p.Filters).length ≤ 1000
 ft:∀ f ∈ L p.Filters,f.Text.length ≤ 9000
 pp:Lay (L p.Props)
 wp:Lay (L p.WillProps)
theorem lenA {x:Option (List UInt8)} {l m:List UInt8} (h:L x=l++m):(L x).length=l.length + m.length:=by rw [h,List.length_append]
theorem xv270 (v:Int) (b:Option (List UInt8)) (q:fn60) (h:Txt (nP q)) (hb:(L b).length ≤ 1000):∃ x,fn44 v b q=some x∧L x=L b++conB v (nP q):=by
 have hl:lim=140737488300000:=rfl
 have h1:q.Client.length ≤ 65535:=h.cl
 have h2:q.WillTopic.length ≤ 65535:=h.wt
 have h3:q.WillLoad.length ≤ 65535:=h.wl
 have h4:q.User.length ≤ 65535:=h.us
 have h5:q.Pass.length ≤ 65535:=h.ps
 have hp:Lay ((L q.Props).map pR):=h.pp
 have hw:Lay ((L q.WillProps).map pR):=h.wp
 have c1:∀ (x:Option (List UInt8)) (k:Option (List UInt8)->Option (Option (List UInt8))),(L x).length ≤ 100000000->∃ y,fn44_c1 x q k=k y∧L y=L x++if q.HasPass then binN q.Pass else []:=fun x k hx=>by
  simp only [fn44_c1]
  cases q.HasPass with
  | false=>exact ⟨x,rfl,by simp⟩
  | true=>exact ⟨some (L x++binN q.Pass),by rw [if_pos rfl,xv28 x _ h5 (by omega)];rfl,rfl⟩
 have c0:∀ (x:Option (List UInt8)) (k:Option (List UInt8)->Option (Option (List UInt8))),(L x).length ≤ 90000000->∃ y,fn44_c0 x q k=k y∧L y=L x++((if q.HasUser then binN q.User else [])++if q.HasPass then binN q.Pass else []):=fun x k hx=>by
  simp only [fn44_c0]
  cases q.HasUser with
  | false =>
   obtain ⟨y,e1,e2⟩:=c1 x k (by omega)
   exact ⟨y,e1,by rw [e2];simp⟩
  | true =>
   rw [if_pos rfl,xv28 x _ h4 (by omega)]
   obtain ⟨y,e1,e2⟩:=c1 (some (L x++binN q.User)) k (by show (L x++binN q.User).length ≤ _;rw [List.length_append,xv5];omega)
   exact ⟨y,e1,by rw [e2];simp [L]⟩
 have hs1:=xv84 v hp
 have hs2:=xv84 v hw
 have eP:L (nP q).Props=(L q.Props).map pR:=rfl
 have eW:L (nP q).WillProps=(L q.WillProps).map pR:=rfl
 simp only [fn44,xv256,Option.bind_some]
 rw [xv28 b _ (by simp) (by simp;omega)]
 simp only [Option.bind_some]
 rw [xv33 _ _ (by simp [L,xv11];simp [L] at hb;omega)]
 simp only [Option.bind_some]
 rw [xv33 _ _ (by simp [L,xv11];simp [L] at hb;omega)]
 simp only [Option.bind_some]
 rw [xv48 _ _ (by simp [L,xv11];simp [L] at hb;omega)]
 simp only [Option.bind_some]
 generalize hX:(some (L (some (L (some (L (some (L b++(be 2 [77,81,84,84].length++[77,81,84,84])))++be 1 (u8 v).toNat))++be 1 (((((fl q.Clean 2 ||| fl q.HasWill 4) ||| 8 * q.WillQoS) ||| fl q.WillRetain 32) ||| fl q.HasPass 64) ||| fl q.HasUser 128).toNat))++be 2 q.Keep.toNat):Option (List UInt8))=X
 have lX:L X=L b++(binN [77,81,84,84]++[u8 v,conF (nP q)]++be 2 q.Keep.toNat):=by
  rw [← hX]
  simp only [be1c]
  simp [L,binN,conF,nP]
 have nX:(L X).length ≤ 2000:=by rw [lX];simp [binN,xv11];omega
 obtain ⟨y,s1,s2⟩:=xv17 v X q.Props hp (by omega)
 have n2:=lenA s2
 rw [s1]
 simp only [Option.bind_some]
 rw [xv28 y _ h1 (by omega)]
 simp only [Option.bind_some]
 have fin:∀ (z:Option (List UInt8)),L z=L X++(secV v ((L q.Props).map pR)++binN q.Client)++(if q.HasWill then secV v ((L q.WillProps).map pR)++binN q.WillTopic++binN q.WillLoad else [])->(L z).length ≤ 90000000->∃ x,fn44_c0 z q (fun x28=>some x28)=some x∧L x=L b++conB v (nP q):=fun z hz hn=>by
  obtain ⟨y,e1,e2⟩:=c0 z (fun x=>some x) hn
  refine ⟨y,e1,?_⟩
  rw [e2,hz,lX]
  simp only [conB,eP,eW,List.append_assoc]
  rfl
 have lz:L (some (L y++(be 2 q.Client.length++q.Client)))=L X++(secV v ((L q.Props).map pR)++binN q.Client):=by
  show L y++binN q.Client=_
  rw [s2,List.append_assoc]
 cases hwl:q.HasWill with
 | false =>
  rw [if_neg (by simp)]
  refine fin _ (by rw [lz,hwl];simp) (by rw [lz];simp [xv5];omega)
 | true =>
  rw [if_pos rfl]
  have n3:(L (some (L y++(be 2 q.Client.length++q.Client)))).length ≤ 20000000:=by rw [lz];simp [xv5];omega
  obtain ⟨z,t1,t2⟩:=xv17 v (some (L y++(be 2 q.Client.length++q.Client))) q.WillProps hw (by omega)
  have n4:=lenA t2
  rw [t1]
  simp only [Option.bind_some]
  rw [xv28 z _ h2 (by omega)]
  simp only [Option.bind_some]
  have n5:(L (some (L z++(be 2 q.WillTopic.length++q.WillTopic)))).length=(L z).length + (2 + q.WillTopic.length):=by
   show (L z++binN q.WillTopic).length=_
   rw [List.length_append,xv5]
  rw [xv28 _ _ h3 (by omega)]
  simp only [Option.bind_some]
  have lw:L (some (L (some (L z++(be 2 q.WillTopic.length++q.WillTopic)))++(be 2 q.WillLoad.length++q.WillLoad)))=L z++(binN q.WillTopic++binN q.WillLoad):=by
   show (L z++binN q.WillTopic)++binN q.WillLoad=_
   rw [List.append_assoc]
  refine fin _ (by rw [lw,t2,lz,hwl];simp) (by rw [lw];simp [xv5];omega)
end Go.Rv
namespace Go.Rv
def behN (v:Int) (p:fn113):List UInt8 :=
 if p.Kind=1 then conB v p
 else if p.Kind=2 then [fl p.Present 1,p.Code]++secV v (L p.Props)
 else if p.Kind=3 then binN p.Topic++(if p.QoS > 0 then be 2 p.Id.toNat else [])++secV v (L p.Props)++p.Load
 else if p.Kind=4∨p.Kind=5∨p.Kind=6∨p.Kind=7 then be 2 p.Id.toNat++codeN v p
 else if p.Kind=8∨p.Kind=10 then be 2 p.Id.toNat++secV v (L p.Props)++filN p.Kind (L p.Filters)
 else if p.Kind=9∨p.Kind=11 then be 2 p.Id.toNat++secV v (L p.Props)++L p.Codes
 else if p.Kind=14∨p.Kind=15 then codeN v p
 else []
theorem xv214 (x y:Option (List UInt8)) (h:(L x).length + (L y).length ≤ lim):∃ z,appO 1 x y=some z∧L z=L x++L y:=by
 simp only [lim] at h
 cases x with
 | some x=>exact ⟨_,xv29 (by simp [room];simp [L] at h ⊢;omega) (by simp [room];simp [L] at h ⊢;omega),rfl⟩
 | none =>
  cases hy:L y with
  | nil =>
   refine ⟨none,?_,by simp [L]⟩
   cases y with
   | none=>rfl
   | some y=>simp only [L,Option.getD_some] at hy;subst hy;rfl
  | cons a l =>
   cases y with
   | none=>simp [L] at hy
   | some y =>
    simp only [L,Option.getD_some] at hy;subst hy
    exact ⟨_,xv119 none a l (by simp [L,lim] at h ⊢;omega),by simp [L]⟩
theorem kinds {k:Int} (h:1 ≤ k∧k ≤ 15):k=1∨k=2∨k=3∨(k=4∨k=5∨k=6∨k=7)∨(k=8∨k=10)∨(k=9∨k=11)∨(k=14∨k=15)∨(k=12∨k=13):=by omega
theorem xv269 (v:Int) (b:Option (List UInt8)) (q:fn60) (h:Txt (nP q)) (hk:1 ≤ q.Kind∧q.Kind ≤ 15) (hb:(L b).length ≤ 1000):∃ x,fn55 v b q=some x∧L x=L b++behN v (nP q):=by
 have hl:lim=140737488300000:=rfl
 have hp:Lay ((L q.Props).map pR):=h.pp
 have hs1:=xv84 v hp
 have ht:q.Topic.length ≤ 65535:=h.tp
 have hld:q.Load.length ≤ 1000000:=h.ld
 have hcs:(L q.Codes).length ≤ 1000000:=h.cs
 have e1:(nP q).Kind=q.Kind:=rfl
 have e2:L (nP q).Props=(L q.Props).map pR:=rfl
 have e3:L (nP q).Codes=L q.Codes:=rfl
 have e4:L (nP q).Filters=(L q.Filters).map fR:=rfl
 have t2:=xv48 b q.Id (by omega)
 have n2:(L (some (L b++be 2 q.Id.toNat))).length=(L b).length + 2:=by simp [L,xv11]
 obtain ⟨cx,c1,c2⟩:=xv121 v (some (L b++be 2 q.Id.toNat)) q hp (by omega)
 obtain ⟨dx,d1,d2⟩:=xv121 v b q hp (by omega)
 obtain ⟨sx,s1,s2⟩:=xv17 v (some (L b++be 2 q.Id.toNat)) q.Props hp (by omega)
 have ns:=lenA s2
 obtain ⟨fx,f1,f2⟩:=xv78 sx q (by have:=h.fl;rw [e4,List.length_map] at this;exact this) (fun f hf=>h.ft (fR f) (by rw [e4];exact List.mem_map.2 ⟨f,hf,rfl⟩)) (by omega)
 obtain ⟨ax,a1,a2⟩:=xv214 sx q.Codes (by omega)
 have c1':fn85 v (some (L b++be 2 q.Id.toNat)) (⟨q.Kind,q.Dup,q.Retain,q.QoS,q.Id,q.Clean,q.Keep,q.Client,q.HasWill,q.HasUser,q.HasPass,q.WillQoS,q.WillRetain,q.WillProps,q.WillTopic,q.WillLoad,q.User,q.Pass,q.Present,q.Code,q.Topic,q.Load,q.Filters,q.Codes,q.Props⟩:fn60)=some cx:=c1
 have d1':fn85 v b (⟨q.Kind,q.Dup,q.Retain,q.QoS,q.Id,q.Clean,q.Keep,q.Client,q.HasWill,q.HasUser,q.HasPass,q.WillQoS,q.WillRetain,q.WillProps,q.WillTopic,q.WillLoad,q.User,q.Pass,q.Present,q.Code,q.Topic,q.Load,q.Filters,q.Codes,q.Props⟩:fn60)=some dx:=d1
 have f1':fn46 sx (⟨q.Kind,q.Dup,q.Retain,q.QoS,q.Id,q.Clean,q.Keep,q.Client,q.HasWill,q.HasUser,q.HasPass,q.WillQoS,q.WillRetain,q.WillProps,q.WillTopic,q.WillLoad,q.User,q.Pass,q.Present,q.Code,q.Topic,q.Load,q.Filters,q.Codes,q.Props⟩:fn60)=some fx:=f1
 rcases kinds hk with k|k|k|k|k|k|k|k
 ·obtain ⟨x,g1,g2⟩:=xv270 v b q h hb
  refine ⟨x,?_,?_⟩
  ·simp only [fn55]
   rw [if_pos (by simp [k]),g1];rfl
  ·rw [g2];simp only [behN,e1,k,if_true]
 ·obtain ⟨x,g1,g2⟩:=xv17 v (some (L b++[fl q.Present 1,q.Code])) q.Props hp (by simp [L];simp [L] at hb;omega)
  refine ⟨x,?_,?_⟩
  ·simp only [fn55]
   rw [if_neg (by simp [k]),if_pos (by simp [k]),xv256]
   simp only [Option.bind_some,xv328,sec1]
   rw [xv33 b _ (by omega)]
   simp only [Option.bind_some]
   rw [xv33 _ _ (by simp [L,xv11];simp [L] at hb;omega),be1c,be1c]
   simp only [Option.bind_some]
   rw [show (some (L (some (L b++[fl q.Present 1]))++[q.Code]):Option (List UInt8))=some (L b++[fl q.Present 1,q.Code]) by simp [L],g1]
   rfl
  ·rw [g2];simp only [behN,e1];rw [if_neg (by omega),if_pos k];simp [L,nP]
 ·have hpub:∃ x,fn45 v b q=some x∧L x=L b++(binN q.Topic++(if q.QoS > 0 then be 2 q.Id.toNat else [])++secV v ((L q.Props).map pR)++q.Load):=by
   simp only [fn45,fn45_c0,wTwo1,sec1]
   rw [xv28 b _ ht (by omega)]
   simp only [Option.bind_some]
   have nb:(L (some (L b++(be 2 q.Topic.length++q.Topic)))).length=(L b).length + (2 + q.Topic.length):=by
    show (L b++binN q.Topic).length=_
    rw [List.length_append,xv5]
   by_cases hq:q.QoS > 0
   ·rw [if_pos (by simpa using hq),xv48 _ _ (by omega),if_pos hq]
    simp only [Option.bind_some]
    have nb2:(L (some (L (some (L b++(be 2 q.Topic.length++q.Topic)))++be 2 q.Id.toNat))).length=(L b).length + (2 + q.Topic.length) + 2:=by
     show (L (some (L b++(be 2 q.Topic.length++q.Topic)))++be 2 q.Id.toNat).length=_
     rw [List.length_append,xv11,nb]
    obtain ⟨x,g1,g2⟩:=xv17 v (some (L (some (L b++(be 2 q.Topic.length++q.Topic)))++be 2 q.Id.toNat)) q.Props hp (by omega)
    have n3:=lenA g2
    rw [g1]
    simp only [Option.bind_some]
    obtain ⟨y,y1,y2⟩:=xv214 x (some q.Load) (by show _ + q.Load.length ≤ _;omega)
    exact ⟨y,by rw [y1];rfl,by rw [y2,g2];simp [L,binN]⟩
   ·rw [if_neg (by simpa using hq),if_neg hq]
    obtain ⟨x,g1,g2⟩:=xv17 v (some (L b++(be 2 q.Topic.length++q.Topic))) q.Props hp (by omega)
    have n3:=lenA g2
    rw [g1]
    simp only [Option.bind_some]
    obtain ⟨y,y1,y2⟩:=xv214 x (some q.Load) (by show _ + q.Load.length ≤ _;omega)
    exact ⟨y,by rw [y1];rfl,by rw [y2,g2];simp [L,binN]⟩
  obtain ⟨x,g1,g2⟩:=hpub
  refine ⟨x,?_,?_⟩
  ·simp only [fn55]
   rw [if_neg (by simp [k]),if_neg (by simp [k]),if_pos (by simp [k]),g1];rfl
  ·rw [g2];simp only [behN,e1];rw [if_neg (show ¬ q.Kind=1 by omega),if_neg (show ¬ q.Kind=2 by omega),if_pos k];rfl
 ·refine ⟨cx,?_,?_⟩
  ·simp only [fn55,fn55_c0,code1,t2,c1',Option.bind_some]
   rcases k with k|k|k|k<;>simp [k]
  ·rw [c2];simp only [behN,e1]
   rw [if_neg (by omega),if_neg (by omega),if_neg (by omega),if_pos k];simp [L,nP]
 ·refine ⟨fx,?_,?_⟩
  ·simp only [fn55,fn55_c0,fn55_c1,code1,sec1,fil1,t2,c1',s1,f1',Option.bind_some]
   rcases k with k|k<;>simp [k]
  ·rw [f2,s2];simp only [behN,e1]
   rw [if_neg (by omega),if_neg (by omega),if_neg (by omega),if_neg (by omega),if_pos k];simp [L,nP]
 ·refine ⟨ax,?_,?_⟩
  ·simp only [fn55,fn55_c0,fn55_c1,fn55_c2,code1,sec1,fil1,t2,c1',s1,f1',a1,Option.bind_some]
   rcases k with k|k<;>simp [k]
  ·rw [a2,s2];simp only [behN,e1]
   rw [if_neg (by omega),if_neg (by omega),if_neg (by omega),if_neg (by omega),if_neg (by omega),if_pos k];simp [L,nP]
 ·refine ⟨dx,?_,?_⟩
  ·simp only [fn55,fn55_c0,fn55_c1,fn55_c2,fn55_c3,code1,sec1,fil1,t2,c1',d1',s1,f1',a1,Option.bind_some]
   rcases k with k|k<;>simp [k]
  ·rw [d2];simp only [behN,e1]
   rw [if_neg (by omega),if_neg (by omega),if_neg (by omega),if_neg (by omega),if_neg (by omega),if_neg (by omega),if_pos k]
 ·refine ⟨b,?_,?_⟩
  ·simp only [fn55,fn55_c0,fn55_c1,fn55_c2,fn55_c3,code1,sec1,fil1,t2,c1',d1',s1,f1',a1,Option.bind_some]
   rcases k with k|k<;>simp [k]
  ·simp only [behN,e1]
   rw [if_neg (by omega),if_neg (by omega),if_neg (by omega),if_neg (by omega),if_neg (by omega),if_neg (by omega),if_neg (by omega)];simp
end Go.Rv
namespace Go.Rv
theorem xv161 (v:Int) {l:List fn163} (h:Lay l):((secV v l).length:Int)=sectI v l:=by
 simp only [secV,sectI,sizeI,h.ok,if_true]
 split<;>rfl
theorem xv177 (v:Int) (p:fn113) (h:Lay (L p.Props)):((codeN v p).length:Int)=codeI v p:=by
 simp only [codeN,codeI,sizeI,h.ok,if_true,List.length_eq_zero_iff]
 split
 ·rfl
 ·split
  ·rfl
  ·simp;omega
theorem xv126 (k:Int):∀ l:List fn112,((filN k l).length:Int)=xv22 k l
 | []=>rfl
 | f::l=>by
  have ih:=xv126 k l
  have e1:filN k (f::l)=(binN f.Text++if k=8 then [f.Opt] else [])++filN k l:=rfl
  have e2:xv22 k (f::l)=(binI f.Text + if k=8 then 1 else 0) + xv22 k l:=by simp [xv22]
  have hb:=xv5 f.Text
  rw [e1,e2,← ih,List.length_append,List.length_append,hb]
  simp only [binI]
  split<;>simp<;>omega
theorem xv122 (v:Int) (p:fn113) (h:Txt p):((behN v p).length:Int)=restI v p:=by
 have s1:=xv161 v h.pp
 have s2:=xv161 v h.wp
 have s3:=xv177 v p h.pp
 have s4:=xv126 p.Kind (L p.Filters)
 have b1:=xv5 p.Client;have b2:=xv5 p.WillTopic;have b3:=xv5 p.WillLoad;have b4:=xv5 p.User;have b5:=xv5 p.Pass;have b6:=xv5 p.Topic
 have b7:(binN [77,81,84,84]).length=6:=by rw [xv5];rfl
 simp only [behN,restI]
 split
 ·simp only [conB,List.length_append,b7,xv11,b1,binI]
  cases p.HasWill<;>cases p.HasUser<;>cases p.HasPass<;>simp [b1,b2,b3,b4,b5]<;>omega
 split
 ·simp only [List.length_append];simp;omega
 split
 ·simp only [List.length_append,b6,binI]
  split<;>simp [xv11]<;>omega
 split
 ·simp only [List.length_append,xv11];omega
 split
 ·simp only [List.length_append,xv11];omega
 split
 ·simp only [List.length_append,xv11];omega
 split
 ·exact s3
 ·rfl
def flagN (p:fn113):UInt8:=if p.Kind=3 then (fl p.Retain 1 ||| (2 * p.QoS)) ||| fl p.Dup 8 else if p.Kind=6∨p.Kind=8∨p.Kind=10 then 2 else 0
theorem xv238 (q:fn60):fn70 q=some (flagN (nP q)):=by
 have e:flagN (nP q)=if q.Kind=3 then (fl q.Retain 1 ||| (2 * q.QoS)) ||| fl q.Dup 8 else if q.Kind=6∨q.Kind=8∨q.Kind=10 then 2 else 0:=rfl
 rw [e]
 simp only [fn70,xv256,Option.bind_some,decide_eq_true_eq]
 by_cases h3:q.Kind=3
 ·simp [h3]
 ·by_cases h6:q.Kind=6
  ·simp [h6]
  ·by_cases h8:q.Kind=8
   ·simp [h8]
   ·by_cases h10:q.Kind=10
    ·simp [h10]
    ·simp [h3,h6,h8,h10]
theorem xv146 {q:UInt8} (hq:¬ q > 2):q=0∨q=1∨q=2:=by
 have h:q.toNat ≤ 2:=by
  have:¬ (2:UInt8).toNat < q.toNat:=hq
  have e2:(2:UInt8).toNat=2:=rfl
  omega
 have h3:q.toNat=0∨q.toNat=1∨q.toNat=2:=by omega
 rcases h3 with h3|h3|h3
 ·exact .inl (UInt8.toNat_inj.1 h3)
 ·exact .inr (.inl (UInt8.toNat_inj.1 h3))
 ·exact .inr (.inr (UInt8.toNat_inj.1 h3))
end Go.Rv
namespace Go.Rv
theorem xv246 {k:Int}:∀ (l:List fn163) (p:Option fn163),chkL k p l=true->l.all okB=true
 | [],_,_=>rfl
 | b::l,p,h=>by
  simp only [chkL,chk1,xv42,Bool.and_eq_true] at h
  rw [List.all_cons,xv246 l _ h.2,Bool.and_true]
  exact h.1.1.1.1
structure Facts (p:fn113):Prop where
 tx:Txt p
 k:1 ≤ p.Kind∧p.Kind ≤ 15
 wq:p.Kind=1->¬ p.WillQoS > 2
 qs:p.Kind=3->¬ p.QoS > 2
theorem xv77 {v:Int} {q:fn60} (h:MidQ q) (hr:xv6 v (nP q)=true):Facts (nP q):=by
 have h1:=h.wp;have h2:=h.pp;have h3:=h.fl;have h4:=h.cd
 have m:=h.toMidP
 have l1:=h.cl;have l2:=h.tp;have l3:=h.wo;have l4:=h.us;have l5:=h.ld
 simp only [xv6,Bool.and_eq_true] at hr
 obtain ⟨⟨⟨⟨⟨⟨a1,a2⟩,a3⟩,_⟩,a5⟩,a6⟩,a7⟩:=hr
 simp only [verB,Bool.and_eq_true,decide_eq_true_eq] at a1
 have a2:=of_decide_eq_true a2
 simp only [xv12,Bool.and_eq_true,decide_eq_true_eq] at a3
 simp only [xv7,Bool.and_eq_true] at a5 a6
 have e1:L (nP q).Props=(L q.Props).map pR:=rfl
 have e2:L (nP q).WillProps=(L q.WillProps).map pR:=rfl
 have e3:L (nP q).Filters=(L q.Filters).map fR:=rfl
 have e4:L (nP q).Codes=L q.Codes:=rfl
 refine ⟨⟨?_,?_,a3.1.2,?_,a3.2,?_,?_,?_,?_,?_,⟨?_,?_,xv246 _ _ a5.1.2⟩,⟨?_,?_,xv246 _ _ a6.1.2⟩⟩,⟨a1.1.1.2,a1.1.2⟩,?_,?_⟩
 ·show q.Client.length ≤ 65535;omega
 ·show q.WillTopic.length ≤ 65535;omega
 ·show q.User.length ≤ 65535;omega
 ·show q.Topic.length ≤ 65535;omega
 ·show q.Load.length ≤ 1000000;omega
 ·rw [e4];omega
 ·rw [e3,List.length_map];omega
 ·intro f hf
  rw [e3] at hf
  obtain ⟨g,hg,rfl⟩:=List.mem_map.1 hf
  exact m.ft g hg
 ·rw [e1,List.length_map];omega
 ·rw [e1];exact m.ptm
 ·rw [e2,List.length_map];omega
 ·rw [e2];exact m.wtm
 ·intro k
  cases hw:(nP q).HasWill with
  | true =>
   simp only [ownN,conN,k,if_true,hw,Bool.true_and,Bool.and_eq_true,Bool.not_eq_true',Bool.or_eq_false_iff,decide_eq_false_iff_not] at a7
   exact a7.1.1
  | false =>
   have:=congrArg fn113.WillQoS a2
   simp only [bareN,k,if_true,hw] at this
   rw [if_neg (by decide)] at this
   rw [this];decide
 ·intro k
  have a7:pubN v (nP q)=true:=by
   simp only [ownN,k] at a7
   simpa using a7
  simp only [pubN,Bool.and_eq_true,Bool.not_eq_true',decide_eq_false_iff_not] at a7
  exact a7.1.1.1
def packN (v:Int) (p:fn113):List UInt8:=((yv714 (u8 p.Kind) ((4:UInt64).toNat:Int)) ||| flagN p)::(vb (behN v p).length++behN v p)
theorem xv265 (v:Int) (q:fn60) (h:MidQ q) (f:Facts (nP q)):(behN v (nP q)).length ≤ 268435455:=by
 have:=(xv69 v q h).2.1
 have:=xv122 v (nP q) f.tx
 omega
theorem xv235 (v:Int) (q:fn60) (h:MidQ q) (hr:xv6 v (nP q)=true):∃ x,fn56 v q=some (x,0)∧L x=packN v (nP q):=by
 have f:=xv77 h hr
 obtain ⟨r1,r2,r3⟩:=xv69 v q h
 have hi:=xv122 v (nP q) f.tx
 have hle:=xv265 v q h f
 have hu:(u32 ((behN v (nP q)).length:Int)).toNat=(behN v (nP q)).length:=by rw [u32_toNat'];omega
 have hv:=xv88 4 (behN v (nP q)).length (by have:(128:Nat) ^ 4=268435456:=(by decide);omega)
 simp only [fn56]
 rw [xv153 v q h,hr]
 simp only [Option.bind_some]
 rw [if_neg (by simp),show fn70 (⟨q.Kind,q.Dup,q.Retain,q.QoS,q.Id,q.Clean,q.Keep,q.Client,q.HasWill,q.HasUser,q.HasPass,q.WillQoS,q.WillRetain,q.WillProps,q.WillTopic,q.WillLoad,q.User,q.Pass,q.Present,q.Code,q.Topic,q.Load,q.Filters,q.Codes,q.Props⟩:fn60)=some (flagN (nP q)) from xv238 q]
 simp only [Option.bind_some]
 rw [r1]
 simp only [Option.bind_some]
 rw [← hi,xv104 _ _ (by simp [L]),hu,if_neg (by omega)]
 simp only [Option.bind_some]
 obtain ⟨x,g1,g2⟩:=xv269 v (some (L (some [(yv714 (u8 q.Kind) ((4:UInt64).toNat:Int)) ||| flagN (nP q)])++vb (behN v (nP q)).length)) q f.tx f.k (by simp [L];omega)
 rw [show fn55 v (some (L (some [(yv714 (u8 q.Kind) ((4:UInt64).toNat:Int)) ||| flagN (nP q)])++vb (behN v (nP q)).length)) (⟨q.Kind,q.Dup,q.Retain,q.QoS,q.Id,q.Clean,q.Keep,q.Client,q.HasWill,q.HasUser,q.HasPass,q.WillQoS,q.WillRetain,q.WillProps,q.WillTopic,q.WillLoad,q.User,q.Pass,q.Present,q.Code,q.Topic,q.Load,q.Filters,q.Codes,q.Props⟩:fn60)=some x from g1]
 refine ⟨x,rfl,?_⟩
 rw [g2]
 simp only [packN,L,Option.getD_some,List.cons_append,List.nil_append,List.append_assoc]
 rfl
theorem size_eq (v:Int) (q:fn60) (h:MidQ q):fn87 v q=some (if xv6 v (nP q) then ((packN v (nP q)).length:Int) else 0):=by
 simp only [fn87]
 rw [xv153 v q h]
 simp only [Option.bind_some]
 cases hr:xv6 v (nP q) with
 | false=>rfl
 | true =>
  have f:=xv77 h hr
  obtain ⟨r1,r2,r3⟩:=xv69 v q h
  have hi:=xv122 v (nP q) f.tx
  have hle:=xv265 v q h f
  have hu:(u32 ((behN v (nP q)).length:Int)).toNat=(behN v (nP q)).length:=by rw [u32_toNat'];omega
  have hv:=xv88 4 (behN v (nP q)).length (by have:(128:Nat) ^ 4=268435456:=(by decide);omega)
  rw [if_neg (by simp),r1]
  simp only [Option.bind_some,fn71]
  rw [← hi,xv104 _ _ (by simp [L]),hu,if_neg (by omega)]
  simp only [Option.bind_some]
  have n0:L (some (L (none:Option (List UInt8))++vb (behN v (nP q)).length))=vb (behN v (nP q)).length:=by simp [L]
  rw [n0,xv0 (x:=1 + ((vb (behN v (nP q)).length).length:Int)) (by omega) (by omega),xv0 (by omega) (by omega),if_pos trivial]
  simp only [packN,List.length_cons,List.length_append]
  congr 1
  omega
def tD:fn60:=⟨3,false,false,1,7,false,0,[],false,false,false,0,false,none,[],[],[],[],false,0,[97],[120],none,none,none⟩
theorem tD_q:MidQ tD:=by
 refine ⟨⟨⟨?_,?_,?_,?_⟩,?_,?_,?_,?_,?_,?_,?_⟩,?_,?_,?_⟩<;>simp [tD,L]
theorem tD_r:xv6 4 (nP tD)=true:=by kernel_rfl
theorem tD_b:behN 4 (nP tD)=[0,1,97,0,7,120]:=by kernel_rfl
theorem tD_p:packN 4 (nP tD)=[50,6,0,1,97,0,7,120]:=by
 simp only [packN,tD_b]
 rw [vb_lt (by decide)]
 kernel_rfl
theorem xv130:fn159=some true:=by
 obtain ⟨x,g1,g2⟩:=xv235 4 tD tD_q tD_r
 rw [tD_p] at g2
 simp only [fn159]
 rw [show fn56 4 (⟨3,false,false,(1:UInt8),(7:UInt16),false,(0:UInt16),[],false,false,false,(0:UInt8),false,none,[],[],[],[],false,(0:UInt8),[97],[120],none,none,none⟩:fn60)=some (x,0) from g1]
 simp only [Option.bind_some]
 rw [if_pos (by decide),if_pos (by simp [g2])]
 rw [show fn87 4 (⟨3,false,false,(1:UInt8),(7:UInt16),false,(0:UInt16),[],false,false,false,(0:UInt8),false,none,[],[],[],[],false,(0:UInt8),[97],[120],none,none,none⟩:fn60)=some 8 from (size_eq 4 tD tD_q).trans (by rw [tD_r,tD_p];rfl)]
 simp only [Option.bind_some]
 rw [if_pos (by decide)]
 rw [show fn70 (⟨3,false,false,(1:UInt8),(7:UInt16),false,(0:UInt16),[],false,false,false,(0:UInt8),false,none,[],[],[],[],false,(0:UInt8),[97],[120],none,none,none⟩:fn60)=some 2 from by kernel_rfl]
 simp only [Option.bind_some]
 rw [if_pos (by decide)]
 rw [show fn79 4 (⟨3,false,false,(1:UInt8),(7:UInt16),false,(0:UInt16),[],false,false,false,(0:UInt8),false,none,[],[],[],[],false,(0:UInt8),[97],[120],none,none,none⟩:fn60)=some 6 from (xv69 4 tD tD_q).1.trans (by kernel_rfl)]
 rfl
end Go.Rv
namespace Go.Rv
theorem xv310 {n m:Nat} {x y:List UInt8} (hn:n < 256) (hm:m < 256) (h:be 1 n++x=be 1 m++y):n=m∧x=y:=by
 rw [be1,be1] at h
 simp only [List.cons_append,List.nil_append,List.cons.injEq] at h
 have e1:=congrArg UInt8.toNat h.1
 simp only [UInt8.toNat_ofNat'] at e1
 exact ⟨by omega,h.2⟩
theorem xv216 {n m:Nat} {x y:List UInt8} (hn:n < 65536) (hm:m < 65536) (h:be 2 n++x=be 2 m++y):n=m∧x=y:=by
 rw [be2,be2] at h
 simp only [List.cons_append,List.nil_append,List.cons.injEq] at h
 obtain ⟨h1,h2,h3⟩:=h
 have e1:=congrArg UInt8.toNat h1
 have e2:=congrArg UInt8.toNat h2
 simp only [UInt8.toNat_ofNat'] at e1 e2
 exact ⟨by omega,h3⟩
theorem xv311 {n m:Nat} {x y:List UInt8} (hn:n < 4294967296) (hm:m < 4294967296) (h:be 4 n++x=be 4 m++y):n=m∧x=y:=by
 rw [be4,be4] at h
 simp only [List.cons_append,List.nil_append,List.cons.injEq] at h
 obtain ⟨h1,h2,h3,h4,h5⟩:=h
 have e1:=congrArg UInt8.toNat h1
 have e2:=congrArg UInt8.toNat h2
 have e3:=congrArg UInt8.toNat h3
 have e4:=congrArg UInt8.toNat h4
 simp only [UInt8.toNat_ofNat'] at e1 e2 e3 e4
 exact ⟨by omega,h5⟩
theorem vb_ud:∀ (n m:Nat) (x y:List UInt8),vb n++x=vb m++y->n=m∧x=y:=by
 intro n
 induction n using Nat.strongRecOn with
 | _ n ih =>
  intro m x y h
  by_cases hn:n < 128<;>by_cases hm:m < 128
  ·rw [vb_lt hn,vb_lt hm] at h
   simp only [List.cons_append,List.nil_append,List.cons.injEq] at h
   have e1:=congrArg UInt8.toNat h.1
   simp only [UInt8.toNat_ofNat'] at e1
   exact ⟨by omega,h.2⟩
  ·rw [vb_lt hn,vb_ge hm] at h
   simp only [List.cons_append,List.nil_append,List.cons.injEq] at h
   have e1:=congrArg UInt8.toNat h.1
   simp only [UInt8.toNat_ofNat'] at e1
   omega
  ·rw [vb_ge hn,vb_lt hm] at h
   simp only [List.cons_append,List.nil_append,List.cons.injEq] at h
   have e1:=congrArg UInt8.toNat h.1
   simp only [UInt8.toNat_ofNat'] at e1
   omega
  ·rw [vb_ge hn,vb_ge hm] at h
   simp only [List.cons_append,List.cons.injEq] at h
   have e1:=congrArg UInt8.toNat h.1
   simp only [UInt8.toNat_ofNat'] at e1
   obtain ⟨e2,e3⟩:=ih (n / 128) (by omega) (m / 128) x y h.2
   exact ⟨by omega,e3⟩
theorem xv16 {a b x y:List UInt8} (ha:a.length ≤ 65535) (hb:b.length ≤ 65535) (h:binN a++x=binN b++y):a=b∧x=y:=by
 simp only [binN,List.append_assoc] at h
 obtain ⟨e1,e2⟩:=xv216 (by omega) (by omega) h
 exact List.append_inj e2 e1
structure OkP (p:fn163):Prop where
 ok:okB p=true
 a:p.A.length ≤ 65535
 b:p.B.length ≤ 65535
theorem n32 {n m:UInt32} (h:n.toNat=m.toNat):n=m:=UInt32.toNat_inj.1 h
theorem xv287 {p q:fn163} {x y:List UInt8} (hp:OkP p) (hq:OkP q) (h:oneN p++x=oneN q++y):p=q∧x=y:=by
 obtain ⟨i,n,a,b⟩:=p
 obtain ⟨j,m,c,d⟩:=q
 obtain ⟨p1,p2,p3⟩:=hp
 obtain ⟨q1,q2,q3⟩:=hq
 simp only [oneN,List.cons_append,List.cons.injEq] at h
 obtain ⟨rfl,h⟩:=h
 simp only [okB,xv20] at p1 q1
 simp only at p2 p3 q2 q3
 have hn:=n.toNat_lt
 have hm:=m.toNat_lt
 by_cases t1:typeT i=1
 ·rw [if_pos t1] at p1 q1
  rw [if_pos t1,if_pos t1] at h
  simp only [Bool.and_eq_true,decide_eq_true_eq,UInt32.lt_iff_toNat_lt] at p1 q1
  obtain ⟨e1,e2⟩:=xv310 (show n.toNat < 256 from p1.1) (show m.toNat < 256 from q1.1) h
  rw [n32 e1,p1.2.1,p1.2.2,q1.2.1,q1.2.2];exact ⟨rfl,e2⟩
 rw [if_neg t1] at p1 q1
 rw [if_neg t1,if_neg t1] at h
 by_cases t2:typeT i=2
 ·rw [if_pos t2] at p1 q1
  rw [if_pos t2,if_pos t2] at h
  simp only [Bool.and_eq_true,decide_eq_true_eq,UInt32.lt_iff_toNat_lt] at p1 q1
  obtain ⟨e1,e2⟩:=xv216 (show n.toNat < 65536 from p1.1) (show m.toNat < 65536 from q1.1) h
  rw [n32 e1,p1.2.1,p1.2.2,q1.2.1,q1.2.2];exact ⟨rfl,e2⟩
 rw [if_neg t2] at p1 q1
 rw [if_neg t2,if_neg t2] at h
 by_cases t3:typeT i=3
 ·rw [if_pos t3] at p1 q1
  rw [if_pos t3,if_pos t3] at h
  simp only [Bool.and_eq_true,decide_eq_true_eq] at p1 q1
  obtain ⟨e1,e2⟩:=xv311 hn hm h
  rw [n32 e1,p1.1,p1.2,q1.1,q1.2];exact ⟨rfl,e2⟩
 rw [if_neg t3] at p1 q1
 rw [if_neg t3,if_neg t3] at h
 by_cases t4:typeT i=4
 ·rw [if_pos t4] at p1 q1
  rw [if_pos t4,if_pos t4] at h
  simp only [Bool.and_eq_true,decide_eq_true_eq,UInt32.lt_iff_toNat_lt] at p1 q1
  have l1:n.toNat < 268435456:=p1.1
  have l2:m.toNat < 268435456:=q1.1
  rw [if_neg (by omega),if_neg (by omega)] at h
  obtain ⟨e1,e2⟩:=vb_ud _ _ _ _ h
  rw [n32 e1,p1.2.1,p1.2.2,q1.2.1,q1.2.2];exact ⟨rfl,e2⟩
 rw [if_neg t4] at p1 q1
 rw [if_neg t4,if_neg t4] at h
 by_cases t5:typeT i=5
 ·rw [if_pos t5] at p1 q1
  have t7:¬ typeT i=7:=by omega
  rw [if_neg t7,if_neg t7] at h
  simp only [Bool.and_eq_true,decide_eq_true_eq] at p1 q1
  obtain ⟨e1,e2⟩:=xv16 p2 q2 h
  rw [p1.1.1,q1.1.1,e1,p1.2,q1.2];exact ⟨rfl,e2⟩
 rw [if_neg t5] at p1 q1
 by_cases t6:typeT i=6
 ·rw [if_pos t6] at p1 q1
  have t7:¬ typeT i=7:=by omega
  rw [if_neg t7,if_neg t7] at h
  simp only [Bool.and_eq_true,decide_eq_true_eq] at p1 q1
  obtain ⟨e1,e2⟩:=xv16 p2 q2 h
  rw [p1.1,q1.1,e1,p1.2,q1.2];exact ⟨rfl,e2⟩
 rw [if_neg t6] at p1 q1
 by_cases t7:typeT i=7
 ·rw [if_pos t7] at p1 q1
  rw [if_pos t7,if_pos t7,List.append_assoc,List.append_assoc] at h
  simp only [Bool.and_eq_true,decide_eq_true_eq] at p1 q1
  obtain ⟨e1,e2⟩:=xv16 p2 q2 h
  obtain ⟨e3,e4⟩:=xv16 p3 q3 e2
  rw [p1.1.1,q1.1.1,e1,e3];exact ⟨rfl,e4⟩
 rw [if_neg t7] at p1
 cases p1
theorem xv139 (p:fn163) (l:List UInt8):oneN p++l ≠ []:=by simp [oneN]
theorem xv207:∀ (l m:List fn163),(∀ p ∈ l,OkP p)->(∀ p ∈ m,OkP p)->secN l=secN m->l=m
 | [],[],_,_,_=>rfl
 | [],q::m,_,_,h=>by simp only [secN,List.flatMap_nil,List.flatMap_cons] at h;exact absurd h.symm (xv139 _ _)
 | p::l,[],_,_,h=>by simp only [secN,List.flatMap_nil,List.flatMap_cons] at h;exact absurd h (xv139 _ _)
 | p::l,q::m,hl,hm,h=>by
  simp only [secN,List.flatMap_cons] at h
  obtain ⟨e1,e2⟩:=xv287 (hl p (by simp)) (hm q (by simp)) h
  rw [e1,xv207 l m (fun x hx=>hl x (by simp [hx])) (fun x hx=>hm x (by simp [hx])) e2]
theorem xv206 {l m:List fn163} {x y:List UInt8} (hl:∀ p ∈ l,OkP p) (hm:∀ p ∈ m,OkP p) (h:putN l++x=putN m++y):l=m∧x=y:=by
 simp only [putN,List.append_assoc] at h
 obtain ⟨e1,e2⟩:=vb_ud _ _ _ _ h
 obtain ⟨e3,e4⟩:=List.append_inj e2 e1
 exact ⟨xv207 l m hl hm e3,e4⟩
theorem xv100 {v:Int} {l m:List fn163} {x y:List UInt8} (hl:∀ p ∈ l,OkP p) (hm:∀ p ∈ m,OkP p) (l4:v=4->l=[]) (m4:v=4->m=[]) (h:secV v l++x=secV v m++y):l=m∧x=y:=by
 simp only [secV] at h
 by_cases h4:v=4
 ·rw [if_pos h4,if_pos h4] at h
  rw [l4 h4,m4 h4];exact ⟨rfl,h⟩
 ·rw [if_neg h4,if_neg h4] at h
  exact xv206 hl hm h
theorem xv127 {k:Int}:∀ (l m:List fn112),(∀ f ∈ l,f.Text.length ≤ 65535∧(k ≠ 8->f.Opt=0))->(∀ f ∈ m,f.Text.length ≤ 65535∧(k ≠ 8->f.Opt=0))->filN k l=filN k m->l=m
 | [],[],_,_,_=>rfl
 | [],q::m,_,_,h=>by
  have:=congrArg List.length h
  simp [filN,binN,xv11] at this;try omega
 | p::l,[],_,_,h=>by
  have:=congrArg List.length h
  simp [filN,binN,xv11] at this;try omega
 | p::l,q::m,hl,hm,h=>by
  obtain ⟨a1,a2⟩:=hl p (by simp)
  obtain ⟨b1,b2⟩:=hm q (by simp)
  simp only [filN,List.flatMap_cons,List.append_assoc] at h
  obtain ⟨e1,e2⟩:=xv16 a1 b1 h
  obtain ⟨t1,o1⟩:=p
  obtain ⟨t2,o2⟩:=q
  simp only at e1 a2 b2 e2
  by_cases h8:k=8
  ·rw [if_pos h8,if_pos h8] at e2
   simp only [List.cons_append,List.nil_append,List.cons.injEq] at e2
   rw [e1,e2.1,xv127 l m (fun x hx=>hl x (by simp [hx])) (fun x hx=>hm x (by simp [hx])) e2.2]
  ·rw [if_neg h8,if_neg h8] at e2
   simp only [List.nil_append] at e2
   rw [e1,a2 h8,b2 h8,xv127 l m (fun x hx=>hl x (by simp [hx])) (fun x hx=>hm x (by simp [hx])) e2]
end Go.Rv
namespace Go.Rv
theorem xv49 {l:List fn163} (h:Lay l):∀ p ∈ l,OkP p:=fun p hp=>by
 have h1:=h.txt p hp
 exact ⟨List.all_eq_true.1 h.ok p hp,by omega,by omega⟩
theorem xv198 (p:fn113) (hw:¬ p.WillQoS > 2):decide (conF p &&& 2=2)=p.Clean∧decide (conF p &&& 4=4)=p.HasWill∧(conF p >>> 3) &&& 3=p.WillQoS∧decide (conF p &&& 32=32)=p.WillRetain∧decide (conF p &&& 64=64)=p.HasPass∧decide (conF p &&& 128=128)=p.HasUser:=by
 have:p.WillQoS=0∨p.WillQoS=1∨p.WillQoS=2:=xv146 hw
 rcases this with h|h|h<;>simp only [conF,h]<;>cases p.Clean<;>cases p.HasWill<;>cases p.WillRetain<;>cases p.HasPass<;>cases p.HasUser<;>decide
theorem xv129 (p:fn113) (h3:p.Kind=3) (hw:¬ p.QoS > 2):decide (flagN p &&& 1=1)=p.Retain∧decide (flagN p &&& 8=8)=p.Dup∧(flagN p >>> 1) &&& 3=p.QoS:=by
 have:p.QoS=0∨p.QoS=1∨p.QoS=2:=xv146 hw
 simp only [flagN,if_pos h3]
 rcases this with h|h|h<;>simp only [h]<;>cases p.Retain<;>cases p.Dup<;>decide
theorem xv201 (p:fn113) (f:Facts p):∃ k:Fin 16,flagN p=UInt8.ofNat k.val:=by
 by_cases h3:p.Kind=3
 ·have:p.QoS=0∨p.QoS=1∨p.QoS=2:=xv146 (f.qs h3)
  simp only [flagN,if_pos h3]
  rcases this with h|h|h<;>simp only [h]<;>cases p.Retain<;>cases p.Dup<;>decide
 ·simp only [flagN,if_neg h3]
  split<;>decide
theorem xv132:∀ k f:Fin 16,(yv714 (u8 ((k.val:Nat):Int)) ((4:UInt64).toNat:Int) ||| UInt8.ofNat f.val) >>> 4=UInt8.ofNat k.val∧(yv714 (u8 ((k.val:Nat):Int)) ((4:UInt64).toNat:Int) ||| UInt8.ofNat f.val) &&& 15=UInt8.ofNat f.val:=by decide
theorem xv279 {p q:fn113} (f:Facts p) (g:Facts q) (h:(yv714 (u8 p.Kind) ((4:UInt64).toNat:Int)) ||| flagN p=(yv714 (u8 q.Kind) ((4:UInt64).toNat:Int)) ||| flagN q):p.Kind=q.Kind∧flagN p=flagN q:=by
 obtain ⟨a,ha⟩:=xv201 p f
 obtain ⟨b,hb⟩:=xv201 q g
 obtain ⟨n,hn⟩:∃ n:Fin 16,p.Kind=((n.val:Nat):Int):=⟨⟨p.Kind.toNat,by have:=f.k;omega⟩,by have:=f.k;simp;omega⟩
 obtain ⟨m,hm⟩:∃ n:Fin 16,q.Kind=((n.val:Nat):Int):=⟨⟨q.Kind.toNat,by have:=g.k;omega⟩,by have:=g.k;simp;omega⟩
 rw [ha,hb,hn,hm] at h
 rw [ha,hb,hn,hm]
 obtain ⟨x1,x2⟩:=xv132 n a
 obtain ⟨y1,y2⟩:=xv132 m b
 rw [h] at x1 x2
 rw [y1] at x1
 rw [y2] at x2
 have e:=congrArg UInt8.toNat x1
 simp only [UInt8.toNat_ofNat'] at e
 exact ⟨by omega,x2.symm⟩
theorem code4 {k:Int} {c:UInt8} (hk:k=4∨k=5∨k=6∨k=7∨k=14) (h:knB 4 k c=true):c=0:=by
 have e:xv178 4 k=[0]:=by
  rcases hk with rfl|rfl|rfl|rfl|rfl<;>rfl
 simp only [knB,e] at h
 simpa using h
end Go.Rv
namespace Go.Rv
structure May (v:Int) (p:fn113):Prop where
 vv:v=4∨v=5
 n:p=nR p
 b:p=bareN p
 f:Facts p
 p4:v=4->L p.Props=[]
 w4:v=4->L p.WillProps=[]
 own:ownN v p=true
theorem filt {v:Int} {k:Int} (hk:k=8∨k=10) (hv:v=4∨v=5) {p:fn113} (e:p.Kind=k) (f:Facts p) (h:xv15 v p=true):∀ x ∈ L p.Filters,x.Text.length ≤ 65535∧(k ≠ 8->x.Opt=0):=fun x hx=>by
 refine ⟨by have:=f.tx.ft x hx;omega,fun h8=>?_⟩
 have hk:k=10:=by omega
 simp only [xv15,Bool.and_eq_true] at h
 have:=List.all_eq_true.1 h.2 x hx
 rw [e,hk] at this
 simp only [wantN,Bool.and_eq_true] at this
 have h2:=this.2
 rw [xv323 v 10 hv (.inr rfl)] at h2
 simp [optR] at h2
 exact h2.1.1.1.2
theorem xv197 {v:Int} {p q:fn113} (hp:May v p) (hq:May v q) (e:p.Kind=q.Kind) (hk:p.Kind=4∨p.Kind=5∨p.Kind=6∨p.Kind=7∨p.Kind=14∨(p.Kind=15)) (k1:knB v p.Kind p.Code=true) (k2:knB v q.Kind q.Code=true) (h15:v=4->p.Kind ≠ 15) (h:codeN v p=codeN v q):p.Code=q.Code∧L p.Props=L q.Props:=by
 by_cases h4:v=4
 ·subst h4
  have hk:p.Kind=4∨p.Kind=5∨p.Kind=6∨p.Kind=7∨p.Kind=14:=by have:=h15 rfl;omega
  rw [code4 hk k1,code4 (e ▸ hk) k2,hp.p4 rfl,hq.p4 rfl]
  exact ⟨rfl,rfl⟩
 ·have ok:=xv49 hp.f.tx.pp
  have ok':=xv49 hq.f.tx.pp
  have ne:∀ l,putN l ≠ []:=fun l hn=>by
   have:=congrArg List.length hn
   have h2:(vb (secN l).length).length ≠ 0:=fun h0=>by
    have h3:=List.eq_nil_of_length_eq_zero h0
    by_cases hl:(secN l).length < 128
    ·rw [vb_lt hl] at h3;cases h3
    ·rw [vb_ge hl] at h3;cases h3
   simp only [putN,List.length_append,List.length_nil] at this
   omega
  simp only [codeN,h4,false_or] at h
  by_cases c1:p.Code=0∧L p.Props=[]<;>by_cases c2:q.Code=0∧L q.Props=[]
  ·rw [c1.1,c1.2,c2.1,c2.2];exact ⟨rfl,rfl⟩
  ·rw [if_pos c1,if_neg c2] at h
   split at h<;>cases h
  ·rw [if_neg c1,if_pos c2] at h
   split at h<;>cases h
  ·rw [if_neg c1,if_neg c2] at h
   by_cases d1:L p.Props=[]<;>by_cases d2:L q.Props=[]
   ·rw [if_pos d1,if_pos d2] at h
    simp only [List.cons.injEq,and_true] at h
    rw [d1,d2];exact ⟨h,rfl⟩
   ·rw [if_pos d1,if_neg d2] at h
    simp only [List.cons.injEq] at h
    exact absurd h.2.symm (ne _)
   ·rw [if_neg d1,if_pos d2] at h
    simp only [List.cons.injEq] at h
    exact absurd h.2 (ne _)
   ·rw [if_neg d1,if_neg d2] at h
    simp only [List.cons.injEq] at h
    have:=xv206 (x:=[]) (y:=[]) ok ok' (by rw [h.2])
    exact ⟨h.1,this.1⟩
theorem eq16N {n m:UInt16} (h:n.toNat=m.toNat):n=m:=UInt16.toNat_inj.1 h
theorem id_ud {n m:UInt16} {x y:List UInt8} (h:be 2 n.toNat++x=be 2 m.toNat++y):n=m∧x=y:=by
 obtain ⟨a,b⟩:=xv216 n.toNat_lt m.toNat_lt h
 exact ⟨eq16N a,b⟩
theorem xv290 {b:Bool} {a c x y:List UInt8} (ha:a.length ≤ 65535) (hc:c.length ≤ 65535) (h:(if b=true then binN a else [])++x=(if b=true then binN c else [])++y):(b=true->a=c)∧x=y:=by
 cases b with
 | false=>exact ⟨nofun,by simpa using h⟩
 | true =>
  simp only [if_true] at h
  obtain ⟨e1,e2⟩:=xv16 ha hc h
  exact ⟨fun _=>e1,e2⟩
theorem xv313 {v:Int} {p q:fn113} (hp:May v p) (hq:May v q) (e:p.Kind=q.Kind) (k1:p.Kind=1) (h:conB v p=conB v q):bareN p=bareN q:=by
 have tp:=hp.f.tx
 have tq:=hq.f.tx
 have k2:q.Kind=1:=by omega
 simp only [conB,List.append_assoc] at h
 have h:=(xv16 (by decide) (by decide) h).2
 simp only [List.cons_append,List.nil_append,List.cons.injEq,true_and] at h
 obtain ⟨hc,h⟩:=h
 obtain ⟨c1,c2,c3,c4,c5,c6⟩:=xv198 p (hp.f.wq k1)
 obtain ⟨d1,d2,d3,d4,d5,d6⟩:=xv198 q (hq.f.wq k2)
 rw [hc] at c1 c2 c3 c4 c5 c6
 have e1:p.Clean=q.Clean:=c1.symm.trans d1
 have e2:p.HasWill=q.HasWill:=c2.symm.trans d2
 have e3:p.WillQoS=q.WillQoS:=c3.symm.trans d3
 have e4:p.WillRetain=q.WillRetain:=c4.symm.trans d4
 have e5:p.HasPass=q.HasPass:=c5.symm.trans d5
 have e6:p.HasUser=q.HasUser:=c6.symm.trans d6
 obtain ⟨e7,h⟩:=id_ud h
 obtain ⟨e8,h⟩:=xv100 (xv49 tp.pp) (xv49 tq.pp) hp.p4 hq.p4 h
 obtain ⟨e9,h⟩:=xv16 tp.cl tq.cl h
 have e8':p.Props=q.Props:=by
  rw [hp.n,hq.n];simp only [nR];rw [e8]
 have wl:p.HasWill=true->p.WillProps=q.WillProps∧p.WillTopic=q.WillTopic∧p.WillLoad=q.WillLoad:=fun hw=>by
  rw [← e2,hw] at h
  simp only [if_true,List.append_assoc] at h
  obtain ⟨a1,h⟩:=xv100 (xv49 tp.wp) (xv49 tq.wp) hp.w4 hq.w4 h
  obtain ⟨a2,h⟩:=xv16 tp.wt tq.wt h
  obtain ⟨a3,h⟩:=xv16 tp.wl tq.wl h
  refine ⟨?_,a2,a3⟩
  rw [hp.n,hq.n];simp only [nR];rw [a1]
 have h:(if p.HasUser=true then binN p.User else [])++((if p.HasPass=true then binN p.Pass else [])++[])=(if p.HasUser=true then binN q.User else [])++((if p.HasPass=true then binN q.Pass else [])++[]):=by
  rw [← e2,← e6,← e5] at h
  cases hw:p.HasWill with
  | false=>rw [hw] at h;simpa using h
  | true =>
   rw [hw] at h
   obtain ⟨_,_⟩:=wl hw
   simp only [if_true,List.append_assoc] at h
   obtain ⟨a1,h⟩:=xv100 (xv49 tp.wp) (xv49 tq.wp) hp.w4 hq.w4 h
   obtain ⟨a2,h⟩:=xv16 tp.wt tq.wt h
   obtain ⟨a3,h⟩:=xv16 tp.wl tq.wl h
   simpa using h
 obtain ⟨u1,h⟩:=xv290 tp.us tq.us h
 obtain ⟨u2,h⟩:=xv290 tp.ps tq.ps h
 simp only [bareN]
 rw [if_pos k1,if_pos k2,← e,← e1,← e2,← e3,← e4,← e5,← e6,← e7,← e8',← e9]
 have w1:(if p.HasWill=true then p.WillProps else some [])=if p.HasWill=true then q.WillProps else some []:=by split;exact (wl (by assumption)).1;rfl
 have w2:(if p.HasWill=true then p.WillTopic else [])=if p.HasWill=true then q.WillTopic else []:=by split;exact (wl (by assumption)).2.1;rfl
 have w3:(if p.HasWill=true then p.WillLoad else [])=if p.HasWill=true then q.WillLoad else []:=by split;exact (wl (by assumption)).2.2;rfl
 have w4:(if p.HasUser=true then p.User else [])=if p.HasUser=true then q.User else []:=by split;exact u1 (by assumption);rfl
 have w5:(if p.HasPass=true then p.Pass else [])=if p.HasPass=true then q.Pass else []:=by split;exact u2 (by assumption);rfl
 rw [w1,w2,w3,w4,w5]
theorem scn1 {v:Int} {p q:fn113} (hp:May v p) (hq:May v q) {x y:List UInt8} (h:secV v (L p.Props)++x=secV v (L q.Props)++y):p.Props=q.Props∧x=y:=by
 obtain ⟨e,h⟩:=xv100 (xv49 hp.f.tx.pp) (xv49 hq.f.tx.pp) hp.p4 hq.p4 h
 refine ⟨?_,h⟩
 rw [hp.n,hq.n];simp only [nR];rw [e]
theorem xv312 {v:Int} {p q:fn113} (hp:May v p) (hq:May v q) (h15:v=4->p.Kind ≠ 15) (e:p.Kind=q.Kind) (hf:flagN p=flagN q) (h:behN v p=behN v q):p=q:=by
 have tp:=hp.f.tx
 have tq:=hq.f.tx
 have o1:=hp.own
 have o2:=hq.own
 have pn:∀ {a b:List fn163},L p.Props=a->L q.Props=b->a=b->p.Props=q.Props:=fun h1 h2 h3=>by
  rw [hp.n,hq.n];simp only [nR];rw [h1,h2,h3]
 rw [hp.b,hq.b]
 simp only [behN] at h
 simp only [ownN] at o1 o2
 rw [← e] at h o2
 by_cases k1:p.Kind=1
 ·rw [if_pos k1,if_pos k1] at h
  exact xv313 hp hq e k1 h
 rw [if_neg k1,if_neg k1] at h
 rw [if_neg k1] at o1 o2
 have k1':¬ q.Kind=1:=by rwa [← e]
 simp only [bareN]
 rw [if_neg k1,if_neg k1',← e]
 by_cases k2:p.Kind=2
 ·rw [if_pos k2,if_pos k2] at h ⊢
  simp only [List.cons_append,List.nil_append,List.cons.injEq] at h
  obtain ⟨h1,h2,h3⟩:=h
  have e3:=(scn1 (x:=[]) (y:=[]) hp hq (by rw [h3])).1
  have e1:p.Present=q.Present:=by
   revert h1;cases p.Present<;>cases q.Present<;>simp [fl]
  simp only [z0]
  rw [e1,h2,e3,e]
 rw [if_neg k2,if_neg k2] at h ⊢
 rw [if_neg k2] at o1 o2
 by_cases k3:p.Kind=3
 ·rw [if_pos k3,if_pos k3] at h ⊢
  have k3':q.Kind=3:=by rwa [← e]
  obtain ⟨c1,c2,c3⟩:=xv129 p k3 (hp.f.qs k3)
  obtain ⟨d1,d2,d3⟩:=xv129 q k3' (hq.f.qs k3')
  rw [hf] at c1 c2 c3
  have e1:p.Retain=q.Retain:=c1.symm.trans d1
  have e2:p.Dup=q.Dup:=c2.symm.trans d2
  have e3:p.QoS=q.QoS:=c3.symm.trans d3
  simp only [List.append_assoc] at h
  obtain ⟨e4,h⟩:=xv16 tp.tp tq.tp h
  rw [if_pos k3] at o1 o2
  simp only [pubN,Bool.and_eq_true] at o1 o2
  have i1:=o1.1.2
  have i2:=o2.1.2
  rw [beq_iff_eq] at i1 i2
  have e5:p.Id=q.Id∧secV v (L p.Props)++p.Load=secV v (L q.Props)++q.Load:=by
   rw [← e3] at h
   by_cases hq0:p.QoS > 0
   ·rw [if_pos hq0,if_pos hq0] at h
    exact id_ud h
   ·rw [if_neg hq0,if_neg hq0] at h
    have hq1:p.QoS=0:=by
     have:=hq0
     simp only [GT.gt,UInt8.lt_iff_toNat_lt] at this
     have:p.QoS.toNat=(0:UInt8).toNat:=by simp at this ⊢;omega
     exact UInt8.toNat_inj.1 this
    rw [← e3] at i2
    rw [decide_eq_true hq1] at i1 i2
    exact ⟨by rw [of_decide_eq_true i1,of_decide_eq_true i2],by simpa using h⟩
  obtain ⟨e5,h⟩:=e5
  obtain ⟨e6,h⟩:=scn1 hp hq h
  simp only [z0]
  rw [e1,e2,e3,e4,e5,e6,h,e]
 rw [if_neg k3,if_neg k3] at h ⊢
 rw [if_neg k3] at o1 o2
 by_cases k4:p.Kind=4∨p.Kind=5∨p.Kind=6∨p.Kind=7
 ·rw [if_pos k4,if_pos k4] at h ⊢
  obtain ⟨e1,h⟩:=id_ud h
  rw [if_neg (by omega),if_neg (by omega),if_neg (by omega),if_neg (by omega),if_neg (by omega)] at o1 o2
  simp only [Bool.and_eq_true] at o1 o2
  obtain ⟨e2,e3⟩:=xv197 hp hq e (by omega) o1.2 (by rw [← e];exact o2.2) h15 h
  simp only [z0]
  rw [e1,e2,pn rfl rfl e3,e]
 rw [if_neg k4,if_neg k4] at h ⊢
 by_cases k8:p.Kind=8∨p.Kind=10
 ·rw [if_pos k8,if_pos k8] at h ⊢
  rw [if_pos k8] at o1 o2
  simp only [Bool.and_eq_true] at o1 o2
  simp only [List.append_assoc] at h
  obtain ⟨e1,h⟩:=id_ud h
  obtain ⟨e2,h⟩:=scn1 hp hq h
  have e3:=xv127 _ _ (filt k8 hp.vv rfl hp.f o1.2) (filt k8 hp.vv e.symm hq.f o2.2) h
  have e4:p.Filters=q.Filters:=by rw [hp.n,hq.n];simp only [nR];rw [e3]
  simp only [z0]
  rw [e1,e2,e4,e]
 rw [if_neg k8,if_neg k8] at h ⊢
 rw [if_neg k8] at o1 o2
 by_cases k9:p.Kind=9∨p.Kind=11
 ·rw [if_pos k9,if_pos k9] at h ⊢
  simp only [List.append_assoc] at h
  obtain ⟨e1,h⟩:=id_ud h
  obtain ⟨e2,h⟩:=scn1 hp hq h
  have e4:p.Codes=q.Codes:=by rw [hp.n,hq.n];simp only [nR];rw [h]
  simp only [z0]
  rw [e1,e2,e4,e]
 rw [if_neg k9,if_neg k9] at h ⊢
 rw [if_neg k9] at o1 o2
 by_cases kc:p.Kind=14∨p.Kind=15
 ·rw [if_pos kc,if_pos kc] at h ⊢
  rw [if_neg (by omega)] at o1 o2
  have o1:knB v p.Kind p.Code=true:=by
   by_cases ke:p.Kind=14
   ·rwa [if_pos ke] at o1
   ·rw [if_neg ke,if_pos (by omega),Bool.and_eq_true] at o1;exact o1.1
  have o2:knB v q.Kind q.Code=true:=by
   rw [← e]
   by_cases ke:p.Kind=14
   ·rwa [if_pos ke] at o2
   ·rw [if_neg ke,if_pos (by omega),Bool.and_eq_true] at o2;exact o2.1
  obtain ⟨e2,e3⟩:=xv197 hp hq e (by omega) o1 o2 h15 h
  simp only [z0]
  rw [e2,pn rfl rfl e3,e]
 rw [if_neg kc,if_neg kc]
 simp only [z0]
 rw [e]
end Go.Rv
namespace Go.Rv
theorem xv285 {v:Int} (hv:v=4∨v=5) {q:fn113} (h2:FewR q) (h3:xv6 v (nR q)=true):May v (nR q)∧(v=4->q.Kind ≠ 15):=by
 have hq:=h2.mid.toQ
 have f0:=xv77 hq (v:=v) (by rw [xv137];exact h3)
 rw [xv137] at f0
 have hb:=xv154 h3
 simp only [xv6,Bool.and_eq_true] at h3
 obtain ⟨⟨⟨⟨⟨⟨a1,a2⟩,a3⟩,a4⟩,a5⟩,a6⟩,a7⟩:=h3
 have e4:v=4->(L (nR q).Props).length + (L (nR q).WillProps).length=0:=fun h4=>by
  simp only [h4,decide_true,Bool.true_and,Bool.not_eq_true',decide_eq_false_iff_not] at a4
  omega
 refine ⟨⟨hv,rfl,hb,f0,fun h4=>List.eq_nil_of_length_eq_zero (by have:=e4 h4;omega),fun h4=>List.eq_nil_of_length_eq_zero (by have:=e4 h4;omega),a7⟩,fun h4 k=>?_⟩
 have k':(nR q).Kind=15:=k
 simp [verB,h4,k'] at a1
theorem xv291 {v:Int} {p q:fn113} {s t:List UInt8} (hp:May v p) (hq:May v q) (h15:v=4->p.Kind ≠ 15) (h:packN v p++s=packN v q++t):p=q:=by
 simp only [packN,List.cons_append,List.cons.injEq,List.append_assoc] at h
 obtain ⟨h1,h2⟩:=h
 obtain ⟨e1,e2⟩:=xv279 hp.f hq.f h1
 obtain ⟨e3,e4⟩:=vb_ud _ _ _ _ h2
 exact xv312 hp hq h15 e1 e2 (List.append_inj e4 e3).1
theorem xv247 (z:Int) (a b:fn113):fn48 z a b=some true:=by
 simp only [fn48]
 have hv:=xv327 z
 generalize w64 (4 + w64 ((u64 z % (2:UInt64)).toNat:Int))=v at hv ⊢
 obtain ⟨p,p1,p2,p3⟩:=xv91 hv a
 obtain ⟨q,q1,q2,q3⟩:=xv91 hv b
 obtain ⟨x,x1,x2⟩:=xv235 v (toP p) p2.mid.toQ (by rw [xv137];exact p3)
 obtain ⟨y,y1,y2⟩:=xv235 v (toP q) q2.mid.toQ (by rw [xv137];exact q3)
 rw [xv137] at x2 y2
 obtain ⟨mp,m15⟩:=xv285 hv p2 p3
 obtain ⟨mq,_⟩:=xv285 hv q2 q3
 have key:∀ s t,L x++s=L y++t->nR p=nR q:=fun s t h=>xv291 mp mq m15 (by rw [← x2,← y2];exact h)
 have hs:fn148 p q=some (decide (nR p=nR q)):=xv252 p q (by have:=p2.wp;omega) (by have:=p2.pp;omega) (by have:=p2.fl;omega)
 have hd:decide (L x=L y)=decide (nR p=nR q):=by
  apply decide_eq_decide.2
  exact ⟨fun h=>key [] [] (by rw [h]),fun h=>by rw [x2,y2,h]⟩
 rw [show chk (decide ((2:UInt64) ≠ 0))=some () from rfl,Option.bind_some]
 show (fn183 v a).bind _=_
 rw [p1,Option.bind_some]
 show (fn183 v b).bind _=_
 rw [q1,Option.bind_some]
 show (l07_To p).bind _=_
 rw [toEq p p2,Option.bind_some]
 show (fn56 v (toP p)).bind _=_
 rw [x1,Option.bind_some]
 show (l07_To q).bind _=_
 rw [toEq q q2,Option.bind_some]
 show (fn56 v (toP q)).bind _=_
 rw [y1,Option.bind_some]
 simp only
 rw [xv130,Option.bind_some,if_neg (by decide),if_neg (by decide),if_neg (by decide)]
 show (fn148 p q).bind _=_
 rw [hs,Option.bind_some,hd,beq_self_eq_true,if_neg (by decide)]
 by_cases hl:((L x).length:Int) ≥ ((L y).length:Int)
 ·rw [decide_eq_true hl,if_pos rfl]
 ·rw [decide_eq_false hl,if_neg (by decide)]
  obtain ⟨r,r1,r2⟩:=xv325 (o:=y) (b:=(L x).length) (by omega)
  rw [r1,Option.bind_some,r2]
  have:¬ (L y).take (L x).length=L x:=fun h=>by
   have td:=List.take_append_drop (L x).length (L y)
   rw [h] at td
   have e:=key ((L y).drop (L x).length) [] (by rw [List.append_nil];exact td)
   have e2:L x=L y:=by rw [x2,y2,e]
   rw [e2] at hl
   exact hl (Int.le_refl _)
  rw [decide_eq_false this];rfl
end Go.Rv
namespace Go.Rv
theorem xv170 (x:tyL Tb [.g (.f (.a (.n .i64))),.g (.st 3),.g (.st 3)]) (hx:yv669 tab 4 [.g (.f (.a (.n .i64))),.g (.st 3),.g (.st 3)] x):fn48 x.1 (⟨x.2.1.Kind,x.2.1.Dup,x.2.1.Retain,x.2.1.QoS,x.2.1.Id,x.2.1.Clean,x.2.1.Keep,x.2.1.Client,x.2.1.HasWill,x.2.1.HasUser,x.2.1.HasPass,x.2.1.WillQoS,x.2.1.WillRetain,x.2.1.WillProps,x.2.1.WillTopic,x.2.1.WillLoad,x.2.1.User,x.2.1.Pass,x.2.1.Present,x.2.1.Code,x.2.1.Topic,x.2.1.Load,x.2.1.Filters,x.2.1.Codes,x.2.1.Props⟩:fn113) (⟨x.2.2.1.Kind,x.2.2.1.Dup,x.2.2.1.Retain,x.2.2.1.QoS,x.2.2.1.Id,x.2.2.1.Clean,x.2.2.1.Keep,x.2.2.1.Client,x.2.2.1.HasWill,x.2.2.1.HasUser,x.2.2.1.HasPass,x.2.2.1.WillQoS,x.2.2.1.WillRetain,x.2.2.1.WillProps,x.2.2.1.WillTopic,x.2.2.1.WillLoad,x.2.2.1.User,x.2.2.1.Pass,x.2.2.1.Present,x.2.2.1.Code,x.2.2.1.Topic,x.2.2.1.Load,x.2.2.1.Filters,x.2.2.1.Codes,x.2.2.1.Props⟩:fn113)=some true :=
 xv247 x.1 x.2.1 x.2.2.1
end Go.Rv
