/- A typed interpreter of the program's code, and that it is sound; part 3. -/
import Derived.Test.YtckhkfheimmffaaDoorRvB
import Derived.Orders
import Derived.RangeFuncOwn
import Derived.OpenShut
set_option linter.unusedSimpArgs false
set_option linter.unusedVariables false
set_option maxRecDepth 100000
namespace Go.Rv
open Go.RowKit
variable {P:Program} {W0:World} {L:World->Prop}
def srt:Env->Bool
 | []=>true
 | [_]=>true
 | (k,_)::(j,y)::e=>decide (k < j) && srt ((j,y)::e)
def above (t:Nat):Env->Bool
 | []=>true
 | (k,_)::_=>decide (t < k)
theorem yv42 {k:Nat} {v:AV} {e:Env}:srt ((k,v)::e)=(above k e && srt e):=by
 cases e with
 | nil=>rfl
 | cons p e=>obtain ⟨j,y⟩:=p;rfl
theorem yv537 {k t:Nat} {v:AV} {e:Env} (h:k < t) (h2:above k e=true):above k (put e t v)=true:=by
 cases e with
 | nil=>simp [put,above,h]
 | cons p e =>
  obtain ⟨j,y⟩:=p
  simp [above] at h2
  simp only [put]
  split
  ·simp [above,h]
  ·split<;>simp [above]<;>omega
theorem yv141 {k t:Nat} {e:Env} (h:k ≤ t) (h2:above t e=true):above k e=true:=by
 cases e with
 | nil=>rfl
 | cons p e=>obtain ⟨j,y⟩:=p;simp [above] at h2 ⊢;omega
theorem yv380 {k t:Nat}:∀ {e:Env},srt e=true->above k e=true->above k (rm e t)=true
 | [],_,_=>rfl
 | (j,y)::e,hs,h=>by
  rw [yv42] at hs
  simp at hs
  simp [above] at h
  simp only [rm]
  split
  ·exact yv380 hs.2 (yv141 (Nat.le_of_lt h) hs.1)
  ·simp [above,h]
theorem yv647 {t:Nat} {v:AV}:∀ {e:Env},srt e=true->srt (put e t v)=true
 | [],_=>rfl
 | (k,x)::e,h=>by
  simp only [put]
  have h':=h
  rw [yv42] at h
  simp at h
  split
  ·rw [yv42];simp [above,h'];assumption
  ·split
   ·rw [yv42];rename_i h1 h2;subst h2;simp [h.1,h.2]
   ·rw [yv42];simp [yv647 h.2,yv537 (t:=t) (by omega) h.1]
theorem yv720 {t:Nat}:∀ {e:Env},srt e=true->srt (rm e t)=true
 | [],_=>rfl
 | (k,x)::e,h=>by
  rw [yv42] at h
  simp at h
  simp only [rm]
  split
  ·exact yv720 h.2
  ·rw [yv42];simp [yv720 h.2,yv380 h.2 h.1]
theorem yv297 {t:Nat}:∀ {e:Env},srt e=true->above t e=true->rm e t=e
 | [],_,_=>rfl
 | (k,x)::e,hs,h=>by
  rw [yv42] at hs
  simp at hs
  simp [above] at h
  simp only [rm]
  rw [if_neg (by omega),yv297 hs.2 (yv141 (Nat.le_of_lt h) hs.1)]
theorem yv639 {t u:Nat} {v x:AV} (h:t ≠ u):∀ {e:Env},put (put e t v) u x=put (put e u x) t v
 | []=>by
  simp only [put]
  by_cases h1:t < u
  ·have:¬ u < t:=by omega
   simp [h1,this,h,Ne.symm h]
  ·have:u < t:=by omega
   simp [h1,this,h,Ne.symm h]
 | (k,y)::e=>by
  by_cases h1:t < k
  ·by_cases h2:u < k
   ·simp only [put,h1,h2,if_true]
    by_cases h3:t < u
    ·have:¬ u < t:=by omega
     simp [put,h1,h2,h3,this,h,Ne.symm h]
    ·have:u < t:=by omega
     simp [put,h1,h2,h3,this,h,Ne.symm h]
   ·have h4:¬ u < t:=by omega
    by_cases h5:k=u
    ·subst h5;simp [put,h1,h4,Ne.symm h,h]
    ·simp [put,h1,h2,h4,h5,h,Ne.symm h]
  ·by_cases h2:u < k
   ·have h4:¬ t < u:=by omega
    by_cases h5:k=t
    ·subst h5;simp [put,h2,h4,Ne.symm h,h]
    ·simp [put,h1,h2,h4,h5,h,Ne.symm h]
   ·by_cases h5:k=t
    ·subst h5
     simp [put,h2,h,Ne.symm h]
    ·by_cases h6:k=u
     ·subst h6;simp [put,h1,h5,h,Ne.symm h]
     ·simp [put,h1,h2,h5,h6,yv639 h]
theorem rm_rm {t u:Nat}:∀ {e:Env},rm (rm e t) u=rm (rm e u) t
 | []=>rfl
 | (k,y)::e=>by
  by_cases h1:k=t<;>by_cases h2:k=u<;>simp [rm,h1,h2,rm_rm (t:=t) (u:=u) (e:=e)]
  all_goals (try (split<;>simp_all [rm,rm_rm (t:=t) (u:=u) (e:=e)]))
theorem yv594 {t u:Nat} {v:AV} (h:t ≠ u):∀ {e:Env},srt e=true->rm (put e t v) u=put (rm e u) t v
 | [],_=>by simp [put,rm,h]
 | (k,y)::e,hs=>by
  have hs':=hs
  rw [yv42] at hs
  simp at hs
  by_cases h1:t < k
  ·by_cases h2:k=u
   ·subst h2
    simp only [put,h1,if_true,rm,h,if_false]
    rw [yv297 hs.2 hs.1]
    cases e with
    | nil=>simp [put]
    | cons p e =>
     obtain ⟨j,z⟩:=p
     have:t < j:=by simp [above] at hs;omega
     simp [put,this]
   ·simp [put,h1,rm,h,h2]
  ·by_cases h2:k=t
   ·subst h2
    simp [put,rm,h]
   ·by_cases h3:k=u
    ·subst h3
     simp [put,h1,h2,rm,yv594 h hs.2]
    ·simp [put,h1,h2,rm,h3,yv594 h hs.2]
abbrev Plc:=Nat × Option Nat
def wl (i:Nat):Plc:=(i,none)
def locv (h:Heap) (x:Plc):List AV :=
 match x.2 with
 | none=>hget h x.1
 | some c=>(nth (hget h x.1) c).toList
def lset (h:Heap) (x:Plc) (o:List AV):Heap :=
 match x.2 with
 | none=>hset h x.1 o
 | some c=>hset h x.1 (yv85 (hget h x.1) c (o.headD .junk))
def Apt (x y:Plc):Prop:=x.1=y.1->∃ c d,x.2=some c∧y.2=some d∧c ≠ d
structure Delta where
 es:List (Nat × Option AV)
 hs:List (Plc × List AV)
 news:List (List AV)
def ap1 (e:Env):Nat × Option AV->Env
 | (t,some v)=>put e t v
 | (t,none)=>rm e t
def appE:List (Nat × Option AV)->Env->Env
 | [],e=>e
 | x::xs,e=>appE xs (ap1 e x)
def appH:List (Plc × List AV)->Heap->Heap
 | [],h=>h
 | x::xs,h=>appH xs (lset h x.1 x.2)
def Delta.app (d:Delta) (s:St):St:=⟨appE d.es s.env,appH d.hs s.heap++d.news⟩
theorem yv522 {e:Env} {x:Nat × Option AV} (h:srt e=true):srt (ap1 e x)=true:=by
 obtain ⟨t,v⟩:=x
 cases v<;>simp [ap1,yv647 h,yv720 h]
theorem yv523:∀ {es:List (Nat × Option AV)} {e:Env},srt e=true->srt (appE es e)=true
 | [],_,h=>h
 | _::es,_,h=>yv523 (es:=es) (yv522 h)
theorem yv652 {e:Env} {x y:Nat × Option AV} (hs:srt e=true) (h:x.1 ≠ y.1):ap1 (ap1 e x) y=ap1 (ap1 e y) x:=by
 obtain ⟨t,v⟩:=x
 obtain ⟨u,z⟩:=y
 simp at h
 cases v<;>cases z<;>simp only [ap1]
 ·exact rm_rm
 ·exact (yv594 (Ne.symm h) hs).symm
 ·exact yv594 h hs
 ·exact yv639 h
theorem yv389 {y:Nat × Option AV}:∀ {es:List (Nat × Option AV)} {e:Env},srt e=true->(∀ x ∈ es,x.1 ≠ y.1)->appE es (ap1 e y)=ap1 (appE es e) y
 | [],_,_,_=>rfl
 | x::es,e,hs,h=>by
  simp only [appE]
  rw [← yv652 hs (h x (by simp)),yv389 (yv522 hs) (fun z hz=>h z (by simp [hz]))]
theorem yv305:∀ {es fs:List (Nat × Option AV)} {e:Env},srt e=true->(∀ x ∈ es,∀ y ∈ fs,x.1 ≠ y.1)->appE es (appE fs e)=appE fs (appE es e)
 | _,[],_,_,_=>rfl
 | es,y::fs,e,hs,h=>by
  simp only [appE]
  rw [yv305 (yv522 hs) (fun x hx z hz=>h x hx z (by simp [hz])),yv389 hs (fun x hx=>h x hx y (by simp))]
theorem yv804 {e:Env} {x:Nat × Option AV} {t:Nat} (h:t ≠ x.1):lk (ap1 e x) t=lk e t:=by
 obtain ⟨u,v⟩:=x
 cases v<;>simp [ap1,yv290,lk_rm,h]
theorem yv629 {t:Nat}:∀ {es:List (Nat × Option AV)} {e:Env},(∀ x ∈ es,x.1 ≠ t)->lk (appE es e) t=lk e t
 | [],_,_=>rfl
 | x::es,e,h=>by
  simp only [appE]
  rw [yv629 (fun y hy=>h y (by simp [hy])),yv804 (Ne.symm (h x (by simp)))]
theorem yv468 {h:Heap} {i:Nat} {x:List AV} (hi:h.length ≤ i):hset h i x=h:=by rw [yv152,List.set_eq_of_length_le hi]
theorem yv329 {h:Heap} {i:Nat} {x y:List AV}:hset (hset h i x) i y=hset h i y:=by simp only [yv152,List.set_set]
theorem yv192 {h:Heap} {x:Plc} {o:List AV}:(lset h x o).length=h.length:=by
 unfold lset;split<;>exact yv6
theorem yv577 {h:Heap} {i j:Nat} {x y:List AV} (hij:i ≠ j):hset (hset h i x) j y=hset (hset h j y) i x:=by
 simp only [yv152]
 exact List.set_comm _ _ hij
theorem yv188 {h k:Heap} {i:Nat} {x:List AV} (hi:i < h.length):hset (h++k) i x=hset h i x++k:=by
 simp only [yv152]
 rw [List.set_append_left _ _ hi]
theorem yv581 {h:Heap} {x y:Plc} {o:List AV} (a:Apt x y):locv (lset h x o) y=locv h y:=by
 by_cases hxy:x.1=y.1
 ·obtain ⟨c,d,h1,h2,h3⟩:=a hxy
  simp only [locv,lset,h1,h2,hxy]
  by_cases hl:y.1 < h.length
  ·rw [yv8 hl,yv155,yv155,yv74,List.getElem?_set_ne h3]
  ·rw [yv468 (by omega)]
 ·have e:∀ z,hget (hset h x.1 z) y.1=hget h y.1:=fun z=>yv4 (Ne.symm hxy)
  unfold locv lset
  split<;>split<;>simp only [e]
theorem yv582 {h:Heap} {x y:Plc} {o p:List AV} (a:Apt x y):lset (lset h x o) y p=lset (lset h y p) x o:=by
 by_cases hxy:x.1=y.1
 ·obtain ⟨c,d,h1,h2,h3⟩:=a hxy
  simp only [lset,h1,h2,hxy]
  by_cases hl:y.1 < h.length
  ·rw [yv8 hl,yv8 hl,yv329,yv329]
   simp only [yv74]
   rw [List.set_comm _ _ h3]
  ·have e:∀ z,hset h y.1 z=h:=fun z=>yv468 (by omega)
   simp only [e]
 ·have e:∀ z,hget (hset h x.1 z) y.1=hget h y.1:=fun z=>yv4 (Ne.symm hxy)
  have e2:∀ z,hget (hset h y.1 z) x.1=hget h x.1:=fun z=>yv4 hxy
  unfold lset
  split<;>split<;>(try simp only [e,e2])<;>exact yv577 hxy
theorem yv370 {h k:Heap} {x:Plc} (hi:x.1 < h.length):locv (h++k) x=locv h x:=by
 unfold locv
 rw [yv108,if_pos hi]
theorem yv371 {h k:Heap} {x:Plc} {o:List AV} (hi:x.1 < h.length):lset (h++k) x o=lset h x o++k:=by
 unfold lset
 split
 ·exact yv188 hi
 ·rw [yv108,if_pos hi];exact yv188 hi
theorem yv45:∀ {hs:List (Plc × List AV)} {h:Heap},(appH hs h).length=h.length
 | [],_=>rfl
 | x::hs,h=>by simp [appH,yv45,yv192]
theorem yv390 {y:Plc}:∀ {hs:List (Plc × List AV)} {h:Heap},(∀ x ∈ hs,Apt x.1 y)->locv (appH hs h) y=locv h y
 | [],_,_=>rfl
 | x::hs,h,hh=>by
  simp only [appH]
  rw [yv390 (fun y hy=>hh y (by simp [hy])),yv581 (hh x (by simp))]
theorem yv98:∀ {hs:List (Plc × List AV)} {h k:Heap},(∀ x ∈ hs,x.1.1 < h.length)->appH hs (h++k)=appH hs h++k
 | [],_,_,_=>rfl
 | x::hs,h,k,hh=>by
  simp only [appH]
  rw [yv371 (hh x (by simp)),yv98 (fun y hy=>by rw [yv192];exact hh y (by simp [hy]))]
theorem yv308 {y:Plc} {p:List AV}:∀ {hs:List (Plc × List AV)} {h:Heap},(∀ x ∈ hs,Apt x.1 y)->appH hs (lset h y p)=lset (appH hs h) y p
 | [],_,_=>rfl
 | x::hs,h,hh=>by
  simp only [appH]
  rw [← yv582 (hh x (by simp)),yv308 (fun z hz=>hh z (by simp [hz]))]
theorem yv306:∀ {hs ks:List (Plc × List AV)} {h:Heap},(∀ x ∈ hs,∀ y ∈ ks,Apt x.1 y.1)->appH hs (appH ks h)=appH ks (appH hs h)
 | _,[],_,_=>rfl
 | hs,y::ks,h,hh=>by
  simp only [appH]
  rw [yv306 (fun x hx z hz=>hh x hx z (by simp [hz])),yv308 (fun x hx=>hh x hx y (by simp))]
end Go.Rv
namespace Go.Rv
open Go.RowKit
variable {P:Program} {W0:World} {L:World->Prop}
structure Foot where
 ord:List Plc
 owr:List Plc
 grow:Option Nat
def Foot.none:Foot:=⟨[],[],Option.none⟩
def disj (a b:List Nat):Bool:=a.all fun i=>!(b.contains i)
def lap (x y:Plc):Bool:=!(Nat.beq x.1 y.1) || (match x.2,y.2 with|some c,some d=>!(Nat.beq c d)|_,_=>false)
def ldisj (a b:List Plc):Bool:=a.all fun x=>b.all fun y=>lap x y
theorem yv678 {x y:Plc} (h:lap x y=true):Apt x y:=by
 intro e
 obtain ⟨i,c⟩:=x
 obtain ⟨j,d⟩:=y
 simp only at e
 subst e
 cases c<;>cases d<;>simp [lap] at h
 exact ⟨_,_,rfl,rfl,Nat.ne_of_beq_eq_false h⟩
theorem yv248 {a b:List Plc} (h:ldisj a b=true):∀ x ∈ a,∀ y ∈ b,Apt x y:=fun x hx y hy=>yv678 (List.all_eq_true.1 (List.all_eq_true.1 h x hx) y hy)
def yv208 (a b:Foot):Bool :=
 ldisj a.owr b.ord && ldisj b.owr a.ord && (match a.grow with|some n=>b.grow.isNone && b.ord.all (fun i=>decide (i.1 < n))|none=>true)
def yv17:List Arg->List Nat
 | []=>[]
 | .v t::l=>t::yv17 l
 | .m t::l=>t::yv17 l
 | .c t _::l=>t::yv17 l
 | .k _::l=>yv17 l
def argWr:List Arg->List Nat
 | []=>[]
 | .m t::l=>t::argWr l
 | .c t _::l=>t::argWr l
 | _::l=>argWr l
def SOp.rdS (o:SOp):List Nat:=(match o.guard with|some (t,_)=>[t]|none=>[])++(o.dst.toList++yv17 o.args)
def SOp.wrS (o:SOp):List Nat:=o.dst.toList++argWr o.args
def yv259 (a b:SOp):Bool:=disj a.wrS b.rdS && disj b.wrS a.rdS
structure Act' where
 i:Nat
 o:SOp
 F:Foot
 d:Delta
structure Agree (x:Act') (s t:St):Prop where
 env:∀ k ∈ x.o.rdS,lk s.env k=lk t.env k
 heap:∀ i ∈ x.F.ord,i.1 < s.heap.length∧i.1 < t.heap.length∧locv s.heap i=locv t.heap i
 grow:∀ n,x.F.grow=some n->s.heap.length=n∧t.heap.length=n
 srt:srt t.env=true
def Does (P:Program) (L:World->Prop) (x:Act') (s:St):Prop :=
 ∀ t,Agree x s t->∀ os K,wpO P L os K (x.d.app t)->wpO P L (x.o::os) K t
structure WfA (x:Act') (s:St):Prop where
 env:∀ e ∈ x.d.es,e.1 ∈ x.o.wrS
 wr:∀ k ∈ x.o.wrS,k ∈ x.o.rdS
 heap:∀ e ∈ x.d.hs,e.1 ∈ x.F.owr
 ord:∀ i ∈ x.F.owr,i ∈ x.F.ord
 lt:∀ i ∈ x.F.ord,i.1 < s.heap.length
 news:x.d.news ≠ []->x.F.grow=some s.heap.length
 grow:∀ n,x.F.grow=some n->s.heap.length=n
def Chain (P:Program) (L:World->Prop):List Act'->(St->Prop)->St->Prop
 | [],K,s=>K s
 | x::xs,K,s=>Does P L x s∧WfA x s∧Chain P L xs K (x.d.app s)
theorem Agree.refl {x:Act'} {s:St} (h:WfA x s) (hs:Rv.srt s.env=true):Agree x s s :=
 ⟨fun _ _=>rfl,fun i hi=>⟨h.lt i hi,h.lt i hi,rfl⟩,fun n hn=>⟨h.grow n hn,h.grow n hn⟩,hs⟩
theorem Agree.trans {x:Act'} {s t u:St} (h:Agree x s t) (k:Agree x t u):Agree x s u :=
 ⟨fun a ha=>(h.env a ha).trans (k.env a ha),fun i hi=>⟨(h.heap i hi).1,(k.heap i hi).2.1,(h.heap i hi).2.2.trans (k.heap i hi).2.2⟩,fun n hn=>⟨(h.grow n hn).1,(k.grow n hn).2⟩,k.srt⟩
theorem Does.at {x:Act'} {s t:St} (h:Does P L x s) (a:Agree x s t):Does P L x t:=fun u hu=>h u (a.trans hu)
theorem yv318 {a b:List Nat} (h:disj a b=true):∀ i ∈ a,i ∉ b:=by
 simp [disj] at h
 exact h
structure Apart (a b:Act'):Prop where
 s1:∀ i ∈ a.o.wrS,i ∉ b.o.rdS
 s2:∀ i ∈ b.o.wrS,i ∉ a.o.rdS
 o1:∀ i ∈ a.F.owr,∀ j ∈ b.F.ord,Apt i j
 o2:∀ i ∈ b.F.owr,∀ j ∈ a.F.ord,Apt i j
 g:∀ n,a.F.grow=some n->b.F.grow=none∧∀ i ∈ b.F.ord,i.1 < n
theorem yv357 {a b:Act'} (h1:yv259 a.o b.o=true) (h2:yv208 a.F b.F=true):Apart a b:=by
 simp only [yv259,yv208,Bool.and_eq_true] at h1 h2
 refine ⟨yv318 h1.1,yv318 h1.2,yv248 h2.1.1,yv248 h2.1.2,fun n hn=>?_⟩
 have h3:=h2.2
 rw [hn] at h3
 simpa using h3
theorem Delta.app_srt {d:Delta} {s:St} (h:Rv.srt s.env=true):Rv.srt (d.app s).env=true:=yv523 h
theorem yv310 {x:Act'} {s:St}:(x.d.app s).heap.length=s.heap.length + x.d.news.length:=by simp [Delta.app,yv45]
theorem yv303 {a b:Act'} {s:St} (wa:WfA a s) (ap1:∀ i ∈ a.o.wrS,i ∉ b.o.rdS) (ap2:∀ i ∈ a.F.owr,∀ j ∈ b.F.ord,Apt i j) (hlt:∀ i ∈ b.F.ord,i.1 < s.heap.length) (hg:∀ n,b.F.grow=some n->a.d.news=[]∧s.heap.length=n)
 (hs:Rv.srt s.env=true):Agree b s (a.d.app s)∧Agree b (a.d.app s) s:=by
 have e1:∀ k ∈ b.o.rdS,lk (a.d.app s).env k=lk s.env k:=fun k hk=>yv629 fun x hx he=>ap1 _ (wa.env x hx) (he ▸ hk)
 have e2:∀ i ∈ b.F.ord,i.1 < (a.d.app s).heap.length∧locv (a.d.app s).heap i=locv s.heap i:=fun i hi=>by
  refine ⟨by rw [yv310];have:=hlt i hi;omega,?_⟩
  simp only [Delta.app]
  rw [yv370 (by rw [yv45];exact hlt i hi),yv390 fun x hx=>ap2 _ (wa.heap x hx) _ hi]
 have e3:∀ n,b.F.grow=some n->(a.d.app s).heap.length=n∧s.heap.length=n:=fun n hn=>by
  obtain ⟨h1,h2⟩:=hg n hn
  rw [yv310,h1,h2];exact ⟨rfl,rfl⟩
 exact ⟨⟨fun k hk=>(e1 k hk).symm,fun i hi=>⟨hlt i hi,(e2 i hi).1,(e2 i hi).2.symm⟩,fun n hn=>⟨(e3 n hn).2,(e3 n hn).1⟩,Delta.app_srt hs⟩,
  ⟨e1,fun i hi=>⟨(e2 i hi).1,hlt i hi,(e2 i hi).2⟩,fun n hn=>e3 n hn,hs⟩⟩
theorem yv474 {x:Act'} {s:St} (w:WfA x s) (h:x.F.grow=none):x.d.news=[]:=by
 by_cases hn:x.d.news=[]
 ·exact hn
 ·have:=w.news hn
  rw [h] at this;cases this
theorem yv654 {a b:Act'} {s:St} (wa:WfA a s) (wb:WfA b (a.d.app s)) (ap:Apart a b) (hlt:∀ i ∈ b.F.ord,i.1 < s.heap.length) (hs:Rv.srt s.env=true):b.d.app (a.d.app s)=a.d.app (b.d.app s):=by
 have henv:appE b.d.es (appE a.d.es s.env)=appE a.d.es (appE b.d.es s.env):=by
  refine yv305 hs fun x hx y hy he=>?_
  exact ap.s2 _ (wb.env x hx) (he ▸ wa.wr _ (wa.env y hy))
 have hb:∀ x ∈ b.d.hs,x.1.1 < s.heap.length:=fun x hx=>hlt _ (wb.ord _ (wb.heap x hx))
 have ha:∀ x ∈ a.d.hs,x.1.1 < s.heap.length:=fun x hx=>wa.lt _ (wa.ord _ (wa.heap x hx))
 have hc:appH b.d.hs (appH a.d.hs s.heap)=appH a.d.hs (appH b.d.hs s.heap):=by
  exact yv306 fun x hx y hy=>ap.o2 _ (wb.heap x hx) _ (wa.ord _ (wa.heap y hy))
 have hnn:a.d.news=[]∨b.d.news=[]:=by
  by_cases hn:a.d.news=[]
  ·exact .inl hn
  ·have:=wa.news hn
   exact .inr (yv474 wb (ap.g _ this).1)
 simp only [Delta.app,henv]
 congr 1
 rw [yv98 (by simpa [yv45] using hb),yv98 (by simpa [yv45] using ha),hc]
 rcases hnn with h|h<;>simp [h]
theorem yv397 {a b:Act'} {xs:List Act'} {K:St->Prop} {s:St} (ap:Apart a b) (hs:Rv.srt s.env=true) (h:Chain P L (a::b::xs) K s):Chain P L (b::a::xs) K s:=by
 obtain ⟨da,wa,db,wb,hc⟩:=h
 have hlt:∀ i ∈ b.F.ord,i.1 < s.heap.length:=by
  intro i hi
  have h1:=wb.lt i hi
  rw [yv310] at h1
  by_cases hn:a.d.news=[]
  ·rw [hn] at h1;simpa using h1
  ·exact (ap.g _ (wa.news hn)).2 i hi
 have hgb:∀ n,b.F.grow=some n->a.d.news=[]∧s.heap.length=n:=by
  intro n hn
  have h1:a.d.news=[]:=by
   by_cases hz:a.d.news=[]
   ·exact hz
   ·have:=(ap.g _ (wa.news hz)).1;rw [hn] at this;cases this
  have h2:=wb.grow n hn
  rw [yv310,h1] at h2
  exact ⟨h1,by simpa using h2⟩
 obtain ⟨g1,g2⟩:=yv303 wa ap.s1 ap.o1 hlt hgb hs
 have wb':WfA b s:=⟨wb.env,wb.wr,wb.heap,wb.ord,hlt,fun hn=>by
  have:=wb.news hn
  obtain ⟨h1,h2⟩:=hgb _ this
  rw [this,h2],fun n hn=>(hgb n hn).2⟩
 have hga:∀ n,a.F.grow=some n->b.d.news=[]∧s.heap.length=n:=fun n hn=>⟨yv474 wb (ap.g n hn).1,wa.grow n hn⟩
 obtain ⟨k1,k2⟩:=yv303 (a:=b) (b:=a) wb' ap.s2 ap.o2 wa.lt hga hs
 refine ⟨db.at g2,wb',da.at k1,⟨wa.env,wa.wr,wa.heap,wa.ord,fun i hi=>(k1.heap i hi).2.1,fun hn=>?_,fun n hn=>(k1.grow n hn).2⟩,?_⟩
 ·have:=wa.news hn
  rw [this,(k1.grow _ this).2]
 ·rwa [← yv654 wa wb ap hlt hs]
theorem yv183 {b:Act'} {xs:List Act'} {K:St->Prop}:∀ {ys:List Act'} {s:St},(∀ a ∈ ys,Apart a b)->Rv.srt s.env=true->Chain P L (ys++b::xs) K s->Chain P L (b::(ys++xs)) K s
 | [],_,_,_,h=>h
 | a::ys,s,hp,hs,h=>by
  obtain ⟨da,wa,hc⟩:=h
  exact yv397 (hp a (by simp)) hs ⟨da,wa,yv183 (fun z hz=>hp z (by simp [hz])) (Delta.app_srt hs) hc⟩
end Go.Rv
namespace Go.Rv
open Go.RowKit
variable {P:Program} {W0:World} {L:World->Prop}
def yv217 (acc:List Nat):List Edge->Nat
 | []=>0
 | e::es=>if Region.binds .any e then yv217 acc es ||| (2 ^ e.on ||| acc.getD e.on 0) else yv217 acc es
def befs:List Nat->List Oper->List Nat
 | acc,[]=>acc
 | acc,o::os=>befs (acc++[yv217 acc o.after.toList]) os
def yv320:Nat->List Oper->Bool
 | _,[]=>true
 | i,o::os=>o.after.toList.all (fun e=>!Region.binds .any e || decide (e.on < i)) && yv320 (i + 1) os
def Lst (listed:Array Bool) (i:Nat):Prop:=listed.getD i false=true
def Preds (ops:Array Oper) (listed:Array Bool) (i:Nat):Prop:=∀ o,ops[i]?=some o->∀ e ∈ o.after.toList,Region.binds .any e=true->Lst listed e.on
def yv379 (ops:Array Oper) (listed:Array Bool):Prop:=∀ i,Lst listed i->Preds ops listed i
theorem yv110 {acc:List Nat} {j:Nat}:∀ {es:List Edge},(yv217 acc es).testBit j=true->∃ e ∈ es,Region.binds .any e=true∧(j=e.on∨(acc.getD e.on 0).testBit j=true)
 | [],h=>by simp [yv217] at h
 | e::es,h=>by
  simp only [yv217] at h
  split at h
  ·rename_i hb
   rw [Nat.testBit_or,Nat.testBit_or,Bool.or_eq_true,Bool.or_eq_true] at h
   rcases h with h|h|h
   ·obtain ⟨e',h1,h2⟩:=yv110 h
    exact ⟨e',by simp [h1],h2⟩
   ·rw [Nat.testBit_two_pow] at h
    exact ⟨e,by simp,hb,.inl (of_decide_eq_true h).symm⟩
   ·exact ⟨e,by simp,hb,.inr h⟩
  ·obtain ⟨e',h1,h2⟩:=yv110 h
   exact ⟨e',by simp [h1],h2⟩
def yv274 (ops:Array Oper) (acc:List Nat):Prop :=
 ∀ k j,(acc.getD k 0).testBit j=true->∀ listed,yv379 ops listed->Preds ops listed k->Lst listed j
theorem yv312 {ops:Array Oper}:∀ {os:List Oper} {acc:List Nat} {pre:List Oper},ops.toList=pre++os->acc.length=pre.length->yv274 ops acc->yv274 ops (befs acc os)
 | [],acc,_,_,_,h=>h
 | o::os,acc,pre,he,hl,h=>by
  simp only [befs]
  refine yv312 (pre:=pre++[o]) (by simp [he]) (by simp [hl]) ?_
  intro k j hk listed hc hp
  by_cases hlt:k < acc.length
  ·refine h k j ?_ listed hc hp
   rwa [List.getD_eq_getElem?_getD,List.getElem?_append_left hlt,← List.getD_eq_getElem?_getD] at hk
  ·by_cases hkk:k=acc.length
   ·subst hkk
    have:(acc++[yv217 acc o.after.toList]).getD acc.length 0=yv217 acc o.after.toList:=by simp [List.getD]
    rw [this] at hk
    obtain ⟨e,h1,h2,h3⟩:=yv110 hk
    have ho:ops[acc.length]?=some o:=by
     rw [← Array.getElem?_toList,he,hl]
     simp
    have hl':=hp o ho e h1 h2
    rcases h3 with rfl|h3
    ·exact hl'
    ·exact h e.on j h3 listed hc (hc _ hl')
   ·have:(acc++[yv217 acc o.after.toList]).getD k 0=0:=by
     rw [List.getD_eq_getElem?_getD,List.getElem?_eq_none (by simp;omega)];rfl
    rw [this] at hk;simp at hk
theorem yv542 {ops:Array Oper}:yv274 ops (befs [] ops.toList):=yv312 (pre:=[]) rfl rfl fun k j h=>by simp at h
theorem yv148:∀ {os:List Oper} {k:Nat},yv320 k os=true->∀ (i:Nat) (o:Oper),os[i]?=some o->∀ e ∈ o.after.toList,Region.binds .any e=true->e.on < k + i
 | [],_,_,i,o,hi=>by simp at hi
 | o'::os,k,h,i,o,hi=>by
  simp only [yv320,Bool.and_eq_true,List.all_eq_true] at h
  intro e he hb
  cases i with
  | zero =>
   simp at hi;subst hi
   have:=h.1 e he
   simp [hb] at this
   exact this
  | succ i =>
   simp at hi
   have:=yv148 h.2 i o hi e he hb
   omega
theorem yv580 {ops:Array Oper} {sops:List SOp} {K:St->Prop} (hlt:∀ (i:Nat) (o:Oper),ops[i]?=some o->∀ e ∈ o.after.toList,Region.binds .any e=true->e.on < i) :
 ∀ (fuel t:Nat) (listed:Array Bool) (rem:List Act') (s:St),listed.size=ops.size->rem.length ≤ fuel->(∀ x ∈ rem,x.i < ops.size∧¬ Lst listed x.i)->(∀ i,i < ops.size->¬ Lst listed i->∃ x ∈ rem,x.i=i) ->
  rem.Pairwise (fun a b=>a.i < b.i)->yv379 ops listed->rem.Pairwise (fun a b=>((befs [] ops.toList).getD b.i 0).testBit a.i=true∨Apart a b)->(∀ x ∈ rem,sops[x.i]?=some x.o)->srt s.env=true->Chain P L rem K s ->
  ∃ ss,ss.map some=(Region.linearise.go .any ops fuel t listed []).map (fun i=>sops[i]?)∧wpO P L ss K s:=by
 intro fuel
 induction fuel with
 | zero =>
  intro t listed rem s _ hf _ _ _ _ _ _ _ hc
  have:rem=[]:=by cases rem<;>simp_all
  subst this
  exact ⟨[],by simp [Region.linearise.go],hc⟩
 | succ fuel ih =>
  intro t listed rem s hsz hf h1 h2 h3 h4 h5 h6 hs hc
  simp only [Region.linearise.go]
  have hready:∀ i,i ∈ (List.range ops.size).filter (fun i=>!listed.getD i true && ((ops[i]?).map (·.after.all fun e=>!Region.binds .any e || listed.getD e.on false)).getD false) ↔ i < ops.size∧¬ Lst listed i∧Preds ops listed i:=by
   intro i
   simp only [List.mem_filter,List.mem_range,Bool.and_eq_true]
   constructor
   ·rintro ⟨a,b,c⟩
    have hi:i < listed.size:=by omega
    refine ⟨a,?_,?_⟩
    ·unfold Lst
     simp [hi] at b ⊢
     exact b
    ·intro o ho e he hb
     rw [ho] at c
     simp at c
     obtain ⟨k,hk,hek⟩:=List.getElem_of_mem he
     have:=c k (by simpa using hk)
     simp at hek
     rw [hek] at this
     rcases this with h|h
     ·rw [hb] at h;cases h
     ·simpa [Lst] using h
   ·rintro ⟨a,b,c⟩
    have hi:i < listed.size:=by omega
    refine ⟨a,?_,?_⟩
    ·unfold Lst at b
     simp [hi] at b ⊢
     exact b
    ·have ho:ops[i]?=some ops[i]:=by simp [a]
     rw [ho]
     simp only [Option.map_some,Option.getD_some]
     rw [Array.all_eq_true]
     intro k hk
     by_cases hb:Region.binds .any (ops[i].after[k])=true
     ·have:=c _ ho (ops[i].after[k]) (by simp) hb
      simp [hb]
      simpa [Lst] using this
     ·simp [hb]
  generalize hrs:(List.range ops.size).filter (fun i=>!listed.getD i true && ((ops[i]?).map (·.after.all fun e=>!Region.binds .any e || listed.getD e.on false)).getD false)=rs at hready ⊢
  cases hi:rs[t % rs.length]? with
  | some i =>
   simp only
   obtain ⟨hi1,hi2,hi3⟩:=(hready i).1 (List.mem_of_getElem? hi)
   obtain ⟨x,hx,rfl⟩:=h2 i hi1 hi2
   obtain ⟨r1,r2,rfl⟩:=List.append_of_mem hx
   have hap:∀ a ∈ r1,Apart a x:=by
    intro a ha
    rcases (List.pairwise_append.1 h5).2.2 a ha x (by simp) with hb|hb
    ·exact absurd (yv542 x.i a.i hb listed h4 hi3) (h1 a (by simp [ha])).2
    ·exact hb
   obtain ⟨hd,hw,hcc⟩:=yv183 hap hs hc
   have hset:∀ j,Lst (listed.setIfInBounds x.i true) j ↔ j=x.i∨Lst listed j:=by
    intro j
    unfold Lst
    by_cases hj:j=x.i
    ·subst hj;simp [hsz,hi1]
    ·simp only [Array.getD_eq_getD_getElem?]
     rw [Array.getElem?_setIfInBounds_ne (Ne.symm hj)]
     simp [hj]
   have hsub:(r1++r2).Sublist (r1++x::r2):=List.Sublist.append (List.Sublist.refl _) (List.sublist_cons_self _ _)
   have g1:∀ y ∈ r1++r2,y.i < ops.size∧¬ Lst (listed.setIfInBounds x.i true) y.i:=by
    intro y hy
    obtain ⟨a,b⟩:=h1 y (hsub.subset hy)
    refine ⟨a,fun hl=>?_⟩
    rcases (hset _).1 hl with he|hl
    ·have hpw:=List.pairwise_append.1 h3
     rcases List.mem_append.1 hy with hy|hy
     ·have:=hpw.2.2 y hy x (by simp);omega
     ·have:=(List.pairwise_cons.1 hpw.2.1).1 y hy;omega
    ·exact b hl
   have g2:∀ j,j < ops.size->¬ Lst (listed.setIfInBounds x.i true) j->∃ y ∈ r1++r2,y.i=j:=by
    intro j hj hnl
    have hne:j ≠ x.i:=fun he=>hnl ((hset j).2 (.inl he))
    obtain ⟨y,hy,rfl⟩:=h2 j hj fun hl=>hnl ((hset _).2 (.inr hl))
    refine ⟨y,?_,rfl⟩
    simp only [List.mem_append,List.mem_cons] at hy ⊢
    rcases hy with h|rfl|h
    ·exact .inl h
    ·exact absurd rfl hne
    ·exact .inr h
   have g3:yv379 ops (listed.setIfInBounds x.i true):=by
    intro j hj o ho e he hb
    rcases (hset j).1 hj with rfl|hl
    ·exact (hset _).2 (.inr (hi3 o ho e he hb))
    ·exact (hset _).2 (.inr (h4 j hl o ho e he hb))
   obtain ⟨ss,e1,e2⟩:=ih (t / rs.length) (listed.setIfInBounds x.i true) (r1++r2) (x.d.app s) (by simp [hsz]) (by simp at hf ⊢;omega)
    g1 g2 (h3.sublist hsub) g3 (h5.sublist hsub) (fun y hy=>h6 y (hsub.subset hy)) (Delta.app_srt hs) hcc
   refine ⟨x.o::ss,?_,hd s (Agree.refl hw hs) _ _ e2⟩
   rw [linearise_go_acc,List.map_append,← e1]
   simp [h6 x (by simp)]
  | none =>
   have hnil:rs=[]:=by
    rcases Nat.eq_zero_or_pos rs.length with h|h
    ·exact List.length_eq_zero_iff.1 h
    ·have:=Nat.mod_lt t h
     rw [List.getElem?_eq_getElem this] at hi;cases hi
   cases rem with
   | nil=>exact ⟨[],by simp,hc⟩
   | cons x xs =>
    exfalso
    obtain ⟨a,b⟩:=h1 x (by simp)
    have:x.i ∈ rs:=by
     refine (hready _).2 ⟨a,b,fun o ho e he hb=>?_⟩
     have hl:=hlt x.i o ho e he hb
     by_cases hq:Lst listed e.on
     ·exact hq
     ·obtain ⟨y,hy,hye⟩:=h2 e.on (by omega) hq
      rcases List.mem_cons.1 hy with rfl|hy
      ·omega
      ·have:=(List.pairwise_cons.1 h3).1 y hy;omega
    rw [hnil] at this;cases this
end Go.Rv
namespace Go.Rv
open Go.RowKit
variable {P:Program} {W0:World} {L:World->Prop}
def yv116:POp->Bool
 | .alloc _|.box|.load _|.loadm|.store _|.mksl _ _ _|.appv _ _|.b2v|.call _=>false
 | _=>true
theorem yv636 {op:POp} (hp:yv116 op=true) (as:List AV) (h:Heap):op.ev as h=(op.ev as []).map fun p=>(p.1,h):=by
 cases op
 case alloc=>cases hp
 case box=>cases hp
 case load=>cases hp
 case loadm=>cases hp
 case store=>cases hp
 case mksl=>cases hp
 case appv=>cases hp
 case b2v=>cases hp
 case call=>cases hp
 case lena=>rfl
 case mkf fn nf=>simp only [POp.ev];split<;>rfl
 all_goals simp only [POp.ev]
 all_goals first
  | (split<;>first|rfl|(rw [Option.map_map];rfl)|(split<;>first|rfl|(rw [Option.map_map];rfl)|(split<;>first|rfl|(rw [Option.map_map];rfl)|(split<;>first|rfl|(rw [Option.map_map];rfl)))))
  | (rw [Option.map_map];rfl)
theorem yv593 {op:POp} (hp:yv116 op=true) {as:List AV} {h h':Heap} {r:AV} (he:op.ev as h=some (r,h')):h'=h∧∀ h2,op.ev as h2=some (r,h2):=by
 rw [yv636 hp] at he
 cases hx:op.ev as [] with
 | none=>rw [hx] at he;cases he
 | some p =>
  rw [hx] at he
  simp at he
  obtain ⟨rfl,rfl⟩:=he
  exact ⟨rfl,fun h2=>by rw [yv636 hp,hx];rfl⟩
def rdU1 (e:Env):Arg->List (Nat × Option AV)
 | .m t=>[(t,none)]
 | .c t i=>match lk e t with
  | .tup vs=>[(t,some (.tup (yv85 vs i .junk)))]
  | _=>[]
 | _=>[]
def rdU:Env->List Arg->List (Nat × Option AV)
 | _,[]=>[]
 | e,x::xs=>rdU1 e x++rdU (rdA e x).2 xs
theorem yv33:∀ {a b:List (Nat × Option AV)} {e:Env},appE (a++b) e=appE b (appE a e)
 | [],_,_=>rfl
 | x::a,b,e=>by simp [appE,yv33]
theorem yv490 {e:Env} {x:Arg}:(rdA e x).2=appE (rdU1 e x) e:=by
 cases x with
 | c t i=>simp only [rdA,rdU1];generalize lk e t=q;cases q<;>rfl
 | _=>rfl
theorem yv159:∀ {xs:List Arg} {e:Env},(rdAs e xs).2=appE (rdU e xs) e
 | [],_=>rfl
 | x::xs,e=>by
  simp only [rdAs,rdU,yv33]
  rw [yv159,yv490]
theorem yv249 {es:List (Nat × Option AV)} {t:Nat}:∀ {e e':Env},lk e t=lk e' t->lk (appE es e) t=lk (appE es e') t:=by
 induction es with
 | nil=>exact fun h=>h
 | cons x es ih =>
  intro e e' h
  refine ih ?_
  obtain ⟨u,v⟩:=x
  cases v<;>simp [ap1,yv290,lk_rm,h]
theorem yv595 {e e':Env} {x:Arg} (h:∀ t ∈ yv17 [x],lk e t=lk e' t):(rdA e x).1=(rdA e' x).1∧rdU1 e x=rdU1 e' x:=by
 cases x with
 | v t=>exact ⟨by simp [rdA,h t (by simp [yv17])],rfl⟩
 | m t=>exact ⟨by simp [rdA,h t (by simp [yv17])],rfl⟩
 | k a=>exact ⟨rfl,rfl⟩
 | c t i =>
  have:=h t (by simp [yv17])
  constructor
  ·simp only [rdA,this];split<;>rfl
  ·simp only [rdU1,this]
theorem yv161:∀ {xs:List Arg} {e e':Env},(∀ t ∈ yv17 xs,lk e t=lk e' t)->(rdAs e xs).1=(rdAs e' xs).1∧rdU e xs=rdU e' xs
 | [],_,_,_=>⟨rfl,rfl⟩
 | x::xs,e,e',h=>by
  have hx:∀ t ∈ yv17 [x],lk e t=lk e' t:=fun t ht=>h t (by cases x<;>simp [yv17] at ht ⊢<;>simp [ht])
  obtain ⟨h1,h2⟩:=yv595 hx
  have hs:∀ t ∈ yv17 xs,lk (rdA e x).2 t=lk (rdA e' x).2 t:=by
   intro t ht
   rw [yv490,yv490,h2]
   exact yv249 (h t (by cases x<;>simp [yv17,ht]))
  obtain ⟨k1,k2⟩:=yv161 hs
  exact ⟨by simp [rdAs,h1,k1],by simp [rdU,h2,k2]⟩
theorem yv596 {e:Env} {x:Arg}:∀ y ∈ rdU1 e x,y.1 ∈ argWr [x]:=by
 cases x with
 | c t i =>
  intro y hy
  simp only [rdU1] at hy
  split at hy
  ·simp at hy;subst hy;simp [argWr]
  ·cases hy
 | m t=>intro y hy;simp [rdU1] at hy;subst hy;simp [argWr]
 | _=>intro y hy;simp [rdU1] at hy
theorem yv491:∀ {xs:List Arg} {e:Env},∀ y ∈ rdU e xs,y.1 ∈ argWr xs
 | [],_,y,hy=>by simp [rdU] at hy
 | x::xs,e,y,hy=>by
  simp only [rdU,List.mem_append] at hy
  rcases hy with hy|hy
  ·have:=yv596 y hy
   cases x<;>simp [argWr] at this ⊢<;>simp [this]
  ·have:=yv491 y hy
   cases x<;>simp [argWr,this]
theorem yv89:∀ {xs:List Arg},∀ k ∈ argWr xs,k ∈ yv17 xs
 | [],k,h=>by simp [argWr] at h
 | x::xs,k,h=>by
  cases x<;>simp [argWr,yv17] at h ⊢
  ·exact .inr (yv89 k h)
  ·rcases h with h|h
   ·exact .inl h
   ·exact .inr (yv89 k h)
  ·rcases h with h|h
   ·exact .inl h
   ·exact .inr (yv89 k h)
  ·exact yv89 k h
theorem yv533 {o:SOp}:∀ k ∈ o.wrS,k ∈ o.rdS:=by
 intro k hk
 simp only [SOp.wrS,SOp.rdS,List.mem_append] at hk ⊢
 rcases hk with hk|hk
 ·exact .inr (.inl hk)
 ·exact .inr (.inr (yv89 k hk))
def dstU (d:Option Nat) (v:Option AV):List (Nat × Option AV) :=
 match d with
 | some t=>[(t,v)]
 | none=>[]
theorem yv223 {e:Env} {d:Option Nat} {r:AV}:putD e d r=appE (dstU d (some r)) e:=by cases d<;>rfl
theorem yv643 {e:Env} {d:Option Nat}:rmD e d=appE (dstU d (some (.tup []))) e:=by cases d<;>rfl
theorem yv319 {d:Option Nat} {v:Option AV}:∀ y ∈ dstU d v,y.1 ∈ d.toList:=by
 cases d<;>intro y hy<;>simp [dstU] at hy ⊢
 subst hy;rfl
theorem yv107 {o:SOp} {e e':Env} (h:∀ k ∈ o.rdS,lk e k=lk e' k):yv7 e o.guard=yv7 e' o.guard:=by
 cases hg:o.guard with
 | none=>rfl
 | some p =>
  obtain ⟨t,w⟩:=p
  simp only [yv7]
  rw [h t (by simp [SOp.rdS,hg])]
theorem yv548 {i:Nat} {o:SOp} {s:St} (hg:yv7 s.env o.guard=some false):Does P L ⟨i,o,Foot.none,⟨dstU o.dst (some (.tup [])),[],[]⟩⟩ s∧WfA ⟨i,o,Foot.none,⟨dstU o.dst (some (.tup [])),[],[]⟩⟩ s:=by
 constructor
 ·intro t ha os K hw
  have hg':yv7 t.env o.guard=some false:=by rw [← yv107 ha.env];exact hg
  simp only [wpO,hg']
  simpa [Delta.app,appH,yv643] using hw
 ·refine ⟨fun e he=>?_,yv533,by simp,by simp [Foot.none],by simp [Foot.none],by simp,by simp [Foot.none]⟩
  simp only [SOp.wrS,List.mem_append]
  exact .inl (yv319 e he)
theorem yv628 {o:SOp} {e:Env} {v:Option AV}:∀ x ∈ rdU e o.args++dstU o.dst v,x.1 ∈ o.wrS:=by
 intro x hx
 simp only [SOp.wrS,List.mem_append] at hx ⊢
 rcases hx with hx|hx
 ·exact .inr (yv491 x hx)
 ·exact .inl (yv319 x hx)
theorem yv75 {i:Nat} {o:SOp} {s:St} {r:AV} {h':Heap} {F:Foot} {hs:List (Plc × List AV)} {news:List (List AV)} (hop:∀ f,o.op ≠ .call f) (hg:yv7 s.env o.guard=some true) (he:o.op.ev (rdAs s.env o.args).1 s.heap=some (r,h'))
 (hF:∀ t:Heap,(∀ i ∈ F.ord,i.1 < s.heap.length∧i.1 < t.length∧locv s.heap i=locv t i)->(∀ n,F.grow=some n->s.heap.length=n∧t.length=n)->o.op.ev (rdAs s.env o.args).1 t=some (r,appH hs t++news)) :
 Does P L ⟨i,o,F,⟨rdU s.env o.args++dstU o.dst (some r),hs,news⟩⟩ s:=by
 intro t ha os K hw
 have hg':yv7 t.env o.guard=some true:=by rw [← yv107 ha.env];exact hg
 have hsl:∀ k ∈ yv17 o.args,lk s.env k=lk t.env k:=fun k hk=>ha.env k (by simp [SOp.rdS,hk])
 obtain ⟨c1,c2⟩:=yv161 hsl
 have hev:=hF t.heap ha.heap ha.grow
 rw [c1] at hev
 have hst:(⟨putD (rdAs t.env o.args).2 o.dst r,appH hs t.heap++news⟩:St)=Delta.app ⟨rdU s.env o.args++dstU o.dst (some r),hs,news⟩ t:=by
  simp only [Delta.app,yv33,yv223,yv159,c2]
 rw [← hst] at hw
 simp only [wpO,hg',hev]
 exact hw
end Go.Rv
namespace Go.Rv
open Go.RowKit
variable {P:Program} {W0:World} {L:World->Prop}
def lcell (n:Option Nat) (off:Nat):Option Nat :=
 match n with
 | none=>some off
 | some _=>none
def yv9 (op:POp) (as:List AV) (h:Heap):Foot :=
 match op,as with
 | .load n,.ref id off::_=>⟨[(id,lcell n off)],[],none⟩
 | .loadm,.ref id off::_=>⟨[(id,some off)],[(id,some off)],none⟩
 | .store _,.ref id _::_=>⟨[(id,none)],[(id,none)],none⟩
 | .alloc _,_=>⟨[],[],some h.length⟩
 | .box,_=>⟨[],[],some h.length⟩
 | .mksl _ _ _,_=>⟨[],[],some h.length⟩
 | .appv _ _,_=>⟨[],[],some h.length⟩
 | .b2v,.view id _ _ _::_=>⟨[(id,none)],[],none⟩
 | _,_=>.none
theorem toList_eq {x y:Option AV} {c:AV} (h:x.toList=y.toList) (hx:x=some c):y=some c:=by
 subst hx
 cases y with
 | none=>cases h
 | some d=>simp at h;rw [h]
theorem yv185 {op:POp} {as:List AV} {h:Heap} (hp:yv116 op=true):yv9 op as h=.none:=by
 cases op<;>first|rfl|cases hp
theorem wf_op {i:Nat} {o:SOp} {s:St} {r:AV} {F:Foot} {hs:List (Plc × List AV)} {news:List (List AV)} (h1:∀ e ∈ hs,e.1 ∈ F.owr) (h2:∀ i ∈ F.owr,i ∈ F.ord) (h3:∀ i ∈ F.ord,i.1 < s.heap.length)
 (h4:news ≠ []->F.grow=some s.heap.length) (h5:∀ n,F.grow=some n->s.heap.length=n):WfA ⟨i,o,F,⟨rdU s.env o.args++dstU o.dst (some r),hs,news⟩⟩ s :=
 ⟨fun _ he=>yv628 _ he,yv533,h1,h2,h3,h4,h5⟩
theorem yv807 {i:Nat} {o:SOp} {s:St} {r:AV} {h':Heap} (hop:∀ f,o.op ≠ .call f) (hg:yv7 s.env o.guard=some true) (he:o.op.ev (rdAs s.env o.args).1 s.heap=some (r,h'))
 (hlt:(yv9 o.op (rdAs s.env o.args).1 s.heap).ord.all (fun i=>decide (i.1 < s.heap.length))=true) :
 ∃ d:Delta,Does P L ⟨i,o,yv9 o.op (rdAs s.env o.args).1 s.heap,d⟩ s∧WfA ⟨i,o,yv9 o.op (rdAs s.env o.args).1 s.heap,d⟩ s∧d.app s=⟨putD (rdAs s.env o.args).2 o.dst r,h'⟩:=by
 have fin:∀ hs news,h'=appH hs s.heap++news->Delta.app ⟨rdU s.env o.args++dstU o.dst (some r),hs,news⟩ s=⟨putD (rdAs s.env o.args).2 o.dst r,h'⟩:=by
  intro hs news hh
  simp only [Delta.app,yv33,yv223,yv159,hh]
 have hlt':∀ i ∈ (yv9 o.op (rdAs s.env o.args).1 s.heap).ord,i.1 < s.heap.length:=by
  intro i hi
  simpa using List.all_eq_true.1 hlt i hi
 by_cases hp:yv116 o.op=true
 ·obtain ⟨rfl,h2⟩:=yv593 hp he
  rw [yv185 hp]
  refine ⟨⟨_,[],[]⟩,yv75 hop hg he (fun t _ _=>by simpa [appH] using h2 t),wf_op (by simp) (by simp [Foot.none]) (by simp [Foot.none]) (by simp) (by simp [Foot.none]),fin _ _ (by simp [appH])⟩
 ·revert he hlt'
  generalize hev:(rdAs s.env o.args).1=as
  intro he hlt'
  have he0:=he
  rw [← hev] at he0
  cases hk:o.op with
  | alloc zs =>
   rw [hk] at he
   simp [POp.ev] at he
   obtain ⟨rfl,rfl⟩:=he
   refine ⟨⟨_,[],[zs]⟩,yv75 hop hg he0 (fun t _ hgr=>?_),wf_op (by simp) (by simp [yv9]) (by simp [yv9]) (by simp [yv9]) (by simp [yv9]),fin _ _ (by simp [appH])⟩
   obtain ⟨q1,q2⟩:=hgr _ rfl
   simp [hk,POp.ev,appH,q2]
  | box =>
   rw [hk] at he
   simp only [POp.ev] at he
   split at he
   case h_2=>cases he
   rename_i a
   split at he
   case isFalse=>cases he
   rename_i ht
   simp at he
   obtain ⟨rfl,rfl⟩:=he
   refine ⟨⟨_,[],[cellsOf (strip a)]⟩,yv75 hop hg he0 (fun t _ hgr=>?_),wf_op (by simp) (by simp [yv9]) (by simp [yv9]) (by simp [yv9]) (by simp [yv9]),fin _ _ (by simp [appH])⟩
   obtain ⟨q1,q2⟩:=hgr _ rfl
   simp [hk,hev,POp.ev,appH,q2,ht]
  | mksl sz bytes zs =>
   rw [hk] at he
   simp only [POp.ev] at he
   split at he
   case h_2=>cases he
   rename_i k1 l k2 c
   split at he
   case isFalse=>cases he
   rename_i ht
   simp at he
   obtain ⟨rfl,rfl⟩:=he
   refine ⟨⟨_,[],[rep l.toNat zs]⟩,yv75 hop hg he0 (fun t _ hgr=>?_),wf_op (by simp) (by simp [yv9]) (by simp [yv9]) (by simp [yv9]) (by simp [yv9]),fin _ _ (by simp [appH])⟩
   obtain ⟨q1,q2⟩:=hgr _ rfl
   simp only [hk,hev,POp.ev]
   rw [if_pos ht]
   simp [appH,q2]
  | appv sz bytes =>
   rw [hk] at he
   simp only [POp.ev] at he
   split at he
   case h_2=>cases he
   rename_i z y
   split at he
   case h_2=>cases he
   rename_i rows' hrows
   split at he
   case isFalse=>cases he
   rename_i ht
   simp at he
   obtain ⟨rfl,rfl⟩:=he
   refine ⟨⟨_,[],[rows'.flatten.map AV.pv]⟩,yv75 hop hg he0 (fun t _ hgr=>?_),wf_op (by simp) (by simp [yv9]) (by simp [yv9]) (by simp [yv9]) (by simp [yv9]),fin _ _ (by simp [appH])⟩
   obtain ⟨q1,q2⟩:=hgr _ rfl
   simp only [hk,hev,POp.ev,hrows]
   rw [if_pos ht]
   simp [appH,q2]
  | b2v =>
   rw [hk] at he hlt'
   simp only [POp.ev] at he
   split at he
   case h_2=>cases he
   rename_i id off n z0
   have hid:id < s.heap.length:=hlt' (id,none) (by simp [yv9])
   split at he
   case isFalse=>cases he
   rename_i hle
   simp only [Option.map_eq_some_iff] at he
   obtain ⟨l,hl,he⟩:=he
   simp only [Prod.mk.injEq] at he
   obtain ⟨rfl,rfl⟩:=he
   refine ⟨⟨_,[],[]⟩,yv75 hop hg he0 (fun t ho _=>?_),wf_op (by simp) (by simp [yv9]) (fun i hi=>hlt' i hi) (by simp) (by simp [yv9]),fin _ _ (by simp [appH])⟩
   have q:hget s.heap id=hget t id:=(ho (id,none) (by simp [yv9])).2.2
   simp only [hk,hev,POp.ev,← q]
   rw [if_pos hle,hl]
   simp [appH]
  | load n =>
   rw [hk] at he hlt'
   simp only [POp.ev] at he
   split at he
   ·rename_i id off
    have hid:id < s.heap.length:=hlt' (id,lcell n off) (by simp [yv9])
    have hh:h'=s.heap:=by
     split at he
     ·simp only [Option.map_eq_some_iff] at he
      obtain ⟨c,_,he⟩:=he
      simp at he;exact he.2.symm
     ·split at he
      ·simp at he;exact he.2.symm
      ·cases he
    subst hh
    refine ⟨⟨_,[],[]⟩,yv75 hop hg he0 (fun t ho _=>?_),wf_op (by simp) (by simp [yv9]) (fun i hi=>hlt' i hi) (by simp) (by simp [yv9]),fin _ _ (by simp [appH])⟩
    cases n with
    | none =>
     have q:(nth (hget s.heap id) off).toList=(nth (hget t id) off).toList:=(ho (id,some off) (by simp [yv9,lcell])).2.2
     simp only [hk,hev,POp.ev]
     simp only [Option.map_eq_some_iff] at he ⊢
     obtain ⟨c,hc,he⟩:=he
     simp at he
     exact ⟨c,toList_eq q hc,by simp [he,appH]⟩
    | some k =>
     have q:hget s.heap id=hget t id:=(ho (id,none) (by simp [yv9,lcell])).2.2
     simp only [hk,hev,POp.ev,← q]
     simp only at he ⊢
     split at he
     ·rename_i hk';simp at he;rw [if_pos hk'];simp [he,appH]
     ·cases he
   ·rename_i row off
    have hh:h'=s.heap:=by
     split at he
     ·simp only [Option.map_eq_some_iff] at he
      obtain ⟨c,_,he⟩:=he
      simp at he;exact he.2.symm
     ·split at he
      ·simp at he;exact he.2.symm
      ·cases he
    subst hh
    refine ⟨⟨_,[],[]⟩,yv75 hop hg he0 (fun t ho _=>?_),wf_op (by simp) (by simp [yv9,Foot.none]) (by simp [yv9,Foot.none]) (by simp) (by simp [yv9,Foot.none]),fin _ _ (by simp [appH])⟩
    simp only [hk,hev,POp.ev]
    cases n with
    | none =>
     simp only [Option.map_eq_some_iff] at he ⊢
     obtain ⟨c,hc,he⟩:=he
     simp at he
     exact ⟨c,hc,by simp [he,appH]⟩
    | some k =>
     simp only at he ⊢
     split at he
     ·rename_i hk';simp at he;rw [if_pos hk'];simp [he,appH]
     ·cases he
   ·cases he
  | loadm =>
   rw [hk] at he hlt'
   simp only [POp.ev] at he
   split at he
   case h_2=>cases he
   rename_i id off
   simp only [Option.map_eq_some_iff] at he
   obtain ⟨c,hc,he⟩:=he
   simp at he
   obtain ⟨rfl,rfl⟩:=he
   refine ⟨⟨_,[((id,some off),[.junk])],[]⟩,yv75 hop hg he0 (fun t ho _=>?_),wf_op (by simp [yv9]) (by simp [yv9]) (fun i hi=>hlt' i hi) (by simp) (by simp [yv9]),fin _ _ (by simp [appH,lset])⟩
   have q:(nth (hget s.heap id) off).toList=(nth (hget t id) off).toList:=(ho (id,some off) (by simp [yv9])).2.2
   simp only [hk,hev,POp.ev,toList_eq q hc]
   simp [appH,lset]
  | store n =>
   rw [hk] at he hlt'
   simp only [POp.ev] at he
   split at he
   case h_2=>cases he
   rename_i id off a
   split at he
   case isFalse=>cases he
   rename_i ht
   simp at he
   obtain ⟨rfl,rfl⟩:=he
   refine ⟨⟨_,[((id,none),yv94 (hget s.heap id) off (cellsOf a))],[]⟩,yv75 hop hg he0 (fun t ho _=>?_),wf_op (by simp [yv9]) (by simp [yv9]) (fun i hi=>hlt' i hi) (by simp) (by simp [yv9]),fin _ _ (by simp [appH,lset])⟩
   have q:hget s.heap id=hget t id:=(ho (id,none) (by simp [yv9])).2.2
   simp only [hk,hev,POp.ev,← q]
   rw [if_pos ht]
   simp [appH,lset]
  | call f=>exact absurd hk (hop f)
  | _=>rw [hk] at hp;exact absurd rfl hp
end Go.Rv
namespace Go.Rv
open Go.RowKit
variable {P:Program} {W0:World} {L:World->Prop}
mutual
theorem yv343 {f f':Nat->Nat}:∀ a:AV,(∀ i ∈ yv16 a,f i=f' i)->ren f a=ren f' a
 | .agg cs,h=>by simp only [ren];rw [yv37 cs (fun i hi=>h i (by simp only [yv16];exact hi))]
 | .tup cs,h=>by simp only [ren];rw [yv37 cs (fun i hi=>h i (by simp only [yv16];exact hi))]
 | .clo g x y,h=>by
  simp only [ren]
  rw [yv37 x (fun i hi=>h i (by simp only [yv16,List.mem_append];exact .inl hi)),yv37 y (fun i hi=>h i (by simp only [yv16,List.mem_append];exact .inr hi))]
 | .ref i o,h=>by simp [ren,h i (by simp [yv16])]
 | .view i o n _,h=>by simp [ren,h i (by simp [yv16])]
 | .pv _,_=>rfl
 | .own _ _,_=>rfl
 | .eref _ _,_=>rfl
 | .junk,_=>rfl
theorem yv37 {f f':Nat->Nat}:∀ l:List AV,(∀ i ∈ refsL l,f i=f' i)->renL f l=renL f' l
 | [],_=>rfl
 | a::l,h=>by
  simp only [renL]
  rw [yv343 a (fun i hi=>h i (by simp only [refsL,List.mem_append];exact .inl hi)),yv37 l (fun i hi=>h i (by simp only [refsL,List.mem_append];exact .inr hi))]
end
def yv176 (l:List Nat) (r:AV) (H':Heap) (n:Nat):Option Nat :=
 if H'.length=l.length∧(yv16 r).all (fun i=>decide (i < l.length))=true∧H'.all (fun ob=>(refsL ob).all fun i=>decide (i < l.length))=true then none else some n
def hsOf (f:Nat->Nat) (wr:List Nat):List Nat->Heap->List (Plc × List AV)
 | i::l,o::H=>if wr.contains i then (wl i,renL f o)::hsOf f wr l H else hsOf f wr l H
 | _,_=>[]
theorem yv289 {f:Nat->Nat} {wr:List Nat}:∀ {l:List Nat} {H:Heap},∀ e ∈ hsOf f wr l H,e.1 ∈ wr.map wl∧e.1 ∈ l.map wl
 | [],H,e,h=>by cases H<;>simp [hsOf] at h
 | i::l,[],e,h=>by simp [hsOf] at h
 | i::l,o::H,e,h=>by
  simp only [hsOf] at h
  split at h
  ·rename_i hw
   rcases List.mem_cons.1 h with rfl|h
   ·exact ⟨List.mem_map.2 ⟨i,by simpa using hw,rfl⟩,by simp⟩
   ·obtain ⟨a,b⟩:=yv289 e h
    exact ⟨a,by rw [List.map_cons];exact List.mem_cons_of_mem _ b⟩
  ·obtain ⟨a,b⟩:=yv289 e h
   exact ⟨a,by rw [List.map_cons];exact List.mem_cons_of_mem _ b⟩
theorem yv674 {h k:Heap} (hl:h.length=k.length) (hh:∀ i,i < h.length->hget h i=hget k i):h=k:=by
 apply List.ext_getElem? 
 intro i
 by_cases hi:i < h.length
 ·have:=hh i hi
  rw [yv19,yv19,List.getElem?_eq_getElem hi,List.getElem?_eq_getElem (hl ▸ hi)] at this
  rw [List.getElem?_eq_getElem hi,List.getElem?_eq_getElem (hl ▸ hi)]
  simpa using this
 ·rw [List.getElem?_eq_none (by omega),List.getElem?_eq_none (by omega)]
theorem yv307 {f:Nat->Nat} {wr:List Nat}:∀ {l:List Nat} {H h:Heap},l.Nodup->(∀ (k:Nat) (i:Nat),l[k]?=some i->k < H.length->wr.contains i=true∨renL f (hget H k)=hget h i)->(∀ i ∈ l,i < h.length)->appH (hsOf f wr l H) h=yv81 f h l H
 | [],H,h,_,_,_=>by cases H<;>rfl
 | i::l,[],h,_,_,_=>rfl
 | i::l,o::H,h,hn,hu,hl=>by
  have hn':=List.nodup_cons.1 hn
  have h0:=hu 0 i rfl (by simp)
  have rest:∀ h2:Heap,h2.length=h.length->(∀ j ∈ l,hget h2 j=hget h j)->appH (hsOf f wr l H) h2=yv81 f h2 l H:=by
   intro h2 e1 e2
   refine yv307 hn'.2 (fun k j hk hkl=>?_) (fun j hj=>by rw [e1];exact hl j (by simp [hj]))
   have:=hu (k + 1) j (by simpa using hk) (by simpa using hkl)
   rw [e2 j (List.mem_of_getElem? hk)]
   simpa [hget] using this
  simp only [hsOf,yv81]
  split
  ·simp only [appH,lset,wl]
   exact rest _ yv6 fun j hj=>yv4 fun e=>hn'.1 (e ▸ hj)
  ·rename_i hw
   have hsame:renL f o=hget h i:=by
    rcases h0 with h0|h0
    ·exact absurd h0 hw
    ·simpa [hget] using h0
   have hid:hset h i (renL f o)=h:=by
    refine yv674 yv6 fun k hk=>?_
    rw [yv6] at hk
    by_cases hki:k=i
    ·subst hki;rw [yv8 hk,hsame]
    ·rw [yv4 hki]
   rw [hid]
   exact rest h rfl fun _ _=>rfl
theorem yv237 {h t:Heap} {l:List Nat} {as:List AV} (hl:∀ i ∈ l,i < h.length∧i < t.length∧hget h i=hget t i) (hc:yv32 h l as=true):yv32 t l as=true:=by
 simp only [yv32,Bool.and_eq_true,List.all_eq_true,decide_eq_true_eq] at hc ⊢
 obtain ⟨⟨h1,h2⟩,h3⟩:=hc
 exact ⟨⟨h1,fun i hi=>⟨(hl i hi).2.1,fun j hj=>(h2 i hi).2 j (by rw [(hl i hi).2.2];exact hj)⟩⟩,h3⟩
theorem yv265 {h t:Heap} {l:List Nat} (hl:∀ i ∈ l,i < h.length∧i < t.length∧hget h i=hget t i):yv11 h l=yv11 t l:=by
 unfold yv11
 apply List.map_congr_left
 intro i hi
 rw [(hl i hi).2.2]
theorem yv655 {i:Nat} {o:SOp} {s:St} {r:AV} {H':Heap} {f:Option FuncId} {fid:FuncId} {as:List AV} {l wr:List Nat} (hop:o.op=.call f) (hg:yv7 s.env o.guard=some true)
 (hc:yv51 f (rdAs s.env o.args).1=some (fid,as)) (he:yv25 P fid=true) (hcl:yv32 s.heap l as=true) (hgood:Good P L fid (renL (posOf l) as) (yv11 s.heap l) r H') (hlen:l.length ≤ H'.length)
 (hwr:wr.all (fun i=>l.contains i)=true) (hun:∀ i ∈ l,wr.contains i=true∨renL (yv10 l s.heap.length) (hget H' (posOf l i))=hget s.heap i) :
 ∃ d:Delta,Does P L ⟨i,o,⟨l.map wl,wr.map wl,yv176 l r H' s.heap.length⟩,d⟩ s∧WfA ⟨i,o,⟨l.map wl,wr.map wl,yv176 l r H' s.heap.length⟩,d⟩ s ∧
  d.app s=⟨putD (rdAs s.env o.args).2 o.dst (ren (yv10 l s.heap.length) r),yv130 (yv10 l s.heap.length) s.heap l H'⟩:=by
 have hcl':=hcl
 simp only [yv32,Bool.and_eq_true,List.all_eq_true,decide_eq_true_eq] at hcl'
 obtain ⟨⟨hc1,hc2⟩,hc3⟩:=hcl'
 have hnd:=yv112 hc3
 have hwr':∀ i ∈ wr,i ∈ l:=fun i hi=>by simpa using List.all_eq_true.1 hwr i hi
 have happ:∀ t:Heap,(∀ i ∈ l,i < s.heap.length∧i < t.length∧hget s.heap i=hget t i) ->
  appH (hsOf (yv10 l s.heap.length) wr l H') t=yv81 (yv10 l s.heap.length) t l H':=by
  intro t ht
  refine yv307 hnd (fun k j hk hkl=>?_) (fun j hj=>(ht j hj).2.1)
  have hj:j ∈ l:=List.mem_of_getElem? hk
  have hpos:posOf l j=k:=by
   have hlt:=(List.getElem?_eq_some_iff.1 hk).1
   have:l[k]=j:=by have:=(List.getElem?_eq_some_iff.1 hk).2;exact this
   rw [← this];exact hnd.idxOf_getElem k hlt
  have:=hun j hj
  rw [hpos,(ht j hj).2.2] at this
  exact this
 have hself:∀ i ∈ l,i < s.heap.length∧i < s.heap.length∧hget s.heap i=hget s.heap i:=fun i hi=>⟨(hc2 i hi).1,(hc2 i hi).1,rfl⟩
 refine ⟨⟨rdU s.env o.args++dstU o.dst (some (ren (yv10 l s.heap.length) r)),hsOf (yv10 l s.heap.length) wr l H',(H'.drop l.length).map (renL (yv10 l s.heap.length))⟩,?_,?_,?_⟩
 ·intro t ha os K hw
  have hg':yv7 t.env o.guard=some true:=by rw [← yv107 ha.env];exact hg
  have hsl:∀ k ∈ yv17 o.args,lk s.env k=lk t.env k:=fun k hk=>ha.env k (by simp [SOp.rdS,hk])
  obtain ⟨c1,c2⟩:=yv161 hsl
  have hlt:∀ i ∈ l,i < s.heap.length∧i < t.heap.length∧hget s.heap i=hget t.heap i:=fun i hi=>ha.heap (wl i) (List.mem_map.2 ⟨i,hi,rfl⟩)
  have hb:(∀ i ∈ yv16 r,yv10 l s.heap.length i=yv10 l t.heap.length i)∧∀ ob ∈ H',∀ i ∈ refsL ob,yv10 l s.heap.length i=yv10 l t.heap.length i:=by
   cases hgr:yv176 l r H' s.heap.length with
   | some n =>
    have:=ha.grow n hgr
    rw [this.1,this.2]
    exact ⟨fun _ _=>rfl,fun _ _ _ _=>rfl⟩
   | none =>
    unfold yv176 at hgr
    split at hgr
    case isFalse=>cases hgr
    rename_i hq
    obtain ⟨q1,q2,q3⟩:=hq
    refine ⟨fun i hi=>?_,fun ob hob i hi=>?_⟩
    ·have:i < l.length:=by simpa using List.all_eq_true.1 q2 i hi
     simp [yv10,this]
    ·have:i < l.length:=by simpa using List.all_eq_true.1 (List.all_eq_true.1 q3 ob hob) i hi
     simp [yv10,this]
  have hputAll:∀ h2:Heap,∀ (ls:List Nat) (K:Heap),(∀ ob ∈ K,ob ∈ H')->yv81 (yv10 l s.heap.length) h2 ls K=yv81 (yv10 l t.heap.length) h2 ls K:=by
   intro h2 ls
   induction ls generalizing h2 with
   | nil=>intro K _;cases K<;>rfl
   | cons j ls ih =>
    intro K hK
    cases K with
    | nil=>rfl
    | cons ob K =>
     simp only [yv81]
     rw [yv37 ob (fun i hi=>hb.2 ob (hK ob (by simp)) i hi)]
     exact ih _ K fun ob' hob=>hK ob' (by simp [hob])
  have hst:Delta.app ⟨rdU s.env o.args++dstU o.dst (some (ren (yv10 l s.heap.length) r)),hsOf (yv10 l s.heap.length) wr l H',(H'.drop l.length).map (renL (yv10 l s.heap.length))⟩ t =
   ⟨putD (rdAs t.env o.args).2 o.dst (ren (yv10 l t.heap.length) r),yv130 (yv10 l t.heap.length) t.heap l H'⟩:=by
   simp only [Delta.app,yv33,yv223,yv159,c2,yv130]
   rw [happ t.heap hlt,hputAll t.heap l H' (fun _ h=>h),yv343 r hb.1]
   congr 2
   apply List.map_congr_left
   intro ob hob
   exact yv37 ob (hb.2 ob (List.mem_of_mem_drop hob))
  rw [hst] at hw
  have hcl2:=yv237 hlt hcl
  have hgood2:=hgood
  rw [yv265 hlt] at hgood2
  simp only [wpO,hg',hop]
  rw [← c1,hc]
  exact ⟨he,l,r,H',hcl2,hgood2,hw⟩
 ·refine ⟨fun _ h=>yv628 _ h,yv533,fun e h=>(yv289 e h).1,(fun i hi=>by obtain ⟨j,hj,rfl⟩:=List.mem_map.1 hi;exact List.mem_map.2 ⟨j,hwr' j hj,rfl⟩),(fun i hi=>by obtain ⟨j,hj,rfl⟩:=List.mem_map.1 hi;exact (hc2 j hj).1),fun hn=>?_,fun n hn=>?_⟩
  ·simp only
   unfold yv176
   rw [if_neg]
   rintro ⟨q1,_,_⟩
   apply hn
   simp [q1]
  ·unfold yv176 at hn
   split at hn
   ·cases hn
   ·simpa using hn
 ·simp only [Delta.app,yv33,yv223,yv159,yv130]
  rw [happ s.heap hself]
end Go.Rv
namespace Go.Rv
open Go.RowKit
variable {P:Program} {W0:World} {L:World->Prop}
def yv186 (u:List Nat) (Fs:List Foot) (F:Foot):Bool:=u.all fun j=>yv208 (Fs.getD j .none) F
def unch (h:Heap) (l wr:List Nat) (H':Heap):Prop:=∀ i ∈ l,wr.contains i=true∨renL (yv10 l h.length) (hget H' (posOf l i))=hget h i
def yv780 (P:Program) (L:World->Prop) (f:FuncId) (as:List AV) (h:Heap) (u:List Nat) (Fs:List Foot) (K:AV->Heap->Foot->Prop):Prop :=
 ∃ l r H' wr,yv32 h l as=true∧Good P L f (renL (posOf l) as) (yv11 h l) r H'∧l.length ≤ H'.length∧wr.all (fun i=>l.contains i)=true∧unch h l wr H' ∧
  yv186 u Fs ⟨l.map wl,wr.map wl,yv176 l r H' h.length⟩=true∧K (ren (yv10 l h.length) r) (yv130 (yv10 l h.length) h l H') ⟨l.map wl,wr.map wl,yv176 l r H' h.length⟩
def wpD (P:Program) (L:World->Prop):List SOp->List (List Nat)->List Foot->(St->Prop)->St->Prop
 | [],_,_,K,s=>K s
 | o::os,us,Fs,K,s =>
  match yv7 s.env o.guard with
  | none=>False
  | some false=>wpD P L os us.tail (Fs++[.none]) K ⟨rmD s.env o.dst,s.heap⟩
  | some true=>match o.op with
   | .call f=>match yv51 f (rdAs s.env o.args).1 with
    | some (fid,as)=>yv25 P fid=true∧yv780 P L fid as s.heap (us.headD []) Fs fun r h F=>wpD P L os us.tail (Fs++[F]) K ⟨putD (rdAs s.env o.args).2 o.dst r,h⟩
    | none=>False
   | op=>match op.ev (rdAs s.env o.args).1 s.heap with
    | some (a,h)=>(yv9 op (rdAs s.env o.args).1 s.heap).ord.all (fun i=>decide (i.1 < s.heap.length))=true∧yv186 (us.headD []) Fs (yv9 op (rdAs s.env o.args).1 s.heap)=true ∧
     wpD P L os us.tail (Fs++[yv9 op (rdAs s.env o.args).1 s.heap]) K ⟨putD (rdAs s.env o.args).2 o.dst a,h⟩
    | none=>False
def yv589 (un:List Nat) (m:Nat) (si:SOp):Nat->List SOp->Bool
 | _,[]=>true
 | j,sj::rest=>(m.testBit j || (yv259 sj si && (yv116 sj.op || yv116 si.op || un.contains j))) && yv589 un m si (j + 1) rest
def yv337:List SOp->List SOp->List Nat->List (List Nat)->Bool
 | _,[],_,_=>true
 | pre,s::ss,ms,us=>yv589 (us.headD []) (ms.headD 0) s 0 pre && yv337 (pre++[s]) ss ms.tail us.tail
def yv661 (P:Program) (os:List Oper) (ss:List SOp) (us:List (List Nat)):Bool :=
 P.follows .mixedOrders && yv320 0 os && yv337 [] ss (befs [] os) us
theorem yv193 {un:List Nat} {m:Nat} {si:SOp}:∀ {pre:List SOp} {k:Nat},yv589 un m si k pre=true->∀ (j:Nat) (sj:SOp),pre[j]?=some sj->m.testBit (k + j)=true∨(yv259 sj si=true∧(yv116 sj.op=true∨yv116 si.op=true∨(k + j) ∈ un))
 | [],_,_,j,sj,h=>by simp at h
 | s::pre,k,h,j,sj,hj=>by
  simp only [yv589,Bool.and_eq_true,Bool.or_eq_true] at h
  cases j with
  | zero =>
   simp at hj;subst hj
   rcases h.1 with h|h
   ·exact .inl h
   ·refine .inr ⟨h.1,?_⟩
    rcases h.2 with (h|h)|h
    ·exact .inl h
    ·exact .inr (.inl h)
    ·exact .inr (.inr (by simpa using h))
  | succ j =>
   simp at hj
   have:=yv193 h.2 j sj hj
   rwa [show k + 1 + j=k + (j + 1) by omega] at this
theorem yv156:∀ {ss pre:List SOp} {ms:List Nat} {us:List (List Nat)},yv337 pre ss ms us=true->∀ (i j:Nat) (si sj:SOp),ss[i]?=some si->j < pre.length + i->(pre++ss)[j]?=some sj ->
 (ms.getD i 0).testBit j=true∨(yv259 sj si=true∧(yv116 sj.op=true∨yv116 si.op=true∨j ∈ us.getD i []))
 | [],_,_,_,_,i,j,si,sj,h,_,_=>by simp at h
 | s::ss,pre,ms,us,h,i,j,si,sj,hi,hj,hs=>by
  simp only [yv337,Bool.and_eq_true] at h
  cases i with
  | zero =>
   simp at hi;subst hi
   rw [List.getElem?_append_left (by simpa using hj)] at hs
   have:=yv193 h.1 j sj hs
   simp only [Nat.zero_add] at this
   cases ms<;>cases us<;>simpa using this
  | succ i =>
   simp at hi
   have:=yv156 h.2 i j si sj hi (by simp;omega) (by simpa using hs)
   cases ms<;>cases us<;>simpa using this
theorem yv356 {b:Foot}:yv208 .none b=true:=by simp [yv208,Foot.none,ldisj]
theorem compat_none' {a:Foot}:yv208 a .none=true:=by
 simp only [yv208,Foot.none,ldisj]
 cases a.grow<;>simp
theorem yv146:∀ (os:List SOp) (us:List (List Nat)) (Fs:List Foot) (K:St->Prop) (s:St),wpD P L os us Fs K s ->
 ∃ acts:List Act',acts.length=os.length∧(∀ (n:Nat) (x:Act'),acts[n]?=some x->x.i=Fs.length + n∧os[n]?=some x.o∧(yv116 x.o.op=true->x.F=.none) ∧
  ∀ j ∈ us.getD n [],j < Fs.length + n->yv208 ((Fs++acts.map (·.F)).getD j .none) x.F=true)∧Chain P L acts K s
 | [],us,Fs,K,s,h=>⟨[],rfl,fun n x hx=>by simp at hx,h⟩
 | o::os,us,Fs,K,s,h=>by
  have glue:∀ (F:Foot) (d:Delta) (s':St),Does P L ⟨Fs.length,o,F,d⟩ s->WfA ⟨Fs.length,o,F,d⟩ s->d.app s=s'->(yv116 o.op=true->F=.none)->yv186 (us.headD []) Fs F=true->wpD P L os us.tail (Fs++[F]) K s' ->
   ∃ acts:List Act',acts.length=(o::os).length∧(∀ (n:Nat) (x:Act'),acts[n]?=some x->x.i=Fs.length + n∧(o::os)[n]?=some x.o∧(yv116 x.o.op=true->x.F=.none) ∧
    ∀ j ∈ us.getD n [],j < Fs.length + n->yv208 ((Fs++acts.map (·.F)).getD j .none) x.F=true)∧Chain P L acts K s:=by
   intro F d s' hd hw hs' hp hf hk
   obtain ⟨acts,e1,e2,e3⟩:=yv146 os us.tail (Fs++[F]) K s' hk
   refine ⟨⟨Fs.length,o,F,d⟩::acts,by simp [e1],fun n x hx=>?_,hd,hw,by rw [hs'];exact e3⟩
   cases n with
   | zero =>
    simp at hx;subst hx
    refine ⟨rfl,rfl,hp,fun j hj hlt=>?_⟩
    have hj':j ∈ us.headD []:=by
     cases us with
     | nil=>simp at hj
     | cons a l=>simpa using hj
    have:=List.all_eq_true.1 hf j hj'
    simp only [Nat.add_zero] at hlt
    rw [List.getD_eq_getElem?_getD,List.getElem?_append_left hlt,← List.getD_eq_getElem?_getD]
    exact this
   | succ n =>
    simp at hx
    obtain ⟨a1,a2,a3,a4⟩:=e2 n x hx
    refine ⟨by simp at a1;omega,by simpa using a2,a3,fun j hj hlt=>?_⟩
    have hj2:j ∈ us.tail.getD n []:=by
     cases us with
     | nil=>simp at hj
     | cons a l=>simpa using hj
    have:=a4 j hj2 (by simp;omega)
    simpa using this
  simp only [wpD] at h
  split at h
  ·exact h.elim
  ·rename_i hg
   obtain ⟨hd,hw⟩:=yv548 (P:=P) (L:=L) (i:=Fs.length) hg
   exact glue .none _ _ hd hw (by simp [Delta.app,appH,yv643]) (fun _=>rfl) (by simp [yv186,compat_none']) h
  ·rename_i hg
   split at h
   ·rename_i f hop
    split at h
    case h_2=>exact h.elim
    rename_i fid as hc
    obtain ⟨he,l,r,H',wr,q1,q2,q3,q4,q5,q6,q7⟩:=h
    obtain ⟨d,hd,hw,ha⟩:=yv655 (i:=Fs.length) hop hg hc he q1 q2 q3 q4 q5
    exact glue _ d _ hd hw ha (fun hp=>by rw [hop] at hp;cases hp) q6 q7
   ·rename_i hne
    split at h
    case h_2=>exact h.elim
    rename_i a h' hev
    obtain ⟨q1,q2,q3⟩:=h
    obtain ⟨d,hd,hw,ha⟩:=yv807 (P:=P) (L:=L) (i:=Fs.length) (fun f hf=>hne f hf) hg hev q1
    exact glue _ d _ hd hw ha (fun hp=>yv185 hp) q2 q3
theorem yv630 {n i:Nat}:¬ Lst (Array.replicate n false) i:=by
 unfold Lst
 rw [Array.getD_eq_getD_getElem?]
 cases h:(Array.replicate n false)[i]? with
 | none=>simp
 | some b =>
  have:=Array.mem_of_getElem? h
  rw [Array.mem_replicate] at this
  simp [this.2]
theorem yv662 {ops:Array Oper} {sops:List SOp} {us:List (List Nat)} {K:St->Prop} {s:St} (hd:yv661 P ops.toList sops us=true) (hl:sops.length=ops.size) (hs:srt s.env=true) (hw:wpD P L sops us [] K s) (t:Nat) :
 ∃ ss,ss.map some=(Region.schedule (P.follows .mixedOrders) ops t).map (fun i=>sops[i]?)∧wpO P L ss K s:=by
 simp only [yv661,Bool.and_eq_true] at hd
 obtain ⟨⟨hm,h1⟩,h2⟩:=hd
 rw [hm]
 simp only [Region.schedule,Bool.true_or,if_true,Region.linearise]
 obtain ⟨acts,e1,e2,e3⟩:=yv146 _ _ _ _ _ hw
 simp only [List.length_nil,Nat.zero_add,List.nil_append] at e2
 have hidx:∀ x ∈ acts,acts[x.i]?=some x:=by
  intro x hx
  obtain ⟨n,hn⟩:=List.getElem?_of_mem hx
  rw [(e2 n x hn).1];exact hn
 refine yv580 (sops:=sops) (fun i o ho e he hb=>?_) ops.size t _ acts s (by simp) (by omega) (fun x hx=>?_) (fun i hi _=>?_) ?_ ?_ ?_ (fun x hx=>?_) hs e3
 ·have:=yv148 h1 i o (by simpa using ho) e he hb
  simpa using this
 ·obtain ⟨n,hn⟩:=List.getElem?_of_mem hx
  have:=(List.getElem?_eq_some_iff.1 hn).1
  refine ⟨by rw [(e2 n x hn).1];omega,?_⟩
  exact yv630
 ·have hi':i < acts.length:=by omega
  exact ⟨acts[i],by simp,(e2 i acts[i] (by simp [hi'])).1⟩
 ·rw [List.pairwise_iff_getElem]
  intro i j hi hj hij
  rw [(e2 i acts[i] (by simp [hi])).1,(e2 j acts[j] (by simp [hj])).1]
  exact hij
 ·intro i hi
  exfalso
  exact yv630 hi
 ·rw [List.pairwise_iff_getElem]
  intro i j hi hj hij
  obtain ⟨a1,a2,a3,a4⟩:=e2 i acts[i] (by simp [hi])
  obtain ⟨b1,b2,b3,b4⟩:=e2 j acts[j] (by simp [hj])
  rw [a1,b1]
  rcases yv156 h2 j i _ _ b2 (by simpa using hij) (by simpa using a2) with h|⟨h,h'⟩
  ·exact .inl h
  ·refine .inr (yv357 h ?_)
   rcases h' with h'|h'|h'
   ·rw [a3 h'];exact yv356
   ·rw [b3 h'];exact compat_none'
   ·have:=b4 i h' hij
    simpa [List.getD_eq_getElem?_getD,hi] using this
 ·have:=e2 x.i x (hidx x hx)
  exact this.2.1
end Go.Rv
namespace Go.Rv
open Go.RowKit
def adm (a b:AV):Prop:=a=b∨strip a=b
def admL:List AV->List AV->Prop
 | [],[]=>True
 | a::as,b::bs=>adm a b∧admL as bs
 | _,_=>False
def admO (a b:List AV):Prop:=admL a b∨b=[]
def admH:Heap->Heap->Prop
 | [],[]=>True
 | a::as,b::bs=>admO a b∧admH as bs
 | _,_=>False
theorem adm_r {a:AV}:adm a a:=.inl rfl
theorem yv729:∀ {l:List AV},admL l l
 | []=>trivial
 | _::_=>⟨adm_r,yv729⟩
theorem yv538:∀ {l:Heap},admH l l
 | []=>trivial
 | _::_=>⟨.inl yv729,yv538⟩
theorem yv97:∀ {as bs:List AV},admL as bs->as.length=bs.length∧∀ (i:Nat) (a:AV),as[i]?=some a->∃ b,bs[i]?=some b∧adm a b
 | [],[],_=>⟨rfl,fun i a h=>by simp at h⟩
 | [],_::_,h=>h.elim
 | _::_,[],h=>h.elim
 | a::as,b::bs,h=>⟨by simp [(yv97 h.2).1],fun i x hx=>by
  cases i with
  | zero=>simp at hx;subst hx;exact ⟨b,rfl,h.1⟩
  | succ i=>simp at hx;simpa using (yv97 h.2).2 i x hx⟩
section
variable {P:Program} {W0:World} {L:World->Prop}
theorem RepA.adm {base n:Nat} {φ:Nat->Nat} {g:Gh} {w:World} {l:Loc} {a b:AV} {v:Value} (h:RepA base n φ g w l a v) (x:adm a b):RepA base n φ g w l b v:=by
 rcases x with rfl|rfl
 ·exact h
 ·exact h.strip
theorem RepC.adm {base n:Nat} {φ:Nat->Nat} {g:Gh} {w:World} {l:Loc} {a b:AV} {v:Value} (h:RepC base n φ g w l a v) (x:Rv.adm a b):RepC base n φ g w l b v:=by
 rcases x with rfl|rfl
 ·exact h
 ·exact h.strip
end
mutual
theorem ren_id':∀ a:AV,ren id a=a
 | .agg cs=>by simp [ren,renL_id' cs]
 | .tup cs=>by simp [ren,renL_id' cs]
 | .clo f x y=>by simp [ren,renL_id' x,renL_id' y]
 | .ref _ _=>rfl
 | .view _ _ _ _=>rfl
 | .pv _=>rfl
 | .own _ _=>rfl
 | .eref _ _=>rfl
 | .junk=>rfl
theorem renL_id':∀ l:List AV,renL id l=l
 | []=>rfl
 | a::l=>by simp [renL,ren_id' a,renL_id' l]
end
theorem yv78:∀ {as bs:Heap},admH as bs->as.length=bs.length∧∀ (i:Nat),admO (hget as i) (hget bs i)
 | [],[],_=>⟨rfl,fun i=>.inr rfl⟩
 | [],_::_,h=>h.elim
 | _::_,[],h=>h.elim
 | a::as,b::bs,h=>⟨by simp [(yv78 h.2).1],fun i=>by
  cases i with
  | zero=>exact h.1
  | succ i=>exact (yv78 h.2).2 i⟩
theorem RepH.adm {base:Nat} {φ:Nat->Nat} {g:Gh} {w:World} {H H':Heap} (h:RepH base φ g w H) (x:admH H H'):RepH base φ g w H':=by
 obtain ⟨e,hx⟩:=yv78 x
 intro id hid
 obtain ⟨ho⟩:=h id (by omega)
 rcases hx id with hx'|hx'
 ·obtain ⟨e1,e2⟩:=yv97 hx'
  refine ⟨?_⟩
  rcases ho with ho|⟨cur,T,p1,p2,p3,p4,p5,p6⟩
  ·left
   rw [ho] at e1
   exact List.length_eq_zero_iff.1 e1.symm
  ·refine .inr ⟨cur,T,p1,by omega,p3,p4,p5,fun j a b hb hv=>?_⟩
   have hlt:j < (hget H id).length:=by rw [e1];exact (List.getElem?_eq_some_iff.1 hb).1
   obtain ⟨b',q1,q2⟩:=e2 j (hget H id)[j] (by simp [hlt])
   rw [hb] at q1
   simp only [Option.some.injEq] at q1
   subst q1
   obtain ⟨r1,r2⟩:=p6 j _ b (List.getElem?_eq_getElem hlt) hv
   rw [e] at r1
   exact ⟨r1.adm q2,r2⟩
 ·exact ⟨.inl hx'⟩
structure admS (s s':St):Prop where
 env:∀ t,Rv.adm (lk s.env t) (lk s'.env t)∨lk s'.env t=.junk
 len:s'.heap.length ≤ s.heap.length
 heap:admH (s.heap.take s'.heap.length) s'.heap
 refs:∀ t,(yv16 (lk s'.env t)).all (fun i=>decide (i < s'.heap.length))=true
 hrefs:s'.heap.all (fun ob=>(refsL ob).all fun i=>decide (i < s'.heap.length))=true
theorem yv385:∀ {a b c:Heap},admH a b->admH (a++c) (b++c)
 | [],[],_,_=>yv538
 | [],_::_,_,h=>h.elim
 | _::_,[],_,h=>h.elim
 | _::_,_::_,_,h=>⟨h.1,yv385 h.2⟩
theorem yv673 {a b:Heap} {i:Nat} (h:i < a.length):hget (a++b) i=hget a i:=by
 rw [yv19,yv19,List.getElem?_append_left h]
theorem SR.weak {W0:World} {φ:Nat->Nat} {g:Gh} {w:World} {s s':St} {tmps:Array Value} (h:SR W0 φ g w s.env s.heap tmps) (x:admS s s'):SR W0 φ g w s'.env s'.heap tmps:=by
 have hx:admH s.heap (s'.heap++s.heap.drop s'.heap.length):=by
  have:=yv385 (c:=s.heap.drop s'.heap.length) x.heap
  rwa [List.take_append_drop] at this
 have hp:=h.hp.adm hx
 have e:=(yv78 hx).1
 refine ⟨h.inv,fun id hid=>?_,fun t=>?_⟩
 ·have hid':id < (s'.heap++s.heap.drop s'.heap.length).length:=by simp;omega
  have hmem:hget s'.heap id ∈ s'.heap:=by rw [yv19,List.getElem?_eq_getElem hid];simp
  have hrefs:=List.all_eq_true.1 x.hrefs _ hmem
  have o:=hp id hid'
  rw [yv673 hid] at o
  have z:=o.mv (n':=s'.heap.length) (φ':=φ) (id':=id) (σ:=_root_.id) (Ext.refl _ _ _) rfl ⟨fun _ h=>⟨rfl,rfl,h⟩⟩ (fun _=>⟨fun _ h=>⟨rfl,rfl,h⟩⟩) (fun i hi _=>⟨by
   have:=List.all_eq_true.1 hrefs i hi
   simpa using this,rfl⟩)
  rwa [renL_id'] at z
 ·have za:RepA W0.heap.size s.heap.length φ g w (.env t) (lk s'.env t) (tmps.getD t undef):=(x.env t).elim (fun q=>(h.env t).adm q) (fun q=>by rw [q];exact RepA.junk)
  have z:=za.mv (n':=s'.heap.length) (φ':=φ) (σ:=_root_.id) (Ext.refl _ _ _) KeepU.refl (fun i hi _=>⟨by
   have:=List.all_eq_true.1 (x.refs t) i hi
   simpa using this,rfl⟩)
  rwa [ren_id'] at z
end Go.Rv
namespace Go.Rv
open Go.RowKit
def frzC (H:Heap) (F:Nat->Bool) (a b:AV):Prop :=
 a=b∨∃ id off n z sz rows,a=.view id off n z∧b=.pv (.sl sz rows)∧F id=true∧0 < sz∧rows.length=n∧(∀ r ∈ rows,r.length=sz)∧off + n * sz ≤ (hget H id).length∧((hget H id).drop off).take (n * sz)=rows.flatten.map AV.pv
def frzL (H:Heap) (F:Nat->Bool):List AV->List AV->Prop
 | [],[]=>True
 | a::as,b::bs=>frzC H F a b∧frzL H F as bs
 | _,_=>False
def frzB (H:Heap) (F:Nat->Bool) (a b:AV):Prop:=frzC H F a b∨∃ cs ds,a=.agg cs∧b=.agg ds∧frzL H F cs ds
def frzM (H:Heap) (F:Nat->Bool):List AV->List AV->Prop
 | [],[]=>True
 | a::as,b::bs=>frzB H F a b∧frzM H F as bs
 | _,_=>False
def frzA (H:Heap) (F:Nat->Bool) (a b:AV):Prop:=frzB H F a b∨∃ cs ds,a=.tup cs∧b=.tup ds∧frzM H F cs ds
def frzO (H:Heap) (F:Nat->Bool) (i:Nat) (o o':List AV):Prop:=if F i then o'=[] else frzL H F o o'
structure frzS (F:Nat->Bool) (s s':St):Prop where
 env:∀ t,frzA s.heap F (lk s.env t) (lk s'.env t)
 len:s'.heap.length=s.heap.length
 heap:∀ i,i < s.heap.length->frzO s.heap F i (hget s.heap i) (hget s'.heap i)
theorem yv211 {H:Heap} {F:Nat->Bool}:∀ {as bs:List AV},frzL H F as bs->as.length=bs.length∧∀ (i:Nat) (b:AV),bs[i]?=some b->∃ a,as[i]?=some a∧frzC H F a b
 | [],[],_=>⟨rfl,fun i b h=>by simp at h⟩
 | [],_::_,h=>h.elim
 | _::_,[],h=>h.elim
 | a::as,b::bs,h=>⟨by simp [(yv211 h.2).1],fun i x hx=>by
  cases i with
  | zero=>simp at hx;subst hx;exact ⟨a,rfl,h.1⟩
  | succ i=>simp at hx;simpa using (yv211 h.2).2 i x hx⟩
theorem yv287 {H:Heap} {F:Nat->Bool}:∀ {as bs:List AV},frzM H F as bs->as.length=bs.length∧∀ (i:Nat) (b:AV),bs[i]?=some b->∃ a,as[i]?=some a∧frzB H F a b
 | [],[],_=>⟨rfl,fun i b h=>by simp at h⟩
 | [],_::_,h=>h.elim
 | _::_,[],h=>h.elim
 | a::as,b::bs,h=>⟨by simp [(yv287 h.2).1],fun i x hx=>by
  cases i with
  | zero=>simp at hx;subst hx;exact ⟨a,rfl,h.1⟩
  | succ i=>simp at hx;simpa using (yv287 h.2).2 i x hx⟩
theorem yv210 {α:Type} {sz:Nat}:∀ {rows:List (List α)} {i j:Nat} {r:List α} {c:α},(∀ r ∈ rows,r.length=sz)->rows[i]?=some r->r[j]?=some c->rows.flatten[i * sz + j]?=some c
 | [],i,j,r,c,_,h,_=>by simp at h
 | x::rows,0,j,r,c,hs,h,hc=>by
  simp at h;subst h
  have hx:=hs x (by simp)
  have hj:j < x.length:=(List.getElem?_eq_some_iff.1 hc).1
  simp only [List.flatten_cons,Nat.zero_mul,Nat.zero_add]
  rw [List.getElem?_append_left hj,hc]
 | x::rows,i + 1,j,r,c,hs,h,hc=>by
  simp at h
  have hx:=hs x (by simp)
  have ih:=yv210 (fun r hr=>hs r (by simp [hr])) h hc
  simp only [List.flatten_cons,Nat.add_mul,Nat.one_mul]
  rw [List.getElem?_append_right (by omega),← ih]
  congr 1
  omega
section
variable {W0:World} {φ:Nat->Nat} {g:Gh} {w:World} {H:Heap}
open Classical in
noncomputable def frzG (F:Nat->Bool) (φ:Nat->Nat) (g:Gh) (w:World) (H:Heap):Gh :=
 ⟨fun b=>if ∃ i,i < H.length∧F i=true∧hget H i ≠ []∧φ i=b then yv21 w b else g.lim b,
  fun b=>if ∃ i,i < H.length∧F i=true∧hget H i ≠ []∧φ i=b then none else g.ow b⟩
variable {F:Nat->Bool}
theorem frz_z (hh:RepH W0.heap.size φ g w H) {i:Nat} (hi:i < H.length) (hn:hget H i ≠ []):∃ cur e,w.heap[φ i]?=some (.cells cur e (0,0))∧(hget H i).length ≤ cur.size∧W0.heap.size ≤ φ i∧g.ow (φ i)=some (.obj i)∧g.lim (φ i)=0 ∧
 ∀ (j:Nat) (a:AV) (v:Value),(hget H i)[j]?=some a->cur[j]?=some v->RepC W0.heap.size H.length φ g w (.hp i j) a v∧v.oneCell'=true:=by
 rcases (hh i hi).rep with h|h
 ·exact absurd h hn
 ·exact h
theorem yv326 (hh:RepH W0.heap.size φ g w H):Ext W0.heap.size g w (frzG F φ g w H) w:=by
 refine ⟨Nat.le_refl _,fun b=>?_,fun _ _ _ _=>rfl,fun _=>Nat.le_refl _⟩
 simp only [frzG]
 split
 ·rename_i h
  obtain ⟨i,h1,h2,h3,rfl⟩:=h
  obtain ⟨cur,e,_,_,_,_,hl,_⟩:=frz_z hh h1 h3
  rw [hl];exact Nat.zero_le _
 ·exact Nat.le_refl _
theorem yv288 (hh:RepH W0.heap.size φ g w H) {l:Loc} (hl:∀ i,F i=true->l ≠ .obj i):Keep W0.heap.size g w (frzG F φ g w H) w l l:=by
 refine ⟨fun b hb=>?_⟩
 have hz:¬ ∃ i,i < H.length∧F i=true∧hget H i ≠ []∧φ i=b:=by
  rintro ⟨i,h1,h2,h3,rfl⟩
  obtain ⟨cur,e,_,_,_,ho,_,_⟩:=frz_z hh h1 h3
  rw [ho] at hb
  exact hl i h2 (Option.some.inj hb).symm
 exact ⟨rfl,by simp only [frzG];rw [if_neg hz],by simp only [frzG];rw [if_neg hz];exact hb⟩
theorem yv749 (hi:Inv W0 g w) (hh:RepH W0.heap.size φ g w H):Inv W0 (frzG F φ g w H) w:=by
 refine ⟨hi.below,fun b hb=>?_,fun b hb=>?_⟩
 ·have hz:¬ ∃ i,i < H.length∧F i=true∧hget H i ≠ []∧φ i=b:=by
   rintro ⟨i,h1,h2,h3,rfl⟩
   obtain ⟨cur,e,_,_,h4,_⟩:=frz_z hh h1 h3
   omega
  simp only [frzG]
  rw [if_neg hz,if_neg hz]
  exact hi.old b hb
 ·have hz:¬ ∃ i,i < H.length∧F i=true∧hget H i ≠ []∧φ i=b:=by
   rintro ⟨i,h1,h2,h3,rfl⟩
   obtain ⟨cur,e,h4,_⟩:=frz_z hh h1 h3
   have:=(Array.getElem?_eq_some_iff.1 h4).1
   omega
  simp only [frzG]
  rw [if_neg hz,if_neg hz]
  exact hi.new b hb
theorem yv671 (hh:RepH W0.heap.size φ g w H) {b:Nat} (hn:g.ow b=none):(frzG F φ g w H).lim b=g.lim b∧(frzG F φ g w H).ow b=none:=by
 have hz:¬ ∃ i,i < H.length∧F i=true∧hget H i ≠ []∧φ i=b:=by
  rintro ⟨i,h1,h2,h3,rfl⟩
  obtain ⟨cur,e,_,_,_,ho,_⟩:=frz_z hh h1 h3
  rw [ho] at hn;cases hn
 simp only [frzG]
 rw [if_neg hz,if_neg hz]
 exact ⟨rfl,hn⟩
theorem frz_c (hh:RepH W0.heap.size φ g w H) {l:Loc} (hl:∀ i,F i=true->l ≠ .obj i) {a b:AV} {v:Value} (hr:RepC W0.heap.size H.length φ g w l a v) (hf:frzC H F a b) :
 RepC W0.heap.size H.length φ (frzG F φ g w H) w l b v:=by
 rcases hf with rfl|⟨id,off,n,z,sz,rows,rfl,rfl,hF,hz,hn,hs,hle,hc⟩
 ·exact hr.keep (yv326 hh) (Nat.le_refl _) (fun _ _=>rfl) (yv288 hh hl)
 ·cases hr with
  | zero _ _ h0 =>
   refine .zero _ _ (.pv _ _ ?_)
   cases h0 with
   | view0 _ _ cap _ ad hid =>
    have:rows=[]:=List.length_eq_zero_iff.1 hn
    subst this
    exact .none sz ad cap
   | view _ _ _ cap _ hid hcap _ =>
    by_cases h0:n=0
    ·subst h0
     have:rows=[]:=List.length_eq_zero_iff.1 hn
     subst this
     exact .none sz _ cap
    ·have hpos:0 < n * sz:=Nat.mul_pos (by omega) hz
     have hne:hget H id ≠ []:=by
      intro e;rw [e] at hle;simp at hle;omega
     obtain ⟨cur,e,p1,p2,p3,p4,p5,p6⟩:=frz_z hh hid hne
     have hZ:∃ i,i < H.length∧F i=true∧hget H i ≠ []∧φ i=φ id:=⟨id,hid,hF,hne,rfl⟩
     have hlim:(frzG F φ g w H).lim (φ id)=cur.size:=by
      simp only [frzG]
      rw [if_pos hZ,yv21,p1]
     have idx:∀ i r j c,rows[i]?=some r->r[j]?=some c->(hget H id)[off + (i * sz + j)]?=some (.pv c)∧off + (i * sz + j) < cur.size:=by
      intro i r j c hi hj
      have h1:=yv210 hs hi hj
      have h2:(((hget H id).drop off).take (n * sz))[i * sz + j]?=some (.pv c):=by
       rw [hc,List.getElem?_map,h1];rfl
      rw [List.getElem?_take] at h2
      split at h2
      ·rw [List.getElem?_drop] at h2
       have:=(List.getElem?_eq_some_iff.1 h2).1
       exact ⟨h2,by omega⟩
      ·cases h2
     subst hn
     refine .sl sz rows (φ id) off cap (fun i j=>cur.getD (off + (i * sz + j)) undef) hs ?_ ((Array.getElem?_eq_some_iff.1 p1).1) hcap ?_ ?_
     ·intro o h1 h2
      refine .inr ?_
      rw [hlim];omega
     ·intro i r j c hi hj
      obtain ⟨_,h2⟩:=idx i r j c hi hj
      simp [World.cell?,p1,h2]
     ·intro i r j c hi hj
      obtain ⟨h1,h2⟩:=idx i r j c hi hj
      have:=(p6 _ _ cur[off + (i * sz + j)] h1 (by simp [h2])).1
      have hv:cur.getD (off + (i * sz + j)) undef=cur[off + (i * sz + j)]:=by simp [h2]
      rw [hv]
      cases this with
      | zero _ _ h0=>cases h0 with
       | pv _ _ h0=>exact h0.ext (yv326 hh)
theorem frz_b (hh:RepH W0.heap.size φ g w H) {l:Loc} (hl:∀ i,F i=true->l ≠ .obj i) {a b:AV} {v:Value} (hr:RepB W0.heap.size H.length φ g w l a v) (hf:frzB H F a b) :
 RepB W0.heap.size H.length φ (frzG F φ g w H) w l b v:=by
 have hsub:∀ (k i:Nat),F i=true->Loc.sub l k ≠ .obj i:=fun k i _ h=>by cases h
 rcases hf with hf|⟨cs,ds,rfl,rfl,hf⟩
 ·cases hr with
  | c _ _ h=>exact .c _ _ (frz_c hh hl h hf)
  | agg cs vs h1 h2 h3 =>
   rcases hf with rfl|⟨_,_,_,_,_,_,h,_⟩
   ·exact .agg cs vs h1 (fun i a v p q=>(h2 i a v p q).keep (yv326 hh) (Nat.le_refl _) (fun _ _=>rfl) (yv288 hh (hsub i))) h3
   ·cases h
 ·cases hr with
  | c _ _ h=>cases h with
   | zero _ _ h0=>cases h0
  | agg _ vs h1 h2 h3 =>
   obtain ⟨e,hg⟩:=yv211 hf
   refine .agg ds vs (by omega) (fun i b v p q=>?_) h3
   obtain ⟨a,p',hab⟩:=hg i b p
   exact frz_c hh (hsub i) (h2 i a v p' q) hab
theorem frz_a (hh:RepH W0.heap.size φ g w H) {l:Loc} (hl:∀ i,F i=true->l ≠ .obj i) {a b:AV} {v:Value} (hr:RepA W0.heap.size H.length φ g w l a v) (hf:frzA H F a b) :
 RepA W0.heap.size H.length φ (frzG F φ g w H) w l b v:=by
 have hsub:∀ (k i:Nat),F i=true->Loc.sub l k ≠ .obj i:=fun k i _ h=>by cases h
 rcases hf with hf|⟨cs,ds,rfl,rfl,hf⟩
 ·cases hr with
  | b _ _ h=>exact .b _ _ (frz_b hh hl h hf)
  | tup cs vs h1 h2 =>
   have:b=.tup cs:=by
    rcases hf with (rfl|⟨_,_,_,_,_,_,h,_⟩)|⟨_,_,h,_⟩
    ·rfl
    ·cases h
    ·cases h
   subst this
   exact .tup cs vs h1 (fun i a v p q=>frz_b hh (hsub i) (h2 i a v p q) (.inl (.inl rfl)))
 ·cases hr with
  | b _ _ h=>cases h with
   | c _ _ h=>cases h with
    | zero _ _ h0=>cases h0
  | tup _ vs h1 h2 =>
   obtain ⟨e,hg⟩:=yv287 hf
   refine .tup ds vs (by omega) (fun i b v p q=>?_)
   obtain ⟨a,p',hab⟩:=hg i b p
   exact frz_b hh (hsub i) (h2 i a v p' q) hab
theorem frz_h (hh:RepH W0.heap.size φ g w H) {H':Heap} (hlen:H'.length=H.length) (hf:∀ i,i < H.length->frzO H F i (hget H i) (hget H' i)):RepH W0.heap.size φ (frzG F φ g w H) w H':=by
 intro id hid
 have hid':id < H.length:=by omega
 have ho:=hf id hid'
 refine ⟨?_⟩
 simp only [frzO] at ho
 split at ho
 ·exact .inl ho
 ·rename_i hF
  obtain ⟨e,hg⟩:=yv211 ho
  by_cases hn:hget H id=[]
  ·left
   rw [hn] at e
   exact List.length_eq_zero_iff.1 e.symm
  ·obtain ⟨cur,ty,p1,p2,p3,p4,p5,p6⟩:=frz_z hh hid' hn
   have k:=(yv288 (F:=F) hh (l:=.obj id) (fun i hi h=>by cases h;exact hF hi)).heap _ p4
   refine .inr ⟨cur,ty,p1,by omega,p3,k.2.2,by rw [k.2.1,p5],fun j b v hb hv=>?_⟩
   obtain ⟨a,ha,hab⟩:=hg j b hb
   obtain ⟨q1,q2⟩:=p6 j a v ha hv
   rw [hlen]
   exact ⟨frz_c hh (fun i _ h=>by cases h) q1 hab,q2⟩
end
theorem SR.frz {W0:World} {φ:Nat->Nat} {g:Gh} {w:World} {s s':St} {tmps:Array Value} {F:Nat->Bool} (h:SR W0 φ g w s.env s.heap tmps) (x:frzS F s s') :
 ∃ g',SR W0 φ g' w s'.env s'.heap tmps∧Ext W0.heap.size g w g' w∧∀ b,g.ow b=none->g'.lim b=g.lim b∧g'.ow b=none:=by
 refine ⟨frzG F φ g w s.heap,⟨yv749 h.inv h.hp,frz_h h.hp x.len x.heap,fun t=>?_⟩,yv326 h.hp,fun b=>yv671 h.hp⟩
 have:=frz_a h.hp (l:=.env t) (fun i _ e=>by cases e) (h.env t) (x.env t)
 rw [x.len];exact this
def thwS (t:Nat) (s s':St):Prop :=
 ∃ id n sz rows,lk s.env t=.view id 0 n sz∧0 < n∧0 < sz∧id < s.heap.length∧rows.length=n∧(∀ r ∈ rows,r.length=sz)∧n * sz ≤ (hget s.heap id).length∧(hget s.heap id).take (n * sz)=rows.flatten.map AV.pv ∧
  s'.heap=hset s.heap id []∧∀ k,lk s'.env k=if k=t then .own sz rows else lk s.env k
theorem SR.thw {W0:World} {φ:Nat->Nat} {g:Gh} {w:World} {s s':St} {tmps:Array Value} {t:Nat} (h:SR W0 φ g w s.env s.heap tmps) (x:thwS t s s') :
 ∃ g',SR W0 φ g' w s'.env s'.heap tmps∧Ext W0.heap.size g w g' w∧∀ b,g.ow b=none->g'.lim b=g.lim b∧g'.ow b=none:=by
 obtain ⟨id,n,sz,rows,h1,h2,h3,h4,h5,h6,h7,h8,h9,h10⟩:=x
 have hne:hget s.heap id ≠ []:=by
  intro e
  rw [e] at h7
  have:=Nat.mul_pos h2 h3
  simp at h7;omega
 obtain ⟨cur,e,p1,p2,p3,p4,p5,p6⟩:=frz_z h.hp h4 hne
 have x:Ext W0.heap.size g w (g.own (φ id) (.env t) (n * sz)) w:=by
  refine ⟨Nat.le_refl _,fun b=>?_,fun _ _ _ _=>rfl,fun _=>Nat.le_refl _⟩
  by_cases hb:b=φ id
  ·subst hb;rw [p5];exact Nat.zero_le _
  ·rw [Gh.own_lim hb];exact Nat.le_refl _
 have nob:∀ b l,g.ow b=some l->l ≠ .obj id->b ≠ φ id:=by
  rintro b l q1 q2 rfl
  rw [p4] at q1;cases q1;exact q2 rfl
 have keep:∀ l,l ≠ .obj id->Keep W0.heap.size g w (g.own (φ id) (.env t) (n * sz)) w l l:=by
  intro l hl
  refine ⟨fun b hb=>?_⟩
  have:=nob b l hb hl
  exact ⟨rfl,Gh.own_lim this,(Gh.own_ow this).trans hb⟩
 have keepU:∀ l,l ≠ .obj id->KeepU W0.heap.size g w (g.own (φ id) (.env t) (n * sz)) w l l:=fun l hl =>
  ⟨keep l hl,fun _=>keep _ (fun e=>by cases e),fun _ _=>keep _ (fun e=>by cases e)⟩
 have hlen:s'.heap.length=s.heap.length:=by rw [h9,yv6]
 refine ⟨g.own (φ id) (.env t) (n * sz),⟨⟨h.inv.below,fun b hb=>?_,fun b hb=>?_⟩,fun i hi=>?_,fun k=>?_⟩,x,fun b hb=>?_⟩
 ·have:b ≠ φ id:=by omega
  rw [Gh.own_lim this,Gh.own_ow this];exact h.inv.old b hb
 ·have hlt:=(Array.getElem?_eq_some_iff.1 p1).1
  have:b ≠ φ id:=by omega
  rw [Gh.own_lim this,Gh.own_ow this];exact h.inv.new b hb
 ·rw [hlen] at hi ⊢
  rw [h9]
  by_cases hii:i=id
  ·subst hii;rw [yv8 hi];exact ⟨.inl rfl⟩
  ·rw [yv4 hii]
   exact (h.hp i hi).keep x (Nat.le_refl _) (fun _ _=>rfl) hi (keep _ (fun e=>by cases e;exact hii rfl)) (fun j=>keepU _ (fun e=>by cases e))
 ·rw [hlen,h10 k]
  split
  ·rename_i hk
   subst hk
   have hr:=h.env k
   rw [h1] at hr
   cases hr with
   | b _ _ hr=>cases hr with
    | c _ _ hr=>cases hr with
     | zero _ _ h0 =>
      generalize tmps.getD k undef=v at h0 ⊢
      cases h0 with
      | view0=>omega
      | view _ _ _ cap _ hid hcap hsp =>
       have hcur:yv21 w (φ id)=cur.size:=by rw [yv21,p1]
       refine .b _ _ (.c _ _ (.own sz rows _ (φ id) cap e cur ⟨by rw [h5],p3,p1,?_,by omega,by rw [Gh.own_lim_self,h5],Gh.own_ow_self,h6,?_⟩))
       ·rcases hsp with hsp|hsp
        ·omega
        ·rw [hcur] at hsp;omega
       ·intro i r j c hi hj
        have q1:=yv210 h6 hi hj
        have q2:((hget s.heap id).take (n * sz))[i * sz + j]?=some (.pv c):=by rw [h8,List.getElem?_map,q1];rfl
        rw [List.getElem?_take] at q2
        split at q2
        ·have hlt:=(List.getElem?_eq_some_iff.1 q2).1
         have hcl:i * sz + j < cur.size:=by omega
         refine ⟨cur[i * sz + j],by simp [hcl],?_⟩
         have:=(p6 _ _ cur[i * sz + j] q2 (by simp [hcl])).1
         cases this with
         | zero _ _ h0=>cases h0 with
          | pv _ _ h0=>exact h0.ext x
        ·cases q2
  ·exact (h.env k).keep x (Nat.le_refl _) (fun _ _=>rfl) (keepU _ (fun e=>by cases e))
 ·have:b ≠ φ id:=by
   rintro rfl
   rw [p4] at hb;cases hb
  exact ⟨Gh.own_lim this,(Gh.own_ow this).trans hb⟩
def frzX (F:Nat->Bool) (s s':St):Prop:=frzS F s s'∨∃ t,thwS t s s'
theorem frzX.len {F:Nat->Bool} {s s':St} (h:frzX F s s'):s'.heap.length=s.heap.length:=by
 rcases h with h|⟨t,id,n,sz,rows,_,_,_,_,_,_,_,_,h,_⟩
 ·exact h.len
 ·rw [h,yv6]
theorem SR.frzX {W0:World} {φ:Nat->Nat} {g:Gh} {w:World} {s s':St} {tmps:Array Value} {F:Nat->Bool} (h:SR W0 φ g w s.env s.heap tmps) (x:Rv.frzX F s s') :
 ∃ g',SR W0 φ g' w s'.env s'.heap tmps∧Ext W0.heap.size g w g' w∧∀ b,g.ow b=none->g'.lim b=g.lim b∧g'.ow b=none:=by
 rcases x with x|⟨t,x⟩
 ·exact h.frz x
 ·exact h.thw x
end Go.Rv
namespace Go.Rv
open Go.RowKit
variable {P:Program} {W0:World} {L:World->Prop}
inductive SExit where
 | normal
 | exit (id:Nat)
 | ret
def calm:AV->Bool
 | .own _ _=>false
 | .tup (_::_)=>false
 | .agg cs=>cs.all noOwn
 | _=>true
theorem yv278 {base n n':Nat} {φ φ':Nat->Nat} {g g':Gh} {w w':World} {l l':Loc} (x:Ext base g w g' w') (hn:n ≤ n') (hφ:∀ i,i < n->φ' i=φ i)
 {a:AV} {v:Value} (ha:calm a=true) (h:RepA base n φ g w l a v):RepA base n' φ' g' w' l' a v:=by
 cases h with
 | b a v h =>
  cases h with
  | c a v h =>
   refine .b _ _ (.c _ _ (h.keepN x hn hφ ?_))
   cases a<;>first|rfl|exact ha
  | agg cs vs h1 h2 h3=>exact .b _ _ (.agg cs vs h1 (fun i a v p q=>(h2 i a v p q).keepN x hn hφ (List.all_eq_true.1 ha a (List.mem_of_getElem? p))) h3)
 | tup cs vs h1 h2 =>
  cases cs with
  | nil=>exact .tup [] vs h1 (fun i a v p=>by simp at p)
  | cons c cs=>cases ha
def dull:Obj->Bool
 | .loop _=>true
 | .deferred _=>true
 | _=>false
section
variable {b:Nat} {o o':Obj} {g:Gh} {w:World}
theorem yv656 (hb:w.heap[b]?=some o) (ho:dull o=true) (ho':dull o'=true) (a:Addr):(w.putObj b o').cell? a=w.cell? a:=by
 have hlt:=(Array.getElem?_eq_some_iff.1 hb).1
 by_cases h:a.block=b
 ·unfold World.cell?
  rw [h,World.putObj_heap_same hlt,hb]
  cases o<;>cases o'<;>first|rfl|(cases ho;done)|(cases ho';done)
 ·exact World.cell?_of_block (World.putObj_heap_other h)
theorem yv396 (hb:w.heap[b]?=some o) (ho:dull o=true) (c:Nat):yv21 w c ≤ yv21 (w.putObj b o') c:=by
 by_cases h:c=b
 ·subst h;unfold yv21;rw [hb];cases o<;>first|exact Nat.zero_le _|(cases ho;done)
 ·exact yv207 (World.putObj_heap_other h)
theorem yv243 {base:Nat} (hb:w.heap[b]?=some o) (ho:dull o=true) (ho':dull o'=true):Ext base g w g (w.putObj b o') :=
 ⟨by simp,fun _=>Nat.le_refl _,fun c i _ _=>yv656 hb ho ho' _,yv396 hb ho⟩
theorem yv216 {base:Nat} (hn:g.ow b=none) (l:Loc):Keep base g w g (w.putObj b o') l l:=⟨fun c h=>⟨World.putObj_heap_other (fun e=>by rw [e,hn] at h;cases h),rfl,h⟩⟩
theorem yv333 {base:Nat} (hn:g.ow b=none) (l:Loc):KeepU base g w g (w.putObj b o') l l:=⟨yv216 hn l,fun _=>yv216 hn _,fun _ _=>yv216 hn _⟩
theorem Inv.putM (h:Inv W0 g w) (hW:W0.heap.size ≤ b):Inv W0 g (w.putObj b o') :=
 ⟨h.below.grown (grownBy_putObj' w b o') h.below.size (fun k e=>by cases e;exact hW),h.old,fun c hc=>h.new c (by simpa using hc)⟩
theorem RepH.putM {φ:Nat->Nat} {H:Heap} (h:RepH W0.heap.size φ g w H) (hb:w.heap[b]?=some o) (ho:dull o=true) (ho':dull o'=true) (hn:g.ow b=none):RepH W0.heap.size φ g (w.putObj b o') H :=
 fun id hid=>(h id hid).keep (yv243 hb ho ho') (Nat.le_refl _) (fun _ _=>rfl) hid (yv216 hn _) (fun _=>yv333 hn _)
theorem SR.putM {φ:Nat->Nat} {H:Heap} {e:Env} {tmps:Array Value} (h:SR W0 φ g w e H tmps) (hb:w.heap[b]?=some o) (ho:dull o=true) (ho':dull o'=true) (hn:g.ow b=none) (hW:W0.heap.size ≤ b):SR W0 φ g (w.putObj b o') e H tmps :=
 ⟨h.inv.putM hW,h.hp.putM hb ho ho' hn,fun t=>(h.env t).keep (yv243 hb ho ho') (Nat.le_refl _) (fun _ _=>rfl) (yv333 hn _)⟩
theorem yv458 {base:Nat} (o':Obj):Ext base g w g (w.alloc o') :=
 ⟨by simp,fun _=>Nat.le_refl _,fun c i hc _=>World.cell?_alloc_lt w o' ⟨c,i,none⟩ hc,yv132 fun c hc=>Below.heap_alloc w _ c hc⟩
theorem yv215 {base:Nat} (hi:Inv W0 g w) (o':Obj) (l:Loc):Keep base g w g (w.alloc o') l l:=⟨fun c h=>⟨Below.heap_alloc w o' c (ow_lt hi h),rfl,h⟩⟩
theorem yv332 {base:Nat} (hi:Inv W0 g w) (o':Obj) (l:Loc):KeepU base g w g (w.alloc o') l l:=⟨yv215 hi o' l,fun _=>yv215 hi o' _,fun _ _=>yv215 hi o' _⟩
theorem SR.newM {φ:Nat->Nat} {H:Heap} {e:Env} {tmps:Array Value} (h:SR W0 φ g w e H tmps) (o':Obj):SR W0 φ g (w.alloc o') e H tmps∧Tr W0 H.length φ g w H.length φ g (w.alloc o') :=
 ⟨⟨⟨h.inv.below.alloc h.inv.below.size o',h.inv.old,fun c hc=>h.inv.new c (by rw [World.size_alloc] at hc;omega)⟩,
  fun id hid=>(h.hp id hid).keep (yv458 o') (Nat.le_refl _) (fun _ _=>rfl) hid (yv215 h.inv o' _) (fun _=>yv332 h.inv o' _),
  fun t=>(h.env t).keep (yv458 o') (Nat.le_refl _) (fun _ _=>rfl) (yv332 h.inv o' _)⟩,
  ⟨yv458 o',fun c hc hn=>⟨Below.heap_alloc w o' c hc,rfl,hn⟩,Nat.le_refl _,fun _ _=>rfl⟩⟩
end
structure TrL (l:Nat) (W0:World) (n:Nat) (φ:Nat->Nat) (g:Gh) (w:World) (n':Nat) (φ':Nat->Nat) (g':Gh) (w':World):Prop where
 ext:Ext W0.heap.size g w g' w'
 none:∀ b,b < w.heap.size->g.ow b=none->(b ≠ l->w'.heap[b]?=w.heap[b]?)∧g'.lim b=g.lim b∧g'.ow b=none
 len:n ≤ n'
 phi:∀ i,i < n->φ' i=φ i
theorem Tr.toL {l n n':Nat} {φ φ':Nat->Nat} {g g':Gh} {w w':World} (h:Tr W0 n φ g w n' φ' g' w'):TrL l W0 n φ g w n' φ' g' w' :=
 ⟨h.ext,fun b hb hn=>let ⟨a1,a2,a3⟩:=h.none b hb hn;⟨fun _=>a1,a2,a3⟩,h.len,h.phi⟩
theorem TrL.tr {l n n':Nat} {φ φ':Nat->Nat} {g g':Gh} {w w':World} (h:TrL l W0 n φ g w n' φ' g' w') (hl:w'.heap[l]?=w.heap[l]?):Tr W0 n φ g w n' φ' g' w' :=
 ⟨h.ext,fun b hb hn=>let ⟨a1,a2,a3⟩:=h.none b hb hn;⟨if e:b=l then by rw [e];exact hl else a1 e,a2,a3⟩,h.len,h.phi⟩
theorem TrL.trans {l n1 n2 n3:Nat} {φ1 φ2 φ3:Nat->Nat} {g1 g2 g3:Gh} {w1 w2 w3:World} (h:TrL l W0 n1 φ1 g1 w1 n2 φ2 g2 w2) (k:TrL l W0 n2 φ2 g2 w2 n3 φ3 g3 w3):TrL l W0 n1 φ1 g1 w1 n3 φ3 g3 w3 :=
 ⟨h.ext.trans k.ext,fun b hb hn=>let ⟨a1,a2,a3⟩:=h.none b hb hn;let ⟨b1,b2,b3⟩:=k.none b (Nat.lt_of_lt_of_le hb h.ext.size) a3;⟨fun e=>(b1 e).trans (a1 e),b2.trans a2,b3⟩,
  Nat.le_trans h.len k.len,fun i hi=>(k.phi i (Nat.lt_of_lt_of_le hi h.len)).trans (h.phi i hi)⟩
theorem TrL.put {l n:Nat} {φ:Nat->Nat} {g:Gh} {w:World} {o o':Obj} (hb:w.heap[l]?=some o) (ho:dull o=true) (ho':dull o'=true):TrL l W0 n φ g w n φ g (w.putObj l o') :=
 ⟨yv243 hb ho ho',fun b _ hn=>⟨fun e=>World.putObj_heap_other e,rfl,hn⟩,Nat.le_refl _,fun _ _=>rfl⟩
def codeX:SExit->Code
 | .normal=>.skip
 | .exit i=>.exit i
 | .ret=>.ret
def yv213:SExit->Option SExit
 | .normal=>none
 | e=>some e
def recJ (r:Loop):Option SExit->Loop
 | none=>r
 | some e=>{ r with state:=.done,pending:=some (codeX e) }
abbrev Rnd:=List AV->Heap->(Option SExit->Heap->Prop)->Prop
def yv727 (P:Program) (W0:World) (l:Nat) (rec:Loop) (n:Nat) (φ:Nat->Nat) (g:Gh) (w:World) (Rd:Rnd):Prop :=
 ∀ (xs:List AV) (vs:Array Value) (φ1:Nat->Nat) (g1:Gh) (w1:World) (H1:Heap) (K1:Option SExit->Heap->Prop),Rd xs H1 K1->Inv W0 g1 w1->RepH W0.heap.size φ1 g1 w1 H1->Tr W0 n φ g w H1.length φ1 g1 w1->vs.size=xs.length ->
  (∀ (i:Nat) (a:AV) (v:Value),xs[i]?=some a->vs[i]?=some v->∀ m,RepA W0.heap.size H1.length φ1 g1 w1 m a v) ->
  vs.size=rec.params.size∧RoundIn (FW none) 0 P l rec.fn ((rec.params.zip vs).foldl (fun tmps (t,a)=>tmps.setIfInBounds t a) rec.tmps) rec.assign rec.body w1 fun e w2 =>
   ∃ j φ2 g2 H2,e=.returned (.bool j.isNone)∧K1 j H2∧Inv W0 g2 w2∧RepH W0.heap.size φ2 g2 w2 H2∧TrL l W0 H1.length φ1 g1 w1 H2.length φ2 g2 w2∧w2.heap[l]?=some (.loop (recJ rec j))
def IterG (P:Program) (L:World->Prop) (f:FuncId) (cs:List AV) (H:Heap) (Rd:Rnd) (K:Option SExit->Heap->Prop):Prop :=
 ∀ (W0:World),L W0->∀ (φ:Nat->Nat) (g:Gh) (w:World) (us:Array Value) (l:Nat) (rec:Loop),Inv W0 g w->RepH W0.heap.size φ g w H ->
  us.size=cs.length->(∀ (i:Nat) (a:AV) (v:Value),cs[i]?=some a->us[i]?=some v->Rep0 W0.heap.size H.length φ g w a v) ->
  w.heap[l]?=some (.loop rec)->rec.state=.ready->rec.pending=none->g.ow l=none->W0.heap.size ≤ l->yv727 P W0 l rec H.length φ g w Rd ->
  CallsIn (FW none) 0 P f (#[.func (.yield l) #[] #[]]++us) w fun e w' =>
   ∃ v j φ' g' H',e=.returned v∧K j H'∧Inv W0 g' w'∧RepH W0.heap.size φ' g' w' H'∧TrL l W0 H.length φ g w H'.length φ' g' w'∧w'.heap[l]?=some (.loop (recJ rec j))
theorem IterG.mono {f:FuncId} {cs:List AV} {H:Heap} {Rd:Rnd} {K K':Option SExit->Heap->Prop} (h:IterG P L f cs H Rd K) (hk:∀ j H,K j H->K' j H):IterG P L f cs H Rd K':=by
 intro W0 hL φ g w us l rec h1 h2 h3 h4 h5 h6 h7 h8 h9 h10
 refine (h W0 hL φ g w us l rec h1 h2 h3 h4 h5 h6 h7 h8 h9 h10).mono ?_
 rintro e w' ⟨v,j,φ',g',H',r1,r2,r⟩
 exact ⟨v,j,φ',g',H',r1,hk _ _ r2,r⟩
end Go.Rv
namespace Go.Rv
open Go.RowKit
def thenQ (next:St->Prop) (Q:SExit->St->Prop):SExit->St->Prop
 | .normal,s=>next s
 | e,s=>Q e s
def yv543 (id:Nat) (Q:SExit->St->Prop):SExit->St->Prop
 | .exit i,s=>if i=id then Q .normal s else Q (.exit i) s
 | e,s=>Q e s
def dropL:List Nat->Env->Env
 | [],e=>e
 | t::ts,e=>dropL ts (rm e t)
def putL:Env->List Nat->List AV->Env
 | e,t::ts,x::xs=>putL (put e t x) ts xs
 | e,_,_=>e
def wkOk (n:Nat):SCode->Bool
 | .weak k c=>Nat.ble n k && wkOk n c
 | .fin k c=>Nat.ble n k && wkOk n c
 | .seq a b=>wkOk n a && wkOk n b
 | .cond _ a b=>wkOk n a && wkOk n b
 | .block _ b=>wkOk n b
 | .loop b=>wkOk n b
 | .drop _ c=>wkOk n c
 | .frzB c=>wkOk n c
 | .frzE c=>wkOk n c
 | _=>true
set_option linter.unusedVariables false in
def wpS (P:Program) (L:World->Prop):SCode->(SExit->St->Prop)->St->Prop
 | .skip,Q,s=>Q .normal s
 | .reg ops none,Q,s=>wpO P L ops (Q .normal) s
 | .reg ops (some us),Q,s=>srt s.env=true∧wpD P L ops us [] (Q .normal) s
 | .seq a b,Q,s=>wpS P L a (thenQ (wpS P L b Q) Q) s
 | .cond c a b,Q,s=>match lk s.env c with
  | .pv (.lit (.bool x))=>(x=true->wpS P L a Q s)∧(x=false->wpS P L b Q s)
  | _=>False
 | .block id b,Q,s=>wpS P L b (yv543 id Q) s
 | .loop b,Q,s=>∃ I:Nat->St->Prop,(∃ n,I n s)∧∀ n s,I n s->wpS P L b (thenQ (fun s'=>∃ m,m < n∧I m s') Q) s
 | .exit id,Q,s=>Q (.exit id) s
 | .ret,Q,s=>Q .ret s
 | .drop ts c,Q,s=>wpS P L c Q ⟨dropL ts s.env,s.heap⟩
 | .fin k c,Q,s=>wpS P L c (thenQ (fun s1=>∃ s2,admS s1 s2∧k ≤ s2.heap.length∧Q .normal s2) Q) s
 | .frzB c,Q,s=>∃ F s',frzS F s s'∧wpS P L c Q s'
 | .frzE c,Q,s=>wpS P L c (fun e s1=>∃ F s2,frzX F s1 s2∧Q e s2) s
 | .weak k c,Q,s=>∃ s',admS s s'∧k ≤ s'.heap.length∧wpS P L c Q s'
 | .rng t ps a b,Q,s=>(∀ t,calm (lk s.env t)=true)∧match lk s.env t with
  | .clo (.func f) [] cs=>yv25 P f=true∧IterG P L f cs s.heap (fun xs H1 K1=>xs.length=ps.length∧wkOk H1.length a=true∧wkOk H1.length b=true ∧
   wpS P L a (fun e s2=>match e with|.normal=>wpS P L b (fun e s3=>K1 (yv213 e) s3.heap) s2|_=>False) ⟨putL s.env ps xs,H1⟩)
   (fun j H'=>match j with|none=>Q .normal ⟨s.env,H'⟩|some e=>Q e ⟨s.env,H'⟩)
  | _=>False
def yv13:Code->Code
 | .scope c=>yv13 c
 | c=>c
def noR:SCode->Bool
 | .weak _ c=>noR c
 | .fin _ c=>noR c
 | .seq a b=>noR a && noR b
 | .cond _ a b=>noR a && noR b
 | .block _ b=>noR b
 | .loop b=>noR b
 | .drop _ c=>noR c
 | .frzB c=>noR c
 | .frzE c=>noR c
 | .rng _ _ _ _=>false
 | _=>true
set_option linter.unusedVariables false in
def yv23 (P:Program) (N:Nat):SCode->Code->Bool
 | .drop _ s,c=>yv23 P N s c
 | .weak _ s,c=>yv23 P N s c
 | .fin _ s,c=>yv23 P N s c
 | .frzB s,c=>yv23 P N s c
 | .frzE s,c=>yv23 P N s c
 | .skip,c=>match yv13 c with
  | .skip=>true
  | .label _=>true
  | _=>false
 | .reg ss d,c=>match yv13 c with
  | .region _ ops draw=>d.isSome == draw && (match d with|some us=>yv661 P ops.toList ss us|none=>true) && opsOk P N ops ops.toList ss
  | _=>false
 | .seq a b,c=>match yv13 c with
  | .seq x y=>yv23 P N a x && yv23 P N b y
  | _=>false
 | .cond t a b,c=>match yv13 c with
  | .cond (.tmp u) x y=>t == u && yv23 P N a x && yv23 P N b y
  | _=>false
 | .block i a,c=>match yv13 c with
  | .block j x=>i == j && yv23 P N a x
  | _=>false
 | .loop a,c=>match yv13 c with
  | .loop x=>yv23 P N a x
  | _=>false
 | .rng t ps a b,c=>match yv13 c with
  | .rangeFunc (.tmp u) qs x y=>t == u && ps == qs.toList && noR a && noR b && ps.all (fun p=>Nat.blt p N) && yv23 P N a x && yv23 P N b y
  | _=>false
 | .exit i,c=>match yv13 c with
  | .exit j=>i == j
  | _=>false
 | .ret,c=>match yv13 c with
  | .ret=>true
  | _=>false
end Go.Rv
namespace Go.Rv
open Go.RowKit
variable {P:Program} {W0:World} {L:World->Prop}
def MKs (k:Nat) (g:Gh) (w:World):List Deferred->Prop
 | []=>True
 | d::ds=>(∃ b,d={ target:=.collected b,args:=#[] }∧w.heap[b]?=some (.deferred (some []))∧g.ow b=none∧k ≤ b∧∀ d' ∈ ds,∀ b',d'.target=.collected b'->b' < b)∧MKs k g w ds
theorem MKs.tr {k n n':Nat} {φ φ':Nat->Nat} {g g':Gh} {w w':World} (t:Tr W0 n φ g w n' φ' g' w'):∀ {ds:List Deferred},MKs k g w ds->MKs k g' w' ds
 | [],_=>trivial
 | _::_,⟨⟨b,h1,h2,h3,h4,h5⟩,h⟩ =>
  let ⟨a1,_,a3⟩:=t.none b (Array.getElem?_eq_some_iff.1 h2).1 h3
  ⟨⟨b,h1,a1.trans h2,a3,h4,h5⟩,h.tr t⟩
def MK (k:Option Nat) (g:Gh) (w:World) (ds:List Deferred):Prop:=match k with
 | none=>ds=[]
 | some k=>MKs k g w ds
theorem MK.tr {k:Option Nat} {n n':Nat} {φ φ':Nat->Nat} {g g':Gh} {w w':World} (t:Tr W0 n φ g w n' φ' g' w') {ds:List Deferred} (h:MK k g w ds):MK k g' w' ds:=by
 cases k with
 | none=>exact h
 | some k=>exact MKs.tr t h
structure At (W0:World) (n0:Nat) (φ0:Nat->Nat) (g0:Gh) (w0:World) (k:Option Nat) (N:Nat) (s:St) (a:Act) (w:World):Prop where
 ex:∃ φ g,SR W0 φ g w s.env s.heap a.tmps∧Tr W0 n0 φ0 g0 w0 s.heap.length φ g w∧MK k g w a.defers
 size:a.tmps.size=N
 le:∀ k',k=some k'->k' ≤ w0.heap.size
theorem At.drew {n0:Nat} {φ0:Nat->Nat} {g0:Gh} {w0:World} {k:Option Nat} {N:Nat} {s:St} {a:Act} {w:World} (h:At W0 n0 φ0 g0 w0 k N s a w):At W0 n0 φ0 g0 w0 k N s a w.drew :=
 ⟨let ⟨φ,g,h1,h2,h3⟩:=h.ex
  have t:Tr W0 s.heap.length φ g w s.heap.length φ g w.drew:=⟨yv106,fun _ _ hn=>⟨rfl,rfl,hn⟩,Nat.le_refl _,fun _ _=>rfl⟩
  ⟨φ,g,⟨h1.inv.drew,h1.hp.drew,fun t=>(h1.env t).keep yv106 (Nat.le_refl _) (fun _ _=>rfl) yv214⟩,h2.trans t,h3.tr t⟩,h.size,h.le⟩
theorem yv233 {ro:Option Nat} {n n0:Nat} {φ0:Nat->Nat} {g0:Gh} {w0:World} {k:Option Nat} {N:Nat} {ops:Array Oper} {sops:List SOp} {K:St->Prop} {Q:Exit->Act->World->Prop} (hL:L W0)
 (hall:∀ (i:Nat) (o:Oper) (s:SOp),ops[i]?=some o->sops[i]?=some s->opOk P N ops o s=true) (hlen:sops.length=ops.size)
 (hq:∀ s a w,K s->At W0 n0 φ0 g0 w0 k N s a w->Q .normal a w) :
 ∀ (is:List Nat) (ss:List SOp) (s:St) (a:Act) (w:World),ss.map some=is.map (fun i=>sops[i]?)->wpO P L ss K s->At W0 n0 φ0 g0 w0 k N s a w->wpOpsIn (FW ro) n P ops Q is a w:=by
 intro is
 induction is with
 | nil =>
  intro ss s a w he hw hat
  have:ss=[]:=by simpa using he
  subst this
  exact hq s a w hw hat
 | cons i is ih =>
  intro ss s a w he hw hat
  cases ss with
  | nil=>simp at he
  | cons so ss =>
   simp only [List.map_cons,List.cons.injEq] at he
   obtain ⟨he1,he2⟩:=he
   have hi:i < sops.length:=(List.getElem?_eq_some_iff.1 he1.symm).1
   have ho:ops[i]?=some ops[i]:=by simp [hlen ▸ hi]
   have hok:=hall i _ so ho he1.symm
   obtain ⟨⟨φ,g,hsr,htr,hmk⟩,hN,hle⟩:=hat
   simp only [opOk,Bool.and_eq_true] at hok
   obtain ⟨hf,hop⟩:=hok
   have fm:=yv187 hf
   simp only [wpOpsIn,ho]
   simp only [wpO] at hw
   split at hw
   ·exact hw.elim
   ·rename_i hg
    rw [yv247 fm hsr hg,if_neg (by simp)]
    refine ⟨fun _ _=>trivial,ih ss _ _ _ he2 hw ⟨⟨φ,g,?_,htr,by rw [Act.put_defers];exact hmk⟩,by rw [Act.put_tmps,yv224];exact hN,hle⟩⟩
    rw [Act.put_tmps,fm.dst]
    exact hsr.rm fun t ht=>by rw [hN];exact fm.lt t ht
   ·rename_i hg
    rw [yv247 fm hsr hg,if_pos rfl]
    have next:∀ r H' v w' φ' g',wpO P L ss K ⟨putD (rdAs s.env so.args).2 so.dst r,H'⟩->SR W0 φ' g' w' (putD (rdAs s.env so.args).2 so.dst r) H' (a.put ops[i].dst v).tmps->Tr W0 s.heap.length φ g w H'.length φ' g' w' ->
     wpOpsIn (FW ro) n P ops Q is (a.put ops[i].dst v) w':=fun r H' v w' φ' g' hw' hs' ht' =>
     ih ss _ _ _ he2 hw' ⟨⟨φ',g',hs',htr.trans ht',by rw [Act.put_defers];exact hmk.tr ht'⟩,by rw [Act.put_tmps,yv224];exact hN,hle⟩
    split at hw
    ·rename_i f hopf
     rw [hopf] at hop
     split at hw
     ·rename_i fid as hc
      exact yv546 hL hop fm hopf hN hsr hc hw.1 hw.2 _ _ next
     ·exact hw.elim
    ·rename_i hne
     split at hw
     ·rename_i r H' hev
      have hok':okOp P ops[i] so=true:=by
       split at hop
       ·rename_i f hf';exact absurd hf' (hne f)
       ·exact hop
      obtain ⟨v,w',φ',g',hdone,hs',ht'⟩:=yv524 hok' fm hN hne hsr hev
      have hn:=next r H' v w' φ' g' hw hs' ht'
      refine ⟨fun _ _=>trivial,?_⟩
      rw [Oper.semAt_eq _ _ _ (yv281 hdone)]
      rcases hdone with hdone|⟨hdone,rfl⟩
      ·rw [hdone,Oper.uponIn_value];exact hn
      ·rw [hdone,Oper.uponIn_skip];exact hn
     ·exact hw.elim
def QQ (W0:World) (n0:Nat) (φ0:Nat->Nat) (g0:Gh) (w0:World) (k:Option Nat) (N:Nat) (Q:SExit->St->Prop):Exit->Act->World->Prop
 | .normal,a,w=>∃ s,Q .normal s∧At W0 n0 φ0 g0 w0 k N s a w
 | .exit i,a,w=>∃ s,Q (.exit i) s∧At W0 n0 φ0 g0 w0 k N s a w
 | .ret,a,w=>∃ s,Q .ret s∧At W0 n0 φ0 g0 w0 k N s a w
 | _,_,_=>False
theorem yv282 {φ:Nat->Nat} {g:Gh} {w:World} {H:Heap} {tmps:Array Value}:∀ {ts:List Nat} {e:Env},SR W0 φ g w e H tmps->SR W0 φ g w (dropL ts e) H tmps
 | [],_,h=>h
 | t::ts,e,h=>yv282 (ts:=ts) ⟨h.inv,h.hp,fun t'=>by
  rw [lk_rm]
  split
  ·exact RepA.junk
  ·exact h.env t'⟩
theorem yv34 {b:Frame} {a:Act} {k:List Item} {cs:List Frame} {w:World} {c:Code}:step P (lone (b.atR a (.code (.scope c)::k)) cs w)=.next (lone (b.atR a (.code c::.inScope c::k)) cs w) :=
 step_lone_go (by simp [stepG,stepG.exec,Frame.atR])
theorem yv262 {b:Frame} {a:Act} {k:List Item} {cs:List Frame} {w:World} {c:Code}:step P (lone (b.atR a (.inScope c::k)) cs w)=.next (lone (b.atR a k) cs w) :=
 step_lone_go (by simp [stepG,stepG.exec,Frame.atR])
theorem yv272 {F:Fence} {n:Nat} {Q:Exit->Act->World->Prop} {a:Act} {w:World} {c:Code} (h:c.wpIn F n P (Exit.noGoto Q) a w):(Code.scope c).wpIn F n P Q a w:=by
 intro b k cs hro hb hr
 have h0:(lone (b.atR a (.code (.scope c)::k)) cs w).fenced P F:=fenced_calm hb hr rfl
 obtain ⟨e,a₁,w₁,hq,harr⟩:=h b (.inScope c::k) cs hro hb hr
 cases e with
 | normal=>exact ⟨.normal,a₁,w₁,hq,.head h0 yv34 (StepsIn.trans harr (.one (fenced_calm (fr:=b.atR a₁ (.inScope c::k)) hb hr rfl) yv262))⟩
 | exit id=>exact ⟨.exit id,a₁,w₁,hq,fun k' hk=>.head h0 yv34 (harr.1 k' (by simp [exitTo,hk])),fun hs hk=>let ⟨k₁,q1,q2⟩:=harr.2 hs (by simp [exitTo,hk]);⟨k₁,q1,.head h0 yv34 q2⟩⟩
 | goto l=>exact hq.elim
 | ret=>exact ⟨_,a₁,w₁,hq,.of_steps (.one h0 yv34) harr⟩
 | panic ch=>exact ⟨_,a₁,w₁,hq,.of_steps (.one h0 yv34) harr⟩
 | outgrown=>exact ⟨_,a₁,w₁,hq,.of_steps (b:=b) (k:=k) (cs:=cs) (e:=.outgrown) (.one h0 yv34) harr⟩
theorem yv28 {ro:Option Nat} {n n0:Nat} {φ0:Nat->Nat} {g0:Gh} {w0:World} {k:Option Nat} {N:Nat} {Q:SExit->St->Prop}:∀ {c:Code} {a:Act} {w:World},
 (yv13 c).wpIn (FW ro) n P (QQ W0 n0 φ0 g0 w0 k N Q) a w->c.wpIn (FW ro) n P (QQ W0 n0 φ0 g0 w0 k N Q) a w:=by
 intro c
 induction c with
 | scope x ih =>
  intro a w h
  refine yv272 (wpIn_mono (ih h) ?_)
  intro e a' w' h
  cases e<;>first|exact h|exact h.elim
 | _=>intro a w h;exact h
theorem yv638 {base n:Nat} {φ:Nat->Nat} {g:Gh} {w:World}:∀ {ps:List Nat} {xs:List AV} {vs:List Value} {e:Env} {T:Array Value},xs.length=ps.length->vs.length=xs.length->(∀ p ∈ ps,p < T.size) ->
 (∀ t,RepA base n φ g w (.env t) (lk e t) (T.getD t undef))->(∀ (i:Nat) (a:AV) (v:Value),xs[i]?=some a->vs[i]?=some v->∀ m,RepA base n φ g w m a v) ->
 ∀ t,RepA base n φ g w (.env t) (lk (putL e ps xs) t) (((ps.zip vs).foldl (fun t (p:Nat × Value)=>t.setIfInBounds p.1 p.2) T).getD t undef)
 | [],xs,vs,e,T,h1,h2,_,h,_=>by
  cases xs with
  | nil=>cases vs with
   | nil=>exact h
   | cons v vs=>cases h2
  | cons x xs=>cases h1
 | p::ps,[],vs,e,T,h1,_,_,_,_=>by cases h1
 | p::ps,x::xs,[],e,T,_,h2,_,_,_=>by cases h2
 | p::ps,x::xs,v::vs,e,T,h1,h2,hp,h,hx=>by
  simp only [putL,List.zip_cons_cons,List.foldl_cons]
  refine yv638 (by simpa using h1) (by simpa using h2) (fun q hq=>by rw [Array.size_setIfInBounds];exact hp q (by simp [hq])) (fun t=>?_) (fun i a u p' q'=>hx (i + 1) a u (by simpa using p') (by simpa using q'))
  rw [yv290]
  split
  ·rename_i ht;subst ht
   have:(T.setIfInBounds t v).getD t undef=v:=by simp [hp t (by simp)]
   rw [this]
   exact hx 0 x v rfl rfl _
  ·rename_i ht
   have:(T.setIfInBounds p v).getD t undef=T.getD t undef:=by
    simp only [Array.getD_eq_getD_getElem?]
    rw [Array.getElem?_setIfInBounds_ne (Ne.symm ht)]
   rw [this]
   exact h t
theorem yv245:∀ {l:List (Nat × Value)} {T:Array Value},(l.foldl (fun t (p:Nat × Value)=>t.setIfInBounds p.1 p.2) T).size=T.size
 | [],_=>rfl
 | p::l,T=>by rw [List.foldl_cons,yv245,Array.size_setIfInBounds]
theorem MKs.put {k l:Nat} {g:Gh} {w:World} {r:Loop} {o:Obj} (hl:w.heap[l]?=some (.loop r)):∀ {ds:List Deferred},MKs k g w ds->MKs k g (w.putObj l o) ds
 | [],_=>trivial
 | _::_,⟨⟨b,h1,h2,h3,h4,h5⟩,h⟩ =>
  ⟨⟨b,h1,(World.putObj_heap_other (fun e=>by rw [e,hl] at h2;cases h2)).trans h2,h3,h4,h5⟩,h.put hl⟩
theorem MKs.lt {k:Nat} {g:Gh} {w:World}:∀ {ds:List Deferred},MKs k g w ds->∀ d ∈ ds,∀ b,d.target=.collected b->b < w.heap.size
 | [],_,_,hd,_,_=>by cases hd
 | _::_,⟨⟨b,h1,h2,_,_,_⟩,h⟩,d,hd,b',e=>by
  rcases List.mem_cons.1 hd with rfl|hd
  ·rw [h1] at e;cases e;exact (Array.getElem?_eq_some_iff.1 h2).1
  ·exact h.lt d hd b' e
theorem yv659 {ro:Option Nat} {n:Nat} {Q:Exit->Act->World->Prop} {a:Act} {w:World} (e:SExit) (h:match e with|.normal=>Q .normal a w|.exit i=>Q (.exit i) a w|.ret=>Q .ret a w):(codeX e).wpIn (FW ro) n P Q a w:=by
 cases e with
 | normal=>exact wpIn_skip h
 | exit i=>exact wpIn_exit h
 | ret=>exact wpIn_ret h
theorem yv238 (hL:L W0) :
 ∀ (sc:SCode) {ro:Option Nat} {n n0:Nat} {φ0:Nat->Nat} {g0:Gh} {w0:World} {k:Option Nat} {N:Nat} (c:Code) (Q:SExit->St->Prop) (s:St) (a:Act) (w:World),(ro=none∧k.isSome=true∨noR sc=true)->wkOk n0 sc=true->yv23 P N sc c=true->wpS P L sc Q s->At W0 n0 φ0 g0 w0 k N s a w->c.wpIn (FW ro) n P (QQ W0 n0 φ0 g0 w0 k N Q) a w:=by
 intro sc
 induction sc with
 | fin k' sc ih =>
  intro ro n n0 φ0 g0 w0 k N c Q s a w hr hk hm hw hat
  simp only [wkOk,Bool.and_eq_true] at hk
  have hle:=Nat.le_of_ble_eq_true hk.1
  refine wpIn_mono (ih c _ s a w hr hk.2 hm hw hat) ?_
  intro e a' w' h
  cases e with
  | normal =>
   obtain ⟨s1,⟨s2,h1,h2,h3⟩,hat'⟩:=h
   refine ⟨s2,h3,?_,hat'.size,hat'.le⟩
   obtain ⟨φ,g,q1,q2,q3⟩:=hat'.ex
   exact ⟨φ,g,q1.weak h1,⟨q2.ext,q2.none,Nat.le_trans hle h2,q2.phi⟩,q3⟩
  | exit i=>exact h
  | ret=>exact h
  | goto l=>exact h
  | panic ch=>exact h
  | outgrown=>exact h
 | frzB sc ih =>
  intro ro n n0 φ0 g0 w0 k N c Q s a w hr hk hm hw hat
  obtain ⟨F,s',hx,hw⟩:=hw
  refine ih c Q s' a w hr hk hm hw ⟨?_,hat.size,hat.le⟩
  obtain ⟨φ,g,h1,h2,h3⟩:=hat.ex
  obtain ⟨g',q1,q2,q3⟩:=h1.frz hx
  have t:Tr W0 s.heap.length φ g w s'.heap.length φ g' w:=⟨q2,fun b _ hn=>⟨rfl,q3 b hn⟩,by rw [hx.len];exact Nat.le_refl _,fun _ _=>rfl⟩
  exact ⟨φ,g',q1,h2.trans t,h3.tr t⟩
 | frzE sc ih =>
  intro ro n n0 φ0 g0 w0 k N c Q s a w hr hk hm hw hat
  refine wpIn_mono (ih c _ s a w hr hk hm hw hat) ?_
  have key:∀ e a' w',(∃ s1,(∃ F s2,frzX F s1 s2∧Q e s2)∧At W0 n0 φ0 g0 w0 k N s1 a' w')->∃ s2,Q e s2∧At W0 n0 φ0 g0 w0 k N s2 a' w':=by
   rintro e a' w' ⟨s1,⟨F,s2,hx,hq⟩,hat'⟩
   refine ⟨s2,hq,?_,hat'.size,hat'.le⟩
   obtain ⟨φ,g,h1,h2,h3⟩:=hat'.ex
   obtain ⟨g',q1,q2,q3⟩:=h1.frzX hx
   have t:Tr W0 s1.heap.length φ g w' s2.heap.length φ g' w':=⟨q2,fun b _ hn=>⟨rfl,q3 b hn⟩,by rw [hx.len];exact Nat.le_refl _,fun _ _=>rfl⟩
   exact ⟨φ,g',q1,h2.trans t,h3.tr t⟩
  intro e a' w' h
  cases e with
  | normal=>exact key _ _ _ h
  | exit i=>exact key _ _ _ h
  | ret=>exact key _ _ _ h
  | goto l=>exact h
  | panic ch=>exact h
  | outgrown=>exact h
 | weak k' sc ih =>
  intro ro n n0 φ0 g0 w0 k N c Q s a w hr hk hm hw hat
  simp only [wkOk,Bool.and_eq_true] at hk
  obtain ⟨s',hx,hl,hw⟩:=hw
  have hle:=Nat.le_of_ble_eq_true hk.1
  refine ih c Q s' a w hr hk.2 hm hw ⟨?_,hat.size,hat.le⟩
  obtain ⟨φ,g,h1,h2,h3⟩:=hat.ex
  exact ⟨φ,g,h1.weak hx,⟨h2.ext,h2.none,Nat.le_trans hle hl,h2.phi⟩,h3⟩
 | drop ts sc ih=>intro ro n n0 φ0 g0 w0 k N c Q s a w hr hk hm hw hat;exact ih c Q _ a w hr hk hm hw ⟨let ⟨φ,g,h1,h2⟩:=hat.ex;⟨φ,g,yv282 h1,h2⟩,hat.size,hat.le⟩
 | skip =>
  intro ro n n0 φ0 g0 w0 k N c Q s a w hr hk hm hw hat
  refine yv28 ?_
  simp only [yv23] at hm
  generalize yv13 c=u at hm ⊢
  split at hm
  ·exact wpIn_skip ⟨s,hw,hat⟩
  ·exact wpIn_label ⟨s,hw,hat⟩
  ·cases hm
 | ret =>
  intro ro n n0 φ0 g0 w0 k N c Q s a w hr hk hm hw hat
  refine yv28 ?_
  simp only [yv23] at hm
  generalize yv13 c=u at hm ⊢
  split at hm
  ·exact wpIn_ret ⟨s,hw,hat⟩
  ·cases hm
 | exit i =>
  intro ro n n0 φ0 g0 w0 k N c Q s a w hr hk hm hw hat
  refine yv28 ?_
  simp only [yv23] at hm
  generalize yv13 c=u at hm ⊢
  split at hm
  ·simp at hm;subst hm;exact wpIn_exit ⟨s,hw,hat⟩
  ·cases hm
 | reg ss d =>
  intro ro n n0 φ0 g0 w0 k N c Q s a w hr hk hm hw hat
  refine yv28 ?_
  simp only [yv23] at hm
  generalize yv13 c=u at hm ⊢
  split at hm
  case h_2=>cases hm
  rename_i ops draw
  simp only [Bool.and_eq_true,beq_iff_eq] at hm
  obtain ⟨⟨hdr,hdk⟩,hm⟩:=hm
  obtain ⟨h1,h2⟩:=yv219 hm
  have h1':ss.length=ops.size:=by simpa using h1
  subst hdr
  cases d with
  | some us =>
   obtain ⟨hsrt,hw⟩:=hw
   simp only [Option.isSome_some]
   refine wpIn_region_draw fun t=>?_
   obtain ⟨ls,e1,e2⟩:=yv662 hdk h1' hsrt hw t
   exact yv233 (K:=Q .normal) (sops:=ss) hL (fun i o s p q=>h2 i o s (by simpa using p) q) h1' (fun s a w hk hat=>⟨s,hk,hat⟩) _ ls s a w.drew e1 e2 hat.drew
  | none =>
   refine wpIn_region (yv233 (K:=Q .normal) (sops:=ss) hL (fun i o s p q=>h2 i o s (by simpa using p) q) h1' (fun s a w hk hat=>⟨s,hk,hat⟩) _ ss s a w ?_ hw hat)
   apply List.ext_getElem?
   intro i
   simp only [List.getElem?_map]
   by_cases hi:i < ops.size
   ·rw [List.getElem?_range hi]
    have:i < ss.length:=by omega
    simp [List.getElem?_eq_getElem this]
   ·rw [List.getElem?_eq_none (by omega),List.getElem?_eq_none (by simp;omega)];rfl
 | seq p q ihp ihq =>
  intro ro n n0 φ0 g0 w0 k N c Q s a w hr hk hm hw hat
  simp only [wkOk,Bool.and_eq_true] at hk
  refine yv28 ?_
  simp only [yv23] at hm
  generalize yv13 c=u at hm ⊢
  split at hm
  case h_2=>cases hm
  simp only [Bool.and_eq_true] at hm
  refine wpIn_seq (wpIn_mono (ihp _ _ s a w (hr.imp (fun h=>h) fun h=>by simp only [noR,Bool.and_eq_true] at h;exact h.1) hk.1 hm.1 hw hat) ?_)
  intro e a' w' h
  cases e with
  | normal=>obtain ⟨s',h1,h2⟩:=h;exact ihq _ Q s' a' w' (hr.imp (fun h=>h) fun h=>by simp only [noR,Bool.and_eq_true] at h;exact h.2) hk.2 hm.2 h1 h2
  | exit i=>obtain ⟨s',h1,h2⟩:=h;exact ⟨s',h1,h2⟩
  | ret=>obtain ⟨s',h1,h2⟩:=h;exact ⟨s',h1,h2⟩
  | goto l=>exact h.elim
  | panic ch=>exact h.elim
  | outgrown=>exact h.elim
 | cond t p q ihp ihq =>
  intro ro n n0 φ0 g0 w0 k N c Q s a w hr hk hm hw hat
  simp only [wkOk,Bool.and_eq_true] at hk
  refine yv28 ?_
  simp only [yv23] at hm
  generalize yv13 c=u at hm ⊢
  split at hm
  case h_2=>cases hm
  simp only [Bool.and_eq_true,beq_iff_eq] at hm
  obtain ⟨⟨rfl,hm1⟩,hm2⟩:=hm
  simp only [wpS] at hw
  split at hw
  case h_2=>exact hw.elim
  rename_i b hb
  obtain ⟨φ,g,hsr,htr,_⟩:=hat.ex
  have ht:=hsr.env t
  rw [hb] at ht
  obtain ⟨hv,_⟩:=ht.of_lit
  exact wpIn_cond_split (t:=b) hv (fun h=>ihp _ Q s a w (hr.imp (fun h=>h) fun h=>by simp only [noR,Bool.and_eq_true] at h;exact h.1) hk.1 hm1 (hw.1 h) hat) (fun h=>ihq _ Q s a w (hr.imp (fun h=>h) fun h=>by simp only [noR,Bool.and_eq_true] at h;exact h.2) hk.2 hm2 (hw.2 h) hat)
 | block i p ih =>
  intro ro n n0 φ0 g0 w0 k N c Q s a w hr hk hm hw hat
  refine yv28 ?_
  simp only [yv23] at hm
  generalize yv13 c=u at hm ⊢
  split at hm
  case h_2=>cases hm
  simp only [Bool.and_eq_true,beq_iff_eq] at hm
  obtain ⟨rfl,hm⟩:=hm
  refine wpIn_block (wpIn_mono (ih _ _ s a w hr hk hm hw hat) ?_)
  intro e a' w' h
  cases e with
  | normal=>exact h
  | exit k =>
   obtain ⟨s',h1,h2⟩:=h
   simp only [yv543] at h1
   simp only [Exit.inBlock]
   split
   ·rename_i hk;rw [if_pos hk] at h1;exact ⟨s',h1,h2⟩
   ·rename_i hk;rw [if_neg hk] at h1;exact ⟨s',h1,h2⟩
  | ret=>exact h
  | goto l=>exact h.elim
  | panic ch=>exact h.elim
  | outgrown=>exact h.elim
 | loop p ih =>
  intro ro n n0 φ0 g0 w0 k N c Q s a w hr hk hm hw hat
  refine yv28 ?_
  simp only [yv23] at hm
  generalize yv13 c=u at hm ⊢
  split at hm
  case h_2=>cases hm
  obtain ⟨I,⟨n0',hI⟩,hround⟩:=hw
  refine wpIn_loop_ghost (fun m a w=>∃ s,I m s∧At W0 n0 φ0 g0 w0 k N s a w) n0' ⟨s,hI,hat⟩ ?_
  rintro m a w ⟨s,hI,hat⟩
  refine wpIn_mono (ih _ _ s a w hr hk hm (hround m s hI) hat) ?_
  intro e a' w' h
  cases e with
  | normal=>obtain ⟨s',⟨m',h1,h1'⟩,h2⟩:=h;exact ⟨m',h1,s',h1',h2⟩
  | exit i=>obtain ⟨s',h1,h2⟩:=h;exact ⟨s',h1,h2⟩
  | ret=>obtain ⟨s',h1,h2⟩:=h;exact ⟨s',h1,h2⟩
  | goto l=>exact h.elim
  | panic ch=>exact h.elim
  | outgrown=>exact h.elim
 | rng t ps pa pb iha ihb =>
  intro ro n n0 φ0 g0 w0 k N c Q s a w hr hk hm hw hat
  have hr:=hr.resolve_right (by simp [noR])
  obtain ⟨hr,hks⟩:=hr
  subst hr
  obtain ⟨k',rfl⟩:∃ k',k=some k':=Option.isSome_iff_exists.1 hks
  refine yv28 ?_
  simp only [yv23] at hm
  generalize yv13 c=u at hm ⊢
  split at hm
  case h_2=>cases hm
  rename_i u0 qs assign body
  simp only [Bool.and_eq_true,beq_iff_eq,List.all_eq_true] at hm
  obtain ⟨⟨⟨⟨⟨⟨rfl,hps⟩,na⟩,nb⟩,hlt⟩,hma⟩,hmb⟩:=hm
  obtain ⟨hcalm,hw⟩:=hw
  obtain ⟨⟨φ,g,hsr,htr,hmk⟩,hN,hle⟩:=hat
  split at hw
  case h_2=>exact hw.elim
  rename_i f cs hlk
  obtain ⟨hen,hI⟩:=hw
  have hcl:=hsr.env t
  rw [hlk] at hcl
  have hcl:∃ us:Array Value,a.tmps.getD t undef=.func (.func f) #[] us∧us.size=cs.length∧∀ (i:Nat) (x:AV) (v:Value),cs[i]?=some x->us[i]?=some v->Rep0 W0.heap.size s.heap.length φ g w x v:=by
   generalize a.tmps.getD t undef=tv at hcl
   cases hcl with
   | b _ _ hcl=>cases hcl with
    | c _ _ hcl=>cases hcl with
     | zero _ _ hcl=>cases hcl
     | clo _ _ _ vs us q1 q2 q3 q4 =>
      have:vs=#[]:=Array.eq_empty_of_size_eq_zero (by rw [← q1];rfl)
      subst this
      exact ⟨us,rfl,q2.symm,q4⟩
  obtain ⟨us,hev,hus,hrep⟩:=hcl
  refine wpIn_rangeFunc ?_
  intro fn _
  obtain ⟨rec,hrec⟩:∃ rec:Loop,rec={ state:=.ready,pending:=none,fn,tmps:=a.tmps,params:=qs,assign,body,defers:=w.heap.size }:=⟨_,rfl⟩
  obtain ⟨W1,hW1⟩:∃ W1,(w.alloc (.deferred (some []))).alloc (.loop rec)=W1:=⟨_,rfl⟩
  obtain ⟨s0,t0⟩:=hsr.newM (.deferred (some []))
  obtain ⟨s1,t1⟩:=s0.newM (.loop rec)
  rw [hW1] at s1 t1
  have t01:=t0.trans t1
  have hL1:W1.heap[w.heap.size + 1]?=some (.loop rec):=by
   rw [← hW1];have:=World.alloc_heap_new (w.alloc (.deferred (some []))) (.loop rec);rwa [World.size_alloc] at this
  have hK1:W1.heap[w.heap.size]?=some (.deferred (some [])):=by
   rw [← hW1];exact (Below.heap_alloc _ _ _ (by simp)).trans (World.alloc_heap_new w _)
  have ol:g.ow (w.heap.size + 1)=none:=(hsr.inv.new _ (by omega)).1
  have od:g.ow w.heap.size=none:=(hsr.inv.new _ (by omega)).1
  have hW:W0.heap.size ≤ w.heap.size:=hsr.inv.below.size
  have hev':a.eval (.tmp t)=.func (.func f) #[] us:=hev
  refine ⟨w.heap.size + 1,[{ target:=.collected w.heap.size,args:=#[] }],W1,{ target:=.fn (.func f) us,args:=#[.func (.yield (w.heap.size + 1)) #[] #[]] },W1,f,
   #[.func (.yield (w.heap.size + 1)) #[] #[]]++us,W1,?_,?_,fun _ _=>trivial,?_,fun h=>(by cases h),?_⟩
  ·rw [← hW1,hrec];exact run_enterLoop_outer _ _ _ _ _
  ·simp only [resolve,hev'];simp [Deferred.ofValue,Act.eval]
  ·simp [invoke,yv80 hen]
  refine CallsIn.more (n:=0) ((hI W0 hL φ g W1 us (w.heap.size + 1) rec s1.inv s1.hp hus (fun i x v p q=>(hrep i x v p q).ext t01.ext (Nat.le_refl _) (fun _ _=>rfl)) hL1 (by rw [hrec]) (by rw [hrec]) ol (by omega) ?_).mono ?_) (Nat.zero_le _)
  ·-- one round
   intro xs vs φ1 g1 w1 H1 K1 hRd i1 h1 tr1 hvs hxs
   obtain ⟨hxl,ka,kb,hwa⟩:=hRd
   have hsz:vs.size=rec.params.size:=by rw [hvs,hxl,hps,hrec];simp
   refine ⟨hsz,roundIn_of_wpIn trivial ?_⟩
   have hT:(rec.params.zip vs).foldl (fun tmps (t,a)=>tmps.setIfInBounds t a) rec.tmps=(ps.zip vs.toList).foldl (fun t (p:Nat × Value)=>t.setIfInBounds p.1 p.2) a.tmps:=by
    rw [hrec,hps,← Array.toList_zip,Array.foldl_toList]
   obtain ⟨ln1,_,lo1⟩:=tr1.none _ (Array.getElem?_eq_some_iff.1 hL1).1 ol
   have t11:=t01.trans tr1
   have at1:At W0 H1.length φ1 g1 w1 none N ⟨putL s.env ps xs,H1⟩ { tmps:=(rec.params.zip vs).foldl (fun tmps (t,a)=>tmps.setIfInBounds t a) rec.tmps,defers:=[] } w1:=by
    refine ⟨⟨φ1,g1,⟨i1,h1,?_⟩,Tr.refl,rfl⟩,by rw [hT,yv245];exact hN,fun _ h=>by cases h⟩
    rw [hT]
    exact yv638 (by rw [hxl]) (by rw [Array.length_toList,hvs]) (fun p hp=>by rw [hN];exact Nat.le_of_ble_eq_true (hlt p hp)) (fun t=>yv278 t11.ext t11.len t11.phi (hcalm t) (hsr.env t)) (fun i x v p q=>hxs i x v p (by simpa using q))
   rw [show rec.assign=assign by rw [hrec],show rec.body=body by rw [hrec]]
   refine wpIn_mono (iha (ro:=some (w.heap.size + 1)) (n:=0) assign _ _ _ w1 (.inr na) ka hma hwa at1) ?_
   intro e a1 w2 hq
   have hnorm:e=.normal∧∃ s2,wpS P L pb (fun e s3=>K1 (yv213 e) s3.heap) s2∧At W0 H1.length φ1 g1 w1 none N s2 a1 w2:=by
    cases e<;>simp only [QQ] at hq<;>first|exact hq.elim|exact ⟨rfl,hq⟩|(obtain ⟨_,hf,_⟩:=hq;exact hf.elim)
   obtain ⟨rfl,s2,hwb,⟨φ2,g2,sr2,tr2,mk2⟩,hN2,hle2⟩:=hnorm
   obtain ⟨ln2,_,lo2⟩:=tr2.none _ (by have:=tr1.ext.size;have:=(Array.getElem?_eq_some_iff.1 hL1).1;omega) lo1
   have hl2:w2.heap[w.heap.size + 1]?=some (.loop rec):=ln2.trans (ln1.trans hL1)
   obtain ⟨rb,hrb⟩:∃ rb:Loop,rb={ rec with state:=.busy }:=⟨_,rfl⟩
   refine ⟨w2.putObj (w.heap.size + 1) (.loop rb),by rw [hrb];exact run_beginRound hl2 (by rw [hrec]),?_⟩
   have sr3:=sr2.putM (o':=.loop rb) hl2 rfl rfl lo2 (by omega)
   have hlt2:w.heap.size + 1 < w2.heap.size:=(Array.getElem?_eq_some_iff.1 hl2).1
   have at3:At W0 H1.length φ1 g2 (w2.putObj (w.heap.size + 1) (.loop rb)) none N s2 a1 (w2.putObj (w.heap.size + 1) (.loop rb)) :=
    ⟨⟨φ2,g2,sr3,⟨Ext.refl _ _ _,fun _ _ h=>⟨rfl,rfl,h⟩,tr2.len,tr2.phi⟩,mk2⟩,hN2,fun _ h=>by cases h⟩
   have hl3:(w2.putObj (w.heap.size + 1) (.loop rb)).heap[w.heap.size + 1]?=some (.loop rb):=World.putObj_heap_same hlt2
   refine wpIn_mono (ihb (ro:=some (w.heap.size + 1)) (n:=0) body _ _ _ _ (.inr nb) kb hmb hwb at3) ?_
   intro e a3 w3 hq
   have fin:∀ (x:SExit) (j:Option Code),j=(yv213 x).map codeX->(∃ s3,K1 (yv213 x) s3.heap∧At W0 H1.length φ1 g2 (w2.putObj (w.heap.size + 1) (.loop rb)) none N s3 a3 w3) ->
    ∃ v w',(Instr.endRound (w.heap.size + 1) j).run P w3=.ok v w'∧∃ j φ2 g2 H2,Ending.returned v=.returned (.bool (j:Option SExit).isNone)∧K1 j H2∧Inv W0 g2 w'∧RepH W0.heap.size φ2 g2 w' H2∧TrL (w.heap.size + 1) W0 H1.length φ1 g1 w1 H2.length φ2 g2 w'∧w'.heap[w.heap.size + 1]?=some (.loop (recJ rec j)):=by
    rintro x j rfl ⟨s3,hk3,⟨φ3,g3,sr4,tr4,_⟩,_,_⟩
    obtain ⟨ln4,_,lo4⟩:=tr4.none _ (by rw [World.putObj_size];exact hlt2) lo2
    have hl4:w3.heap[w.heap.size + 1]?=some (.loop rb):=ln4.trans hl3
    have hlt4:=(Array.getElem?_eq_some_iff.1 hl4).1
    have hE:=run_endRound (P:=P) ((yv213 x).map codeX) hl4
    obtain ⟨re,hre⟩:∃ re:Loop,re={ rb with state:=if ((yv213 x).map codeX).isNone then .ready else .done,pending:=(yv213 x).map codeX }:=⟨_,rfl⟩
    rw [← hre] at hE
    have hre2:re=recJ rec (yv213 x):=by rw [hre,hrb,hrec];cases x<;>rfl
    have tA:TrL (w.heap.size + 1) W0 H1.length φ1 g1 w1 s2.heap.length φ2 g2 w2:=tr2.toL
    have tB:TrL (w.heap.size + 1) W0 s2.heap.length φ2 g2 w2 s2.heap.length φ2 g2 (w2.putObj (w.heap.size + 1) (.loop rb)):=TrL.put hl2 rfl rfl
    have tD:TrL (w.heap.size + 1) W0 s3.heap.length φ3 g3 w3 s3.heap.length φ3 g3 (w3.putObj (w.heap.size + 1) (.loop re)):=TrL.put hl4 rfl rfl
    have tAB:=tA.trans tB
    refine ⟨_,_,hE,yv213 x,φ3,g3,s3.heap,by cases x<;>rfl,hk3,sr4.inv.putM (by omega),sr4.hp.putM hl4 rfl rfl lo4,?_,by rw [← hre2];exact World.putObj_heap_same hlt4⟩
    refine TrL.trans ⟨?_,?_,tr4.len,tr4.phi⟩ tD
    ·exact tAB.ext.trans tr4.ext
    ·intro b hb hn
     obtain ⟨b1,b2,b3⟩:=tAB.none b hb hn
     obtain ⟨c1,c2,c3⟩:=tr4.none b (Nat.lt_of_lt_of_le hb tAB.ext.size) b3
     exact ⟨fun e=>c1.trans (b1 e),c2.trans b2,c3⟩
   cases e with
   | normal=>exact fin .normal none rfl hq
   | ret=>exact fin .ret (some .ret) rfl hq
   | exit i=>exact fin (.exit i) (some (.exit i)) rfl hq
   | goto l=>exact hq.elim
   | panic ch=>exact hq.elim
   | outgrown=>exact hq.elim
  ·-- behind the iterator
   rintro e w2 ⟨v,j,φ',g',H',rfl,hK,i2,h2,t2,hl2⟩
   have hlt2:=(Array.getElem?_eq_some_iff.1 hl2).1
   have hE:=run_endLoop (P:=P) hl2 (by cases j<;>rw [hrec]<;>simp [recJ])
   obtain ⟨re,hre⟩:∃ re:Loop,re={ recJ rec j with state:=.exhausted }:=⟨_,rfl⟩
   rw [← hre] at hE
   obtain ⟨_,_,lo2⟩:=t2.none _ (Array.getElem?_eq_some_iff.1 hL1).1 ol
   obtain ⟨ld2,_,ldo⟩:=t2.none _ (Array.getElem?_eq_some_iff.1 hK1).1 od
   have tx:=yv243 (base:=W0.heap.size) (g:=g') (o':=.loop re) hl2 rfl rfl
   have tE:Ext W0.heap.size g w g' (w2.putObj (w.heap.size + 1) (.loop re)):=(t01.ext.trans t2.ext).trans tx
   have tF:Tr W0 s.heap.length φ g w H'.length φ' g' (w2.putObj (w.heap.size + 1) (.loop re)):=by
    refine ⟨tE,fun b hb hn=>?_,t2.len,t2.phi⟩
    obtain ⟨b1,b2,b3⟩:=t01.none b hb hn
    obtain ⟨c1,c2,c3⟩:=t2.none b (Nat.lt_of_lt_of_le hb t01.ext.size) b3
    exact ⟨(World.putObj_heap_other (by omega)).trans ((c1 (by omega)).trans b1),c2.trans b2,c3⟩
   have at2:At W0 n0 φ0 g0 w0 (some k') N ⟨s.env,H'⟩ { a with defers:=[{ target:=.collected w.heap.size,args:=#[] }]++a.defers } (w2.putObj (w.heap.size + 1) (.loop re)):=by
    refine ⟨⟨φ',g',⟨i2.putM (by omega),h2.putM hl2 rfl rfl lo2,fun t=>yv278 tE t2.len t2.phi (hcalm t) (hsr.env t)⟩,htr.trans tF,⟨⟨w.heap.size,rfl,?_,ldo,?_,fun d' hd' b' hb'=>MKs.lt hmk d' hd' b' hb'⟩,MKs.tr tF hmk⟩⟩,hN,hle⟩
    ·exact (World.putObj_heap_other (by omega)).trans ((ld2 (by omega)).trans hK1)
    ·exact Nat.le_trans (hle _ rfl) htr.ext.size
   refine ⟨_,_,hE,?_⟩
   cases j with
   | none =>
    rw [show (recJ rec none).pending=none by rw [hrec];rfl]
    exact ⟨_,hK,at2⟩
   | some e =>
    show (codeX e).wpIn _ _ _ _ _ _
    refine yv659 e ?_
    cases e with
    | normal=>exact ⟨_,hK,at2⟩
    | exit i=>exact ⟨_,hK,at2⟩
    | ret=>exact ⟨_,hK,at2⟩
inductive SRes where
 | tmp (t:Nat)
 | cell (t:Nat) (n:Option Nat)
structure SFn where
 body:SCode
 res:List SRes
 n:Nat
def resV (s:St):SRes->Option AV
 | .tmp t=>match lk s.env t with
  | .tup _=>none
  | .junk=>none
  | a=>some a
 | .cell t n=>match lk s.env t with
  | .ref id off=>match n with
   | none=>(nth (hget s.heap id) off).map strip
   | some k=>if off + k ≤ (hget s.heap id).length then some (.agg (yv26 (((hget s.heap id).drop off).take k))) else none
  | _=>none
def resVs:St->List SRes->Option (List AV)
 | _,[]=>some []
 | s,r::rs=>match resV s r,resVs (match r with|.tmp t=>⟨rm s.env t,s.heap⟩|_=>s) rs with
  | some a,some l=>some (a::l)
  | _,_=>none
def yv295 (s:St) (rs:List SRes):Option AV :=
 match resVs s rs with
 | some [a]=>some a
 | some l=>some (.tup l)
 | none=>none
def resOk (P:Program):List ResultVar->List SRes->Bool
 | [],[]=>true
 | .tmp t::rs,.tmp u::ss=>t == u && resOk P rs ss
 | .cell t ty::rs,.cell u n::ss=>t == u && aggN P ty == some n && resOk P rs ss
 | _,_=>false
def fnOk (P:Program) (fn:Func) (sf:SFn):Bool :=
 (match fn.body with
  | some c=>yv23 P sf.n sf.body c
  | none=>false) && fn.ntmps == sf.n && resOk P fn.results.toList sf.res
def yv99:Nat->List AV->Env
 | _,[]=>[]
 | k,a::as=>(k,a)::yv99 (k + 1) as
def endQ (rs:List SRes) (k:Nat) (R:AV->Heap->Prop):SExit->St->Prop
 | .exit _,_=>False
 | _,s=>∃ r,yv295 s rs=some r∧k ≤ s.heap.length∧(yv16 r).all (fun i=>decide (i < k))=true∧(s.heap.take k).all (fun ob=>(refsL ob).all fun i=>decide (i < k))=true∧R r (s.heap.take k)
theorem yv138 {as:List AV}:∀ {k t:Nat},lk (yv99 k as) t=if k ≤ t then (as[t - k]?).getD .junk else .junk:=by
 induction as with
 | nil=>intro k t;simp [yv99,lk]
 | cons a as ih =>
  intro k t
  simp only [yv99,lk,ih]
  by_cases h1:k=t
  ·subst h1;simp
  ·rw [if_neg h1]
   by_cases h2:k ≤ t
   ·rw [if_pos (by omega),if_pos h2]
    obtain ⟨m,hm⟩:∃ m,t - k=m + 1:=⟨t - k - 1,by omega⟩
    rw [hm,show t - (k + 1)=m by omega]
    simp
   ·rw [if_neg (by omega),if_neg h2]
end Go.Rv
namespace Go.Rv
open Go.RowKit
variable {P:Program} {W0:World} {L:World->Prop}
theorem yv679 {φ:Nat->Nat} {g:Gh} {w:World} {H:Heap} {id off:Nat} {t:TypeId} {k:Option Nat} {c:AV} {l:Loc} (hh:RepH W0.heap.size φ g w H) (hn:id < H.length) (ok2:aggN P t=some k)
 (he:(match k with
  | none=>(nth (hget H id) off).map strip
  | some k=>if off + k ≤ (hget H id).length then some (.agg (yv26 (((hget H id).drop off).take k))) else none)=some c) :
 ∃ v,(loadVar t ⟨φ id,off,none⟩).run P w=.ok v w∧RepB W0.heap.size H.length φ g w l c v:=by
 have hp:=yv73 ok2 ⟨φ id,off,none⟩ w
 obtain ⟨ho⟩:=hh id hn
 cases k with
 | none =>
  simp only [yv155,Option.map_eq_some_iff] at he
  obtain ⟨c,hc,rfl⟩:=he
  rcases ho with ho|⟨cur,T,p1,p2,p3,p4,p5,p6⟩
  ·rw [ho] at hc;simp at hc
  have hlt:off < cur.size:=Nat.lt_of_lt_of_le (List.getElem?_eq_some_iff.1 hc).1 p2
  obtain ⟨q1,q2⟩:=p6 off c cur[off] hc (by simp [hlt])
  have hcell:w.cell? ⟨φ id,off,none⟩=some cur[off]:=by simp [World.cell?,p1,hlt]
  exact ⟨cur[off],by simp [hp,hcell],.c _ _ q1.strip⟩
 | some m =>
  simp only at he
  split at he
  case isFalse=>cases he
  rename_i hm
  simp at he;subst he
  rcases ho with ho|⟨cur,T,p1,p2,p3,p4,p5,p6⟩
  ·rw [ho] at hm ⊢
   have:off=0∧m=0:=by simpa using hm
   obtain ⟨rfl,rfl⟩:=this
   exact ⟨.agg #[],by simp [hp,loadCells,loadCellsFrom],.agg _ _ (by simp [yv26]) (fun i a v p=>by simp [yv26] at p) (by simp)⟩
  ·have hm':off + m ≤ cur.size:=Nat.le_trans hm p2
   refine ⟨.agg (cur.extract off (off + m)),by simp [hp,yv123 p1 hm'],?_⟩
   refine .agg _ _ (by simp [yv14];omega) ?_ ?_
   ·intro i a v p q
    rw [yv14,List.getElem?_map] at p
    cases hc:(((hget H id).drop off).take m)[i]? with
    | none=>simp [hc] at p
    | some x =>
     simp [hc] at p;subst p
     rw [List.getElem?_take] at hc
     split at hc
     ·rw [List.getElem?_drop] at hc
      rw [Array.getElem?_extract] at q
      split at q
      ·exact (p6 (off + i) x v hc q).1.strip
      ·cases q
     ·cases hc
   ·intro v hv
    obtain ⟨i,hi'⟩:=List.getElem?_of_mem (Array.mem_toList_iff.2 hv)
    simp only [Array.getElem?_toList] at hi'
    rw [Array.getElem?_extract] at hi'
    split at hi'
    ·rename_i hlt
     have hlt2:off + i < (hget H id).length:=by omega
     exact (p6 (off + i) _ v (List.getElem?_eq_getElem hlt2) hi').2
    ·cases hi'
def yv495 (P:Program) (tmps:Array Value) (w:World):ResultVar->Value->Prop
 | .tmp t,v=>v=tmps.getD t undef
 | .cell a t,v=>∃ ad,tmps.getD a undef=.pointer (some ad)∧(loadVar t ad).run P w=.ok v w
theorem RepA.toB {base n:Nat} {φ:Nat->Nat} {g:Gh} {w:World} {l:Loc} {a:AV} {v:Value} (h:RepA base n φ g w l a v) (ht:∀ vs,a ≠ .tup vs):RepB base n φ g w l a v:=by
 cases h with
 | b _ _ h=>exact h
 | tup cs=>exact absurd rfl (ht cs)
theorem yv706 {φ:Nat->Nat} {w:World} {H:Heap} {tmps:Array Value}:∀ (rs:List SRes) (fs:List ResultVar) (k:Nat) (g:Gh) (e:Env) (l:List AV),SR W0 φ g w e H tmps->resOk P fs rs=true ->
 resVs ⟨e,H⟩ rs=some l->∃ (g':Gh) (us:List Value),g'.lim=g.lim∧(∀ b,g.ow b=none->g'.ow b=none)∧Inv W0 g' w∧RepH W0.heap.size φ g' w H∧us.length=fs.length∧us.length=l.length ∧
  (∀ (i:Nat) (f:ResultVar) (u:Value),fs[i]?=some f->us[i]?=some u->yv495 P tmps w f u) ∧
  (∀ (i:Nat) (a:AV) (u:Value),l[i]?=some a->us[i]?=some u->RepB W0.heap.size H.length φ g' w (.sub .res (k + i)) a u) ∧
  ∀ j,KeepU W0.heap.size g w g' w (.sub .res j) (.sub .res j):=by
 intro rs
 induction rs with
 | nil =>
  intro fs k g e l h hf hl
  cases fs with
  | cons=>cases ‹ResultVar›<;>simp [resOk] at hf
  | nil =>
   simp [resVs] at hl;subst hl
   exact ⟨g,[],rfl,fun _ h=>h,h.inv,h.hp,rfl,rfl,fun i f u p=>by simp at p,fun i f u p=>by simp at p,fun _=>KeepU.refl⟩
 | cons r rs ih =>
  intro fs k g e l h hf hl
  simp only [resVs] at hl
  split at hl
  case h_2=>cases hl
  rename_i a l' ha hl'
  simp only [Option.some.injEq] at hl
  subst hl
  cases fs with
  | nil=>cases r<;>simp [resOk] at hf
  | cons f fs =>
   cases r with
   | tmp t =>
    cases f with
    | cell=>simp [resOk] at hf
    | tmp t' =>
     simp only [resOk,Bool.and_eq_true,beq_iff_eq] at hf
     obtain ⟨rfl,hf⟩:=hf
     have hne:lk e t'=a∧∀ vs,a ≠ .tup vs:=by
      simp only [resV] at ha
      split at ha
      ·cases ha
      ·cases ha
      ·rename_i x h1 h2
       simp only [Option.some.injEq] at ha
       subst ha
       exact ⟨rfl,fun vs hvs=>h1 vs hvs⟩
     have ht:=h.env t'
     rw [hne.1] at ht
     have h':SR W0 φ (g.reroot (.env t') (.sub .res k)) w (rm e t') H tmps :=
      ⟨h.inv.reroot _ _,h.hp.reroot (by simp [Loc.root]) (by simp [Loc.root]),fun t''=>by
       rw [lk_rm]
       split
       ·exact RepA.junk
       ·rename_i hne'
        exact (h.env t'').keep (Ext.reroot _ _ _ _ _) (Nat.le_refl _) (fun _ _=>rfl) (KeepU.other (by simpa [Loc.root] using hne'))⟩
     obtain ⟨g2,us,q1,q2,q3,q4,q5,q6,q7,q8,q9⟩:=ih fs (k + 1) _ (rm e t') l' h' hf hl'
     refine ⟨g2,tmps.getD t' undef::us,q1,fun b hb=>q2 b (yv47 hb),q3,q4,by simp [q5],by simp [q6],?_,?_,fun j=>?_⟩
     ·intro i f u p q
      cases i with
      | zero=>simp at p q;subst p q;simp [yv495]
      | succ i=>simp at p q;exact q7 i f u p q
     ·intro i b u p q
      cases i with
      | zero =>
       simp at p q;subst p q
       have z:=(KeepU.reroot W0.heap.size g w (.env t') (.sub .res k)).trans (q9 k)
       have:=(ht.toB hne.2).keep (g':=g2) (w':=w) (Ext.lims (base:=W0.heap.size) (g:=g) (g':=g2) (w:=w) q1) (Nat.le_refl _) (fun _ _=>rfl) z.k0 z.k1
       simpa using this
      | succ i =>
       simp at p q
       have:=q8 i b u p q
       rwa [show k + 1 + i=k + (i + 1) by omega] at this
     ·exact (KeepU.other (by simp [Loc.root])).trans (q9 j)
   | cell t n =>
    cases f with
    | tmp=>simp [resOk] at hf
    | cell t' ty =>
     simp only [resOk,Bool.and_eq_true,beq_iff_eq] at hf
     obtain ⟨⟨rfl,hty⟩,hf⟩:=hf
     obtain ⟨g2,us,q1,q2,q3,q4,q5,q6,q7,q8,q9⟩:=ih fs (k + 1) g e l' h hf hl'
     simp only [resV] at ha
     split at ha
     case h_2=>cases ha
     rename_i id off hid
     have ht:=h.env t'
     rw [hid] at ht
     obtain ⟨hv,hlt⟩:=ht.of_ref
     obtain ⟨v,hrun,hrep⟩:=yv679 (off:=off) (c:=a) (l:=.sub .res k) q4 hlt hty (by cases n<;>exact ha)
     refine ⟨g2,v::us,q1,q2,q3,q4,by simp [q5],by simp [q6],?_,?_,q9⟩
     ·intro i f u p q
      cases i with
      | zero=>simp at p q;subst p q;exact ⟨_,hv,hrun⟩
      | succ i=>simp at p q;exact q7 i f u p q
     ·intro i b u p q
      cases i with
      | zero=>simp at p q;subst p q;simpa using hrep
      | succ i =>
       simp at p q
       have:=q8 i b u p q
       rwa [show k + 1 + i=k + (i + 1) by omega] at this
def tupV:List Value->Value
 | [v]=>v
 | us=>.tuple us.toArray
def tupA:List AV->AV
 | [a]=>a
 | l=>.tup l
theorem yv197 {fn:Func} {tmps:Array Value} {w:World} {us:List Value} (hl:us.length=fn.results.toList.length)
 (h:∀ (i:Nat) (f:ResultVar) (u:Value),fn.results.toList[i]?=some f->us[i]?=some u->yv495 P tmps w f u) :
 (results fn tmps).run P w=.ok (tupV us) w:=by
 let F:ResultVar->Sem Value:=fun r=>match r with
  | .tmp t=>pure (tmps.getD t undef)
  | .cell a t=>do loadVar t (← asAddr (tmps.getD a undef))
 have hF:∀ f u,yv495 P tmps w f u->(F f).run P w=.ok u w:=by
  intro f u hf
  cases f with
  | tmp t=>simp only [yv495] at hf;subst hf;simp [F]
  | cell a t =>
   obtain ⟨ad,h1,h2⟩:=hf
   simp only [F]
   rw [h1]
   simp [asAddr,h2]
 let h0:ResultVar->Value:=fun f=>match (F f).run P w with
  | .ok v _=>v
  | _=>undef
 have hm:(fn.results.mapM F).run P w=.ok (fn.results.map h0) w:=by
  refine yv198 fun f hf=>?_
  obtain ⟨i,hi⟩:=List.getElem?_of_mem (Array.mem_toList_iff.2 hf)
  have hlt:i < us.length:=by rw [hl];exact (List.getElem?_eq_some_iff.1 hi).1
  have:=hF f _ (h i f us[i] hi (by simp [hlt]))
  simp [h0,this]
 have he:fn.results.map h0=us.toArray:=by
  apply Array.ext'
  simp only [Array.toList_map]
  apply List.ext_getElem?
  intro i
  rw [List.getElem?_map]
  by_cases hi:i < us.length
  ·have hi2:i < fn.results.toList.length:=by omega
   have:=hF _ _ (h i _ us[i] (List.getElem?_eq_getElem hi2) (by simp [hi]))
   rw [List.getElem?_eq_getElem hi2]
   simp only [Option.map_some,h0,this]
   simp [hi]
  ·rw [List.getElem?_eq_none (by omega),List.getElem?_eq_none (by omega)];rfl
 have hm':(results fn tmps).run P w=((fn.results.mapM F).run P w).andThen fun vs w'=>.ok (if h:vs.size=1 then vs[0] else .tuple vs) w':=by
  unfold results
  rw [Sem.run_bind]
  rfl
 rw [hm',hm,he]
 clear he hm hm' hl h
 match us with
 | []=>rfl
 | [v]=>rfl
 | _::_::_=>rfl
mutual
theorem yv769:∀ a:AV,ren id a=a
 | .agg cs=>by simp [ren,yv196 cs]
 | .tup cs=>by simp [ren,yv196 cs]
 | .clo f x y=>by simp [ren,yv196 x,yv196 y]
 | .ref _ _=>rfl
 | .view _ _ _ _=>rfl
 | .pv _=>rfl
 | .own _ _=>rfl
 | .eref _ _=>rfl
 | .junk=>rfl
theorem yv196:∀ l:List AV,renL id l=l
 | []=>rfl
 | a::l=>by simp [renL,yv769 a,yv196 l]
end
end Go.Rv
namespace Go.Rv
open Go.RowKit
variable {P:Program} {W0:World} {L:World->Prop}
theorem yv121 {K K':St->Prop} (hk:∀ s,K s->K' s):∀ (os:List SOp) (s:St),wpO P L os K s->wpO P L os K' s
 | [],s,h=>hk s h
 | o::os,s,h=>by
  simp only [wpO] at h ⊢
  split at h
  ·exact h.elim
  ·exact yv121 hk os _ h
  ·split at h
   ·split at h
    ·obtain ⟨h1,l,r,H',h2,h3,h4⟩:=h
     exact ⟨h1,l,r,H',h2,h3,yv121 hk os _ h4⟩
    ·exact h.elim
   ·split at h
    ·exact yv121 hk os _ h
    ·exact h.elim
theorem yv231 {K K':St->Prop} (hk:∀ s,K s->K' s):∀ (os:List SOp) (us:List (List Nat)) (Fs:List Foot) (s:St),wpD P L os us Fs K s->wpD P L os us Fs K' s
 | [],_,_,s,h=>hk s h
 | o::os,us,Fs,s,h=>by
  simp only [wpD] at h ⊢
  split at h
  ·exact h.elim
  ·exact yv231 hk os _ _ _ h
  ·split at h
   ·split at h
    ·obtain ⟨h1,l,r,H',wr,h2,h3,h4,h5,h6,h7,h8⟩:=h
     exact ⟨h1,l,r,H',wr,h2,h3,h4,h5,h6,h7,yv231 hk os _ _ _ h8⟩
    ·exact h.elim
   ·split at h
    ·obtain ⟨h1,h2,h3⟩:=h
     exact ⟨h1,h2,yv231 hk os _ _ _ h3⟩
    ·exact h.elim
theorem yv70 {n n':St->Prop} {Q Q':SExit->St->Prop} (h1:∀ s,n s->n' s) (h2:∀ e s,Q e s->Q' e s):∀ e s,thenQ n Q e s->thenQ n' Q' e s:=by
 intro e s h
 cases e with
 | normal=>exact h1 s h
 | exit i=>exact h2 _ s h
 | ret=>exact h2 _ s h
theorem yv27:∀ (c:SCode) {Q Q':SExit->St->Prop} (s:St),(∀ e s,Q e s->Q' e s)->wpS P L c Q s->wpS P L c Q' s:=by
 intro c
 induction c with
 | skip=>exact fun s hq h=>hq _ _ h
 | reg ops d =>
  intro Q Q' s hq h
  cases d with
  | none=>exact yv121 (hq _) ops s h
  | some us=>exact ⟨h.1,yv231 (hq _) ops us [] s h.2⟩
 | seq a b iha ihb=>exact fun s hq h=>iha s (yv70 (fun s h=>ihb s hq h) hq) h
 | cond c a b iha ihb =>
  intro Q Q' s hq h
  simp only [wpS] at h ⊢
  split at h
  ·exact ⟨fun e=>iha s hq (h.1 e),fun e=>ihb s hq (h.2 e)⟩
  ·exact h.elim
 | block id b ih =>
  intro Q Q' s hq h
  refine ih s ?_ h
  intro e s h
  cases e with
  | normal=>exact hq _ _ h
  | exit i=>simp only [yv543] at h ⊢;split<;>rename_i hi<;>simp only [hi,if_true,if_false] at h<;>exact hq _ _ h
  | ret=>exact hq _ _ h
 | loop b ih =>
  intro Q Q' s hq h
  obtain ⟨I,h0,h1⟩:=h
  exact ⟨I,h0,fun n s hI=>ih s (yv70 (fun _ h=>h) hq) (h1 n s hI)⟩
 | exit id=>exact fun s hq h=>hq _ _ h
 | ret=>exact fun s hq h=>hq _ _ h
 | drop ts c ih=>exact fun s hq h=>ih _ hq h
 | fin k c ih=>exact fun s hq h=>ih s (yv70 (fun s h=>⟨h.choose,h.choose_spec.1,h.choose_spec.2.1,hq _ _ h.choose_spec.2.2⟩) hq) h
 | rng t ps a b iha ihb =>
  intro Q Q' s hq h
  simp only [wpS] at h ⊢
  refine ⟨h.1,?_⟩
  have h2:=h.2
  split at h2
  ·rename_i hl
   exact ⟨h2.1,h2.2.mono fun j H hk=>by cases j<;>exact hq _ _ hk⟩
  ·exact h2.elim
 | frzB c ih=>exact fun s hq h=>let ⟨F,s',h1,h2⟩:=h;⟨F,s',h1,ih _ hq h2⟩
 | frzE c ih=>exact fun s hq h=>ih s (fun e s h=>let ⟨F,s',h1,h2⟩:=h;⟨F,s',h1,hq _ _ h2⟩) h
 | weak k c ih=>exact fun s hq h=>⟨h.choose,h.choose_spec.1,h.choose_spec.2.1,ih _ hq h.choose_spec.2.2⟩
theorem yv815 {o:SOp} {os:List SOp} {K:St->Prop} {s s1:St} (h1:step1 o s=some s1) (h2:wpO P L os K s1):wpO P L (o::os) K s:=by
 have hop:∀ f,o.op ≠ .call f∨yv7 s.env o.guard=some false:=by
  intro f
  by_cases hc:o.op=.call f
  ·refine .inr ?_
   unfold step1 at h1
   split at h1
   ·cases h1
   ·assumption
   ·rw [hc] at h1;simp [POp.ev] at h1
  ·exact .inl hc
 unfold step1 at h1
 simp only [wpO]
 split at h1
 ·cases h1
 ·rename_i hg
  simp only [Option.some.injEq] at h1
  subst h1
  rw [hg];exact h2
 ·rename_i hg
  rw [hg]
  split at h1
  ·rename_i a h he
   simp only [Option.some.injEq] at h1
   subst h1
   simp only
   split
   ·rename_i f hf
    rcases hop f with h|h
    ·exact absurd hf h
    ·rw [hg] at h;cases h
   ·rw [he];exact h2
  ·cases h1
section
variable {a b:SCode} {Q:SExit->St->Prop} {n:St->Prop} {K:St->Prop} {s:St} {e:Env} {h:Heap}
theorem yv810 {c:Nat} {x:Bool} (h1:lk s.env c=.pv (.lit (.bool x))) (ha:x=true->wpS P L a Q s) (hb:x=false->wpS P L b Q s):wpS P L (.cond c a b) Q s:=by
 simp only [wpS,h1]
 exact ⟨ha,hb⟩
end
end Go.Rv
namespace Go.Rv
open Go.RowKit
section
variable {h:Heap} {a b c:AV} {k k':IntKind} {m n:Int} {x y:Bool} {u v:ByteArray} {t:ET} {cs:List AV} {z:Nat} {rows:List (List PV)} {id off len:Nat}
end
theorem yv258:(∀ e,rdAs e []=([],e))∧(∀ e x xs,rdAs e (x::xs)=((rdA e x).1::(rdAs (rdA e x).2 xs).1,(rdAs (rdA e x).2 xs).2)) ∧
 (∀ e t,rdA e (.v t)=(strip (lk e t),e))∧(∀ e t,rdA e (.m t)=(lk e t,rm e t))∧(∀ e a,rdA e (.k a)=(a,e)) ∧
 (∀ t,lk [] t=.junk)∧(∀ k a e t,lk ((k,a)::e) t=if k=t then a else lk e t) ∧
 (∀ t,rm [] t=[])∧(∀ k a e t,rm ((k,a)::e) t=if k=t then rm e t else (k,a)::rm e t) ∧
 (∀ k n,strip (.i k n)=.i k n)∧(∀ x,strip (.b x)=.b x)∧(∀ u,strip (.s u)=.s u)∧(strip .nilS=.nilS)∧(strip .nilP=.nilP)∧(∀ p,strip (.pv p)=.pv p) ∧
 (∀ z rows,strip (.own z rows)=.pv (.sl z rows))∧(∀ id off,strip (.ref id off)=.ref id off)∧(∀ r off,strip (.eref r off)=.eref r off)∧(∀ id off n z,strip (.view id off n z)=.view id off n z) ∧
 (∀ cs,strip (.agg cs)=.agg (yv26 cs))∧(yv26 []=[])∧(strip (.tup [])=.tup [])∧(∀ a l,yv26 (a::l)=strip a::yv26 l):=by
 refine ⟨fun _=>rfl,fun _ _ _=>rfl,fun _ _=>rfl,fun _ _=>rfl,fun _ _=>rfl,fun _=>rfl,fun _ _ _ _=>rfl,fun _=>rfl,fun _ _ _ _=>rfl,fun _ _=>rfl,fun _=>rfl,fun _=>rfl,rfl,rfl,fun _=>rfl,fun _ _=>rfl,fun _ _=>rfl,fun _ _=>rfl,fun _ _ _ _=>rfl,fun _=>rfl,rfl,rfl,fun _ _=>rfl⟩
theorem yv255:(∀ t v,put [] t v=[(t,v)])∧(∀ k x e t v,put ((k,x)::e) t v=if t < k then (t,v)::(k,x)::e else if k=t then (t,v)::e else (k,x)::put e t v):=⟨fun _ _=>rfl,fun _ _ _ _ _=>rfl⟩
theorem yv742:(∀ a h,POp.ev .mv [a] h=some (a,h))∧(∀ x a b h,POp.ev .pick [.b x,a,b] h=some (if x=true then a else b,h))∧(∀ zs h,POp.ev (.alloc zs) [] h=some (.ref h.length 0,h++[zs])) ∧
 (∀ t k m n h,POp.ev (.bin .add t) [.i k m,.i k n] h=some (.i k (k.wrap (m + n)),h))∧(∀ t k m n h,POp.ev (.bin .sub t) [.i k m,.i k n] h=some (.i k (k.wrap (m - n)),h)) ∧
 (∀ t k m n h,POp.ev (.bin .mul t) [.i k m,.i k n] h=some (.i k (k.wrap (m * n)),h)) ∧
 (∀ t k m n h,POp.ev (.bin .lss t) [.i k m,.i k n] h=some (.b (decide (m < n)),h))∧(∀ t k m n h,POp.ev (.bin .leq t) [.i k m,.i k n] h=some (.b (decide (m ≤ n)),h)) ∧
 (∀ t k m n h,POp.ev (.bin .gtr t) [.i k m,.i k n] h=some (.b (decide (m > n)),h))∧(∀ t k m n h,POp.ev (.bin .geq t) [.i k m,.i k n] h=some (.b (decide (m ≥ n)),h)) ∧
 (∀ t k m n h,POp.ev (.bin .eql t) [.i k m,.i k n] h=some (.b (decide (m=n)),h))∧(∀ t k m n h,POp.ev (.bin .neq t) [.i k m,.i k n] h=some (.b (!decide (m=n)),h)) ∧
 (∀ x y h,POp.ev (.bin .eql .b) [.b x,.b y] h=some (.b (x == y),h))∧(∀ x y h,POp.ev (.bin .neq .b) [.b x,.b y] h=some (.b (!(x == y)),h)) ∧
 (∀ t u v h,POp.ev (.bin .eql t) [.s u,.s v] h=some (.b (decide (u=v)),h))∧(∀ t u v h,POp.ev (.bin .neq t) [.s u,.s v] h=some (.b (!(decide (u=v))),h)) ∧
 (∀ x h,POp.ev (.un .not) [.b x] h=some (.b (!x),h))∧(∀ k k' n h,POp.ev (.cint k) [.i k' n] h=some (.i k (k.wrap n),h)) ∧
 (∀ z rows h,POp.ev .len [.pv (.sl z rows)] h=some (.i .i64 (rows.length:Int),h))∧(∀ z rows h,POp.ev .len [.own z rows] h=some (.i .i64 (rows.length:Int),h))∧(∀ h,POp.ev .len [.nilS] h=some (.i .i64 0,h)) ∧
 (∀ id off len z h,POp.ev .len [.view id off len z] h=some (.i .i64 (len:Int),h))∧(∀ u h,POp.ev .lens [.s u] h=some (.i .i64 (u.size:Int),h))∧(∀ u h,POp.ev .cid [.s u] h=some (.s u,h)):=by
 refine ⟨fun _ _=>rfl,fun _ _ _ _=>rfl,fun _ _=>rfl,?_,?_,?_,?_,?_,?_,?_,?_,?_,?_,?_,?_,?_,fun _ _=>rfl,fun _ _ _ _=>rfl,fun _ _ _=>rfl,fun _ _ _=>rfl,fun _=>rfl,fun _ _ _ _ _=>rfl,fun _ _=>rfl,fun _ _=>rfl⟩
 all_goals intros;simp [POp.ev,AV.i,AV.b,AV.s,binV,yv1,intV,yv58,strV]
 ·rename_i m n _;by_cases h:m=n<;>simp [h]
 ·rename_i m n _;by_cases h:m=n<;>simp [h]
section
variable {P:Program} {L:World->Prop} {op:POp} {args:List Arg} {d:Nat} {od:Option Nat} {os:List SOp} {K:St->Prop} {e e':Env} {h h':Heap} {vs:List AV} {r:AV} {e2 et ef:Env} {t:Nat} {b want x:Bool} {f:FuncId} {ts:List Nat} {sc p q:SCode} {Q:SExit->St->Prop} {c:Nat} {rs:List SRes} {k:Nat} {R:AV->Heap->Prop} {x':SExit}
theorem o_yes (w:wpO P L (⟨op,args,od,none⟩::os) K ⟨e,h⟩) (h1:lk e t=.b want:=by simp only [yv258,reduceIte,Nat.reduceEqDiff]<;>rfl):wpO P L (⟨op,args,od,some (t,want)⟩::os) K ⟨e,h⟩:=by
 have hg:yv7 e (some (t,want))=some true:=by simp [yv7,h1,AV.b]
 simp only [wpO,hg]
 simpa only [wpO,yv7] using w
theorem o_no (w:wpO P L os K ⟨e2,h⟩) (h1:lk e t=.b (!want):=by simp only [yv258,reduceIte,Nat.reduceEqDiff,Bool.not_true,Bool.not_false]<;>rfl) (h2:rmD e od=e2:=by simp only [rmD,yv255,reduceIte,Nat.reduceEqDiff,Nat.reduceLT]<;>rfl):wpO P L (⟨op,args,od,some (t,want)⟩::os) K ⟨e,h⟩:=by
 have hg:yv7 e (some (t,want))=some false:=by cases want<;>simp [yv7,h1,AV.b]
 simp only [wpO,hg,h2]
 exact w
theorem o_nu (w:wpO P L os K ⟨e2,h⟩) (h1:lk e t=.tup []:=by simp only [yv258,reduceIte,Nat.reduceEqDiff]<;>rfl) (h2:rmD e od=e2:=by simp only [rmD,yv255,reduceIte,Nat.reduceEqDiff,Nat.reduceLT]<;>rfl):wpO P L (⟨op,args,od,some (t,want)⟩::os) K ⟨e,h⟩:=by
 have hg:yv7 e (some (t,want))=some false:=by simp [yv7,h1]
 simp only [wpO,hg,h2]
 exact w
theorem yv293 {a:AV}:∀ {e:Env},srt e=true->lk e t=a->a ≠ .junk->put e t a=e
 | [],_,h,hj=>absurd h.symm (by simpa [lk] using hj)
 | (k,x)::e,hs,h,hj=>by
  rw [yv42] at hs
  simp at hs
  simp only [lk] at h
  simp only [put]
  split at h
  ·rename_i hk;subst hk;subst h;simp
  ·rename_i hk
   have hnot:¬ t < k:=by
    intro hlt
    have:=yv297 (t:=t) hs.2 (yv141 (Nat.le_of_lt hlt) hs.1)
    have h2:lk (rm e t) t=.junk:=by simp [lk_rm]
    rw [this,h] at h2
    exact hj h2
   simp [hnot,hk,yv293 hs.2 h hj]
def Fun (P:Program) (L:World->Prop) (f:FuncId) (as:List AV) (H:Heap) (r:AV) (H':Heap):Prop:=yv25 P f=true∧Good P L f as H r H'
theorem Good.strip {as:List AV} {H H':Heap} {f:FuncId} {r:AV} (g:Good P L f (as.map Rv.strip) H r H'):Good P L f as H r H':=by
 intro W0 hL φ gh w vs hi hh hl ha
 refine g W0 hL φ gh w vs hi hh (by simpa using hl) fun i a v p q=>?_
 rw [List.getElem?_map] at p
 cases hc:as[i]? with
 | none=>simp [hc] at p
 | some b=>simp [hc] at p;subst p;exact (ha i b v hc q).strip
theorem Fun.strip {as:List AV} {H H':Heap} {f:FuncId} {r:AV} (g:Fun P L f (as.map Rv.strip) H r H'):Fun P L f as H r H':=⟨g.1,g.2.strip⟩
end
end Go.Rv
namespace Go.Rv
open Go.RowKit
variable {P:Program}
end Go.Rv
namespace Go.Rv
open Go.RowKit
section
variable {P:Program} {L:World->Prop} {op:POp} {args:List Arg} {d:Nat} {od:Option Nat} {os:List SOp} {K:St->Prop} {e e':Env} {h h':Heap} {vs:List AV} {r:AV} {e2 et ef:Env} {t:Nat} {b want:Bool}
 {f:FuncId} {us:List (List Nat)} {Fs:List Foot} {F:Foot}
theorem d_yes (w:wpD P L (⟨op,args,od,none⟩::os) us Fs K ⟨e,h⟩) (h1:lk e t=.b want:=by simp only [yv258,reduceIte,Nat.reduceEqDiff]<;>rfl):wpD P L (⟨op,args,od,some (t,want)⟩::os) us Fs K ⟨e,h⟩:=by
 have hg:yv7 e (some (t,want))=some true:=by simp [yv7,h1,AV.b]
 simp only [wpD,hg]
 simpa only [wpD,yv7] using w
theorem d_no (w:wpD P L os us.tail (Fs++[.none]) K ⟨e2,h⟩) (h1:lk e t=.b (!want):=by simp only [yv258,reduceIte,Nat.reduceEqDiff,Bool.not_true,Bool.not_false]<;>rfl)
 (h2:rmD e od=e2:=by simp only [rmD,yv255,reduceIte,Nat.reduceEqDiff,Nat.reduceLT]<;>rfl):wpD P L (⟨op,args,od,some (t,want)⟩::os) us Fs K ⟨e,h⟩:=by
 have hg:yv7 e (some (t,want))=some false:=by cases want<;>simp [yv7,h1,AV.b]
 simp only [wpD,hg,h2]
 exact w
theorem d_nu (w:wpD P L os us.tail (Fs++[.none]) K ⟨e2,h⟩) (h1:lk e t=.tup []:=by simp only [yv258,reduceIte,Nat.reduceEqDiff]<;>rfl)
 (h2:rmD e od=e2:=by simp only [rmD,yv255,reduceIte,Nat.reduceEqDiff,Nat.reduceLT]<;>rfl):wpD P L (⟨op,args,od,some (t,want)⟩::os) us Fs K ⟨e,h⟩:=by
 have hg:yv7 e (some (t,want))=some false:=by simp [yv7,h1]
 simp only [wpD,hg,h2]
 exact w
end
end Go.Rv
