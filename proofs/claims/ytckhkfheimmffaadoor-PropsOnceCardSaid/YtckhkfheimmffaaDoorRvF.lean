/- A typed interpreter of the program's code, and that it is sound; part 6. -/
import Derived.Test.YtckhkfheimmffaaDoorRvE
import Derived.Laws.IdiomCopy
set_option linter.unusedSimpArgs false
set_option linter.unusedVariables false
set_option maxRecDepth 100000
namespace Go.Rv
open Go.RowKit
section
variable {P:Program} {W:World->Prop} {T:Nat->Type} {tb:Tab T}
end
section
variable {W0:World}
theorem RowCells.take {base:Nat} {g:Gh} {w:World} {sz:Nat} {rows:List (List PV)} {xs:List Value} (h:RowCells base g w sz rows xs) (n:Nat) (hn:n ≤ rows.length):RowCells base g w sz (rows.take n) (xs.take (n * sz)):=by
 refine ⟨?_,fun r hr=>h.hsz r (List.mem_of_mem_take hr),fun i r j c p q=>?_⟩
 ·rw [List.length_take,List.length_take,h.len,Nat.min_eq_left hn,Nat.min_eq_left (Nat.mul_le_mul_right _ hn)]
 ·rw [List.getElem?_take] at p
  split at p
  case isFalse=>cases p
  rename_i hi
  obtain ⟨u,a,b⟩:=h.rep i r j c p q
  refine ⟨u,?_,b⟩
  have hj:j < sz:=by rw [← h.hsz r (List.mem_of_getElem? p)];exact (List.getElem?_eq_some_iff.1 q).1
  have:(i + 1) * sz ≤ n * sz:=Nat.mul_le_mul_right _ hi
  rw [Nat.add_mul,Nat.one_mul] at this
  rw [List.getElem?_take,if_pos (by omega)]
  exact a
theorem RowCells.drop {base:Nat} {g:Gh} {w:World} {sz:Nat} {rows:List (List PV)} {xs:List Value} (h:RowCells base g w sz rows xs) (n:Nat):RowCells base g w sz (rows.drop n) (xs.drop (n * sz)):=by
 refine ⟨?_,fun r hr=>h.hsz r (List.mem_of_mem_drop hr),fun i r j c p q=>?_⟩
 ·rw [List.length_drop,List.length_drop,h.len,Nat.sub_mul]
 ·rw [List.getElem?_drop] at p
  obtain ⟨u,a,b⟩:=h.rep (n + i) r j c p q
  refine ⟨u,?_,b⟩
  rw [List.getElem?_drop,← a]
  congr 1
  rw [Nat.add_mul];omega
end
end Go.Rv
namespace Go.Rv
open Go.RowKit
variable {P:Program} {W:World->Prop} {T:Nat->Type} {tb:Tab T}
abbrev CY (T:Nat->Type) (k:Nat):=Unit ⊕ Unit ⊕ List (T k)
def yv740 (T:Nat->Type) (k bytes:Nat) (o:Option (List (T k))):Option (CY T k):=match o with
 | none=>some (.inl ())
 | some []=>some (.inr (.inl ()))
 | some (x::xs)=>if (xs.length + 1) * bytes ≤ room∧xs.length + 1 ≤ room then some (.inr (.inr (x::xs))) else none
def yv658 (T:Nat->Type) (k:Nat):CY T k->TV T × THeap T
 | .inl _=>(.nilS,[])
 | .inr (.inl _)=>(.ow k (some []),[])
 | .inr (.inr l)=>(.vw k 0 l.length,[[.blk k l]])
def yv787 (tb:Tab T) (k bytes:Nat):Orc T:=mkOrc (Y:=CY T k) tb [.g (.f (.a (.sl k)))] [] (fun x _=>yv740 T k bytes x.1)
 (fun _ y k'=>match y with|.inl _=>k' .nilS []|.inr (.inl _)=>k' (.ow k (some [])) []|.inr (.inr l)=>k' (.vw k 0 l.length) [[.blk k l]])
def yv786 (tb:Tab T) (k:Nat):RSp T tb (CY T k):=⟨fun _ _=>none,yv658 T k⟩
theorem yv788 (ok:tb.Ok) {f k bytes:Nat} {o1 o2:Orc T} (h1:o1.Ok P W tb f) (h2:o2.Ok P W tb f) (rn:TV T) (hrn:av tb rn=.nilS)
 (hn:o1.run [.sl k none] [] (fun r H=>some (r,H))=some (rn,[])) (he:o1.run [.sl k (some [])] [] (fun r H=>some (r,H))=some (.ow k (some []),[]))
 (hv:∀ (x:T k) (xs:List (T k)),(xs.length + 1) * bytes ≤ room∧xs.length + 1 ≤ room->∃ n l,n=xs.length + 1∧l=x::xs∧o2.run [.sl k (some (x::xs))] [] (fun r H=>some (r,H))=some (.vw k 0 n,[[.blk k l]])):(yv787 tb k bytes).Ok P W tb f:=by
 refine yv154 (R:=yv786 tb k) ok h1.en (fun ρ y k'=>?_) (fun y=>rfl) (fun x h y hy=>⟨h1.en,?_⟩)
 ·rcases y with y|y|y<;>rfl
 ·obtain ⟨o,_⟩:=x
  have key:∀ (o:Option (List (T k))),yv740 T k bytes o=some y->Good P W f [av tb (.sl k o)] [] (av tb (yv658 T k y).1) (avH tb (yv658 T k y).2):=by
   intro o hy
   cases o with
   | none =>
    have hy:y=.inl ():=(Option.some.inj hy).symm
    subst hy
    obtain ⟨r,H',g,_,e⟩:=h1.snd _ _ _ _ hn
    simp only [Option.some.injEq,Prod.mk.injEq] at e
    obtain ⟨rfl,rfl⟩:=e
    rw [hrn] at g
    exact g
   | some l =>
    cases l with
    | nil =>
     have hy:y=.inr (.inl ()):=(Option.some.inj hy).symm
     subst hy
     obtain ⟨r,H',g,_,e⟩:=h1.snd _ _ _ _ he
     simp only [Option.some.injEq,Prod.mk.injEq] at e
     obtain ⟨rfl,rfl⟩:=e
     exact g
    | cons x xs =>
     have hy:(if (xs.length + 1) * bytes ≤ room∧xs.length + 1 ≤ room then some (.inr (.inr (x::xs))) else none)=some y:=hy
     split at hy
     ·rename_i hc
      have hy:=(Option.some.inj hy).symm
      subst hy
      obtain ⟨n,l,rfl,rfl,hr⟩:=hv x xs hc
      obtain ⟨r,H',g,_,e⟩:=h2.snd _ _ _ _ hr
      simp only [Option.some.injEq,Prod.mk.injEq] at e
      obtain ⟨rfl,rfl⟩:=e
      exact g
     ·cases hy
  exact key o hy
end Go.Rv
namespace Go.Rv
open Go.RowKit
variable {P:Program} {W0:World} {L:World->Prop}
abbrev Con:=Option (List (List AV))
def chain (Rd:Rnd) (K:Option SExit->Heap->Prop):List (List AV)->Heap->Prop
 | [],H=>K none H
 | x::l,H=>Rd x H (fun j H'=>match j with|none=>chain Rd K l H'|some e=>K (some e) H')
structure Lp where
 l:Nat
 rc:Loop
 Rd:Rnd
 K:Option SExit->Heap->Prop
 n:Nat
 φ:Nat->Nat
 g:Gh
 w:World
structure Lp.Ok (P:Program) (W0:World) (p:Lp):Prop where
 hl:p.w.heap[p.l]?=some (.loop p.rc)
 ol:p.g.ow p.l=none
 rd:yv727 P W0 p.l p.rc p.n p.φ p.g p.w p.Rd
structure Duo (W0:World) (p:Lp) (c:Con) (g:Gh) (w:World):Prop where
 ex:∃ φB gB H,Inv W0 gB w∧RepH W0.heap.size φB gB w H∧gB.lim=g.lim∧(∀ b,g.ow b=none∨gB.ow b=none)∧TrL p.l W0 p.n p.φ p.g p.w H.length φB gB w ∧
  match c with
  | some its=>chain p.Rd p.K its H∧w.heap[p.l]?=some (.loop p.rc)
  | none=>∃ e,p.K (some e) H∧w.heap[p.l]?=some (.loop (recJ p.rc (some e)))
 sa:∀ b,b < p.w.heap.size->p.g.ow b=none->g.ow b=none
theorem Duo.tr {p:Lp} {c:Con} {n n':Nat} {φ φ':Nat->Nat} {g g':Gh} {w w':World} (hp:p.Ok P W0) (t:Tr W0 n φ g w n' φ' g' w') (hi':Inv W0 g' w') (d:Duo W0 p c g w):Duo W0 p c g' w':=by
 obtain ⟨⟨φB,gB,H,i,h,hlim,dis,tl,hc⟩,sa⟩:=d
 have sa':∀ b,b < p.w.heap.size->p.g.ow b=none->g'.ow b=none∧w'.heap[b]?=w.heap[b]?∧g'.lim b=g.lim b:=fun b hb hn =>
  let ⟨a1,a2,a3⟩:=t.none b (Nat.lt_of_lt_of_le hb tl.ext.size) (sa b hb hn);⟨a3,a1,a2⟩
 have x:Ext W0.heap.size gB w ⟨g'.lim,gB.ow⟩ w':=⟨t.ext.size,fun b=>by rw [hlim];exact t.ext.lim b,fun b o hb hi=>t.ext.cell b o hb (hi.imp id (fun q=>by rw [hlim] at q;exact q)),t.ext.csz⟩
 have kp:∀ l',Keep W0.heap.size gB w ⟨g'.lim,gB.ow⟩ w' l' l':=fun l'=>⟨fun b hb=>by
  have:g.ow b=none:=(dis b).resolve_right (by rw [hb];simp)
  obtain ⟨a1,a2,a3⟩:=t.none b (ow_lt i hb) this
  exact ⟨a1,by rw [hlim];exact a2,hb⟩⟩
 refine ⟨⟨φB,⟨g'.lim,gB.ow⟩,H,⟨hi'.below,fun b hb=>⟨(i.old b hb).1,(hi'.old b hb).2⟩,fun b hb=>⟨(i.new b (Nat.le_trans t.ext.size hb)).1,(hi'.new b hb).2⟩⟩,
  fun id hid=>(h id hid).keep x (Nat.le_refl _) (fun _ _=>rfl) hid (kp _) (fun j=>⟨kp _,fun _=>kp _,fun _ _=>kp _⟩),rfl,fun b=>?_,?_,?_⟩,fun b hb hn=>(sa' b hb hn).1⟩
 ·cases hb:gB.ow b with
  | none=>exact .inr rfl
  | some m=>exact .inl (t.none b (ow_lt i hb) ((dis b).resolve_right (by rw [hb];simp))).2.2
 ·refine ⟨tl.ext.trans x,fun b hb hn=>?_,tl.len,tl.phi⟩
  obtain ⟨a1,a2,a3⟩:=tl.none b hb hn
  obtain ⟨b1,b2,b3⟩:=sa' b hb hn
  exact ⟨fun e=>b2.trans (a1 e),b3.trans ((congrFun hlim b).symm.trans a2),a3⟩
 ·have e:=(sa' p.l (Array.getElem?_eq_some_iff.1 hp.hl).1 hp.ol).2.1
  cases c with
  | some its=>exact ⟨hc.1,e.trans hc.2⟩
  | none=>obtain ⟨x,h1,h2⟩:=hc;exact ⟨x,h1,e.trans h2⟩
theorem yv578 {a:AV} (h:isRa a=true):calm a=true:=by
 cases a<;>first|rfl|exact h|cases h
theorem yv755 {base n n':Nat} {φ φ':Nat->Nat} {g g':Gh} {w:World} {l l':Loc} {a:AV} {v:Value} (ha:isRa a=true) (hr:yv16 a=[]) (hl:g'.lim=g.lim) (h:RepA base n φ g w l a v):RepA base n' φ' g' w l' a v:=by
 have h1:=h.mv (n':=n') (φ':=φ') (σ:=id) (Ext.refl base g w) KeepU.refl (fun i hi=>by rw [hr] at hi;cases hi)
 rw [ren_id'] at h1
 exact yv278 (Ext.lims hl) (Nat.le_refl _) (fun _ _=>rfl) (yv578 ha) h1
theorem yv619 {l:Nat} {args:Array Value} {w:World}:(invoke (.fn (.yield l) #[]) args).run P w=(Instr.yield l args).run P w:=by
 simp [invoke]
theorem yv534 {N:Nat} {ops:Array Oper} {o:Oper} {s:SOp} {φ:Nat->Nat} {g:Gh} {w:World} {H:Heap} {e:Env} {a:Act} {p:Lp} {xs:List AV} {its:List (List AV)} (hp:p.Ok P W0)
 (ok:yv277 P o s none=true) (fm:Form N ops o s) (hop:s.op=.call none) (hN:a.tmps.size=N) (h:SR W0 φ g w e H a.tmps) (d:Duo W0 p (some (xs::its)) g w)
 (hc:(rdAs e s.args).1=.clo (.yield p.l) [] []::xs) (hx:xs.all isRa=true) (hr:refsL xs=[]) (next:Act->World->Prop) (Q:Exit->Act->World->Prop)
 (hnext:∀ (b:Bool) v w' g',SR W0 φ g' w' (putD (rdAs e s.args).2 s.dst (.b b)) H (a.put o.dst v).tmps->Duo W0 p (if b then some its else none) g' w'->next (a.put o.dst v) w') :
 o.wpIn (FW none) 0 P a w next Q:=by
 obtain ⟨g1,us,r1,l1,c1,a1⟩:=yv225 s.args 0 g e h fm.args (by
  intro i x hx
  rcases fm.noc with hn|hn
  ·exact .inl (hn x (List.mem_of_getElem? hx))
  ·rw [hop] at hn;cases hn)
 have d1:=d.tr hp r1.tr r1.sr.inv
 obtain ⟨⟨φB,gB,HB,i,hh,hlim,dis,tl,hch,hrec⟩,sa⟩:=d1
 have hnd:∀ c,o.op ≠ .defer c:=fun c hc=>by simp [yv277,hc] at ok
 have key:∃ vs:List Value,(execOp a.eval o).run P w=(Instr.yield p.l vs.toArray).run P w∧vs.length=xs.length ∧
  ∀ (i:Nat) (x:AV) (u:Value),xs[i]?=some x->vs[i]?=some u->∀ m,RepA W0.heap.size HB.length φB gB w m x u:=by
  unfold yv277 at ok
  split at ok
  case h_2=>cases ok
  rename_i c hoc
  obtain ⟨cal,args,tys⟩:=c
  split at ok
  ·rename_i heq;cases heq
  ·rename_i t hcal _
   simp only at hcal;subst hcal
   cases hsa:s.args with
   | nil=>rw [hsa] at ok;simp [opds] at ok
   | cons x0 xs0 =>
    have hm:=yv113 ok l1 c1
    rw [hsa] at hc a1 l1
    cases us with
    | nil=>simp at l1
    | cons u0 us =>
     simp only [List.map_cons,List.cons.injEq] at hm
     obtain ⟨hm0,hm⟩:=hm
     rw [hc] at a1
     have hr0:=a1 0 _ u0 rfl rfl
     cases hr0 with
     | b _ _ hr0=>cases hr0 with
      | c _ _ hr0=>cases hr0 with
       | zero _ _ hr0=>cases hr0
       | clo _ _ _ vs1 us1 q1 q2 q3 q4 =>
        have e1:vs1=#[]:=Array.eq_empty_of_size_eq_zero (by rw [← q1];rfl)
        have e2:us1=#[]:=Array.eq_empty_of_size_eq_zero (by rw [← q2];rfl)
        subst e1 e2
        have hargs:args.map a.eval=us.toArray:=by apply Array.ext';rw [← hm];simp
        have hev:a.eval (.tmp t)=.func (.yield p.l) #[] #[]:=hm0
        refine ⟨us,?_,?_,?_⟩
        ·simp [execOp,hoc,resolve,Deferred.ofValue,hev,hargs,yv619]
        ·have:=congrArg List.length hc
         rw [yv162] at this
         simp at this l1;omega
        ·intro j x u p' q' m
         have:=a1 (j + 1) x u (by simpa using p') (by simpa using q')
         have hmem:=List.mem_of_getElem? p'
         refine yv755 (List.all_eq_true.1 hx x hmem) ?_ hlim this
         cases hrx:yv16 x with
         | nil=>rfl
         | cons y l=>have:=yv41 p' (id:=y) (by rw [hrx];simp);rw [hr] at this;cases this
  ·cases ok
 obtain ⟨vs,hrun,hvl,hva⟩:=key
 have htr:=tl.tr (hrec.trans hp.hl.symm)
 obtain ⟨hsz,hrd⟩:=hp.rd xs vs.toArray φB gB w HB _ hch i hh htr (by simpa using hvl) (fun i x u q1 q2 m=>hva i x u q1 (by simpa using q2) m)
 rw [run_yield hrec hsz] at hrun
 refine ⟨fun _ _=>trivial,?_⟩
 rw [Oper.semAt_eq _ _ _ hnd,hrun]
 refine ⟨fun h=>(by cases h),hrd.mono ?_⟩
 rintro en w2 ⟨j,φ2,g2,H2,rfl,hK,i2,h2,t2,hl2⟩
 have off:∀ b m,g1.ow b=some m->w2.heap[b]?=w.heap[b]?∧g2.lim b=g1.lim b∧g2.ow b=none:=fun b m hb=>by
  have hb2:gB.ow b=none:=(dis b).resolve_left (by rw [hb];simp)
  obtain ⟨a1,a2,a3⟩:=t2.none b (ow_lt r1.sr.inv hb) hb2
  refine ⟨a1 fun e=>?_,by rw [← hlim];exact a2,a3⟩
  have:=sa p.l (Array.getElem?_eq_some_iff.1 hp.hl).1 hp.ol
  rw [e,this] at hb;cases hb
 have x:Ext W0.heap.size g1 w ⟨g2.lim,g1.ow⟩ w2:=⟨t2.ext.size,fun b=>by rw [← hlim];exact t2.ext.lim b,fun b o hb hi=>t2.ext.cell b o hb (hi.imp id (fun q=>by rw [hlim];exact q)),t2.ext.csz⟩
 have kp:∀ l',Keep W0.heap.size g1 w ⟨g2.lim,g1.ow⟩ w2 l' l':=fun l'=>⟨fun b hb=>let ⟨a1,a2,_⟩:=off b _ hb;⟨a1,a2,hb⟩⟩
 have ku:∀ l',KeepU W0.heap.size g1 w ⟨g2.lim,g1.ow⟩ w2 l' l':=fun l'=>⟨kp _,fun _=>kp _,fun _ _=>kp _⟩
 have s3:SR W0 φ ⟨g2.lim,g1.ow⟩ w2 (rdAs e s.args).2 H a.tmps :=
  ⟨⟨i2.below,fun b hb=>⟨(r1.sr.inv.old b hb).1,(i2.old b hb).2⟩,fun b hb=>⟨(r1.sr.inv.new b (Nat.le_trans t2.ext.size hb)).1,(i2.new b hb).2⟩⟩,
   fun id hid=>(r1.sr.hp id hid).keep x (Nat.le_refl _) (fun _ _=>rfl) hid (kp _) (fun j=>ku _),fun t=>(r1.sr.env t).keep x (Nat.le_refl _) (fun _ _=>rfl) (ku _)⟩
 have d3:Duo W0 p (if j.isNone then some its else none) ⟨g2.lim,g1.ow⟩ w2:=by
  refine ⟨⟨φ2,g2,H2,i2,h2,rfl,fun b=>?_,tl.trans t2,?_⟩,sa⟩
  ·cases hb:g1.ow b with
   | none=>exact .inl rfl
   | some m=>exact .inr (off b m hb).2.2
  ·cases j with
   | none=>exact ⟨hK,hl2⟩
   | some e=>exact ⟨e,hK,hl2⟩
 obtain ⟨g4,s4,t4⟩:=s3.put rfl (Post.same s3.inv s3.hp (RepA.lit rfl)) (d:=s.dst) (r:=.b j.isNone) (v:=.bool j.isNone) (fun t ht=>by rw [hN];exact fm.lt t ht)
 exact hnext j.isNone _ w2 g4 (by rw [Act.put_tmps,fm.dst];exact s4) (d3.tr hp t4 s4.inv)
def wpOI (P:Program) (L:World->Prop) (l:Nat):List SOp->(St->Con->Prop)->St->Con->Prop
 | [],K,s,c=>K s c
 | o::os,K,s,c=>wpO P L [o] (fun s=>wpOI P L l os K s c) s ∨
  (o.guard=none∧o.op=.call none∧∃ xs its,(rdAs s.env o.args).1=.clo (.yield l) [] []::xs∧xs.all isRa=true∧refsL xs=[]∧c=some (xs::its) ∧
   ∀ b,wpOI P L l os K ⟨putD (rdAs s.env o.args).2 o.dst (.b b),s.heap⟩ (if b then some its else none))
def wpI (P:Program) (L:World->Prop) (l:Nat):SCode->(SExit->St->Con->Prop)->St->Con->Prop
 | .reg ops none,Q,s,c=>wpOI P L l ops (Q .normal) s c
 | .seq a b,Q,s,c=>wpI P L l a (fun e s c=>match e with|.normal=>wpI P L l b Q s c|e=>Q e s c) s c
 | .cond t a b,Q,s,c=>match lk s.env t with
  | .pv (.lit (.bool x))=>if x then wpI P L l a Q s c else wpI P L l b Q s c
  | _=>False
 | .block id b,Q,s,c=>wpI P L l b (fun e s c=>match e with|.exit i=>if i=id then Q .normal s c else Q (.exit i) s c|e=>Q e s c) s c
 | .loop b,Q,s,c=>∃ I:Nat->St->Con->Prop,(∃ n,I n s c)∧∀ n s c,I n s c->wpI P L l b (fun e s c=>match e with|.normal=>∃ m,m < n∧I m s c|e=>Q e s c) s c
 | .drop ts a,Q,s,c=>wpI P L l a Q ⟨dropL ts s.env,s.heap⟩ c
 | .fin k a,Q,s,c=>wpI P L l a (fun e s1 c=>match e with|.normal=>∃ s2,admS s1 s2∧k ≤ s2.heap.length∧Q .normal s2 c|e=>Q e s1 c) s c
 | .weak k a,Q,s,c=>∃ s',admS s s'∧k ≤ s'.heap.length∧wpI P L l a Q s' c
 | x,Q,s,c=>noR x=true∧wkOk s.heap.length x=true∧wpS P L x (fun e s=>Q e s c) s
structure AtI (W0:World) (p:Lp) (N:Nat) (s:St) (c:Con) (a:Act) (w:World):Prop where
 ex:∃ φ g,SR W0 φ g w s.env s.heap a.tmps∧Duo W0 p c g w
 size:a.tmps.size=N
 df:a.defers=[]
def QI (W0:World) (p:Lp) (N:Nat) (Q:SExit->St->Con->Prop):Exit->Act->World->Prop
 | .normal,a,w=>∃ s c,Q .normal s c∧AtI W0 p N s c a w
 | .exit i,a,w=>∃ s c,Q (.exit i) s c∧AtI W0 p N s c a w
 | .ret,a,w=>∃ s c,Q .ret s c∧AtI W0 p N s c a w
 | _,_,_=>False
theorem yv588 {F:Fence} {n:Nat} {o:Oper} {a:Act} {w:World} {K K':Act->World->Prop} {Q Q':Exit->Act->World->Prop} (hk:∀ a w,K a w->K' a w) (hx:∀ e a w,e ≠ .normal->Q e a w->Q' e a w) (h:o.wpIn F n P a w K Q):o.wpIn F n P a w K' Q':=by
 refine ⟨h.1,?_⟩
 have h:=h.2
 generalize (o.semAt F.round a.eval).run P w=r at *
 have out:∀ (e:Ending) (w'':World),(match e,w'' with|.returned v,w''=>K (a.put o.dst v) w''|.panicked chain,w''=>Q (.panic chain) a w''|.outgrown,_=>LetsOut Q) ->
  (match e,w'' with|.returned v,w''=>K' (a.put o.dst v) w''|.panicked chain,w''=>Q' (.panic chain) a w''|.outgrown,_=>LetsOut Q'):=by
  intro e w'' hq
  cases e with
  | returned v=>exact hk _ _ hq
  | panicked ch=>exact hx _ _ _ nofun hq
  | outgrown=>obtain ⟨a,w,q⟩:=hq;exact ⟨a,w,hx _ _ _ nofun q⟩
 cases r with
 | ok nx w' =>
  cases nx with
  | value v=>exact hk _ _ h
  | skip=>exact hk _ _ h
  | defer d=>exact hk _ _ h
  | enter f args=>exact ⟨h.1,h.2.mono out⟩
  | row r args=>exact ⟨h.1,h.2.mono fun _ _=>hk _ _⟩
  | round l f t x y=>exact ⟨h.1,h.2.mono out⟩
  | _=>exact h.elim
 | halt x w' =>
  cases x with
  | panic v=>exact hx _ _ _ nofun h
  | _=>exact h.elim
theorem yv378 {F:Fence} {n:Nat} {ops:Array Oper} {Q Q':Exit->Act->World->Prop} {i:Nat} {is:List Nat} {a:Act} {w:World} (hq:∀ a w,Q' .normal a w->wpOpsIn F n P ops Q is a w)
 (hx:∀ e a w,e ≠ .normal->Q' e a w->Q e a w) (h:wpOpsIn F n P ops Q' [i] a w):wpOpsIn F n P ops Q (i::is) a w:=by
 simp only [wpOpsIn] at h ⊢
 split at h
 ·exact hq _ _ h
 ·split at h
  ·rename_i hw
   rw [if_pos hw]
   exact yv588 hq hx h
  ·rename_i hw
   rw [if_neg hw]
   exact ⟨h.1,hq _ _ h.2⟩
theorem AtI.at {p:Lp} {N:Nat} {s:St} {c:Con} {a:Act} {w:World} (h:AtI W0 p N s c a w):∃ φ g,At W0 s.heap.length φ g w none N s a w∧Duo W0 p c g w :=
 let ⟨φ,g,h1,h2⟩:=h.ex;⟨φ,g,⟨⟨φ,g,h1,Tr.refl,h.df⟩,h.size,nofun⟩,h2⟩
theorem AtI.of {p:Lp} {n N:Nat} {φ:Nat->Nat} {g:Gh} {s:St} {c:Con} {a:Act} {w w':World} (hp:p.Ok P W0) (h:At W0 n φ g w none N s a w') (d:Duo W0 p c g w):AtI W0 p N s c a w' :=
 let ⟨φ',g',h1,h2,h3⟩:=h.ex;⟨⟨φ',g',h1,d.tr hp h2 h1.inv⟩,h.size,h3⟩
theorem yv532 {p:Lp} {N:Nat} {ops:Array Oper} {sops:List SOp} {K:St->Con->Prop} {Q:Exit->Act->World->Prop} (hL:L W0) (hp:p.Ok P W0)
 (hall:∀ (i:Nat) (o:Oper) (s:SOp),ops[i]?=some o->sops[i]?=some s->opOk P N ops o s=true) (hlen:sops.length=ops.size)
 (hq:∀ s c a w,K s c->AtI W0 p N s c a w->Q .normal a w) :
 ∀ (is:List Nat) (ss:List SOp) (s:St) (c:Con) (a:Act) (w:World),ss.map some=is.map (fun i=>sops[i]?)->wpOI P L p.l ss K s c->AtI W0 p N s c a w->wpOpsIn (FW none) 0 P ops Q is a w:=by
 intro is
 induction is with
 | nil =>
  intro ss s c a w hss hw hat
  simp at hss
  subst hss
  exact hq s c a w hw hat
 | cons i is ih =>
  intro ss s c a w hss hw hat
  cases ss with
  | nil=>simp at hss
  | cons so ss =>
   simp only [List.map_cons,List.cons.injEq] at hss
   obtain ⟨he1,he2⟩:=hss
   rcases hw with hw|⟨hg,hop,xs,its,h1,h2,h3,rfl,h4⟩
   ·obtain ⟨φ,g,at1,d⟩:=hat.at
    refine yv378 (Q':=fun e a w=>match e with|.normal=>wpOpsIn (FW none) 0 P ops Q is a w|e=>Q e a w) (fun _ _ h=>h) (fun e a w hne h=>by cases e<;>first|exact absurd rfl hne|exact h) ?_
    exact yv233 (K:=fun s=>wpOI P L p.l ss K s c) hL hall hlen (fun s' a' w' hk hat'=>ih ss s' c a' w' he2 hk (.of hp hat' d)) [i] [so] s a w (by simp [he1]) hw at1
   ·have hi:i < sops.length:=(List.getElem?_eq_some_iff.1 he1.symm).1
    have ho:ops[i]?=some ops[i]:=by simp [hlen ▸ hi]
    have hok:=hall i _ so ho he1.symm
    simp only [opOk,Bool.and_eq_true,hop] at hok
    have fm:=yv187 hok.1
    have hgn:ops[i].guard=none:=by
     rcases fm.guard with ⟨q,_⟩|⟨j,wn,t,_,q,_⟩
     ·exact q
     ·rw [hg] at q;cases q
    obtain ⟨⟨φ,g,sr,d⟩,hN,hdf⟩:=hat
    simp only [wpOpsIn,ho]
    rw [if_pos (by simp [Region.wanted,hgn])]
    refine yv534 hp hok.2 fm hop hN sr d h1 h2 h3 _ _ fun b v w' g' sr' d'=>?_
    exact ih ss _ _ _ w' he2 (h4 b) ⟨⟨φ,g',sr',d'⟩,by rw [Act.put_tmps,yv224];exact hN,by rw [Act.put_defers];exact hdf⟩
theorem yv49 {p:Lp} {N:Nat} {Q:SExit->St->Con->Prop}:∀ {c:Code} {a:Act} {w:World},(yv13 c).wpIn (FW none) 0 P (QI W0 p N Q) a w->c.wpIn (FW none) 0 P (QI W0 p N Q) a w:=by
 intro c
 induction c with
 | scope x ih =>
  intro a w h
  refine yv272 (wpIn_mono (ih h) ?_)
  intro e a' w' h
  cases e<;>first|exact h|exact h.elim
 | _=>intro a w h;exact h
theorem yv618 {p:Lp} {N:Nat} (hL:L W0) (hp:p.Ok P W0):∀ (sc:SCode) (c:Code) (Q:SExit->St->Con->Prop) (s:St) (con:Con) (a:Act) (w:World),yv23 P N sc c=true->wpI P L p.l sc Q s con->AtI W0 p N s con a w->c.wpIn (FW none) 0 P (QI W0 p N Q) a w:=by
 have back:∀ (sc:SCode) (c:Code) (Q:SExit->St->Con->Prop) (s:St) (con:Con) (a:Act) (w:World),noR sc=true->wkOk s.heap.length sc=true->yv23 P N sc c=true->wpS P L sc (fun e s=>Q e s con) s->AtI W0 p N s con a w->c.wpIn (FW none) 0 P (QI W0 p N Q) a w:=by
  intro sc c Q s con a w hr hk hm hw hat
  obtain ⟨φ,g,at1,d⟩:=hat.at
  refine wpIn_mono (yv238 hL sc c _ s a w (.inr hr) hk hm hw at1) ?_
  intro e a' w' h
  cases e with
  | normal=>obtain ⟨s',h1,h2⟩:=h;exact ⟨s',con,h1,.of hp h2 d⟩
  | exit i=>obtain ⟨s',h1,h2⟩:=h;exact ⟨s',con,h1,.of hp h2 d⟩
  | ret=>obtain ⟨s',h1,h2⟩:=h;exact ⟨s',con,h1,.of hp h2 d⟩
  | _=>exact h.elim
 intro sc
 induction sc with
 | reg ss d =>
  intro c Q s con a w hm hw hat
  cases d with
  | some us=>exact back _ c Q s con a w hw.1 hw.2.1 hm hw.2.2 hat
  | none =>
   refine yv49 ?_
   simp only [yv23] at hm
   generalize yv13 c=u at hm ⊢
   split at hm
   case h_2=>cases hm
   rename_i ops draw
   simp only [Bool.and_eq_true,beq_iff_eq] at hm
   obtain ⟨⟨hdr,_⟩,hm⟩:=hm
   obtain ⟨h1,h2⟩:=yv219 hm
   have h1':ss.length=ops.size:=by simpa using h1
   subst hdr
   refine wpIn_region (yv532 (K:=Q .normal) (sops:=ss) hL hp (fun i o s p q=>h2 i o s (by simpa using p) q) h1' (fun s c a w hk hat=>⟨s,c,hk,hat⟩) _ ss s con a w ?_ hw hat)
   apply List.ext_getElem?
   intro i
   simp only [List.getElem?_map]
   by_cases hi:i < ops.size
   ·rw [List.getElem?_range hi]
    have:i < ss.length:=by omega
    simp [List.getElem?_eq_getElem this]
   ·rw [List.getElem?_eq_none (by omega),List.getElem?_eq_none (by simp;omega)];rfl
 | seq x y ihx ihy =>
  intro c Q s con a w hm hw hat
  refine yv49 ?_
  simp only [yv23] at hm
  generalize yv13 c=u at hm ⊢
  split at hm
  case h_2=>cases hm
  simp only [Bool.and_eq_true] at hm
  refine wpIn_seq (wpIn_mono (ihx _ _ s con a w hm.1 hw hat) ?_)
  intro e a' w' h
  cases e with
  | normal=>obtain ⟨s',c',h1,h2⟩:=h;exact ihy _ Q s' c' a' w' hm.2 h1 h2
  | exit i=>exact h
  | ret=>exact h
  | _=>exact h.elim
 | cond t x y ihx ihy =>
  intro c Q s con a w hm hw hat
  refine yv49 ?_
  simp only [yv23] at hm
  generalize yv13 c=u at hm ⊢
  split at hm
  case h_2=>cases hm
  simp only [Bool.and_eq_true,beq_iff_eq] at hm
  obtain ⟨⟨rfl,hm1⟩,hm2⟩:=hm
  simp only [wpI] at hw
  split at hw
  case h_2=>exact hw.elim
  rename_i b hb
  obtain ⟨φ,g,hsr,_⟩:=hat.ex
  have ht:=hsr.env t
  rw [hb] at ht
  obtain ⟨hv,_⟩:=ht.of_lit
  exact wpIn_cond_split (t:=b) hv (fun h=>ihx _ Q s con a w hm1 (by rw [if_pos h] at hw;exact hw) hat) (fun h=>ihy _ Q s con a w hm2 (by rw [h] at hw;exact hw) hat)
 | block i x ih =>
  intro c Q s con a w hm hw hat
  refine yv49 ?_
  simp only [yv23] at hm
  generalize yv13 c=u at hm ⊢
  split at hm
  case h_2=>cases hm
  simp only [Bool.and_eq_true,beq_iff_eq] at hm
  obtain ⟨rfl,hm⟩:=hm
  refine wpIn_block (wpIn_mono (ih _ _ s con a w hm hw hat) ?_)
  intro e a' w' h
  cases e with
  | normal=>exact h
  | exit k =>
   obtain ⟨s',c',h1,h2⟩:=h
   simp only at h1
   simp only [Exit.inBlock]
   split
   ·rename_i hk;rw [if_pos hk] at h1;exact ⟨s',c',h1,h2⟩
   ·rename_i hk;rw [if_neg hk] at h1;exact ⟨s',c',h1,h2⟩
  | ret=>exact h
  | _=>exact h.elim
 | loop x ih =>
  intro c Q s con a w hm hw hat
  refine yv49 ?_
  simp only [yv23] at hm
  generalize yv13 c=u at hm ⊢
  split at hm
  case h_2=>cases hm
  obtain ⟨I,⟨n0',hI⟩,hround⟩:=hw
  refine wpIn_loop_ghost (fun m a w=>∃ s c,I m s c∧AtI W0 p N s c a w) n0' ⟨s,con,hI,hat⟩ ?_
  rintro m a w ⟨s,con,hI,hat⟩
  refine wpIn_mono (ih _ _ s con a w hm (hround m s con hI) hat) ?_
  intro e a' w' h
  cases e with
  | normal=>obtain ⟨s',c',⟨m',h1,h1'⟩,h2⟩:=h;exact ⟨m',h1,s',c',h1',h2⟩
  | exit i=>exact h
  | ret=>exact h
  | _=>exact h.elim
 | drop ts x ih =>
  intro c Q s con a w hm hw hat
  exact ih c Q _ con a w hm hw ⟨let ⟨φ,g,h1,h2⟩:=hat.ex;⟨φ,g,yv282 h1,h2⟩,hat.size,hat.df⟩
 | weak k x ih =>
  intro c Q s con a w hm hw hat
  obtain ⟨s',hx,_,hw⟩:=hw
  exact ih c Q s' con a w hm hw ⟨let ⟨φ,g,h1,h2⟩:=hat.ex;⟨φ,g,h1.weak hx,h2⟩,hat.size,hat.df⟩
 | fin k x ih =>
  intro c Q s con a w hm hw hat
  refine wpIn_mono (ih c _ s con a w hm hw hat) ?_
  intro e a' w' h
  cases e with
  | normal =>
   obtain ⟨s1,c1,⟨s2,h1,_,h3⟩,hat'⟩:=h
   exact ⟨s2,c1,h3,let ⟨φ,g,q1,q2⟩:=hat'.ex;⟨φ,g,q1.weak h1,q2⟩,hat'.size,hat'.df⟩
  | exit i=>exact h
  | ret=>exact h
  | _=>exact h.elim
 | _=>intro c Q s con a w hm hw hat;exact back _ c Q s con a w hw.1 hw.2.1 hm hw.2.2 hat
end Go.Rv
namespace Go.Rv
open Go.RowKit
section
variable {P:Program} {W0:World} {L:World->Prop}
def offH:List Nat->Heap->Heap
 | [],h=>h
 | i::l,h=>offH l (hset h i [])
theorem yv292:∀ {l:List Nat} {h:Heap},(offH l h).length=h.length
 | [],_=>rfl
 | i::l,h=>by rw [offH,yv292,yv6]
theorem yv481:∀ {l:List Nat} {h:Heap} {id:Nat},(∀ i ∈ l,i < h.length)->hget (offH l h) id=if l.contains id then [] else hget h id
 | [],_,_,_=>rfl
 | i::l,h,id,hl=>by
  rw [offH,yv481 fun j hj=>by rw [yv6];exact hl j (by simp [hj])]
  by_cases he:id=i
  ·subst he
   simp [yv8 (hl id (by simp))]
  ·rw [yv4 he]
   have hne:(id == i)=false:=by simpa using he
   simp only [List.contains_cons,hne,Bool.false_or]
def endI (e:SExit) (_:St) (c:Con):Prop:=(e=.normal∨e=.ret)∧(c=some []∨c=none)
theorem yv368 {f:FuncId} {fn:Func} {sf:SFn} {cs:List AV} {H:Heap} {l:List Nat} {Rd:Rnd} {K:Option SExit->Heap->Prop} {its:List (List AV)} (hf:P.funcs[f]?=some fn) (hok:fnOk P fn sf=true) (hres:sf.res=[]) (hn:cs.length + 1 ≤ sf.n)
 (hc:yv32 H l cs=true) (hch:chain Rd K its (offH l H)) (s0:Nat->St) (hadm:∀ lb,admS ⟨(0,.clo (.yield lb) [] [])::yv99 1 (renL (posOf l) cs),yv11 H l⟩ (s0 lb))
 (hw:∀ lb,wpI P L lb sf.body endI (s0 lb) (some its)):IterG P L f cs H Rd K:=by
 intro W0 hL φ g w us lb rc hi hh hus hrep hl hst hpd hol hWl hrd
 have hp:Lp.Ok P W0 ⟨lb,rc,Rd,K,H.length,φ,g,w⟩:=⟨hl,hol,hrd⟩
 simp only [fnOk,Bool.and_eq_true,beq_iff_eq] at hok
 obtain ⟨⟨hm,hnt⟩,hr⟩:=hok
 split at hm
 case h_2=>cases hm
 rename_i c hcb
 simp only [yv32,Bool.and_eq_true,List.all_eq_true,decide_eq_true_eq] at hc
 obtain ⟨⟨hc1,hc2⟩,hc3⟩:=hc
 have hnd:=yv112 hc3
 have hsub:(yv11 H l).length=l.length:=by simp [yv11]
 have hσ:∀ id,l.contains id=true->id < H.length->posOf l id < l.length∧φ (l.getD (posOf l id) 0)=φ id:=fun id h _=>by
  obtain ⟨h1,h2⟩:=yv220 h
  exact ⟨h1,by rw [h2]⟩
 have xc:Ext W0.heap.size g w (g.toC l) w:=Ext.lims rfl
 have hinvc:Inv W0 (g.toC l) w:=⟨hi.below,fun b hb=>⟨by simp [Gh.toC,(hi.old b hb).1],(hi.old b hb).2⟩,fun b hb=>⟨by simp [Gh.toC,(hi.new b hb).1],(hi.new b hb).2⟩⟩
 have hhc:RepH W0.heap.size (fun j=>φ (l.getD j 0)) (g.toC l) w (yv11 H l):=by
  intro j hj
  rw [hsub] at hj ⊢
  have hid:l[j]?=some (l.getD j 0):=by simp [List.getD,hj]
  have hmem:l.contains (l.getD j 0)=true:=by simpa using List.mem_of_getElem? hid
  have hpos:posOf l (l.getD j 0)=j:=by
   have h1:l.getD j 0=l[j]:=by simp [List.getD,hj]
   rw [h1]
   exact hnd.idxOf_getElem j hj
  obtain ⟨hlt,hcl⟩:=hc2 (l.getD j 0) (by simpa using hmem)
  have hob:hget (yv11 H l) j=renL (posOf l) (hget H (l.getD j 0)):=by
   rw [yv19];simp [yv11,hj,List.getD]
  rw [hob]
  refine (hh _ hlt).mv xc rfl ⟨fun b h=>⟨rfl,rfl,yv87 h ?_⟩⟩ (fun k=>⟨fun b h=>⟨rfl,rfl,yv87 h ?_⟩⟩) (fun i hi' hin=>hσ i (hcl i hi') hin)
  ·rw [Loc.toC,if_pos hmem,hpos]
  ·rw [Loc.toC,if_pos hmem,hpos]
 obtain ⟨gB,hgB⟩:∃ gB:Gh,gB=⟨g.lim,fun b=>if ((g.toC l).ow b).isSome then none else g.ow b⟩:=⟨_,rfl⟩
 have eB:∀ {b m},g.ow b=some m->m.toC l=none->gB.ow b=some m:=fun {b m} h1 h2=>by rw [hgB];simp [Gh.toC,h1,h2]
 have nB:∀ {b},g.ow b=none->gB.ow b=none:=fun {b} h=>by rw [hgB];simp [h]
 have xB:Ext W0.heap.size g w gB w:=Ext.lims (by rw [hgB])
 have hlt:∀ i ∈ l,i < H.length:=fun i hi'=>(hc2 i hi').1
 have hhB:RepH W0.heap.size φ gB w (offH l H):=by
  intro id hid
  rw [yv292] at hid ⊢
  rw [yv481 hlt]
  by_cases hm:l.contains id=true
  ·rw [if_pos hm];exact ⟨.inl rfl⟩
  ·rw [if_neg hm]
   have hm':l.contains id=false:=by simpa using hm
   refine (hh id hid).keep xB (Nat.le_refl _) (fun _ _=>rfl) hid ⟨fun b h=>⟨rfl,by rw [hgB],eB h ?_⟩⟩ (fun j=>⟨⟨fun b h=>⟨rfl,by rw [hgB],eB h ?_⟩⟩,fun k=>⟨fun b h=>⟨rfl,by rw [hgB],eB h ?_⟩⟩,fun k m=>⟨fun b h=>⟨rfl,by rw [hgB],eB h ?_⟩⟩⟩)
   all_goals simp only [Loc.toC];rw [if_neg hm];try rfl
 have d0:Duo W0 ⟨lb,rc,Rd,K,H.length,φ,g,w⟩ (some its) (g.toC l) w:=by
  refine ⟨⟨φ,gB,offH l H,⟨hi.below,fun b hb=>⟨nB (hi.old b hb).1,by rw [hgB];exact (hi.old b hb).2⟩,fun b hb=>⟨nB (hi.new b hb).1,by rw [hgB];exact (hi.new b hb).2⟩⟩,hhB,by rw [hgB];rfl,fun b=>?_,
   ⟨xB,fun b _ hn=>⟨fun _=>rfl,by rw [hgB],nB hn⟩,by rw [yv292];exact Nat.le_refl _,fun _ _=>rfl⟩,hch,hl⟩,fun b _ hn=>by have hn:g.ow b=none:=hn;simp [Gh.toC,hn]⟩
  cases ho:(g.toC l).ow b with
  | none=>exact .inl rfl
  | some m=>right;rw [hgB];simp [ho]
 have sr0:SR W0 (fun j=>φ (l.getD j 0)) (g.toC l) w ((0,.clo (.yield lb) [] [])::yv99 1 (renL (posOf l) cs)) (yv11 H l) ((#[Value.func (.yield lb) #[] #[]]++us)++Array.replicate (fn.ntmps - (#[Value.func (.yield lb) #[] #[]]++us).size) undef):=by
  refine ⟨hinvc,hhc,fun t=>?_⟩
  simp only [lk]
  split
  ·rename_i ht
   subst ht
   have:((#[Value.func (.yield lb) #[] #[]]++us)++Array.replicate (fn.ntmps - (#[Value.func (.yield lb) #[] #[]]++us).size) undef).getD 0 undef=.func (.yield lb) #[] #[]:=by
    simp [Array.getD_eq_getD_getElem?,Array.getElem?_append]
   rw [this]
   exact .b _ _ (.c _ _ (.clo _ _ _ _ _ rfl rfl (fun i a v p=>by simp at p) (fun i a v p=>by simp at p)))
  ·rename_i ht
   rw [yv138]
   split
   ·cases ha:(renL (posOf l) cs)[t - 1]? with
    | none=>exact RepA.junk
    | some a =>
     obtain ⟨b,e1,rfl⟩:=yv164 ha
     have hlt:t - 1 < us.size:=by rw [hus];exact (List.getElem?_eq_some_iff.1 e1).1
     have:=hrep (t - 1) b us[t - 1] e1 (by simp [hlt])
     have he:((#[Value.func (.yield lb) #[] #[]]++us)++Array.replicate (fn.ntmps - (#[Value.func (.yield lb) #[] #[]]++us).size) undef).getD t undef=us[t - 1]:=by
      rw [Array.getD_eq_getD_getElem?,Array.getElem?_append_left (by simp;omega),Array.getElem?_append_right (by simp;omega)]
      simp [hlt]
     simp only [Option.getD_some]
     rw [he,hsub]
     exact .r0 (this.mv xc fun id hid hin=>hσ id (hc1 id (yv41 e1 hid)) hin)
   ·exact RepA.junk
 refine callsIn_of_wp_marks hf hcb trivial (wpIn_mono (yv618 hL hp sf.body c _ (s0 lb) _ _ w hm (hw lb) ⟨⟨_,_,sr0.weak (hadm lb),d0⟩,?_,rfl⟩) ?_) rfl
 ·simp [hus];omega
 ·have key:∀ (a:Act) (w':World),(∃ s c,endI .ret s c∧AtI W0 ⟨lb,rc,Rd,K,H.length,φ,g,w⟩ sf.n s c a w') ->
   LeavesInM (FW none) 0 P fn a.tmps (fun e w'=>∃ v j φ' g' H',e=.returned v∧K j H'∧Inv W0 g' w'∧RepH W0.heap.size φ' g' w' H'∧TrL lb W0 H.length φ g w H'.length φ' g' w'∧w'.heap[lb]?=some (.loop (recJ rc j))) a.defers .returning w':=by
   rintro a w' ⟨s,c,⟨_,hcc⟩,⟨_,gA,_,⟨⟨φB,g2,H2,i2,h2,_,_,t2,hx⟩,_⟩⟩,_,hdf⟩
   rw [hdf]
   have h0:fn.results.toList=[]:=by
    rw [hres] at hr
    cases hq:fn.results.toList with
    | nil=>rfl
    | cons x xs=>rw [hq] at hr;cases x<;>simp [resOk] at hr
   refine ⟨_,yv197 (us:=[]) (by rw [h0];rfl) (fun i f u p=>by rw [h0] at p;simp at p),?_⟩
   rcases hcc with rfl|rfl
   ·exact ⟨_,none,φB,g2,H2,rfl,hx.1,i2,h2,t2,hx.2⟩
   ·obtain ⟨e,q1,q2⟩:=hx
    exact ⟨_,some e,φB,g2,H2,rfl,q1,i2,h2,t2,q2⟩
  intro e a w' hq
  cases e with
  | normal=>obtain ⟨s,c,⟨_,q⟩,h⟩:=hq;exact key a w' ⟨s,c,⟨.inr rfl,q⟩,h⟩
  | ret=>exact key a w' hq
  | exit i=>obtain ⟨s,c,⟨q,_⟩,_⟩:=hq;rcases q with q|q<;>cases q
  | _=>exact hq.elim
end
end Go.Rv
namespace Go.Rv
open Go.RowKit
variable {T:Nat->Type} {tb:Tab T} {P:Program} {W:World->Prop} {orcs:Orcs T}
def yOf (o:TSOp T) (s:TSt T):Option (Nat × List (TV T)) :=
 match o.guard,o.op,(rdTs s.env o.args).1 with
 | none,.call none _,.yl l::xs=>if xs.all isRaT && (yv66 xs).isEmpty then some (l,xs) else none
 | _,_,_=>none
section
variable {ρ:Type}
def runOI (tb:Tab T) (orcs:Orcs T) (y:Nat->List (TV T)->(Bool->Option ρ)->Option ρ):List (TSOp T)->TSt T->(TSt T->Option ρ)->Option ρ
 | [],s,k=>k s
 | o::os,s,k=>match yOf o s with
  | some p=>y p.1 p.2 fun b=>runOI tb orcs y os ⟨putDT (rdTs s.env o.args).2 o.dst (.b b),s.heap⟩ k
  | none=>runO tb orcs [o] s fun s=>runOI tb orcs y os s k
def runI (tb:Tab T) (orcs:Orcs T) (y:Nat->List (TV T)->(Bool->Option ρ)->Option ρ):TCode T->TSt T->(SExit->TSt T->Option ρ)->Option ρ
 | .skip,s,k=>k .normal s
 | .exit i,s,k=>k (.exit i) s
 | .ret,s,k=>k .ret s
 | .reg ops none,s,k=>runOI tb orcs y ops s (k .normal)
 | .seq a b,s,k=>runI tb orcs y a s fun e s=>match e with
  | .normal=>runI tb orcs y b s k
  | e=>k e s
 | .cond c a b,s,k=>match lkT s.env c with
  | .b x=>if x then runI tb orcs y a s k else runI tb orcs y b s k
  | _=>none
 | .block id b,s,k=>runI tb orcs y b s fun e s=>match e with
  | .exit i=>if Nat.beq i id then k .normal s else k (.exit i) s
  | e=>k e s
 | .drop ts c,s,k=>runI tb orcs y c ⟨yv174 ts s.env,s.heap⟩ k
 | .fin _ o c,s,k=>runI tb orcs y c s fun e s=>match e with
  | .normal=>o.run s k
  | e=>k e s
 | _,_,_=>none
end
def stopB {Z Y:Type} (r:Z ⊕ Y):Bool:=match r with|.inl _=>false|.inr _=>true
def hand {X Z Y:Type} (x:X) (kk:Bool->Option (List X × (Z ⊕ Y))):Option (List X × (Z ⊕ Y)) :=
 (kk false).bind fun r=>if r.1.isEmpty && stopB r.2 then (kk true).bind fun q=>some (x::q.1,q.2) else none
theorem yv751 {X Z Y:Type} {x:X} {kk:Bool->Option (List X × (Z ⊕ Y))} {d:List X × (Z ⊕ Y)} (h:hand x kk=some d):∃ y q,kk false=some ([],.inr y)∧kk true=some q∧d=(x::q.1,q.2):=by
 obtain ⟨r,h1,h⟩:=yv3 h
 split at h
 ·rename_i hb
  obtain ⟨q,h2,h⟩:=yv3 h
  cases h
  obtain ⟨l,z⟩:=r
  cases l with
  | cons a l=>simp at hb
  | nil=>cases z with
   | inl z=>simp [stopB] at hb
   | inr y=>exact ⟨y,q,h1,h2,rfl⟩
 ·cases h
section
variable {X Z Y:Type} {xv:X->List (TV T)}
def RelI (tb:Tab T) (xv:X->List (TV T)) (r:Z ⊕ Y) (rest:List (List AV)) (d:List X × (Z ⊕ Y)) (c:Con):Prop :=
 (c=some (d.1.map (fun x=>avL tb (xv x))++rest)∧d.2=r)∨(c=none∧d.1=[]∧stopB d.2=true)
noncomputable def y0 (xv:X->List (TV T)) (lb:Nat) (l:Nat) (xs:List (TV T)) (kk:Bool->Option (List X × (Z ⊕ Y))):Option (List X × (Z ⊕ Y)) :=
 @dite _ (l=lb∧∃ x,xv x=xs) (Classical.propDecidable _) (fun h=>hand h.2.choose kk) fun _=>none
theorem y0_eq (hinj:∀ x x',xv x=xv x'->x=x') {lb:Nat} {x:X} {kk:Bool->Option (List X × (Z ⊕ Y))}:y0 xv lb lb (xv x) kk=hand x kk:=by
 have h:lb=lb∧∃ x',xv x'=xv x:=⟨rfl,x,rfl⟩
 unfold y0
 rw [dif_pos h,hinj _ _ h.2.choose_spec]
variable {r:Z ⊕ Y} {rest:List (List AV)} {lb:Nat}
theorem yv139 (ok:tb.Ok) (ho:yv39 P W tb orcs) {k:TSt T->Option (List X × (Z ⊕ Y))}:∀ {ops:List (TSOp T)} {s:TSt T} {d:List X × (Z ⊕ Y)} {c:Con},runOI tb orcs (y0 xv lb) ops s k=some d->RelI tb xv r rest d c ->
 wpOI P W lb (ops.map (erS tb)) (fun s' c'=>∃ t d',s'=avS tb t∧k t=some d'∧RelI tb xv r rest d' c') (avS tb s) c
 | [],s,d,c,h,hr=>⟨s,d,rfl,h,hr⟩
 | o::os,s,d,c,h,hr=>by
  simp only [runOI] at h
  split at h
  ·rename_i p hy
   obtain ⟨l,xs⟩:=p
   simp only [y0] at h
   split at h
   case isFalse=>cases h
   rename_i hx
   obtain ⟨y,q,h1,h2,rfl⟩:=yv751 h
   have hxs:=hx.2.choose_spec
   have hlb:=hx.1
   unfold yOf at hy
   split at hy
   case h_2=>cases hy
   rename_i i l' xs' hg hop ha
   split at hy
   case isFalse=>cases hy
   rename_i hb
   simp only [Option.some.injEq,Prod.mk.injEq] at hy
   obtain ⟨rfl,rfl⟩:=hy
   simp only [Bool.and_eq_true] at hb
   rcases hr with ⟨rfl,hr⟩|⟨_,hn,_⟩
   case inr=>cases hn
   refine .inr ⟨hg,by simp only [erS,hop];rfl,avL tb xs',q.1.map (fun x=>avL tb (xv x))++rest,?_,?_,?_,?_,?_⟩
   ·simp only [avS,erS,yv160,ha,hlb];rfl
   ·rw [yv56,List.all_map,List.all_eq_true]
    intro x hx
    exact yv627 (List.all_eq_true.1 hb.1 x hx)
   ·rw [yv65];exact List.isEmpty_iff.1 hb.2
   ·simp only [List.map_cons,List.cons_append,hxs]
   ·intro b
    have e:(⟨putD (rdAs (avS tb s).env (erS tb o).args).2 (erS tb o).dst (.b b),(avS tb s).heap⟩:St)=avS tb ⟨putDT (rdTs s.env o.args).2 o.dst (.b b),s.heap⟩:=by
     simp only [avS,erS,yv160]
     rw [← yv257];rfl
    rw [e]
    cases b with
    | true=>exact yv139 ok ho h2 (.inl ⟨rfl,hr⟩)
    | false=>exact yv139 ok ho h1 (.inr ⟨rfl,rfl,rfl⟩)
  ·refine .inl (yv121 ?_ _ _ (yv67 (ops:=[o]) ok ho h))
   rintro s' ⟨t,rfl,ht⟩
   exact yv139 ok ho ht hr
theorem yv232 {P:Program} {L:World->Prop} {l:Nat}:∀ (os:List SOp) {K K':St->Con->Prop} {s:St} {c:Con},(∀ s c,K s c->K' s c)->wpOI P L l os K s c->wpOI P L l os K' s c
 | [],K,K',s,c,hk,h=>hk _ _ h
 | o::os,K,K',s,c,hk,h=>by
  rcases h with h|⟨h1,h2,xs,its,h3,h4,h5,h6,h7⟩
  ·exact .inl (yv121 (fun s=>yv232 os hk) _ _ h)
  ·exact .inr ⟨h1,h2,xs,its,h3,h4,h5,h6,fun b=>yv232 os hk (h7 b)⟩
theorem yv170 {P:Program} {L:World->Prop} {l:Nat}:∀ (sc:SCode) {Q Q':SExit->St->Con->Prop} {s:St} {c:Con},(∀ e s c,Q e s c->Q' e s c)->wpI P L l sc Q s c->wpI P L l sc Q' s c:=by
 intro sc
 induction sc with
 | reg ops d =>
  intro Q Q' s c hq h
  cases d with
  | none=>exact yv232 ops (hq _) h
  | some us=>exact ⟨h.1,h.2.1,yv27 _ _ (fun e s=>hq e s _) h.2.2⟩
 | seq a b iha ihb =>
  intro Q Q' s c hq h
  refine iha (fun e s c h=>?_) h
  cases e with
  | normal=>exact ihb hq h
  | _=>exact hq _ _ _ h
 | cond t a b iha ihb =>
  intro Q Q' s c hq h
  simp only [wpI] at h ⊢
  split at h
  ·split at h
   ·rename_i hx;rw [if_pos hx];exact iha hq h
   ·rename_i hx;rw [if_neg hx];exact ihb hq h
  ·exact h.elim
 | block i b ih =>
  intro Q Q' s c hq h
  refine ih (fun e s c h=>?_) h
  cases e with
  | exit j=>simp only at h ⊢;split at h<;>rename_i hj<;>simp only [hj,if_true,if_false]<;>exact hq _ _ _ h
  | _=>exact hq _ _ _ h
 | loop b ih =>
  intro Q Q' s c hq h
  obtain ⟨I,h1,h2⟩:=h
  refine ⟨I,h1,fun n s c hI=>ih (fun e s c h=>?_) (h2 n s c hI)⟩
  cases e with
  | normal=>exact h
  | _=>exact hq _ _ _ h
 | drop ts a ih=>intro Q Q' s c hq h;exact ih hq h
 | weak k a ih=>intro Q Q' s c hq h;obtain ⟨s',h1,h2,h3⟩:=h;exact ⟨s',h1,h2,ih hq h3⟩
 | fin k a ih =>
  intro Q Q' s c hq h
  refine ih (fun e s c h=>?_) h
  cases e with
  | normal=>obtain ⟨s2,h1,h2,h3⟩:=h;exact ⟨s2,h1,h2,hq _ _ _ h3⟩
  | _=>exact hq _ _ _ h
 | _=>intro Q Q' s c hq h;exact ⟨h.1,h.2.1,yv27 _ _ (fun e s=>hq e s _) h.2.2⟩
theorem yv513 (ok:tb.Ok) (ho:yv39 P W tb orcs):∀ {b:TCode T},yv171 P W tb b->∀ {k:SExit->TSt T->Option (List X × (Z ⊕ Y))} {s:TSt T} {d:List X × (Z ⊕ Y)} {c:Con},runI tb orcs (y0 xv lb) b s k=some d->RelI tb xv r rest d c ->
 wpI P W lb (erC tb b) (fun e s' c'=>∃ t d',s'=avS tb t∧k e t=some d'∧RelI tb xv r rest d' c') (avS tb s) c:=by
 intro b
 induction b with
 | skip=>intro _ k s d c h hr;exact ⟨rfl,rfl,s,d,rfl,h,hr⟩
 | exit i=>intro _ k s d c h hr;exact ⟨rfl,rfl,s,d,rfl,h,hr⟩
 | ret=>intro _ k s d c h hr;exact ⟨rfl,rfl,s,d,rfl,h,hr⟩
 | reg ops us =>
  intro _ k s d c h hr
  cases us with
  | none=>exact yv139 ok ho h hr
  | some us=>cases h
 | seq a b iha ihb =>
  intro hc k s d c h hr
  refine yv170 (erC tb a) (fun e s' c' h=>?_) (iha hc.1 h hr)
  obtain ⟨t,d',rfl,h1,h2⟩:=h
  cases e with
  | normal=>exact ihb hc.2 h1 h2
  | _=>exact ⟨t,d',rfl,h1,h2⟩
 | cond t a b iha ihb =>
  intro hc k s d c h hr
  simp only [runI] at h
  split at h
  case h_2=>cases h
  rename_i x hx
  have h1:lk (avS tb s).env t=.pv (.lit (.bool x)):=by
   show lk (avE tb s.env) t=_
   rw [lk_av,hx];rfl
  simp only [erC,wpI,h1]
  cases x with
  | true=>exact iha hc.1 h hr
  | false=>exact ihb hc.2 h hr
 | block id b ih =>
  intro hc k s d c h hr
  refine yv170 (erC tb b) (fun e s' c' h=>?_) (ih hc h hr)
  obtain ⟨t,d',rfl,h1,h2⟩:=h
  cases e with
  | exit i =>
   simp only at h1 ⊢
   split at h1
   ·rename_i hi
    rw [if_pos (Nat.eq_of_beq_eq_true hi)]
    exact ⟨t,d',rfl,h1,h2⟩
   ·rename_i hi
    rw [if_neg (fun e=>hi (by subst e;exact Nat.beq_refl _))]
    exact ⟨t,d',rfl,h1,h2⟩
  | _=>exact ⟨t,d',rfl,h1,h2⟩
 | drop ts b ih =>
  intro hc k s d c h hr
  have:=ih hc h hr
  simp only [erC,wpI,avS,yv147] at this ⊢
  exact this
 | fin n o b ih =>
  intro hc k s d c h hr
  refine yv170 (erC tb b) (fun e s' c' h=>?_) (ih hc.2 h hr)
  obtain ⟨t,d',rfl,h1,h2⟩:=h
  cases e with
  | normal =>
   obtain ⟨s2,q1,q2,t2,rfl,q3⟩:=hc.1.snd _ _ _ h1
   exact ⟨_,q1,q2,t2,d',rfl,q3,h2⟩
  | _=>exact ⟨t,d',rfl,h1,h2⟩
 | _=>intro _ k s d c h hr;cases h
end
end Go.Rv
namespace Go.Rv
open Go.RowKit
variable {T:Nat->Type} {tb:Tab T} {P:Program} {W:World->Prop} {orcs:Orcs T}
section
variable {X Z Y:Type}
def stepT (step:Z->Option (List X × (Z ⊕ Y))) (p:List X × Z):Option ((List X × Z) ⊕ (List X × Y)) :=
 (step p.2).bind fun r=>some (match r.2 with|.inl z=>.inl (p.1++r.1,z)|.inr y=>.inr (p.1++r.1,y))
def yv752 (step:Z->Option (List X × (Z ⊕ Y))) (z:Z):Option (List X):=(iter (stepT step) ([],z)).bind fun r=>some r.1
theorem yv346 {step:Z->Option (List X × (Z ⊕ Y))}:∀ {n:Nat} {p:List X × Z} {r:List X × Y},iterN (stepT step) n p=some r->∃ l,r.1=p.1++l
 | 0,_,_,h=>by cases h
 | n + 1,p,r,h=>by
  simp only [iterN,stepT] at h
  cases hs:step p.2 with
  | none=>rw [hs] at h;cases h
  | some d =>
   obtain ⟨l1,q⟩:=d
   rw [hs] at h
   cases q with
   | inl z =>
    obtain ⟨l,hl⟩:=yv346 (n:=n) h
    exact ⟨l1++l,by rw [hl,List.append_assoc]⟩
   | inr y=>cases h;exact ⟨l1,rfl⟩
def iterL (step:Z->X->Option (Z ⊕ Y)):List X->Z->Option (Z ⊕ Y)
 | [],z=>some (.inl z)
 | x::l,z=>(step z x).bind fun r=>match r with
  | .inl z=>iterL step l z
  | .inr y=>some (.inr y)
end
structure ItOk (P:Program) (W:World->Prop) (tb:Tab T) (f:Nat) (sc:List Sh) (shI:List (List Sh)) (sx:List Sh) (F:tyL T sc->tyH T shI->Option (List (tyL T sx))):Prop where
 en:yv25 P f=true
 snd:∀ c h its,F c h=some its->∀ (cs:List AV) (H:Heap) (l:List Nat) (Rd:Rnd) (K:Option SExit->Heap->Prop),yv32 H l cs=true->admL (renL (posOf l) cs) (avL tb (injL tb sc c)) ->
  admH (yv11 H l) (avH tb (injH tb shI h))->chain Rd K (its.map fun x=>avL tb (injL tb sx x)) (offH l H)->IterG P W f cs H Rd K
def exB (i:Nat):SExit->Bool
 | .exit j=>Nat.beq j i
 | .ret=>true
 | .normal=>false
theorem yv728 {va bs:List AV} (h:admL va bs) (k:Nat):∀ t,adm (lk (yv99 k va) t) (lk (yv99 k bs) t):=by
 intro t
 rw [yv138,yv138]
 split
 ·obtain ⟨h1,h2⟩:=yv97 h
  cases ha:va[t - k]? with
  | none =>
   have:bs[t - k]?=none:=by rw [List.getElem?_eq_none_iff] at ha ⊢;omega
   rw [this];exact .inl rfl
  | some a =>
   obtain ⟨b,hb,hx⟩:=h2 _ _ ha
   rw [hb];exact hx
 ·exact .inl rfl
theorem yv820 {Z Y:Type} (ok:tb.Ok) (ho:yv39 P W tb orcs) {f:Nat} {fn:Func} {a b:TCode T} {i n:Nat} {ds:List Nat} {sc:List Sh} {shI:List (List Sh)} {sx:List Sh} {F:tyL T sc->tyH T shI->Option (List (tyL T sx))}
 (hf:P.funcs[f]?=some fn) (hok:fnOk P fn ⟨erC tb (.seq a (.block i (.drop ds (.loop b)))),[],n⟩=true) (hen:yv25 P f=true) (hl:Nat.ble (sc.length + 1) n=true) (hca:yv171 P W tb a) (hcb:yv171 P W tb b)
 (step:Z->Option (List (tyL T sx) × (Z ⊕ Y))) (B:(ρ:Type)->Z->(tyL T sx->(Bool->Option ρ)->Option ρ)->(Z->Option ρ)->(Y->Option ρ)->Option ρ)
 (G:tyL T sc->tyH T shI->Option Z) (st up:Nat->Z->TSt T) (ex:Nat->Y->SExit × TSt T) (pz:TSt T->Option Z) (py:SExit->TSt T->Option Y)
 (hchk:∀ lb c h,chkS shI.length ⟨(0,.yl lb)::argT 1 (injL tb sc c),injH tb shI h⟩=true)
 (fact0:∀ {ρ:Type} lb c h (y:Nat->List (TV T)->(Bool->Option ρ)->Option ρ) (k:SExit->TSt T->Option ρ),runI tb orcs y a ⟨(0,.yl lb)::argT 1 (injL tb sc c),injH tb shI h⟩ k=(G c h).bind fun z=>k .normal (st lb z))
 (hup:∀ lb z,(⟨yv174 ds (st lb z).env,(st lb z).heap⟩:TSt T)=up lb z)
 (hstep:∀ z,step z=B _ z hand (fun z=>some ([],.inl z)) (fun y=>some ([],.inr y)))
 (hinj:∀ x,prjL tb sx (injL tb sx x)=some x) (hex:∀ lb y,exB i (ex lb y).1=true)
 (hpz:∀ lb z,pz (up lb z)=some z) (hpy:∀ lb y,py (ex lb y).1 (ex lb y).2=some y)
 (fact:∀ {ρ:Type} lb z (y:Nat->List (TV T)->(Bool->Option ρ)->Option ρ) (k:SExit->TSt T->Option ρ),runI tb orcs y b (up lb z) k=B ρ z (fun it kk=>y lb (injL tb sx it) kk) (fun z=>k .normal (up lb z)) (fun y=>k (ex lb y).1 (ex lb y).2))
 (hF:∀ c h,F c h=(G c h).bind fun z=>yv752 step z):ItOk P W tb f sc shI sx F:=by
 have hne:∀ lb y,(ex lb y).1 ≠ .normal:=fun lb y h=>by have:=hex lb y;rw [h] at this;cases this
 have hinj':∀ x x':tyL T sx,injL tb sx x=injL tb sx x'->x=x':=fun x x' h=>by
  have:=hinj x;rw [h,hinj x'] at this;cases this;rfl
 have loop:∀ lb z0 items y1,iter (stepT step) ([],z0)=some (items,y1)->∀ Q:SExit->St->Con->Prop,(∀ e s c,exB i e=true->(c=some []∨c=none)->Q e s c) ->
  wpI P W lb (.loop (erC tb b)) Q (avS tb (up lb z0)) (some (items.map fun x=>avL tb (injL tb sx x))):=by
  intro lb z0 items y1 h Q hQ
  obtain ⟨n,hn⟩:=yv756 h
  refine ⟨fun n s c=>∃ acc z l,s=avS tb (up lb z)∧iterN (stepT step) n (acc,z)=some (acc++l,y1)∧c=some (l.map fun x=>avL tb (injL tb sx x)),⟨n,[],z0,items,rfl,by simpa using hn,rfl⟩,?_⟩
  rintro n s c ⟨acc,z,l,rfl,hx,rfl⟩
  cases n with
  | zero=>cases hx
  | succ n =>
   simp only [iterN,stepT] at hx
   cases hs:step z with
   | none=>rw [hs] at hx;cases hx
   | some d =>
    obtain ⟨l1,r⟩:=d
    rw [hs] at hx
    let k1:SExit->TSt T->Option (List (tyL T sx) × (Z ⊕ Y)):=fun e t=>match e with
     | .normal=>(pz t).bind fun z=>some ([],.inl z)
     | e=>(py e t).bind fun y=>some ([],.inr y)
    let C:SExit->TSt T->Prop:=fun e t=>(e=.normal∧∃ z',t=up lb z')∨∃ y',(e,t)=ex lb y'
    let k2:SExit->TSt T->Option (List (tyL T sx) × (Z ⊕ Y)):=fun e t=>@ite _ (C e t) (Classical.propDecidable _) (k1 e t) none
    have e1:∀ z',k2 .normal (up lb z')=some ([],.inl z'):=fun z'=>by
     simp only [k2]
     rw [if_pos (.inl ⟨rfl,z',rfl⟩)]
     simp only [k1,hpz,Option.bind_some]
    have e2:∀ y',k2 (ex lb y').1 (ex lb y').2=some ([],.inr y'):=fun y'=>by
     simp only [k2]
     rw [if_pos (.inr ⟨y',rfl⟩)]
     have h1:=hne lb y'
     have h2:=hpy lb y'
     generalize (ex lb y').1=e at h1 h2 ⊢
     cases e with
     | normal=>exact absurd rfl h1
     | _=>simp only [k1,h2,Option.bind_some]
    have hr:runI tb orcs (y0 (injL tb sx) lb) b (up lb z) k2=some (l1,r):=by
     rw [fact,← hs,hstep]
     congr 1
     ·funext it kk;exact y0_eq hinj'
     ·funext z';exact e1 z'
     ·funext y';exact e2 y'
    have hout:∃ rest,l.map (fun x=>avL tb (injL tb sx x))=l1.map (fun x=>avL tb (injL tb sx x))++rest∧(∀ z',r=.inl z'->∃ l2,rest=List.map (fun x=>avL tb (injL tb sx x)) l2∧iterN (stepT step) n (acc++l1,z')=some (acc++l1++l2,y1))∧(∀ y',r=.inr y'->rest=[]):=by
     cases r with
     | inl z' =>
      obtain ⟨l2,hl2⟩:=yv346 (n:=n) hx
      simp only [List.append_assoc] at hl2
      have hl2:=List.append_cancel_left hl2
      subst hl2
      exact ⟨l2.map fun x=>avL tb (injL tb sx x),by simp,fun z'' hz=>by cases hz;exact ⟨l2,rfl,by rw [List.append_assoc];exact hx⟩,fun y' hy=>by cases hy⟩
     | inr y' =>
      simp only [Option.bind_some,Option.some.injEq,Prod.mk.injEq] at hx
      have hl2:=List.append_cancel_left hx.1
      subst hl2
      exact ⟨[],by simp,(fun z'' hz=>by cases hz),fun _ _=>rfl⟩
    obtain ⟨rest,hr1,hr2,hr3⟩:=hout
    rw [hr1]
    refine yv170 _ (fun e s' c' h=>?_) (yv513 (r:=r) (rest:=rest) ok ho hcb hr (.inl ⟨rfl,rfl⟩))
    obtain ⟨t,d',rfl,hk,hrel⟩:=h
    simp only [k2] at hk
    split at hk
    case isFalse=>cases hk
    rename_i hC
    rcases hC with ⟨rfl,z',rfl⟩|⟨y',hy⟩
    ·simp only [k1,hpz,Option.bind_some,Option.some.injEq] at hk
     subst hk
     rcases hrel with ⟨rfl,hz⟩|⟨_,_,hst⟩
     ·obtain ⟨l2,rfl,hit⟩:=hr2 z' hz.symm
      exact ⟨n,by omega,acc++l1,z',l2,rfl,hit,by simp⟩
     ·cases hst
    ·have h1:=hne lb y'
     have h2:=hpy lb y'
     have h3:=hex lb y'
     rw [← hy] at h1 h2 h3
     simp only at h1 h2 h3
     have hd:d'=([],.inr y'):=by
      cases e with
      | normal=>exact absurd rfl h1
      | _=>simp only [k1,h2,Option.bind_some,Option.some.injEq] at hk;exact hk.symm
     subst hd
     have hq:Q e (avS tb t) c':=by
      refine hQ _ _ _ h3 ?_
      rcases hrel with ⟨rfl,hz⟩|⟨rfl,_,_⟩
      ·left;rw [hr3 y' hz.symm];rfl
      ·exact .inr rfl
     cases e with
     | normal=>exact absurd rfl h1
     | _=>exact hq
 refine ⟨hen,fun c h its hFc cs H l Rd K hcl hal hah hch=>?_⟩
 rw [hF] at hFc
 obtain ⟨z0,hG,hH⟩:=yv3 hFc
 obtain ⟨⟨its',y1⟩,hit,he⟩:=yv3 hH
 cases he
 have hlen:∀ (l:List Sh) (x:tyL T l),(injL tb l x).length=l.length:=by
  intro l;induction l with
  | nil=>intro x;rfl
  | cons a l ih=>intro x;simp [injL,ih]
 have hcl':=hcl
 refine yv368 hf hok rfl ?_ hcl hch (fun lb=>avS tb ⟨(0,.yl lb)::argT 1 (injL tb sc c),injH tb shI h⟩) (fun lb=>?_) (fun lb=>?_)
 ·have h1:=(yv97 hal).1
  rw [yv109,hlen,yv126,List.length_map] at h1
  have:=Nat.le_of_ble_eq_true hl
  show cs.length + 1 ≤ n
  omega
 ·have hk:=hchk lb c h
  simp only [chkS,Bool.and_eq_true] at hk
  have hle:=(yv78 hah).1
  have el:(avS tb ⟨(0,.yl lb)::argT 1 (injL tb sc c),injH tb shI h⟩).heap.length=shI.length:=by
   show (avH tb (injH tb shI h)).length=_
   rw [yv12,yv54]
  have ee:(avS tb ⟨(0,.yl lb)::argT 1 (injL tb sc c),injH tb shI h⟩).env=(0,.clo (.yield lb) [] [])::yv99 1 (avL tb (injL tb sc c)):=by
   simp only [avS]
   show (0,av tb (.yl lb))::avE tb (argT 1 (injL tb sc c))=_
   rw [yv391];rfl
  refine ⟨fun t=>?_,by rw [el];rw [yv12,yv54] at hle;exact Nat.le_of_eq hle.symm,?_,fun t=>?_,?_⟩
  ·rw [ee]
   simp only [lk]
   split
   ·exact .inl (.inl rfl)
   ·exact .inl (yv728 hal 1 t)
  ·rw [el]
   have:(yv11 H l).take shI.length=yv11 H l:=List.take_of_length_le (by rw [hle,yv12,yv54];exact Nat.le_refl _)
   show admH ((yv11 H l).take shI.length) _
   rw [this];exact hah
  ·rw [el]
   refine yv369 (p:=fun a=>(yv16 a).all fun i=>decide (i < shI.length)) rfl (fun q hq=>?_) t
   refine List.all_eq_true.2 fun i hi=>decide_eq_true ?_
   rw [yv163] at hi
   exact yv236 (List.all_eq_true.1 (List.all_eq_true.1 hk.1 q hq) i hi)
  ·rw [el]
   refine List.all_eq_true.2 fun ob hob=>List.all_eq_true.2 fun i hi=>decide_eq_true ?_
   simp only [avS,avH,List.mem_map] at hob
   obtain ⟨o,ho',rfl⟩:=hob
   rw [yv82] at hi
   exact yv236 (List.all_eq_true.1 (List.all_eq_true.1 hk.2 o ho') i hi)
 ·let its0:List (tyL T sx) × (Z ⊕ Y):=(its',.inl z0)
  let k2:SExit->TSt T->Option (List (tyL T sx) × (Z ⊕ Y)):=fun e t=>@ite _ (e=.normal∧t=st lb z0) (Classical.propDecidable _) (some its0) none
  have hr:runI tb orcs (y0 (injL tb sx) lb) a ⟨(0,.yl lb)::argT 1 (injL tb sc c),injH tb shI h⟩ k2=some its0:=by
   rw [fact0,hG]
   simp only [Option.bind_some,k2]
   rw [if_pos ⟨trivial,trivial⟩]
  have:=yv513 (r:=.inl z0) (rest:=[]) (c:=some (its'.map fun x=>avL tb (injL tb sx x))) ok ho hca hr (.inl ⟨by simp [its0],rfl⟩)
  show wpI P W lb (.seq (erC tb a) (.block i (.drop ds (.loop (erC tb b))))) endI _ _
  refine yv170 (erC tb a) (fun e s' c' h=>?_) this
  obtain ⟨t,d',rfl,hk,hrel⟩:=h
  simp only [k2] at hk
  split at hk
  case isFalse=>cases hk
  rename_i hC
  obtain ⟨rfl,rfl⟩:=hC
  cases hk
  rcases hrel with ⟨rfl,_⟩|⟨rfl,hq,hst⟩
  case inr=>cases hst
  have hd:(⟨dropL ds (avS tb (st lb z0)).env,(avS tb (st lb z0)).heap⟩:St)=avS tb (up lb z0):=by
   rw [← hup];simp only [avS,yv147]
  simp only [wpI]
  rw [hd]
  simp only [List.append_nil]
  refine loop lb z0 its' y1 hit _ fun e s c he hc=>?_
  cases e with
  | normal=>cases he
  | ret=>exact ⟨.inr rfl,hc⟩
  | exit j =>
   have:j=i:=Nat.eq_of_beq_eq_true he
   subst this
   simp only [if_true]
   exact ⟨.inl rfl,hc⟩
def putTL:TEnv T->List Nat->List (TV T)->TEnv T
 | e,t::ts,x::xs=>putTL (putT' e t x) ts xs
 | e,_,_=>e
theorem yv637:∀ (ps:List Nat) (xs:List (TV T)) (e:TEnv T),putL (avE tb e) ps (avL tb xs)=avE tb (putTL e ps xs)
 | [],xs,e=>by cases xs<;>rfl
 | p::ps,[],e=>rfl
 | p::ps,x::xs,e=>by
  simp only [avL,putL,putTL]
  rw [yv177]
  exact yv637 ps xs _
def calmT:TV T->Bool
 | .ow _ _=>false|.bo _=>false|.tup (_::_)=>false
 | .agg cs=>cs.all yv475
 | _=>true
theorem yv736 {v:TV T} (h:calmT v=true):calm (av tb v)=true:=by
 cases v with
 | agg cs =>
  have h:cs.all yv475=true:=h
  show (avL tb cs).all noOwn=true
  rw [yv56,List.all_map,List.all_eq_true]
  intro x hx
  exact yv476 (List.all_eq_true.1 h x hx)
 | tup cs=>cases cs<;>first|rfl|cases h
 | _=>first|rfl|cases h
def offT:List Nat->THeap T->THeap T
 | [],h=>h
 | i::l,h=>offT l (hsetT h i [])
theorem yv763:∀ (l:List Nat) (h:THeap T),offH l (avH tb h)=avH tb (offT l h)
 | [],h=>rfl
 | i::l,h=>by
  simp only [offH,offT]
  rw [← yv763 l,← yv189];rfl
def cutRg {X Z Y:Type} (tb:Tab T) (n:Nat) (sh:SSh) (its:sh.ty T->Option (List X)) (z0:sh.ty T->Z) (step:sh.ty T->Z->X->Option (Z ⊕ Y)) (NX:(ρ:Type)->sh.ty T->Z->(SExit->TSt T->Option ρ)->Option ρ) (EX:(ρ:Type)->sh.ty T->Y->(SExit->TSt T->Option ρ)->Option ρ):Cut T :=
 ⟨fun s k=>(prjS tb n sh s).bind fun x=>(its x).bind fun l=>(iterL (step x) l (z0 x)).bind fun r=>match r with
  | .inl z=>NX _ x z k
  | .inr y=>EX _ x y k⟩
theorem yv789 {Z Y:Type} (ok:tb.Ok) (ho:yv39 P W tb orcs) {a b:TCode T} (hca:yv171 P W tb a) (hcb:yv171 P W tb b) {f:Nat} {sc:List Sh} {shI:List (List Sh)} {sx:List Sh} {F:tyL T sc->tyH T shI->Option (List (tyL T sx))} (hit:ItOk P W tb f sc shI sx F)
 {n t:Nat} {ps:List Nat} {sh:SSh} (l:List Nat) {its:sh.ty T->Option (List (tyL T sx))} {z0:sh.ty T->Z} {step:sh.ty T->Z->tyL T sx->Option (Z ⊕ Y)} {NX:(ρ:Type)->sh.ty T->Z->(SExit->TSt T->Option ρ)->Option ρ} {EX:(ρ:Type)->sh.ty T->Y->(SExit->TSt T->Option ρ)->Option ρ}
 (B:(ρ:Type)->sh.ty T->Z->tyL T sx->(Z->Option ρ)->(Y->Option ρ)->Option ρ) (cs:sh.ty T->List (TV T)) (hp:sh.ty T->Z->THeap T) (ex:sh.ty T->Y->SExit × THeap T) (cx:sh.ty T->tyL T sc) (hx:sh.ty T->tyH T shI)
 (pz:THeap T->Option Z) (py:SExit->THeap T->Option Y)
 (hlk:∀ x,lkT (injS tb sh x).env t=.clo f [] (cs x)) (hcalm:∀ x,(injS tb sh x).env.all (fun p=>calmT p.2)=true) (hcl:∀ x,yv316 (injS tb sh x).heap l (cs x)=true)
 (hc:∀ x,prjL tb sc (renTL (posOf l) (cs x))=some (cx x)) (hh:∀ x,prjH tb shI (yv169 (injS tb sh x).heap l)=some (hx x)) (hits:∀ x,its x=F (cx x) (hx x))
 (h0:∀ x,offT l (injS tb sh x).heap=hp x (z0 x)) (hwk:∀ x z,(wkOk (hp x z).length (erC tb a) && wkOk (hp x z).length (erC tb b))=true) (hps:Nat.beq sx.length ps.length=true)
 (hstep:∀ x z it,step x z it=B _ x z it (fun z=>some (.inl z)) (fun y=>some (.inr y)))
 (hNX:∀ {ρ:Type} x z (k:SExit->TSt T->Option ρ),NX ρ x z k=k .normal ⟨(injS tb sh x).env,hp x z⟩) (hEX:∀ {ρ:Type} x y (k:SExit->TSt T->Option ρ),EX ρ x y k=k (ex x y).1 ⟨(injS tb sh x).env,(ex x y).2⟩)
 (hne:∀ x y,(ex x y).1 ≠ .normal) (hpz:∀ x z,pz (hp x z)=some z) (hpy:∀ x y,py (ex x y).1 (ex x y).2=some y)
 (fact:∀ {ρ:Type} x z it (k:SExit->THeap T->Option ρ),runS tb orcs a ⟨putTL (injS tb sh x).env ps (injL tb sx it),hp x z⟩ (fun e t=>match e with|.normal=>runS tb orcs b t (fun e t=>k e t.heap)|_=>none) =
  B ρ x z it (fun z=>k .normal (hp x z)) (fun y=>k (ex x y).1 (ex x y).2)):(cutRg tb n sh its z0 step NX EX).Ok P W tb n (.rng t ps a b):=by
 refine ⟨⟨fun {ρ σ} s k f=>?_⟩,fun {ρ} s k d h=>?_⟩
 ·simp only [cutRg]
  cases prjS tb n sh s with
  | none=>rfl
  | some x =>
   simp only [Option.bind_some]
   cases its x with
   | none=>rfl
   | some l =>
    simp only [Option.bind_some]
    cases iterL (step x) l (z0 x) with
    | none=>rfl
    | some r=>cases r<;>simp only [Option.bind_some,hNX,hEX]
 ·obtain ⟨x,h1,hA⟩:=yv3 h
  obtain ⟨is,h2,hB⟩:=yv3 hA
  obtain ⟨r,h3,hD⟩:=yv3 hB
  clear h hA hB
  refine ⟨_,(yv115 ok h1).1,(yv115 ok h1).2,?_⟩
  have e1:lk (avS tb (injS tb sh x)).env t=.clo (.func f) [] (avL tb (cs x)):=by
   show lk (avE tb (injS tb sh x).env) t=_
   rw [lk_av,hlk];rfl
  have hlen:∀ (l:List Sh) (x:tyL T l),(injL tb l x).length=l.length:=by
   intro l;induction l with
   | nil=>intro x;rfl
   | cons a l ih=>intro x;simp [injL,ih]
  simp only [erC,wpS]
  refine ⟨fun t=>yv369 (p:=calm) rfl (fun q hq=>yv736 (List.all_eq_true.1 (hcalm x) q hq)) t,?_⟩
  rw [e1]
  refine ⟨hit.en,hit.snd (cx x) (hx x) is (by rw [← hits];exact h2) _ _ l _ _ (by show yv32 (avH tb _) l (avL tb _)=true;rw [yv317];exact hcl x) (by rw [yv125];exact yv222 ok (hc x)) (by show admH (yv11 (avH tb _) l) _;rw [yv264];exact yv114 ok (hh x)) ?_⟩
  have hoff:offH l (avS tb (injS tb sh x)).heap=avH tb (hp x (z0 x)):=by
   show offH l (avH tb _)=_
   rw [yv763,h0]
  rw [hoff]
  generalize z0 x=z at h3
  clear h2 hoff
  induction is generalizing z with
  | nil =>
   cases h3
   have hD:NX ρ x z k=some d:=hD
   rw [hNX] at hD
   exact ⟨_,rfl,hD⟩
  | cons it is ih =>
   simp only [iterL] at h3
   obtain ⟨r1,hs,h3⟩:=yv3 h3
   have hwk':=hwk x z
   simp only [Bool.and_eq_true] at hwk'
   have el:(avH tb (hp x z)).length=(hp x z).length:=yv12 _
   refine ⟨by rw [yv109,hlen];exact Nat.eq_of_beq_eq_true hps,by rw [el];exact hwk'.1,by rw [el];exact hwk'.2,?_⟩
   let k1:SExit->THeap T->Option (Z ⊕ Y):=fun e t=>match e with
    | .normal=>(pz t).bind fun z=>some (.inl z)
    | e=>(py e t).bind fun y=>some (.inr y)
   let C:SExit->THeap T->Prop:=fun e t=>(e=.normal∧∃ z',t=hp x z')∨∃ y',(e,t)=ex x y'
   let k2:SExit->THeap T->Option (Z ⊕ Y):=fun e t=>@ite _ (C e t) (Classical.propDecidable _) (k1 e t) none
   have e1:∀ z',k2 .normal (hp x z')=some (.inl z'):=fun z'=>by
    simp only [k2]
    rw [if_pos (.inl ⟨rfl,z',rfl⟩)]
    simp only [k1,hpz,Option.bind_some]
   have e2:∀ y',k2 (ex x y').1 (ex x y').2=some (.inr y'):=fun y'=>by
    simp only [k2]
    rw [if_pos (.inr ⟨y',rfl⟩)]
    have h1:=hne x y'
    have h2:=hpy x y'
    generalize (ex x y').1=e at h1 h2 ⊢
    cases e with
    | normal=>exact absurd rfl h1
    | _=>simp only [k1,h2,Option.bind_some]
   have hr:runS tb orcs a ⟨putTL (injS tb sh x).env ps (injL tb sx it),hp x z⟩ (fun e t=>match e with|.normal=>runS tb orcs b t (fun e t=>k2 e t.heap)|_=>none)=some r1:=by
    rw [fact,← hs,hstep]
    congr 1
    ·funext z';exact e1 z'
    ·funext y';exact e2 y'
   have eS:(⟨putL (avS tb (injS tb sh x)).env ps (avL tb (injL tb sx it)),avH tb (hp x z)⟩:St)=avS tb ⟨putTL (injS tb sh x).env ps (injL tb sx it),hp x z⟩:=by
    show (⟨putL (avE tb _) ps _,_⟩:St)=_
    rw [yv637];rfl
   rw [eS]
   refine yv27 (erC tb a) _ ?_ (yv119 ok ho hca hr)
   rintro e s' ⟨t',rfl,ht⟩
   cases e with
   | exit i=>cases ht
   | ret=>cases ht
   | normal =>
    refine yv27 (erC tb b) _ ?_ (yv119 ok ho hcb ht)
    rintro e s' ⟨t2,rfl,ht⟩
    simp only [k2] at ht
    split at ht
    case isFalse=>cases ht
    rename_i hC
    rcases hC with ⟨rfl,z',hz⟩|⟨y',hy⟩
    ·rw [hz] at ht
     simp only [k1,hpz,Option.bind_some,Option.some.injEq] at ht
     subst ht
     have:=ih z' h3
     show chain _ _ _ (avH tb t2.heap)
     rw [hz];exact this
    ·have q1:=hne x y'
     have q2:=hpy x y'
     rw [← hy] at q1 q2
     simp only at q1 q2
     have hd:r1=.inr y':=by
      cases e with
      | normal=>exact absurd rfl q1
      | _=>simp only [k1,q2,Option.bind_some,Option.some.injEq] at ht;exact ht.symm
     subst hd
     cases h3
     have hD:EX ρ x y' k=some d:=hD
     rw [hEX,← hy] at hD
     cases e with
     | normal=>exact absurd rfl q1
     | _=>exact ⟨_,rfl,hD⟩
def pyH {Y:Type} (tb:Tab T) (e0:SExit) (sh:List (List Sh)) (f:tyH T sh->Y) (nx:SExit->THeap T->Option Y) (e:SExit) (t:THeap T):Option Y :=
 if eqE e e0 then yv252 ((prjH tb sh t).bind fun v=>some (f v)) (nx e t) else nx e t
def pyHN {Y:Type} (_:SExit) (_:THeap T):Option Y:=none
def cutD (n:Nat) (ds:List Nat):Cut T:=⟨fun s k=>if Nat.ble n s.heap.length && chkS s.heap.length s then k .normal ⟨yv174 ds s.env,s.heap⟩ else none⟩
def cutX (tb:Tab T) (orcs:Orcs T) (n:Nat) (c:TCode T):Cut T:=⟨fun s k=>if Nat.ble n s.heap.length && chkS s.heap.length s then runS tb orcs c s fun e t=>match e with|.normal=>none|e=>k e t else none⟩
theorem yv730 (a:AV):adm a a:=.inl rfl
theorem yv819 (ok:tb.Ok) (ho:yv39 P W tb orcs) {c:TCode T} (hc:yv171 P W tb c) {n:Nat}:(cutX tb orcs n c).Ok P W tb n (.loop c):=by
 refine ⟨⟨fun {ρ σ} s k f=>?_⟩,fun {ρ} s k d h=>?_⟩
 ·simp only [cutX]
  split
  ·rw [← yv514 ho.par (yv304 (fun n o c h=>h.toPar) hc)]
   congr 1;funext e t;cases e<;>rfl
  ·rfl
 ·simp only [cutX] at h
  split at h
  case isFalse=>cases h
  rename_i hb
  simp only [Bool.and_eq_true,chkS] at hb
  obtain ⟨h1,h2,h3⟩:=hb
  have el:(avS tb s).heap.length=s.heap.length:=yv12 _
  refine ⟨avS tb s,⟨fun t=>.inl (yv730 _),Nat.le_refl _,?_,fun t=>?_,?_⟩,by rw [el];exact Nat.le_of_ble_eq_true h1,?_⟩
  ·rw [List.take_of_length_le (Nat.le_refl _)]
   exact yv538
  ·rw [el]
   refine yv369 (p:=fun a=>(yv16 a).all fun i=>decide (i < s.heap.length)) rfl (fun q hq=>?_) t
   refine List.all_eq_true.2 fun i hi=>decide_eq_true ?_
   rw [yv163] at hi
   exact yv236 (List.all_eq_true.1 (List.all_eq_true.1 h2 q hq) i hi)
  ·rw [el]
   refine List.all_eq_true.2 fun ob hob=>List.all_eq_true.2 fun i hi=>decide_eq_true ?_
   simp only [avS,avH,List.mem_map] at hob
   obtain ⟨o,ho',rfl⟩:=hob
   rw [yv82] at hi
   exact yv236 (List.all_eq_true.1 (List.all_eq_true.1 h3 o ho') i hi)
  ·refine ⟨fun m t=>m=0∧t=avS tb s,⟨0,rfl,rfl⟩,?_⟩
   rintro m t ⟨rfl,rfl⟩
   refine yv27 (erC tb c) _ ?_ (yv119 ok ho hc h)
   rintro e s' ⟨t,rfl,ht⟩
   cases e with
   | normal=>cases ht
   | _=>exact ⟨t,rfl,ht⟩
theorem yv738 {s:TSt T} {ds:List Nat} (hb:chkS s.heap.length s=true):admS (avS tb s) (avS tb ⟨yv174 ds s.env,s.heap⟩):=by
 simp only [Bool.and_eq_true,chkS] at hb
 obtain ⟨h2,h3⟩:=hb
 have el:(avS tb s).heap.length=s.heap.length:=yv12 _
 have hd:∀ (ds:List Nat) (e:Env) t,lk (dropL ds e) t=lk e t∨lk (dropL ds e) t=.junk:=by
  intro ds
  induction ds with
  | nil=>intro e t;exact .inl rfl
  | cons d ds ih =>
   intro e t
   rcases ih (rm e d) t with h|h
   ·simp only [dropL]
    rw [h,lk_rm]
    split
    ·exact .inr rfl
    ·exact .inl rfl
   ·exact .inr h
 have ed:∀ t,lk (avS tb ⟨yv174 ds s.env,s.heap⟩).env t=lk (avE tb s.env) t∨lk (avS tb ⟨yv174 ds s.env,s.heap⟩).env t=.junk:=fun t=>by
  have:=hd ds (avE tb s.env) t
  simp only [avS]
  rw [← yv147]
  exact this
 have hl:=yv369 (tb:=tb) (p:=fun a=>(yv16 a).all fun i=>decide (i < s.heap.length)) rfl (e:=s.env) fun q hq=>by
  refine List.all_eq_true.2 fun i hi=>decide_eq_true ?_
  rw [yv163] at hi
  exact yv236 (List.all_eq_true.1 (List.all_eq_true.1 h2 q hq) i hi)
 refine ⟨fun t=>?_,Nat.le_refl _,?_,fun t=>?_,?_⟩
 ·rcases ed t with h|h
  ·rw [h];exact .inl (.inl rfl)
  ·exact .inr h
 ·show admH ((avS tb s).heap.take (avS tb s).heap.length) _
  rw [List.take_of_length_le (Nat.le_refl _)]
  exact yv538
 ·show (yv16 _).all (fun i=>decide (i < (avS tb s).heap.length))=true
  rw [el]
  rcases ed t with h|h
  ·rw [h];exact hl t
  ·rw [h];rfl
 ·show (avH tb s.heap).all (fun ob=>(refsL ob).all fun i=>decide (i < (avS tb s).heap.length))=true
  rw [el]
  refine List.all_eq_true.2 fun ob hob=>List.all_eq_true.2 fun i hi=>decide_eq_true ?_
  simp only [avH,List.mem_map] at hob
  obtain ⟨o,ho',rfl⟩:=hob
  rw [yv82] at hi
  exact yv236 (List.all_eq_true.1 (List.all_eq_true.1 h3 o ho') i hi)
theorem yv816 {n:Nat} {ds:List Nat}:(cutD n ds:Cut T).Ok P W tb n .skip:=by
 refine ⟨⟨fun {ρ σ} s k f=>?_⟩,fun {ρ} s k d h=>?_⟩
 ·simp only [cutD]
  split<;>rfl
 ·simp only [cutD] at h
  split at h
  case isFalse=>cases h
  rename_i hb
  simp only [Bool.and_eq_true] at hb
  exact ⟨_,yv738 hb.2,by show n ≤ (avH tb s.heap).length;rw [yv12];exact Nat.le_of_ble_eq_true hb.1,_,rfl,h⟩
end Go.Rv
