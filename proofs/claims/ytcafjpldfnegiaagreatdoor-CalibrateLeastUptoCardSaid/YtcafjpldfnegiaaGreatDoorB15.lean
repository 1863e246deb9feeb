/- A part of the proof that the law returns true for every input: an executor for the model's code, and what functions of the program compute. -/
import Derived.Test.YtcafjpldfnegiaaGreatDoorB11
import Derived.IntWalk
namespace Go.Fw
theorem zeB{I:Imm}{b:Nat}{cs:List Value}(h:I b=none):I.le (fun k=>if k=b then some cs else I k):=by
 intro k x hk
 have:k≠b:=by intro e;subst e;rw[h]at hk;cases hk
 simp only[this,if_false];exact hk
theorem FCall.pcall {P : Program} {f : FuncId} {args : List CV} {off len sz : Nat} {cells : List CV} (h : FCall P f args (.sl 0 off len sz) cells) (hl : off + len * sz ≤ cells.length) :
    PCall P f args (.lst len ((cells.drop off).take (len*sz))):=by
 intro Im w vs him hrep
 refine(h Im w vs him hrep).mono ?_
 rintro e w' ⟨y,v,cells,I',b,κ,c,T,rfl,⟨rfl,rfl⟩,hv,h1,h2,h3,h4,h5,h6,h7,h8,h9⟩
 simp only[MV.rep,if_true,Option.some.injEq,Prod.mk.injEq]at hv
 obtain⟨b',κ',cap,⟨rfl,rfl⟩,rfl,hc1,hc2⟩:=hv
 have hle:=zeB (cs:=c.toList) h6
 refine⟨_,_,_,rfl,rfl,?_,Imm.le_trans h1 hle,?_,h3,?_⟩
 · simp only[CV.rep]
   refine⟨_,cap,rfl,hc1,.inr ⟨b,off,c.toList,rfl,by simp,?_⟩⟩
   have h10:=CV.repL_take (len*sz) (CV.repL_drop off (CV.repL_mono hle _ _ h9))
   have e:((cells.drop off).take (len*sz)).length=len*sz:=by rw[List.length_take,List.length_drop];omega
   rw[e]
   rw[List.drop_take,List.take_take]at h10
   rw[show min (len*sz) (cells.length-off)=len*sz by omega]at h10
   exact h10
 · intro k cs hk
   by_cases e:k=b
   · subst e
     simp only[if_true,Option.some.injEq]at hk
     exact⟨c,T,(0,0),h7,hk⟩
   · simp only[e,if_false]at hk
     exact h2 k cs hk
 · intro k hk
   by_cases e:k=b
   · subst e;exact .inr h5
   · simp only[e,if_false]at hk
     exact h4 k hk
end Go.Fw
namespace Go.Fw
theorem AllP.of_mem: ∀{l:List Prop},(∀q∈l,q)→AllP l
 | [],_=>trivial
 | [p],h=>h p (by simp)
 |p::p'::ps,h=>⟨h p (by simp),AllP.of_mem (l:=p'::ps) (fun q hq=>h q (by simp only[List.mem_cons]at hq ⊢;exact .inr hq))⟩
inductive Ps:List Prop→Prop where
 |nil:Ps []
 |cons {p:Prop} {l:List Prop} (h:p) (t:Ps l):Ps (p::l)
theorem Ps.mem: ∀{l:List Prop},Ps l→ ∀q∈l,q
 | [],_,q,hq=>by simp at hq
 |p::ps,.cons h t,q,hq=>by
  simp only[List.mem_cons]at hq
  rcases hq with rfl|hq
  · exact h
  · exact t.mem q hq
theorem Ps.all{l:List Prop}(h:Ps l):AllP l:=AllP.of_mem h.mem
def Out.pick(keep σ:List Nat):Out→Option (List Item×St×List Prop)
 | .stop todo s ob=>some (todo,s.sel keep σ,ob++CellsC (σ.map fun i=>s.hp.getD i none))
 |_=>none
theorem z2w {keep σ : List Nat} {o : Out} {todo : List Item} {s : St} {ob : List Prop} (h : o.pick keep σ = some (todo, s, ob)) :
    ∃s0 ob0,o= .stop todo s0 ob0∧s=s0.sel keep σ∧ob=ob0++CellsC (σ.map fun i=>s0.hp.getD i none):=by
 unfold Out.pick at h
 split at h
 · rename_i t s0 ob0
   simp only[Option.some.injEq,Prod.mk.injEq]at h
   obtain⟨rfl,rfl,rfl⟩:=h
   exact⟨_,_,rfl,rfl,rfl⟩
 · cases h
theorem AllP.left{a b:List Prop}(h:AllP (a++b)):AllP a:=AllP.of_mem fun q hq=>h.mem q (List.mem_append.2 (.inl hq))
theorem AllP.right{a b:List Prop}(h:AllP (a++b)):AllP b:=AllP.of_mem fun q hq=>h.mem q (List.mem_append.2 (.inr hq))
section
variable{P:Program}{f:FuncId}{todo todo':List Item}{s s':St}{keep σ:List Nat}{ors:Ors}{ob:List Prop}
theorem okS{R:Goal}(h:(z3Q P f todo s ors false 100000).pick keep σ=some (todo',s',ob))(hσ:z0s σ=true)(hob:Ps ob)(hn:J0 R.n σ=true)(hk:Ok P f todo' s' R):Ok P f todo s R:=by
 obtain⟨s0,ob0,h0,rfl,rfl⟩:=z2w h
 exact zhs 100000 h0 hob.all.left (Ok.sel keep σ hσ hn hob.all.right hk)
theorem zq2{m:Nat}{R:Goal}(h:(z6a P f m todo s ors false 100000).pick keep σ=some (todo',s',ob))(hσ:z0s σ=true)(hob:Ps ob)(hn:J0 R.n σ=true)(hk:Ok P f todo' s' R):Ok P f todo s R:=by
 obtain⟨s0,ob0,h0,rfl,rfl⟩:=z2w h
 exact zgq 100000 h0 hob.all.left (Ok.sel keep σ hσ hn hob.all.right hk)
theorem z8d{args:List CV}{R:CV→Prop}(h:(zbE P f args ors false 100000).pick keep σ=some (todo',s',ob))(hσ:z0s σ=true)(hob:Ps ob)(hk:Ok P f todo' s' (.of R)):W6 P f args R:=by
 obtain⟨s0,ob0,h0,rfl,rfl⟩:=z2w h
 exact z93 100000 h0 hob.all.left (Ok.sel keep σ hσ rfl hob.all.right hk)
theorem z9H{args:List CV}{Q:MV→List CV→Prop}(h:(zjy P f args ors false 100000).pick keep σ=some (todo',s',ob))(hσ:z0s σ=true)(hob:Ps ob)(hk:Ok P f todo' s' (.fresh (z3r Q))):z4s P f args Q:=by
 obtain⟨s0,ob0,h0,rfl,rfl⟩:=z2w h
 exact z96 100000 h0 hob.all.left (Ok.sel keep σ hσ rfl hob.all.right hk)
theorem z7Z{hp:List Blk}{args:List MV}{Q:MV→List Blk→Prop}(h:(zaS P f hp args ors false 100000).pick keep σ=some (todo',s',ob))(hσ:z0s σ=true)(hob:Ps ob)(hn:J0 hp.length σ=true)(hk:Ok P f todo' s' (.lent hp.length Q)):z2Z P f hp args Q:=by
 obtain⟨s0,ob0,h0,rfl,rfl⟩:=z2w h
 exact z9s 100000 h0 hob.all.left (Ok.sel keep σ hσ hn hob.all.right hk)
theorem okR{v:CV}{R:Goal}(h:z3Q P f todo s ors false 100000= .ret v ob)(hob:Ps ob)(hR:R.c v):Ok P f todo s R:=zmo 100000 h hob.all hR
theorem zgP{m:Nat}{v:MV}{hp':List Blk}{R:Goal}(h:z6a P f m todo s ors false 100000= .retM v hp' m ob)(hob:Ps ob)(hn:R.Lent m)(hR:R.m v hp'):Ok P f todo s R:=zjm 100000 h hob.all hn hR
theorem zp6{v:MV}{hp':List Blk}{R:Goal}(n0:Nat)(h:z6a P f 1 todo s ors false 100000= .retM v hp' n0 ob)(hob:Ps ob)(hn:R.Fresh)(hR:R.m v hp'):Ok P f todo s R:=zhH 100000 h hob.all hn hR
theorem zgJ{args:List CV}{v:CV}(h:zbE P f args ors false 100000= .ret v ob)(hob:Ps ob):PCall P f args v:=zc6 100000 h hob.all
theorem zaz{hp:List Blk}{args:List MV}{v:MV}{hp':List Blk}(h:zaS P f hp args ors false 100000= .retM v hp' hp.length ob)(hob:Ps ob):z1Z P f hp args v hp':=zbc 100000 h hob.all ⟨rfl,rfl⟩
end
end Go.Fw
namespace Go.Fw
inductive Os(P:Program):Ors→List Prop→Prop where
 |nil:Os P [] []
 |r {ors:Ors} {ob:List Prop} {g:FuncId} {args:List CV} {v:CV} (n:Nat) (h:PCall P g args v) (t:Os P ors ob):Os P ((n,.r v)::ors) (PCall P g args v::ob)
 |rs {ors:Ors} {ob:List Prop} {g:FuncId} {args:List CV} {v:CV} (n:Nat) (es:List (List CV)) (h:PCall P g args v) (t:Os P ors ob):Os P ((n,.r v es)::ors) (PCall P g args v::ob)
 |f {ors:Ors} {ob:List Prop} {g:FuncId} {args:List CV} {v:MV} {cells:List CV} (n:Nat) (h:FCall P g args v cells) (t:Os P ors ob):Os P ((n,.f v cells)::ors) (FCall P g args v cells::ob)
 |fs {ors:Ors} {ob:List Prop} {g:FuncId} {args:List CV} {v:MV} {cells:List CV} (n:Nat) (es:List (List CV)) (h:FCall P g args v cells) (t:Os P ors ob):Os P ((n,.f v cells es)::ors) (FCall P g args v cells::ob)
 |gs {ors:Ors} {ob:List Prop} {g:FuncId} {args:List CV} {v:MV} {cells:List CV} (n:Nat) (es:List (List CV)) (h:zbb P g args v cells) (t:Os P ors ob):Os P ((n,.g v cells es)::ors) (zbb P g args v cells::ob)
 |b {ors:Ors} {ob:List Prop} {c d:Bool} (n:Nat) (h:c=d) (t:Os P ors ob):Os P ((n,.b d)::ors) ((c=d)::ob)
 |c {ors:Ors} {ob:List Prop} {p:Prop} (h:p) (t:Os P ors ob):Os P ors (p::ob)
 |l {ors:Ors} {ob:List Prop} {es:List CV} {k:Nat} {v:CV} (n:Nat) (h:es[k]?=some v) (t:Os P ors ob):Os P ((n,.r v)::ors) ((es[k]?=some v)::ob)
 |e {ors:Ors} {ob:List Prop} {es:List MV} {k:Nat} {v:MV} (n:Nat) (h:es[k]?=some v) (t:Os P ors ob):Os P ((n,.e v)::ors) ((es[k]?=some v)::ob)
 |o {ors:Ors} {ob:List Prop} (n:Nat) (x:Or) (t:Os P ors ob):Os P ((n,x)::ors) ob
theorem lq(a b:Nat)(h:a≤b:=by decide):a≤b:=h
theorem eqn(a:Nat):a=a:=rfl
theorem bq(a b:Int)(h:0≤a∧a<b:=by decide):0≤a∧a<b:=h
theorem nz(a:Int)(h:a≠0:=by decide):a≠0:=h
theorem nn(a:Int)(h:0≤a:=by decide):0≤a:=h
theorem Os.ps{P:Program}{ors:Ors}{ob:List Prop}(h:Os P ors ob):Ps ob:=by
 induction h with
 |nil=>exact .nil
 |r n h t ih=>exact .cons h ih
 |rs n es h t ih=>exact .cons h ih
 |f n h t ih=>exact .cons h ih
 |fs n es h t ih=>exact .cons h ih
 |gs n es h t ih=>exact .cons h ih
 |b n h t ih=>exact .cons h ih
 |c h t ih=>exact .cons h ih
 |l n h t ih=>exact .cons h ih
 |e n h t ih=>exact .cons h ih
 |o n x t ih=>exact ih
def Out.pick2(keep σ:List Nat):Out→Option (List Item×St×List Prop)
 | .stop todo s ob=>some (todo,s.sel keep σ,ob)
 |_=>none
theorem z4h{keep σ:List Nat}{o:Out}{todo:List Item}{s:St}{ob:List Prop}(h:o.pick2 keep σ=some (todo,s,ob)):o.pick keep σ=some (todo,s,ob++CellsC s.hp):=by
 unfold Out.pick2 at h
 split at h
 · simp only[Option.some.injEq,Prod.mk.injEq]at h
   obtain⟨rfl,rfl,rfl⟩:=h
   rfl
 · cases h
theorem Ps.app2{a b:List Prop}(ha:Ps a)(hb:Ps b):Ps (a++b):=by
 induction ha with
 |nil=>exact hb
 |cons h t ih=>exact .cons h ih
section
variable{P:Program}{f:FuncId}{todo todo':List Item}{s s':St}{keep σ:List Nat}{ors:Ors}{ob:List Prop}
theorem z0D{R:Goal}(q:Os P ors ob)(h:(z3Q P f todo s ors false 100000).pick2 keep σ=some (todo',s',ob))(hσ:z0s σ=true)(hn:J0 R.n σ=true)(hk:Ok P f todo' s' R)(cv:Ps (CellsC s'.hp)):Ok P f todo s R:=
 okS (z4h h) hσ (q.ps.app2 cv) hn hk
theorem z1c{m:Nat}{R:Goal}(q:Os P ors ob)(h:(z6a P f m todo s ors false 100000).pick2 keep σ=some (todo',s',ob))(hσ:z0s σ=true)(hn:J0 R.n σ=true)(hk:Ok P f todo' s' R)(cv:Ps (CellsC s'.hp)):Ok P f todo s R:=
 zq2 (z4h h) hσ (q.ps.app2 cv) hn hk
theorem Y4{args:List CV}{R:CV→Prop}(q:Os P ors ob)(h:(zbE P f args ors false 100000).pick2 keep σ=some (todo',s',ob))(hσ:z0s σ=true)(hk:Ok P f todo' s' (.of R))(cv:Ps (CellsC s'.hp)):W6 P f args R:=
 z8d (z4h h) hσ (q.ps.app2 cv) hk
theorem okT{v:CV}{R:Goal}(q:Os P ors ob)(h:z3Q P f todo s ors false 100000= .ret v ob)(hR:R.c v):Ok P f todo s R:=okR h q.ps hR
theorem j5{args:List CV}{v:CV}(q:Os P ors ob)(h:zbE P f args ors false 100000= .ret v ob):PCall P f args v:=zgJ h q.ps
end
end Go.Fw
namespace Go.Fw
def val(b:Nat):List Nat→Nat
 | []=>0
 |x::xs=>x+b*val b xs
def zel(b:Nat):Nat→Nat→List Nat
 |0,_=>[]
 |f+1,n=>if n=0 then []else n%b::zel b f (n/b)
def dig(b n:Nat):List Nat:=zel b n n
def Dig(b:Nat)(xs:List Nat):Prop:= ∀x∈xs,x<b
theorem z8I{b:Nat}(hb:2≤b): ∀(f g n:Nat),n≤f→n≤g→zel b f n=zel b g n
 |0,0,n,_,_=>rfl
 | 0, g + 1, n, h, _ => by have : n = 0 := by omega
                           subst this;simp[zel]
 | f + 1, 0, n, _, h => by have : n = 0 := by omega
                           subst this;simp[zel]
 |f+1,g+1,n,h1,h2=>by
  simp only[zel]
  split
  · rfl
  · rename_i hn
    have:n/b<n:=Nat.div_lt_self (by omega) (by omega)
    rw[z8I hb f g (n/b) (by omega) (by omega)]
theorem z2K(b:Nat):dig b 0=[]:=rfl
theorem z39{b n:Nat}(hb:2≤b)(hn:n≠0):dig b n=n%b::dig b (n/b):=by
 unfold dig
 cases n with
 |zero=>omega
 |succ m=>
  have:(m+1)/b<m+1:=Nat.div_lt_self (by omega) (by omega)
  rw[show zel b (m+1) (m+1)=(m+1)%b::zel b m ((m+1)/b) by simp[zel],z8I hb m _ _ (by omega) (Nat.le_refl _)]
theorem Q6{b:Nat}(hb:2≤b)(n:Nat):val b (dig b n)=n:=by
 induction n using Nat.strongRecOn with
 |_ n ih=>
  by_cases hn:n=0
  · subst hn;rfl
  · rw[z39 hb hn,val,ih _ (Nat.div_lt_self (by omega) (by omega))]
    exact Nat.mod_add_div n b
theorem Y5{b:Nat}(hb:2≤b)(n:Nat):Dig b (dig b n):=by
 induction n using Nat.strongRecOn with
 |_ n ih=>
  by_cases hn:n=0
  · subst hn;intro x hx;simp[z2K]at hx
  · rw[z39 hb hn]
    intro x hx
    simp only[List.mem_cons]at hx
    rcases hx with rfl|hx
    · exact Nat.mod_lt _ (by omega)
    · exact ih _ (Nat.div_lt_self (by omega) (by omega)) x hx
def tz:List Nat→List Nat
 | []=>[]
 |x::xs=>match tz xs with
  | []=>if x=0 then []else [x]
  |y::ys=>x::y::ys
theorem z3i(x:Nat)(xs:List Nat):tz (x::xs)=if tz xs=[]then(if x=0 then []else [x])else x::tz xs:=by
 simp only[tz]
 split
 · rename_i h;simp[h]
 · rename_i y ys h;simp[h]
theorem zgV{b:Nat}(hb:2≤b)(n:Nat):tz (dig b n)=dig b n:=by
 induction n using Nat.strongRecOn with
 |_ n ih=>
  by_cases hn:n=0
  · subst hn;rfl
  · have h1:=ih _ (Nat.div_lt_self (by omega:0<n) (by omega:1<b))
    rw[z39 hb hn,z3i,h1]
    split
    · rename_i h
      have h2:=Q6 hb (n/b)
      rw[h]at h2
      simp only[val]at h2
      have h3:=Nat.mod_add_div n b
      rw[←h2]at h3
      rw[if_neg (by omega),h]
    · rfl
theorem z0S{b:Nat}(hb:2≤b): ∀xs,Dig b xs→tz xs=dig b (val b xs)
 | [],_=>rfl
 |x::xs,h=>by
  have hx:x<b:=h x (by simp)
  have ih:=z0S hb xs (fun y hy=>h y (by simp[hy]))
  rw[z3i,ih]
  simp only[val]
  by_cases hv:val b xs=0
  · rw[hv,z2K,if_pos rfl,Nat.mul_zero,Nat.add_zero]
    split
    · rename_i h0;rw[h0];rfl
    · rename_i h0
      rw[z39 hb h0,Nat.mod_eq_of_lt hx,Nat.div_eq_of_lt hx];rfl
  · have h1:dig b (val b xs)≠[]:=by rw[z39 hb hv];simp
    rw[if_neg h1]
    have h2:x+b*val b xs≠0:=by
     have:0<b*val b xs:=Nat.mul_pos (by omega) (by omega)
     omega
    rw[z39 hb h2]
    have h3:(x+b*val b xs)%b=x:=by rw[Nat.add_mul_mod_self_left,Nat.mod_eq_of_lt hx]
    have h4:(x+b*val b xs)/b=val b xs:=by rw[Nat.add_mul_div_left _ _ (by omega),Nat.div_eq_of_lt hx,Nat.zero_add]
    rw[h3,h4]
theorem Y8: ∀xs,tz (xs++[0])=tz xs
 | []=>rfl
 |x::xs=>by rw[List.cons_append,z3i,z3i,Y8 xs]
theorem z0P{x:Nat}(hx:x≠0): ∀xs,tz (xs++[x])=xs++[x]
 | []=>by simp[tz,hx]
 |y::xs=>by rw[List.cons_append,z3i,z0P hx xs];simp
theorem z2U(b:Nat): ∀xs ys,val b (xs++ys)=val b xs+b^xs.length*val b ys
 | [],ys=>by simp[val]
 |x::xs,ys=>by
  simp only[List.cons_append,val,z2U b xs ys,List.length_cons,Nat.pow_succ]
  rw[Nat.mul_add,←Nat.add_assoc,←Nat.mul_assoc,Nat.mul_comm b (b^xs.length)]
theorem z0z{b:Nat}(hb:0<b): ∀xs,Dig b xs→val b xs<b^xs.length
 | [],_=>by simp[val]
 |x::xs,h=>by
  have hx:x<b:=h x (by simp)
  have ih:=z0z hb xs (fun y hy=>h y (by simp[hy]))
  simp only[val,List.length_cons,Nat.pow_succ]
  calc x+b*val b xs<b+b*val b xs:=by omega
   _=b*(val b xs+1):=by rw[Nat.mul_add,Nat.mul_one,Nat.add_comm]
   _≤b*b^xs.length:=Nat.mul_le_mul_left _ ih
   _=b^xs.length*b:=Nat.mul_comm _ _
theorem z1u(b n:Nat):val b (List.replicate n 0)=0:=by
 induction n with
 |zero=>rfl
 |succ n ih=>rw[List.replicate_succ,val,ih];simp
theorem Q9{b:Nat}(hb:2≤b){n k:Nat}(h:n<b^k):(dig b n).length≤k:=by
 induction k generalizing n with
 | zero => have : n = 0 := by simpa using h
           subst this;simp[z2K]
 |succ k ih=>
  by_cases hn:n=0
  · subst hn;simp[z2K]
  · rw[z39 hb hn,List.length_cons]
    have:n/b<b^k:=by
     rw[Nat.div_lt_iff_lt_mul (by omega)]
     rw[Nat.pow_succ]at h;exact h
    have:=ih this
    omega
theorem J9{b:Nat}(hb:2≤b)(n:Nat):n<b^(dig b n).length:=by
 have:=z0z (by omega:0<b) (dig b n) (Y5 hb n)
 rw[Q6 hb]at this;exact this
theorem z4q{b:Nat}(hb:2≤b){n:Nat}:dig b n=[]↔n=0:=by
 constructor
 · intro h
   have:=Q6 hb n
   rw[h]at this
   exact this.symm
 · rintro rfl;rfl
theorem Y2{b:Nat}(hb:2≤b){n:Nat}:(dig b n).length=0↔n=0:=by
 rw[List.length_eq_zero_iff,z4q hb]
theorem Dig.get{b:Nat}{xs:List Nat}(h:Dig b xs)(hb:0<b)(i:Nat):xs.getD i 0<b:=by
 rw[List.getD_eq_getElem?_getD]
 cases hi:xs[i]? with
 |none=>simpa using hb
 |some x=>simpa using h x (List.mem_of_getElem? hi)
theorem Dig.take{b:Nat}{xs:List Nat}(h:Dig b xs)(n:Nat):Dig b (xs.take n):=fun x hx=>h x (List.mem_of_mem_take hx)
theorem Dig.drop{b:Nat}{xs:List Nat}(h:Dig b xs)(n:Nat):Dig b (xs.drop n):=fun x hx=>h x (List.mem_of_mem_drop hx)
theorem Dig.append{b:Nat}{xs ys:List Nat}(h:Dig b xs)(k:Dig b ys):Dig b (xs++ys):=by
 intro x hx
 rcases List.mem_append.1 hx with hx|hx
 · exact h x hx
 · exact k x hx
theorem Dig.replicate{b:Nat}(hb:0<b)(n:Nat):Dig b (List.replicate n 0):=by
 intro x hx;rw[List.mem_replicate]at hx;rw[hx.2];exact hb
theorem Dig.set{b:Nat}{xs:List Nat}(h:Dig b xs){d:Nat}(hd:d<b)(i:Nat):Dig b (xs.set i d):=by
 intro x hx
 rcases List.mem_or_eq_of_mem_set hx with hx|rfl
 · exact h x hx
 · exact hd
theorem z0M{xs:List Nat}{i:Nat}(h:i<xs.length):xs.take (i+1)=xs.take i++[xs.getD i 0]:=by
 rw[List.take_succ_eq_append_getElem h]
 simp[List.getD_eq_getElem?_getD,List.getElem?_eq_getElem h]
theorem X9{b:Nat}{xs:List Nat}{i:Nat}(h:i<xs.length):val b (xs.take (i+1))=val b (xs.take i)+b^i*xs.getD i 0:=by
 rw[z0M h,z2U]
 simp[val,List.length_take,Nat.min_eq_left (Nat.le_of_lt h)]
theorem z1l{b:Nat}{xs:List Nat}{i:Nat}(h:i<xs.length):val b (xs.drop i)=xs.getD i 0+b*val b (xs.drop (i+1)):=by
 rw[List.drop_eq_getElem_cons h,val]
 simp[List.getD_eq_getElem?_getD,List.getElem?_eq_getElem h]
theorem z0N{b:Nat}(xs:List Nat)(i:Nat)(h:i≤xs.length):val b xs=val b (xs.take i)+b^i*val b (xs.drop i):=by
 conv=>lhs;rw[←List.take_append_drop i xs]
 rw[z2U,List.length_take,Nat.min_eq_left h]
def Q7(b:Nat):Nat→Nat→List Nat
 |0,_=>[]
 |m+1,n=>n%b::Q7 b m (n/b)
theorem j8(b:Nat): ∀m n,(Q7 b m n).length=m
 |0,_=>rfl
 |m+1,n=>by simp[Q7,j8 b m]
theorem U1{b:Nat}(hb:0<b): ∀m n,Dig b (Q7 b m n)
 |0,_=>by intro x hx;simp[Q7]at hx
 |m+1,n=>by
  intro x hx
  simp only[Q7,List.mem_cons]at hx
  rcases hx with rfl|hx
  · exact Nat.mod_lt _ hb
  · exact U1 hb m _ x hx
theorem z06(b:Nat): ∀m n,val b (Q7 b m n)=n%b^m
 |0,n=>by simp[Q7,val,Nat.mod_one]
 |m+1,n=>by
  rw[Q7,val,z06 b m,Nat.pow_succ,Nat.mul_comm (b^m) b,Nat.mod_mul]
theorem z1i(b:Nat): ∀m,Q7 b m 0=List.replicate m 0
 |0=>rfl
 |m+1=>by simp[Q7,z1i b m,List.replicate_succ]
theorem Y9(b:Nat): ∀m n j,j<m→(Q7 b m n).getD j 0=n/b^j%b
 |0,_,_,h=>by omega
 |m+1,n,0,_=>by simp[Q7]
 |m+1,n,j+1,h=>by
  have:=Y9 b m (n/b) j (by omega)
  simp only[Q7,List.getD_cons_succ]
  rw[this,Nat.div_div_eq_div_mul,Nat.pow_succ,Nat.mul_comm b]
theorem z0W{b:Nat}(hb:0<b): ∀m n j d,j<m→n/b^j%b+d<b→(Q7 b m n).set j (n/b^j%b+d)=Q7 b m (n+d*b^j)
 |0,_,_,_,h,_=>by omega
 |m+1,n,0,d,_,h=>by
  simp only[Nat.pow_zero,Nat.div_one,Nat.mul_one]at h ⊢
  simp only[Q7,List.set_cons_zero]
  have h1:(n+d)%b=n%b+d:=by
   have:=Nat.mod_add_div n b
   conv=>lhs;rw[←this,show n%b+b*(n/b)+d=(n%b+d)+b*(n/b) by omega,Nat.add_mul_mod_self_left,Nat.mod_eq_of_lt h]
  have h2:(n+d)/b=n/b:=by
   have:=Nat.mod_add_div n b
   conv=>lhs;rw[←this,show n%b+b*(n/b)+d=(n%b+d)+b*(n/b) by omega,Nat.add_mul_div_left _ _ hb,Nat.div_eq_of_lt h,Nat.zero_add]
  rw[h1,h2]
 |m+1,n,j+1,d,hj,h=>by
  have e:n/b^(j+1)=n/b/b^j:=by rw[Nat.div_div_eq_div_mul,Nat.pow_succ,Nat.mul_comm b]
  rw[e]at h ⊢
  simp only[Q7,List.set_cons_succ]
  rw[z0W hb m (n/b) j d (by omega) h]
  have h1:(n+d*b^(j+1))%b=n%b:=by rw[Nat.pow_succ,←Nat.mul_assoc,Nat.add_mul_mod_self_right]
  have h2:(n+d*b^(j+1))/b=n/b+d*b^j:=by rw[Nat.pow_succ,←Nat.mul_assoc,Nat.add_mul_div_right _ _ hb]
  rw[h1,h2]
theorem z3C{xs:List Nat}{i d:Nat}(h:i<xs.length):(xs.set i d).getD i 0=d:=by simp[List.getD_eq_getElem?_getD,h]
theorem z19{xs:List Nat}{i j d:Nat}(h:i≠j):(xs.set i d).getD j 0=xs.getD j 0:=by simp[List.getD_eq_getElem?_getD,h]
theorem U8{b:Nat}{xs:List Nat}{i d:Nat}(h:i<xs.length):val b ((xs.set i d).take (i+1))=val b (xs.take i)+b^i*d:=by
 rw[X9 (by simpa using h),z3C h,List.take_set_of_le (Nat.le_refl _)]
theorem z0a{b:Nat}{xs:List Nat}{i:Nat}(h:xs.length≤i):val b (xs.take i)=val b xs:=by rw[List.take_of_length_le h]
theorem z3j{xs:List Nat}{i:Nat}(h:xs.length≤i):xs.getD i 0=0:=by simp[List.getD_eq_getElem?_getD,h]
theorem Z7{b:Nat}(xs:List Nat)(i:Nat):val b (xs.take (i+1))=val b (xs.take i)+b^i*xs.getD i 0:=by
 by_cases h:i<xs.length
 · exact X9 h
 · rw[z0a (by omega),z0a (by omega),z3j (by omega)];simp
theorem z3G{b:Nat}(xs:List Nat)(i:Nat):val b (xs.drop i)=xs.getD i 0+b*val b (xs.drop (i+1)):=by
 by_cases h:i<xs.length
 · exact z1l h
 · rw[List.drop_eq_nil_of_le (by omega),List.drop_eq_nil_of_le (by omega),z3j (by omega)];simp[val]
theorem z4D{b:Nat}{xs:List Nat}{i d:Nat}(h:i<xs.length):val b ((xs.set i d).drop i)=d+b*val b (xs.drop (i+1)):=by
 rw[z1l (by simpa using h),z3C h,List.drop_set_of_lt (by omega)]
end Go.Fw
namespace Go.Fw
abbrev B32:Nat:=4294967296
abbrev B24:Nat:=16777216
def z0j(n:Nat):CV:= .lst (dig B32 n).length (j7 (dig B32 n))
def z1X(n:Nat):CV:= .lst (dig B24 n).length (j3 (dig B24 n))
theorem X6{P:Program}{f:FuncId}{args:List CV}{v:CV}(h:W6 P f args (fun x=>x=v)):PCall P f args v:=h
theorem w64{n:Int}(h: -9223372036854775808≤n∧n≤9223372036854775807):IntKind.i64.wrap n=n:=IntWalk.i64_in n h
theorem zkJ{xs:List Nat}(h:Dig B32 xs):CV.lst (tz xs).length (j7 (tz xs))=z0j (val B32 xs):=by rw[z0j,z0S (by decide) xs h]
theorem zj8{xs:List Nat}(h:Dig B24 xs):CV.lst (tz xs).length (j3 (tz xs))=z1X (val B24 xs):=by rw[z1X,z0S (by decide) xs h]
theorem U0{xs:List Nat}(h:xs≠[]):xs=xs.take (xs.length-1)++[xs.getD (xs.length-1) 0]:=by
 have h1:xs.length-1<xs.length:=by have:=List.length_pos_iff.2 h;omega
 conv=>lhs;rw[←List.take_length (l:=xs),show xs.length=xs.length-1+1 by omega]
 exact z0M h1
end Go.Fw
set_option maxRecDepth 10000
namespace Go.Fw
theorem V6(n:Nat):0<B32^n:=Nat.pow_pos (by decide)
theorem zgn{b:Nat}(hb:0<b)(m n j x:Nat)(hj:j<m)(hx:x<b):(Q7 b m n).set j x=Q7 b m (n-n/b^j%b*b^j+x*b^j):=by
 have hp:0<b^j:=Nat.pow_pos hb
 have hle:n/b^j%b*b^j≤n:=Nat.le_trans (Nat.mul_le_mul_right _ (Nat.mod_le _ _)) (Nat.div_mul_le_self _ _)
 have key:(Q7 b m n)=(Q7 b m (n-n/b^j%b*b^j)).set j (n/b^j%b):=by
  have h0:(n-n/b^j%b*b^j)/b^j%b=0:=by
   have e:n-n/b^j%b*b^j=n%b^j+b*(n/b^j/b)*b^j:=by
    have h1:=Nat.mod_add_div n (b^j)
    have h2:=Nat.mod_add_div (n/b^j) b
    have h3:b^j*(n/b^j)=(n/b^j%b)*b^j+b*(n/b^j/b)*b^j:=by rw[←Nat.add_mul,h2,Nat.mul_comm]
    omega
   rw[e,Nat.add_mul_div_right _ _ hp,Nat.div_eq_of_lt (Nat.mod_lt _ hp),Nat.zero_add,Nat.mul_mod_right]
  have:=z0W hb m (n-n/b^j%b*b^j) j (n/b^j%b) hj (by rw[h0,Nat.zero_add];exact Nat.mod_lt _ hb)
  rw[h0,Nat.zero_add]at this
  rw[this]
  congr 1;omega
 have h0:(n-n/b^j%b*b^j)/b^j%b=0:=by
  have e:n-n/b^j%b*b^j=n%b^j+b*(n/b^j/b)*b^j:=by
   have h1:=Nat.mod_add_div n (b^j)
   have h2:=Nat.mod_add_div (n/b^j) b
   have h3:b^j*(n/b^j)=(n/b^j%b)*b^j+b*(n/b^j/b)*b^j:=by rw[←Nat.add_mul,h2,Nat.mul_comm]
   omega
  rw[e,Nat.add_mul_div_right _ _ hp,Nat.div_eq_of_lt (Nat.mod_lt _ hp),Nat.zero_add,Nat.mul_mod_right]
 have hs:=z0W hb m (n-n/b^j%b*b^j) j x hj (by rw[h0,Nat.zero_add];exact hx)
 rw[h0,Nat.zero_add]at hs
 rw[key,List.set_set,hs]
structure Guess(U V v1 v2 top u2 p:Nat):Prop where
 hp:0<p
 hU: ∃ul,ul<p∧U=(top*B32+u2)*p+ul
 hV: ∃vl,vl<p∧V=(v1*B32+v2)*p+vl
 hv1:2147483648≤v1
 hv1':v1<B32
 hv2:v2<B32
 hu2:u2<B32
 hlt:U<V*B32
namespace Guess
variable{U V v1 v2 top u2 p:Nat}(g:Guess U V v1 v2 top u2 p)
include g
theorem vpos:0<V:=by
 obtain⟨vl,_,e⟩:=g.hV
 have h1:=g.hv1
 have hp:=g.hp
 have:0<(v1*B32+v2)*p:=Nat.mul_pos (by simp only[B32];omega) hp
 omega
theorem top_le:top≤v1*B32+(B32-1):=by
 obtain⟨ul,hul,eU⟩:=g.hU
 obtain⟨vl,hvl,eV⟩:=g.hV
 have hlt:=g.hlt
 have hp:=g.hp
 have hv2:=g.hv2
 have h1:top*B32*p≤U:=by rw[eU,Nat.add_mul];omega
 have h2:V<(v1+1)*B32*p:=by
  rw[eV]
  calc (v1*B32+v2)*p+vl<(v1*B32+v2)*p+p:=by omega
   _=(v1*B32+v2+1)*p:=by rw[Nat.add_mul _ 1,Nat.one_mul]
   _≤(v1+1)*B32*p:=Nat.mul_le_mul_right _ (by rw[Nat.add_mul];omega)
 have h3:top*(B32*p)<(v1+1)*B32*(B32*p):=by
  calc top*(B32*p)=top*B32*p:=(Nat.mul_assoc _ _ _).symm
   _≤U:=h1
   _<V*B32:=hlt
   _≤(v1+1)*B32*p*B32:=Nat.mul_le_mul_right _ (by omega)
   _=(v1+1)*B32*(B32*p):=by rw[Nat.mul_assoc ((v1+1)*B32),Nat.mul_comm p]
 have h4:=Nat.lt_of_mul_lt_mul_right h3
 rw[Nat.add_mul]at h4
 simp only[B32]at*;omega
theorem quot_lt:U/V<B32:=by rw[Nat.div_lt_iff_lt_mul g.vpos,Nat.mul_comm];exact g.hlt
theorem quot_le:U/V*(v1*B32+v2)≤top*B32+u2:=by
 obtain⟨ul,hul,eU⟩:=g.hU
 obtain⟨vl,hvl,eV⟩:=g.hV
 have h1:U/V*V≤U:=Nat.div_mul_le_self _ _
 have h2:U/V*(v1*B32+v2)*p<(top*B32+u2+1)*p:=by
  calc U/V*(v1*B32+v2)*p=U/V*((v1*B32+v2)*p):=Nat.mul_assoc _ _ _
   _≤U/V*V:=Nat.mul_le_mul_left _ (by omega)
   _≤U:=h1
   _<(top*B32+u2)*p+p:=by omega
   _=(top*B32+u2+1)*p:=by rw[Nat.add_mul _ 1,Nat.one_mul]
 have:=Nat.lt_of_mul_lt_mul_right h2
 exact Nat.lt_succ_iff.1 this
theorem le_succ{q:Nat}(hq:q<B32)(h:q*(v1*B32+v2)≤top*B32+u2):q≤U/V+1:=by
 obtain⟨ul,hul,eU⟩:=g.hU
 obtain⟨vl,hvl,eV⟩:=g.hV
 have hv1:=g.hv1
 have hqp:q*p≤V:=by
  calc q*p≤(v1*B32+v2)*p:=Nat.mul_le_mul_right _ (by simp only[B32]at*;omega)
   _≤V:=by omega
 have h1:q*V≤U+V:=by
  calc q*V≤q*((v1*B32+v2)*p+p):=Nat.mul_le_mul_left _ (by omega)
   _=q*(v1*B32+v2)*p+q*p:=by rw[Nat.mul_add,Nat.mul_assoc]
   _≤(top*B32+u2)*p+V:=Nat.add_le_add (Nat.mul_le_mul_right _ h) hqp
   _≤U+V:=by omega
 cases q with
 |zero=>exact Nat.zero_le _
 |succ q=>
  have h2:q*V≤U:=by rw[Nat.succ_mul]at h1;omega
  exact Nat.succ_le_succ ((Nat.le_div_iff_mul_le g.vpos).2 h2)
end Guess
structure Corr(U V v1 v2 top u2 q r:Nat):Prop where
 eq:q*v1+r=top
 le:U/V≤q
 up:q≤B32+1
 rest:r<B32
namespace Corr
variable{U V v1 v2 top u2 p q r:Nat}
theorem start(g:Guess U V v1 v2 top u2 p):Corr U V v1 v2 top u2 (top/v1) (top%v1):=by
 have h1:=g.hv1
 have ht:=g.top_le
 have hle:U/V≤top/v1:=by
  rw[Nat.le_div_iff_mul_le (by omega)]
  have:=g.quot_le
  have h2:U/V*v1*B32<(top+1)*B32:=by
   calc U/V*v1*B32=U/V*(v1*B32):=Nat.mul_assoc _ _ _
    _≤U/V*(v1*B32+v2):=Nat.mul_le_mul_left _ (by omega)
    _≤top*B32+u2:=this
    _<(top+1)*B32:=by rw[Nat.add_mul];have:=g.hu2;omega
  have:=Nat.lt_of_mul_lt_mul_right h2
  exact Nat.lt_succ_iff.1 this
 refine⟨?_,hle,?_,?_⟩
 · rw[Nat.mul_comm];exact Nat.div_add_mod _ _
 · rw[←Nat.lt_succ_iff,Nat.div_lt_iff_lt_mul (by omega)]
   simp only[B32]at*;omega
 · have:=Nat.mod_lt top (by omega:0<v1)
   have:=g.hv1'
   omega
theorem done(g:Guess U V v1 v2 top u2 p)(c:Corr U V v1 v2 top u2 q r)(h1:q<B32)(h2:q*v2≤r*B32+u2):q=U/V∨q=U/V+1:=by
 have h3:q*(v1*B32+v2)≤top*B32+u2:=by
  have e1:top*B32=q*v1*B32+r*B32:=by rw[←c.eq,Nat.add_mul]
  rw[e1,Nat.mul_add,←Nat.mul_assoc];omega
 have k1:=g.le_succ h1 h3
 have k2:=c.le
 generalize U/V=Q at*
 omega
theorem pred_le(g:Guess U V v1 v2 top u2 p)(c:Corr U V v1 v2 top u2 q r)(h:B32≤q∨r*B32+u2<q*v2):U/V<q:=by
 rcases h with h|h
 · exact Nat.lt_of_lt_of_le g.quot_lt h
 · have hq:=g.quot_le
   have h3:top*B32+u2<q*(v1*B32+v2):=by
    have e1:top*B32=q*v1*B32+r*B32:=by rw[←c.eq,Nat.add_mul]
    rw[e1,Nat.mul_add,←Nat.mul_assoc]
    rw[Nat.add_assoc]
    exact Nat.add_lt_add_left h _
   have h4: ∀k:Nat,U/V*k≤top*B32+u2→top*B32+u2<q*k→U/V<q:=fun k a b=>Nat.lt_of_mul_lt_mul_right (Nat.lt_of_le_of_lt a b)
   exact h4 _ hq h3
theorem step(g:Guess U V v1 v2 top u2 p)(c:Corr U V v1 v2 top u2 q r)(h:B32≤q∨r*B32+u2<q*v2)(hr:r+v1<B32):Corr U V v1 v2 top u2 (q-1) (r+v1):=by
 have hq:=c.pred_le g h
 have e:=c.eq
 have up:=c.up
 refine⟨?_,Nat.le_sub_one_of_lt hq,by omega,hr⟩
 have hq1:1≤q:=Nat.lt_of_le_of_lt (Nat.zero_le _) hq
 obtain⟨q',rfl⟩: ∃q',q=q'+1:=⟨q-1,by omega⟩
 rw[Nat.add_mul,Nat.one_mul]at e
 simp only[Nat.add_sub_cancel]
 omega
theorem last(g:Guess U V v1 v2 top u2 p)(c:Corr U V v1 v2 top u2 q r)(h:B32≤q∨r*B32+u2<q*v2)(hr:B32≤r+v1):q-1<B32∧(q-1=U/V∨q-1=U/V+1):=by
 have hq:=c.pred_le g h
 have e:=c.eq
 have ht:=g.top_le
 have hu:=c.up
 have hv2:=g.hv2
 have hlt:q≤B32:=by
  rcases Nat.lt_or_ge q (B32+1)with h|h
  · omega
  · have:q=B32+1:=by omega
    subst this
    rw[Nat.add_mul,Nat.one_mul,Nat.mul_comm B32]at e
    omega
 have hls: ∀q,q<B32→q*(v1*B32+v2)≤top*B32+u2→q≤U/V+1:=fun q a b=>g.le_succ a b
 clear g c
 generalize U/V=Q at*
 obtain⟨q',rfl⟩: ∃q',q=q'+1:=⟨q-1,by omega⟩
 refine⟨by omega,?_⟩
 simp only[Nat.add_sub_cancel]
 have hq':q'<B32:=by omega
 have h2:q'*v2≤(r+v1)*B32+u2:=by
  calc q'*v2≤B32*B32:=Nat.mul_le_mul (by omega) (by omega)
   _≤(r+v1)*B32:=Nat.mul_le_mul_right _ hr
   _≤_:=Nat.le_add_right _ _
 have h3:q'*(v1*B32+v2)≤top*B32+u2:=by
  rw[Nat.add_mul,Nat.one_mul]at e
  rw[←e,Nat.mul_add,←Nat.mul_assoc]
  have:(q'*v1+v1+r)*B32=q'*v1*B32+(r+v1)*B32:=by
   rw[←Nat.add_mul];congr 1;omega
  omega
 have:=hls q' hq' h3
 omega
end Corr
theorem zak (W Wi q vi x P Pj c b d s c2 b2 new : Nat) (hinv : Wi + q * vi * Pj = W + (c + b) * P)
    (hP: ∃Pi,P=Pj*Pi) (hs:c+q*x=s+B32*c2) (hn:new+s+b=d+b2*B32) (hd:d*P≤Wi) (Pi:Nat) (hPi:P=Pj*Pi):
    (Wi-d*P+new*P)+q*(vi+Pi*x)*Pj=W+(c2+b2)*(P*B32):=by
 have e1:q*(vi+Pi*x)*Pj=q*vi*Pj+q*x*P:=by
  rw[Nat.mul_add,Nat.add_mul,hPi]
  congr 1
  rw[←Nat.mul_assoc q,Nat.mul_assoc _ _ Pj,Nat.mul_assoc q Pi,Nat.mul_comm Pi (x*Pj),Nat.mul_assoc x,←Nat.mul_assoc q]
 have e2:(c2+b2)*(P*B32)=B32*c2*P+b2*B32*P:=by
  rw[Nat.add_mul];congr 1<;>(rw[Nat.mul_comm P,←Nat.mul_assoc];try rw[Nat.mul_comm c2])
 have e3:(c+q*x)*P=(s+B32*c2)*P:=by rw[hs]
 have e4:(new+s+b)*P=(d+b2*B32)*P:=by rw[hn]
 rw[e1,e2]
 simp only[Nat.add_mul]at*
 omega
end Go.Fw
