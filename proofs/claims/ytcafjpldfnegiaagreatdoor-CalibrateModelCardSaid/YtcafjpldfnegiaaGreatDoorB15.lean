/- A part of the proof that the law returns true for every input: an executor for the model's code, and what functions of the program compute. -/
import Derived.Test.YtcafjpldfnegiaaGreatDoorB11
import Derived.Test.YtcafjpldfnegiaaGreatDoorB12
import Derived.IntWalk
open Go IntKind
open Go Go.Proofs Go.Proofs.YtcafjpldfnegiaaGreatDoor
namespace Go.Fw
open Go.ChangeShapes Go.WideShapes Go.ChangeAt Go.RowKit
set_option maxRecDepth 100000
inductive CT where
 |b
 |i (k:IntKind)
 |s
def CT.ok:CT→Value→Prop
 | .b,v=> ∃b,v= .bool b
 | .i k,v=> ∃n,v= .int k n∧(Lit.int k n).wf=true
 | .s,v=> ∃s,v= .string s
def CTs:List CT→List Value→Prop
 | [],l=>l=[]
 |c::cs,l=> ∃v vs,l=v::vs∧c.ok v∧CTs cs vs
theorem CTs.length: ∀{ts:List CT} {l:List Value},CTs ts l→l.length=ts.length
 | [],l,h=>by simp only[CTs]at h;subst h;rfl
 |c::cs,l,h=>by
  simp only[CTs]at h
  obtain⟨v,vs,rfl,_,h2⟩:=h
  simp[CTs.length h2]
theorem CTs.app: ∀{ts us:List CT} {l m:List Value},CTs ts l→CTs us m→CTs (ts++us) (l++m)
 | [],us,l,m,h,k=>by simp only[CTs]at h;subst h;simpa using k
 |c::cs,us,l,m,h,k=>by
  simp only[CTs]at h
  obtain⟨v,vs,rfl,h1,h2⟩:=h
  simp only[List.cons_append,CTs]
  exact⟨v,vs++m,rfl,h1,CTs.app h2 k⟩
def zet(P:Program)(f:TypeId→Option (List CT)):Nat→List Field→Option (List CT)
 |_,[]=>some []
 |off,fd::fs=>
  if fd.offset=off then
   match f fd.type with
   |some ts=>
    if ts.length=P.cellsOf fd.type then
     match zet P f (off+ts.length) fs with
     |some r=>some (ts++r)
     |none=>none
    else none
   |none=>none
  else none
def zsA(ts:List CT):Nat→List CT
 |0=>[]
 |n+1=>ts++zsA ts n
def z4W(P:Program):Nat→TypeId→Option (List CT)
 |0,_=>none
 |m+1,t=>
  match P.underlying t with
  |some .bool=>some [.b]
  |some (.int k)=>some [.i k]
  |some .string=>some [.s]
  |some (.struct fs)=>match zet P (z4W P m) 0 fs.toList with
   |some ts=>if ts.length=P.cellsOf t then some ts else none
   |none=>none
  |some (.array n e)=>match z4W P m e with
   |some ts=>if ts.length=P.cellsOf e∧n*ts.length=P.cellsOf t then some (zsA ts n)else none
   |none=>none
  |_=>none
section
variable{H:Type}{enc:TypeId×Value→H}{P:Program}{w:World}{base:Nat}{sp:Nat→Bool}{hd:Bool}
theorem z3p{α β:Type}{f:α→Option β}{a:α}{l:List α}{r:List β}(h:(a::l).mapM f=some r): ∃x xs,f a=some x∧l.mapM f=some xs∧r=x::xs:=by
 rw[List.mapM_cons]at h
 cases hf:f a with
 |none=>simp[hf]at h
 |some x=>
  cases hl:l.mapM f with
  |none=>simp[hf,hl]at h
  |some xs=>simp[hf,hl]at h;exact⟨x,xs,rfl,rfl,h.symm⟩
theorem zay {f : TypeId → Option (List CT)} {g : TypeId → List Value → Option (DataW H × List MemPlace)} (hfg : ∀ t l x ts, g t l = some x → f t = some ts → CTs ts l) (cs : List Value) :
    ∀(fs:List Field) (off:Nat) (ts:List CT) (xs:List (DataW H×List MemPlace)),zet P f off fs=some ts→(fs.mapM fun fd=>g fd.type ((cs.drop fd.offset).take (P.cellsOf fd.type)))=some xs→off+ts.length=cs.length→CTs ts (cs.drop off)
 | [],off,ts,xs,h,_,hl=>by
  simp only[zet]at h;cases h
  simp at hl
  simp only[CTs]
  rw[List.drop_eq_nil_iff];omega
 |fd::fs,off,ts,xs,h,hm,hl=>by
  simp only[zet]at h
  split at h
  · rename_i ho
    split at h
    · rename_i ts1 h1
      split at h
      · rename_i hlen
        split at h
        · rename_i r hr
          cases h
          obtain⟨x,xs',e1,e2,_⟩:=z3p hm
          have k1:=hfg _ _ _ _ e1 h1
          simp only[List.length_append]at hl
          have k2:=zay hfg cs fs (off+ts1.length) r xs' hr e2 (by omega)
          have:=CTs.app k1 k2
          rw[ho,←hlen]at this
          rw[←List.drop_drop,List.take_append_drop]at this
          exact this
        · cases h
      · cases h
    · cases h
  · cases h
theorem zdD {e : TypeId} {ts : List CT} {g : List Value → Option (DataW H × List MemPlace)} (hg : ∀ l x, g l = some x → CTs ts l) (hlen : ts.length = P.cellsOf e) (cs : List Value) :
    ∀(n k:Nat) (xs:List (DataW H×List MemPlace)),((List.range' k n).mapM fun i=>g ((cs.drop (i*P.cellsOf e)).take (P.cellsOf e)))=some xs→(k+n)*ts.length=cs.length→CTs (zsA ts n) (cs.drop (k*ts.length))
 |0,k,xs,_,hl=>by
  simp only[zsA,CTs]
  rw[List.drop_eq_nil_iff];simp at hl;omega
 |n+1,k,xs,h,hl=>by
  rw[List.range'_succ]at h
  obtain⟨x,xs',e1,e2,_⟩:=z3p h
  have k1:=hg _ _ e1
  have k2:=zdD hg hlen cs n (k+1) xs' e2 (by rw[←hl];congr 1;omega)
  have:=CTs.app k1 k2
  rw[←hlen,Nat.add_mul,Nat.one_mul,←List.drop_drop,List.take_append_drop]at this
  exact this
theorem z45: ∀(m fuel:Nat) (t:TypeId) (cs:List Value) (x:DataW H×List MemPlace) (ts:List CT),DataW.trod enc P w base sp hd fuel t cs=some x→z4W P m t=some ts→CTs ts cs
 |0,_,_,_,_,_,_,h=>by simp[z4W]at h
 |m+1,0,_,_,_,_,h,_=>by simp[DataW.trod]at h
 |m+1,fuel+1,t,cs,x,ts,h,hf=>by
  simp only[z4W]at hf
  split at hf
  · rename_i hu
    cases hf
    simp only[DataW.trod,hu]at h
    split at h<;>first|(rename_i he;cases he;done)|skip
    all_goals first|(simp only[CTs,CT.ok];exact⟨_,_,rfl,⟨_,rfl⟩,rfl⟩)|simp_all
  · rename_i k hu
    cases hf
    simp only[DataW.trod,hu]at h
    split at h
    all_goals first|(simp_all;done)|skip
    all_goals (rename_i he;cases he;split at h;rename_i hk;obtain⟨rfl,hw⟩:=hk;simp only[CTs,CT.ok];exact⟨_,_,rfl,⟨_,rfl,hw⟩,rfl⟩;cases h)
  · rename_i hu
    cases hf
    simp only[DataW.trod,hu]at h
    split at h<;>first|(rename_i he;cases he;done)|skip
    all_goals first|(simp only[CTs,CT.ok];exact⟨_,_,rfl,⟨_,rfl⟩,rfl⟩)|simp_all
  · rename_i fs hu
    split at hf
    · rename_i ts' hts
      split at hf
      · rename_i hl
        cases hf
        have h':(if cs.length=P.cellsOf t then(fs.toList.mapM fun f=>DataW.trod enc P w base sp hd fuel f.type ((cs.drop f.offset).take (P.cellsOf f.type))).map fun xs=>(DataW.agg (xs.map (·.1)),xs.flatMap (·.2))else none)=some x:=by
         rw[←h];simp only[DataW.trod,hu]
        split at h'
        · rename_i hc
          cases hm:(fs.toList.mapM fun f=>DataW.trod enc P w base sp hd fuel f.type ((cs.drop f.offset).take (P.cellsOf f.type)))with
          |none=>rw[hm]at h';cases h'
          |some xs=>
           have:=zay (P:=P) (fun t l x ts a b=>z45 m fuel t l x ts a b) cs _ 0 _ xs hts hm (by omega)
           simpa using this
        · cases h'
      · cases hf
    · cases hf
  · rename_i n e hu
    split at hf
    · rename_i ts' hts
      split at hf
      · rename_i hl
        cases hf
        have h':(if cs.length=P.cellsOf t then((List.range n).mapM fun i=>DataW.trod enc P w base sp hd fuel e ((cs.drop (i*P.cellsOf e)).take (P.cellsOf e))).map fun xs=>(DataW.agg (xs.map (·.1)),xs.flatMap (·.2))else none)=some x:=by
         rw[←h];simp only[DataW.trod,hu]
        split at h'
        · rename_i hc
          cases hm:((List.range n).mapM fun i=>DataW.trod enc P w base sp hd fuel e ((cs.drop (i*P.cellsOf e)).take (P.cellsOf e)))with
          |none=>rw[hm]at h';cases h'
          |some xs=>
           rw[List.range_eq_range']at hm
           have:=zdD (P:=P) (e:=e) (fun l x a=>z45 m fuel e l x ts' a hts) hl.1 cs n 0 xs hm (by rw[hc,←hl.2];simp)
           simpa using this
        · cases h'
      · cases hf
    · cases hf
  · cases hf
theorem zd1 {t : TypeId} {v : Value} {d : DataW H} {ps : List MemPlace} {r : Reach} {b0 : Nat} (m : Nat) {ts : List CT} (hf : z4W P m t = some ts) (ha : (match P.underlying t with | some dd => z0N dd | none => false) = true)
    (hval:Value.okWide P w r b0 t v) (h:DataW.Trod enc P w base sp hd t v d ps): ∃cs:List Value,v= .agg cs.toArray∧CTs ts cs:=by
 obtain⟨fuel,hx⟩:=h
 have:=z45 m fuel t _ _ ts hx hf
 unfold Value.okWide at hval
 cases hu:P.underlying t with
 |none=>rw[hu]at ha;cases ha
 |some dd=>
  rw[hu]at ha hval
  cases dd<;>first|(simp[z0N]at ha;done)|skip
  all_goals
   obtain⟨cs,rfl,_,_⟩:=hval
   exact⟨cs.toList,rfl,this⟩
theorem z6D(I:Imm): ∀l:List Value,CV.repL I (l.map .lit) l
 | []=>rfl
 |v::l=>⟨v,l,rfl,rfl,z6D I l⟩
theorem zlY(I:Imm)(l:List Value):CV.rep I (.agg (l.map .lit)) (.agg l.toArray):=⟨l.toArray,rfl,z6D I l⟩
end
end Go.Fw
namespace Go.Fw
theorem z7F{I:Imm}{b:Nat}{cs:List Value}(h:I b=none):I.le (fun k=>if k=b then some cs else I k):=by
 intro k x hk
 have:k≠b:=by intro e;subst e;rw[h]at hk;cases hk
 simp only[this,if_false];exact hk
theorem FCall.pcall {P : Program} {f : FuncId} {args : List CV} {off len sz : Nat} {cells : List CV} (h : FCall P f args (.sl 0 off len sz) cells) (hl : off + len * sz ≤ cells.length) :
    PCall P f args (.lst len ((cells.drop off).take (len*sz))):=by
 intro Im w vs him hrep
 refine(h Im w vs him hrep).mono ?_
 rintro e w' ⟨y,v,cells,I',b,κ,c,T,rfl,⟨rfl,rfl⟩,hv,h1,h2,h3,h4,h5,h6,h7,h8,h9⟩
 simp only[MV.rep,if_true,Option.some.injEq,Prod.mk.injEq]at hv
 obtain⟨b',κ',cap,⟨rfl,rfl⟩,rfl,hc1,hc2⟩:=hv
 have hle:=z7F (cs:=c.toList) h6
 refine⟨_,_,_,rfl,rfl,?_,Imm.le_trans h1 hle,?_,h3,?_⟩
 · simp only[CV.rep]
   refine⟨_,cap,rfl,hc1,.inr ⟨b,off,c.toList,rfl,by simp,?_⟩⟩
   have h10:=CV.repL_take (len*sz) (CV.repL_drop off (CV.repL_mono hle _ _ h9))
   have e:((cells.drop off).take (len*sz)).length=len*sz:=by rw[List.length_take,List.length_drop];omega
   rw[e]
   rw[List.drop_take,List.take_take]at h10
   rw[show min (len*sz) (cells.length-off)=len*sz by omega]at h10
   exact h10
 · intro k cs hk
   by_cases e:k=b
   · subst e
     simp only[if_true,Option.some.injEq]at hk
     exact⟨c,T,(0,0),h7,hk⟩
   · simp only[e,if_false]at hk
     exact h2 k cs hk
 · intro k hk
   by_cases e:k=b
   · subst e;exact .inr h5
   · simp only[e,if_false]at hk
     exact h4 k hk
theorem AllP.of_mem: ∀{l:List Prop},(∀q∈l,q)→AllP l
 | [],_=>trivial
 | [p],h=>h p (by simp)
 |p::p'::ps,h=>⟨h p (by simp),AllP.of_mem (l:=p'::ps) (fun q hq=>h q (by simp only[List.mem_cons]at hq ⊢;exact .inr hq))⟩
inductive Ps:List Prop→Prop where
 |nil:Ps []
 |cons {p:Prop} {l:List Prop} (h:p) (t:Ps l):Ps (p::l)
theorem Ps.mem: ∀{l:List Prop},Ps l→ ∀q∈l,q
 | [],_,q,hq=>by simp at hq
 |p::ps,.cons h t,q,hq=>by
  simp only[List.mem_cons]at hq
  rcases hq with rfl|hq
  · exact h
  · exact t.mem q hq
theorem Ps.all{l:List Prop}(h:Ps l):AllP l:=AllP.of_mem h.mem
def Out.pick(keep σ:List Nat):Out→Option (List Item×St×List Prop)
 | .stop todo s ob=>some (todo,s.sel keep σ,ob++CellsC (σ.map fun i=>s.hp.getD i none))
 |_=>none
theorem z2Q {keep σ : List Nat} {o : Out} {todo : List Item} {s : St} {ob : List Prop} (h : o.pick keep σ = some (todo, s, ob)) :
    ∃s0 ob0,o= .stop todo s0 ob0∧s=s0.sel keep σ∧ob=ob0++CellsC (σ.map fun i=>s0.hp.getD i none):=by
 unfold Out.pick at h
 split at h
 · rename_i t s0 ob0
   simp only[Option.some.injEq,Prod.mk.injEq]at h
   obtain⟨rfl,rfl,rfl⟩:=h
   exact⟨_,_,rfl,rfl,rfl⟩
 · cases h
theorem AllP.left{a b:List Prop}(h:AllP (a++b)):AllP a:=AllP.of_mem fun q hq=>h.mem q (List.mem_append.2 (.inl hq))
theorem AllP.right{a b:List Prop}(h:AllP (a++b)):AllP b:=AllP.of_mem fun q hq=>h.mem q (List.mem_append.2 (.inr hq))
section
variable{P:Program}{f:FuncId}{todo todo':List Item}{s s':St}{keep σ:List Nat}{ors:Ors}{ob:List Prop}
theorem okS{R:Goal}(h:(z3O P f todo s ors false 100000).pick keep σ=some (todo',s',ob))(hσ:z0E σ=true)(hob:Ps ob)(hn:j7 R.n σ=true)(hk:Ok P f todo' s' R):Ok P f todo s R:=by
 obtain⟨s0,ob0,h0,rfl,rfl⟩:=z2Q h
 exact zlD 100000 h0 hob.all.left (Ok.sel keep σ hσ hn hob.all.right hk)
theorem ztX{m:Nat}{R:Goal}(h:(z6z P f m todo s ors false 100000).pick keep σ=some (todo',s',ob))(hσ:z0E σ=true)(hob:Ps ob)(hn:j7 R.n σ=true)(hk:Ok P f todo' s' R):Ok P f todo s R:=by
 obtain⟨s0,ob0,h0,rfl,rfl⟩:=z2Q h
 exact zgr 100000 h0 hob.all.left (Ok.sel keep σ hσ hn hob.all.right hk)
theorem z91{args:List CV}{R:CV→Prop}(h:(zcz P f args ors false 100000).pick keep σ=some (todo',s',ob))(hσ:z0E σ=true)(hob:Ps ob)(hk:Ok P f todo' s' (.of R)):Y3 P f args R:=by
 obtain⟨s0,ob0,h0,rfl,rfl⟩:=z2Q h
 exact z9r 100000 h0 hob.all.left (Ok.sel keep σ hσ rfl hob.all.right hk)
theorem zaA{args:List CV}{Q:MV→List CV→Prop}(h:(zkS P f args ors false 100000).pick keep σ=some (todo',s',ob))(hσ:z0E σ=true)(hob:Ps ob)(hk:Ok P f todo' s' (.fresh (z46 Q))):z59 P f args Q:=by
 obtain⟨s0,ob0,h0,rfl,rfl⟩:=z2Q h
 exact z9N 100000 h0 hob.all.left (Ok.sel keep σ hσ rfl hob.all.right hk)
theorem z90{hp:List Blk}{args:List MV}{Q:MV→List Blk→Prop}(h:(zbP P f hp args ors false 100000).pick keep σ=some (todo',s',ob))(hσ:z0E σ=true)(hob:Ps ob)(hn:j7 hp.length σ=true)(hk:Ok P f todo' s' (.lent hp.length Q)):z3m P f hp args Q:=by
 obtain⟨s0,ob0,h0,rfl,rfl⟩:=z2Q h
 exact z9O 100000 h0 hob.all.left (Ok.sel keep σ hσ hn hob.all.right hk)
theorem okR{v:CV}{R:Goal}(h:z3O P f todo s ors false 100000= .ret v ob)(hob:Ps ob)(hR:R.c v):Ok P f todo s R:=zoa 100000 h hob.all hR
theorem zhU{m:Nat}{v:MV}{hp':List Blk}{R:Goal}(h:z6z P f m todo s ors false 100000= .retM v hp' m ob)(hob:Ps ob)(hn:R.Lent m)(hR:R.m v hp'):Ok P f todo s R:=zn7 100000 h hob.all hn hR
theorem zsy{v:MV}{hp':List Blk}{R:Goal}(n0:Nat)(h:z6z P f 1 todo s ors false 100000= .retM v hp' n0 ob)(hob:Ps ob)(hn:R.Fresh)(hR:R.m v hp'):Ok P f todo s R:=zkj 100000 h hob.all hn hR
theorem zhW{args:List CV}{v:CV}(h:zcz P f args ors false 100000= .ret v ob)(hob:Ps ob):PCall P f args v:=zcD 100000 h hob.all
theorem zaH{hp:List Blk}{args:List MV}{v:MV}{hp':List Blk}(h:zbP P f hp args ors false 100000= .retM v hp' hp.length ob)(hob:Ps ob):z2l P f hp args v hp':=zcj 100000 h hob.all ⟨rfl,rfl⟩
end
inductive Os(P:Program):Ors→List Prop→Prop where
 |nil:Os P [] []
 |r {ors:Ors} {ob:List Prop} {g:FuncId} {args:List CV} {v:CV} (n:Nat) (h:PCall P g args v) (t:Os P ors ob):Os P ((n,.r v)::ors) (PCall P g args v::ob)
 |rs {ors:Ors} {ob:List Prop} {g:FuncId} {args:List CV} {v:CV} (n:Nat) (es:List (List CV)) (h:PCall P g args v) (t:Os P ors ob):Os P ((n,.r v es)::ors) (PCall P g args v::ob)
 |f {ors:Ors} {ob:List Prop} {g:FuncId} {args:List CV} {v:MV} {cells:List CV} (n:Nat) (h:FCall P g args v cells) (t:Os P ors ob):Os P ((n,.f v cells)::ors) (FCall P g args v cells::ob)
 |fs {ors:Ors} {ob:List Prop} {g:FuncId} {args:List CV} {v:MV} {cells:List CV} (n:Nat) (es:List (List CV)) (h:FCall P g args v cells) (t:Os P ors ob):Os P ((n,.f v cells es)::ors) (FCall P g args v cells::ob)
 |gs {ors:Ors} {ob:List Prop} {g:FuncId} {args:List CV} {v:MV} {cells:List CV} (n:Nat) (es:List (List CV)) (h:zc8 P g args v cells) (t:Os P ors ob):Os P ((n,.g v cells es)::ors) (zc8 P g args v cells::ob)
 |b {ors:Ors} {ob:List Prop} {c d:Bool} (n:Nat) (h:c=d) (t:Os P ors ob):Os P ((n,.b d)::ors) ((c=d)::ob)
 |c {ors:Ors} {ob:List Prop} {p:Prop} (h:p) (t:Os P ors ob):Os P ors (p::ob)
 |l {ors:Ors} {ob:List Prop} {es:List CV} {k:Nat} {v:CV} (n:Nat) (h:es[k]?=some v) (t:Os P ors ob):Os P ((n,.r v)::ors) ((es[k]?=some v)::ob)
 |e {ors:Ors} {ob:List Prop} {es:List MV} {k:Nat} {v:MV} (n:Nat) (h:es[k]?=some v) (t:Os P ors ob):Os P ((n,.e v)::ors) ((es[k]?=some v)::ob)
 |o {ors:Ors} {ob:List Prop} (n:Nat) (x:Or) (t:Os P ors ob):Os P ((n,x)::ors) ob
theorem lq(a b:Nat)(h:a≤b:=by decide):a≤b:=h
theorem eqn(a:Nat):a=a:=rfl
theorem bq(a b:Int)(h:0≤a∧a<b:=by decide):0≤a∧a<b:=h
theorem nz(a:Int)(h:a≠0:=by decide):a≠0:=h
theorem nn(a:Int)(h:0≤a:=by decide):0≤a:=h
theorem Os.ps{P:Program}{ors:Ors}{ob:List Prop}(h:Os P ors ob):Ps ob:=by
 induction h with
 |nil=>exact .nil
 |r n h t ih=>exact .cons h ih
 |rs n es h t ih=>exact .cons h ih
 |f n h t ih=>exact .cons h ih
 |fs n es h t ih=>exact .cons h ih
 |gs n es h t ih=>exact .cons h ih
 |b n h t ih=>exact .cons h ih
 |c h t ih=>exact .cons h ih
 |l n h t ih=>exact .cons h ih
 |e n h t ih=>exact .cons h ih
 |o n x t ih=>exact ih
def Out.pick2(keep σ:List Nat):Out→Option (List Item×St×List Prop)
 | .stop todo s ob=>some (todo,s.sel keep σ,ob)
 |_=>none
theorem z4t{keep σ:List Nat}{o:Out}{todo:List Item}{s:St}{ob:List Prop}(h:o.pick2 keep σ=some (todo,s,ob)):o.pick keep σ=some (todo,s,ob++CellsC s.hp):=by
 unfold Out.pick2 at h
 split at h
 · simp only[Option.some.injEq,Prod.mk.injEq]at h
   obtain⟨rfl,rfl,rfl⟩:=h
   rfl
 · cases h
theorem Ps.app2{a b:List Prop}(ha:Ps a)(hb:Ps b):Ps (a++b):=by
 induction ha with
 |nil=>exact hb
 |cons h t ih=>exact .cons h ih
section
variable{P:Program}{f:FuncId}{todo todo':List Item}{s s':St}{keep σ:List Nat}{ors:Ors}{ob:List Prop}
theorem z07{R:Goal}(q:Os P ors ob)(h:(z3O P f todo s ors false 100000).pick2 keep σ=some (todo',s',ob))(hσ:z0E σ=true)(hn:j7 R.n σ=true)(hk:Ok P f todo' s' R)(cv:Ps (CellsC s'.hp)):Ok P f todo s R:=
 okS (z4t h) hσ (q.ps.app2 cv) hn hk
theorem z1z{m:Nat}{R:Goal}(q:Os P ors ob)(h:(z6z P f m todo s ors false 100000).pick2 keep σ=some (todo',s',ob))(hσ:z0E σ=true)(hn:j7 R.n σ=true)(hk:Ok P f todo' s' R)(cv:Ps (CellsC s'.hp)):Ok P f todo s R:=
 ztX (z4t h) hσ (q.ps.app2 cv) hn hk
theorem Z6{args:List CV}{R:CV→Prop}(q:Os P ors ob)(h:(zcz P f args ors false 100000).pick2 keep σ=some (todo',s',ob))(hσ:z0E σ=true)(hk:Ok P f todo' s' (.of R))(cv:Ps (CellsC s'.hp)):Y3 P f args R:=
 z91 (z4t h) hσ (q.ps.app2 cv) hk
theorem okT{v:CV}{R:Goal}(q:Os P ors ob)(h:z3O P f todo s ors false 100000= .ret v ob)(hR:R.c v):Ok P f todo s R:=okR h q.ps hR
theorem j3{args:List CV}{v:CV}(q:Os P ors ob)(h:zcz P f args ors false 100000= .ret v ob):PCall P f args v:=zhW h q.ps
end
def val(b:Nat):List Nat→Nat
 | []=>0
 |x::xs=>x+b*val b xs
def zfx(b:Nat):Nat→Nat→List Nat
 |0,_=>[]
 |f+1,n=>if n=0 then []else n%b::zfx b f (n/b)
def dig(b n:Nat):List Nat:=zfx b n n
def Dig(b:Nat)(xs:List Nat):Prop:= ∀x∈xs,x<b
theorem z92{b:Nat}(hb:2≤b): ∀(f g n:Nat),n≤f→n≤g→zfx b f n=zfx b g n
 |0,0,n,_,_=>rfl
 | 0, g + 1, n, h, _ => by have : n = 0 := by omega
                           subst this;simp[zfx]
 | f + 1, 0, n, _, h => by have : n = 0 := by omega
                           subst this;simp[zfx]
 |f+1,g+1,n,h1,h2=>by
  simp only[zfx]
  split
  · rfl
  · rename_i hn
    have:n/b<n:=Nat.div_lt_self (by omega) (by omega)
    rw[z92 hb f g (n/b) (by omega) (by omega)]
theorem z2u(b:Nat):dig b 0=[]:=rfl
theorem z3I{b n:Nat}(hb:2≤b)(hn:n≠0):dig b n=n%b::dig b (n/b):=by
 unfold dig
 cases n with
 |zero=>omega
 |succ m=>
  have:(m+1)/b<m+1:=Nat.div_lt_self (by omega) (by omega)
  rw[show zfx b (m+1) (m+1)=(m+1)%b::zfx b m ((m+1)/b) by simp[zfx],z92 hb m _ _ (by omega) (Nat.le_refl _)]
theorem Q8{b:Nat}(hb:2≤b)(n:Nat):val b (dig b n)=n:=by
 induction n using Nat.strongRecOn with
 |_ n ih=>
  by_cases hn:n=0
  · subst hn;rfl
  · rw[z3I hb hn,val,ih _ (Nat.div_lt_self (by omega) (by omega))]
    exact Nat.mod_add_div n b
theorem Y8{b:Nat}(hb:2≤b)(n:Nat):Dig b (dig b n):=by
 induction n using Nat.strongRecOn with
 |_ n ih=>
  by_cases hn:n=0
  · subst hn;intro x hx;simp[z2u]at hx
  · rw[z3I hb hn]
    intro x hx
    simp only[List.mem_cons]at hx
    rcases hx with rfl|hx
    · exact Nat.mod_lt _ (by omega)
    · exact ih _ (Nat.div_lt_self (by omega) (by omega)) x hx
def tz:List Nat→List Nat
 | []=>[]
 |x::xs=>match tz xs with
  | []=>if x=0 then []else [x]
  |y::ys=>x::y::ys
theorem z3J(x:Nat)(xs:List Nat):tz (x::xs)=if tz xs=[]then(if x=0 then []else [x])else x::tz xs:=by
 simp only[tz]
 split
 · rename_i h;simp[h]
 · rename_i y ys h;simp[h]
theorem zia{b:Nat}(hb:2≤b)(n:Nat):tz (dig b n)=dig b n:=by
 induction n using Nat.strongRecOn with
 |_ n ih=>
  by_cases hn:n=0
  · subst hn;rfl
  · have h1:=ih _ (Nat.div_lt_self (by omega:0<n) (by omega:1<b))
    rw[z3I hb hn,z3J,h1]
    split
    · rename_i h
      have h2:=Q8 hb (n/b)
      rw[h]at h2
      simp only[val]at h2
      have h3:=Nat.mod_add_div n b
      rw[←h2]at h3
      rw[if_neg (by omega),h]
    · rfl
theorem z0M{b:Nat}(hb:2≤b): ∀xs,Dig b xs→tz xs=dig b (val b xs)
 | [],_=>rfl
 |x::xs,h=>by
  have hx:x<b:=h x (by simp)
  have ih:=z0M hb xs (fun y hy=>h y (by simp[hy]))
  rw[z3J,ih]
  simp only[val]
  by_cases hv:val b xs=0
  · rw[hv,z2u,if_pos rfl,Nat.mul_zero,Nat.add_zero]
    split
    · rename_i h0;rw[h0];rfl
    · rename_i h0
      rw[z3I hb h0,Nat.mod_eq_of_lt hx,Nat.div_eq_of_lt hx];rfl
  · have h1:dig b (val b xs)≠[]:=by rw[z3I hb hv];simp
    rw[if_neg h1]
    have h2:x+b*val b xs≠0:=by
     have:0<b*val b xs:=Nat.mul_pos (by omega) (by omega)
     omega
    rw[z3I hb h2]
    have h3:(x+b*val b xs)%b=x:=by rw[Nat.add_mul_mod_self_left,Nat.mod_eq_of_lt hx]
    have h4:(x+b*val b xs)/b=val b xs:=by rw[Nat.add_mul_div_left _ _ (by omega),Nat.div_eq_of_lt hx,Nat.zero_add]
    rw[h3,h4]
theorem W6: ∀xs,tz (xs++[0])=tz xs
 | []=>rfl
 |x::xs=>by rw[List.cons_append,z3J,z3J,W6 xs]
theorem z0P{x:Nat}(hx:x≠0): ∀xs,tz (xs++[x])=xs++[x]
 | []=>by simp[tz,hx]
 |y::xs=>by rw[List.cons_append,z3J,z0P hx xs];simp
theorem z23(b:Nat): ∀xs ys,val b (xs++ys)=val b xs+b^xs.length*val b ys
 | [],ys=>by simp[val]
 |x::xs,ys=>by
  simp only[List.cons_append,val,z23 b xs ys,List.length_cons,Nat.pow_succ]
  rw[Nat.mul_add,←Nat.add_assoc,←Nat.mul_assoc,Nat.mul_comm b (b^xs.length)]
theorem z0I{b:Nat}(hb:0<b): ∀xs,Dig b xs→val b xs<b^xs.length
 | [],_=>by simp[val]
 |x::xs,h=>by
  have hx:x<b:=h x (by simp)
  have ih:=z0I hb xs (fun y hy=>h y (by simp[hy]))
  simp only[val,List.length_cons,Nat.pow_succ]
  calc x+b*val b xs<b+b*val b xs:=by omega
   _=b*(val b xs+1):=by rw[Nat.mul_add,Nat.mul_one,Nat.add_comm]
   _≤b*b^xs.length:=Nat.mul_le_mul_left _ ih
   _=b^xs.length*b:=Nat.mul_comm _ _
theorem z0K(b n:Nat):val b (List.replicate n 0)=0:=by
 induction n with
 |zero=>rfl
 |succ n ih=>rw[List.replicate_succ,val,ih];simp
theorem Q1{b:Nat}(hb:2≤b){n k:Nat}(h:n<b^k):(dig b n).length≤k:=by
 induction k generalizing n with
 | zero => have : n = 0 := by simpa using h
           subst this;simp[z2u]
 |succ k ih=>
  by_cases hn:n=0
  · subst hn;simp[z2u]
  · rw[z3I hb hn,List.length_cons]
    have:n/b<b^k:=by
     rw[Nat.div_lt_iff_lt_mul (by omega)]
     rw[Nat.pow_succ]at h;exact h
    have:=ih this
    omega
theorem J8{b:Nat}(hb:2≤b)(n:Nat):n<b^(dig b n).length:=by
 have:=z0I (by omega:0<b) (dig b n) (Y8 hb n)
 rw[Q8 hb]at this;exact this
theorem z4s{b:Nat}(hb:2≤b){n:Nat}:dig b n=[]↔n=0:=by
 constructor
 · intro h
   have:=Q8 hb n
   rw[h]at this
   exact this.symm
 · rintro rfl;rfl
theorem Y1{b:Nat}(hb:2≤b){n:Nat}:(dig b n).length=0↔n=0:=by
 rw[List.length_eq_zero_iff,z4s hb]
theorem zbS{b:Nat}(hb:2≤b){xs:List Nat}(h:Dig b xs)(n:Nat)(hv:val b xs=n):tz xs=dig b n:=by rw[←hv];exact z0M hb xs h
theorem Dig.get{b:Nat}{xs:List Nat}(h:Dig b xs)(hb:0<b)(i:Nat):xs.getD i 0<b:=by
 rw[List.getD_eq_getElem?_getD]
 cases hi:xs[i]? with
 |none=>simpa using hb
 |some x=>simpa using h x (List.mem_of_getElem? hi)
theorem Dig.take{b:Nat}{xs:List Nat}(h:Dig b xs)(n:Nat):Dig b (xs.take n):=fun x hx=>h x (List.mem_of_mem_take hx)
theorem Dig.drop{b:Nat}{xs:List Nat}(h:Dig b xs)(n:Nat):Dig b (xs.drop n):=fun x hx=>h x (List.mem_of_mem_drop hx)
theorem Dig.append{b:Nat}{xs ys:List Nat}(h:Dig b xs)(k:Dig b ys):Dig b (xs++ys):=by
 intro x hx
 rcases List.mem_append.1 hx with hx|hx
 · exact h x hx
 · exact k x hx
theorem Dig.replicate{b:Nat}(hb:0<b)(n:Nat):Dig b (List.replicate n 0):=by
 intro x hx;rw[List.mem_replicate]at hx;rw[hx.2];exact hb
theorem Dig.set{b:Nat}{xs:List Nat}(h:Dig b xs){d:Nat}(hd:d<b)(i:Nat):Dig b (xs.set i d):=by
 intro x hx
 rcases List.mem_or_eq_of_mem_set hx with hx|rfl
 · exact h x hx
 · exact hd
theorem z0Y{xs:List Nat}{i:Nat}(h:i<xs.length):xs.take (i+1)=xs.take i++[xs.getD i 0]:=by
 rw[List.take_succ_eq_append_getElem h]
 simp[List.getD_eq_getElem?_getD,List.getElem?_eq_getElem h]
theorem V5{b:Nat}{xs:List Nat}{i:Nat}(h:i<xs.length):val b (xs.take (i+1))=val b (xs.take i)+b^i*xs.getD i 0:=by
 rw[z0Y h,z23]
 simp[val,List.length_take,Nat.min_eq_left (Nat.le_of_lt h)]
theorem z1O{b:Nat}{xs:List Nat}{i:Nat}(h:i<xs.length):val b (xs.drop i)=xs.getD i 0+b*val b (xs.drop (i+1)):=by
 rw[List.drop_eq_getElem_cons h,val]
 simp[List.getD_eq_getElem?_getD,List.getElem?_eq_getElem h]
theorem z15{b:Nat}(xs:List Nat)(i:Nat)(h:i≤xs.length):val b xs=val b (xs.take i)+b^i*val b (xs.drop i):=by
 conv=>lhs;rw[←List.take_append_drop i xs]
 rw[z23,List.length_take,Nat.min_eq_left h]
def Z1(b:Nat):Nat→Nat→List Nat
 |0,_=>[]
 |m+1,n=>n%b::Z1 b m (n/b)
theorem j9(b:Nat): ∀m n,(Z1 b m n).length=m
 |0,_=>rfl
 |m+1,n=>by simp[Z1,j9 b m]
theorem U8{b:Nat}(hb:0<b): ∀m n,Dig b (Z1 b m n)
 |0,_=>by intro x hx;simp[Z1]at hx
 |m+1,n=>by
  intro x hx
  simp only[Z1,List.mem_cons]at hx
  rcases hx with rfl|hx
  · exact Nat.mod_lt _ hb
  · exact U8 hb m _ x hx
theorem z0h(b:Nat): ∀m n,val b (Z1 b m n)=n%b^m
 |0,n=>by simp[Z1,val,Nat.mod_one]
 |m+1,n=>by
  rw[Z1,val,z0h b m,Nat.pow_succ,Nat.mul_comm (b^m) b,Nat.mod_mul]
theorem z1x(b:Nat): ∀m,Z1 b m 0=List.replicate m 0
 |0=>rfl
 |m+1=>by simp[Z1,z1x b m,List.replicate_succ]
theorem W4(b:Nat): ∀m n j,j<m→(Z1 b m n).getD j 0=n/b^j%b
 |0,_,_,h=>by omega
 |m+1,n,0,_=>by simp[Z1]
 |m+1,n,j+1,h=>by
  have:=W4 b m (n/b) j (by omega)
  simp only[Z1,List.getD_cons_succ]
  rw[this,Nat.div_div_eq_div_mul,Nat.pow_succ,Nat.mul_comm b]
theorem z1g{b:Nat}(hb:0<b): ∀m n j d,j<m→n/b^j%b+d<b→(Z1 b m n).set j (n/b^j%b+d)=Z1 b m (n+d*b^j)
 |0,_,_,_,h,_=>by omega
 |m+1,n,0,d,_,h=>by
  simp only[Nat.pow_zero,Nat.div_one,Nat.mul_one]at h ⊢
  simp only[Z1,List.set_cons_zero]
  have h1:(n+d)%b=n%b+d:=by
   have:=Nat.mod_add_div n b
   conv=>lhs;rw[←this,show n%b+b*(n/b)+d=(n%b+d)+b*(n/b) by omega,Nat.add_mul_mod_self_left,Nat.mod_eq_of_lt h]
  have h2:(n+d)/b=n/b:=by
   have:=Nat.mod_add_div n b
   conv=>lhs;rw[←this,show n%b+b*(n/b)+d=(n%b+d)+b*(n/b) by omega,Nat.add_mul_div_left _ _ hb,Nat.div_eq_of_lt h,Nat.zero_add]
  rw[h1,h2]
 |m+1,n,j+1,d,hj,h=>by
  have e:n/b^(j+1)=n/b/b^j:=by rw[Nat.div_div_eq_div_mul,Nat.pow_succ,Nat.mul_comm b]
  rw[e]at h ⊢
  simp only[Z1,List.set_cons_succ]
  rw[z1g hb m (n/b) j d (by omega) h]
  have h1:(n+d*b^(j+1))%b=n%b:=by rw[Nat.pow_succ,←Nat.mul_assoc,Nat.add_mul_mod_self_right]
  have h2:(n+d*b^(j+1))/b=n/b+d*b^j:=by rw[Nat.pow_succ,←Nat.mul_assoc,Nat.add_mul_div_right _ _ hb]
  rw[h1,h2]
theorem z4g{xs:List Nat}{i d:Nat}(h:i<xs.length):(xs.set i d).getD i 0=d:=by simp[List.getD_eq_getElem?_getD,h]
theorem z1s{xs:List Nat}{i j d:Nat}(h:i≠j):(xs.set i d).getD j 0=xs.getD j 0:=by simp[List.getD_eq_getElem?_getD,h]
theorem z06{b:Nat}{xs:List Nat}{i d:Nat}(h:i<xs.length):val b ((xs.set i d).take (i+1))=val b (xs.take i)+b^i*d:=by
 rw[V5 (by simpa using h),z4g h,List.take_set_of_le (Nat.le_refl _)]
theorem z0o{b:Nat}{xs:List Nat}{i:Nat}(h:xs.length≤i):val b (xs.take i)=val b xs:=by rw[List.take_of_length_le h]
theorem z3C{xs:List Nat}{i:Nat}(h:xs.length≤i):xs.getD i 0=0:=by simp[List.getD_eq_getElem?_getD,h]
theorem Y0{b:Nat}(xs:List Nat)(i:Nat):val b (xs.take (i+1))=val b (xs.take i)+b^i*xs.getD i 0:=by
 by_cases h:i<xs.length
 · exact V5 h
 · rw[z0o (by omega),z0o (by omega),z3C (by omega)];simp
theorem z42{b:Nat}(xs:List Nat)(i:Nat):val b (xs.drop i)=xs.getD i 0+b*val b (xs.drop (i+1)):=by
 by_cases h:i<xs.length
 · exact z1O h
 · rw[List.drop_eq_nil_of_le (by omega),List.drop_eq_nil_of_le (by omega),z3C (by omega)];simp[val]
theorem z5a{b:Nat}{xs:List Nat}{i d:Nat}(h:i<xs.length):val b ((xs.set i d).drop i)=d+b*val b (xs.drop (i+1)):=by
 rw[z1O (by simpa using h),z4g h,List.drop_set_of_lt (by omega)]
abbrev B32:Nat:=4294967296
abbrev B24:Nat:=16777216
def z0c(n:Nat):CV:= .lst (dig B32 n).length (j8 (dig B32 n))
def z0r(n:Nat):CV:= .lst (dig B24 n).length (j4 (dig B24 n))
theorem Y6{P:Program}{f:FuncId}{args:List CV}{v:CV}(h:Y3 P f args (fun x=>x=v)):PCall P f args v:=h
theorem w64{n:Int}(h: -9223372036854775808≤n∧n≤9223372036854775807):i64.wrap n=n:=IntWalk.i64_in n h
theorem zji{xs:List Nat}(h:Dig B32 xs):CV.lst (tz xs).length (j8 (tz xs))=z0c (val B32 xs):=by rw[z0c,z0M (by decide) xs h]
theorem zmG{xs:List Nat}(h:Dig B24 xs):CV.lst (tz xs).length (j4 (tz xs))=z0r (val B24 xs):=by rw[z0r,z0M (by decide) xs h]
theorem U2{xs:List Nat}(h:xs≠[]):xs=xs.take (xs.length-1)++[xs.getD (xs.length-1) 0]:=by
 have h1:xs.length-1<xs.length:=by have:=List.length_pos_iff.2 h;omega
 conv=>lhs;rw[←List.take_length (l:=xs),show xs.length=xs.length-1+1 by omega]
 exact z0Y h1
end Go.Fw
