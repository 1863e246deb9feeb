/- A part of the proof that the law returns true for every input: an executor for the model's code, and what functions of the program compute. -/
import Derived.Test.YtcafjpldfnegiaaDoorB09
open Go IntKind
namespace Go.Fw
section
variable{P:Program}{w0:Start}{ops:List Oper}{base:Nat}
theorem z3X{A A':Nat→Option Or}{E E':Nat→Option Eff}: ∀(l:List Nat) (s s':St),(∀i∈l,A i=A' i∧E i=E' i)→z27 P ops base A E l s s'→z27 P ops base A' E' l s s'
 | [],_,_,_,h=>h
 |i::l,s,s',hh,h=>by
  obtain⟨s1,h1,h2⟩:=h
  refine⟨s1,?_,z3X l s1 s' (fun j hj=>hh j (by simp[hj])) h2⟩
  unfold Stp at h1 ⊢
  rw[←(hh i (by simp)).1,←(hh i (by simp)).2];exact h1
theorem z4M {ask : Bool} : ∀ (is : List Nat) (n : Nat) (ors : Ors) (s : St) (ob : List Prop) (es : List (Nat × Option Eff)) (n' : Nat) (ors' : Ors) (s' : St) (ob' : List Prop) (es' : List (Nat × Option Eff)),
    z9S P ops base ask is n ors s ob es= .ok n' ors' s' ob' es'→is.Nodup→
    ∃(A:Nat→Option Or) (E:Nat→Option Eff),es'=es.reverse++is.map (fun i=>(i,E i))∧z27 P ops base A E is s s'∧(∀q∈ob,q∈ob')∧(∀i∈is,∀e,E i=some e→ ∀q∈e.ob,q∈ob')
 | [],n,ors,s,ob,es,n',ors',s',ob',es',h,_=>by
  simp only[z9S]at h
  cases h
  exact⟨fun _=>none,fun _=>none,by simp,rfl,fun _ h=>h,by simp⟩
 |i::is,n,ors,s,ob,es,n',ors',s',ob',es',h,hn=>by
  simp only[List.nodup_cons]at hn
  simp only[z9S]at h
  generalize htk:z4x n ors=tk at h
  obtain⟨or,ors1⟩:=tk
  dsimp only at h
  have step : ∀ (s1 : St) (eo : Option Eff) (ob1 : List Prop), mOp P ops base or i s = some (s1, eo) → z9S P ops base ask is (n + 1) ors1 s1 ob1 ((i, eo) :: es) = .ok n' ors' s' ob' es' →
      (∀q∈ob,q∈ob1)→(∀e,eo=some e→ ∀q∈e.ob,q∈ob1)→
      ∃(A:Nat→Option Or) (E:Nat→Option Eff),es'=es.reverse++(i::is).map (fun i=>(i,E i))∧z27 P ops base A E (i::is) s s'∧(∀q∈ob,q∈ob')∧(∀j∈i::is,∀e,E j=some e→ ∀q∈e.ob,q∈ob'):=by
   intro s1 eo ob1 h1 h2 h3 h4
   obtain⟨A,E,e1,e2,e3,e4⟩:=z4M is _ _ _ _ _ _ _ _ _ _ h2 hn.2
   refine⟨fun k=>if k=i then or else A k,fun k=>if k=i then eo else E k,?_,⟨s1,?_,?_⟩,fun q hq=>e3 q (h3 q hq),?_⟩
   · rw[e1]
     simp only[List.reverse_cons,List.append_assoc,List.map_cons,if_true,List.singleton_append]
     congr 2
     refine List.map_congr_left fun k hk=>?_
     rw[if_neg (fun(e:k=i)=>hn.1 (e ▸ hk))]
   · unfold Stp;simp only[if_true];exact h1
   · refine z3X is s1 s' (fun k hk=>?_) e2
     have:k≠i:=fun e=>hn.1 (e ▸ hk)
     simp[this]
   · intro k hk e he q hq
     by_cases hki:k=i
     · subst hki
       simp only[if_true]at he
       exact e3 q (h4 e he q hq)
     · simp only[hki,if_false]at he
       simp only[List.mem_cons]at hk
       exact e4 k (hk.resolve_left hki) e he q hq
  split at h
  · cases h
  split at h
  · cases h
  · rename_i s1 h1
    exact step s1 none ob h1 h (fun _ h=>h) (fun e he=>by cases he)
  · rename_i s1 e h1
    split at h
    · cases h
    · exact step s1 (some e) (ob++e.ob) h1 h (fun q hq=>by simp[hq]) (fun e' he=>by cases he;intro q hq;simp[hq])
theorem z44{E:Nat→Option Eff}: ∀(l:List Nat),z4a base ops (l.map fun i=>(i,E i))=true→l.Pairwise (fun i j=>z6W base ops i (E i) j (E j)=true)
 | [],_=>List.Pairwise.nil
 |i::l,h=>by
  simp only[List.map_cons,z4a,Bool.and_eq_true,List.all_eq_true]at h
  refine List.pairwise_cons.2 ⟨fun j hj=>?_,z44 l h.2⟩
  exact h.1 (j,E j) (List.mem_map.2 ⟨j,hj,rfl⟩)
theorem z4o{R:Nat→Nat→Prop}{n:Nat}(h:(List.range n).Pairwise R): ∀i j,i<j→j<n→R i j:=by
 intro i j hij hj
 have:=List.pairwise_iff_getElem.1 h i j (by simp;omega) (by simp;omega) hij
 simpa using this
def z2d(s:St)(p:Pl):Prop:= ∀k,s.hp.length≤k→p k=none
theorem z7R{or:Option Or}{i:Nat}{s s':St}{eo:Option Eff}(h:mOp P ops base or i s=some (s',eo)):s'.hp.length=s.hp.length:=by
 obtain⟨o,_,rfl,_⟩:=z45 h
 cases eo with
 |none=>rfl
 |some e=>exact z4X _ _ _
theorem z31{A:Nat→Option Or}{E:Nat→Option Eff}: ∀(l:List Nat) (s s':St),z27 P ops base A E l s s'→s'.hp.length=s.hp.length
 | [],s,s',h=>by simp only[z27]at h;rw[h]
 |i::l,s,s',h=>by
  obtain⟨s1,h1,h2⟩:=h
  rw[z31 l s1 s' h2,z7R h1]
def z3M(w0:Start)(s':St)(I:Imm)(p:Pl)(e:Exit)(a':Act)(w':World):Prop:=e= .normal∧ ∃I' p',I.le I'∧SRel w0 s' I' p' a' w'∧z2d s' p'∧p.le p'
theorem z2U {ra : Array Oper} {id : Nat} {draw ask : Bool} {n n' : Nat} {ors ors' : Ors} {s s' : St} {ob : List Prop} {es : List (Nat × Option Eff)} {a : Act} {w : World} {I : Imm} {p : Pl}
    (h:z9S P ra.toList s.hp.length ask (List.range ra.size) n ors {s with hp:=s.hp++List.replicate (Q9 ra.toList ra.size) none} [] []= .ok n' ors' s' ob es)
    (hd:draw=true→(z4a s.hp.length ra.toList es&&U3 0 ra.toList&&P.follows .mixedOrders)=true) (hob: ∀q∈ob,q) (R:SRel w0 s I p a w) (hB:z2d s p):
    (Code.region id ra draw).wp P (z3M w0 s' I p) a w:=by
 obtain⟨A,E,he,hc,_,hobs⟩:=z4M _ _ _ _ _ _ _ _ _ _ _ h List.nodup_range
 simp only[List.reverse_nil,List.nil_append]at he
 have R1:SRel w0 {s with hp:=s.hp++List.replicate (Q9 ra.toList ra.size) none} I p a w:=⟨R.tm,R.defers,R.hp.more _⟩
 have hall:Q9 ra.toList ra.size=Q9 ra.toList ra.toList.length:=by simp
 have hsl:z3z ra.toList s.hp.length (List.range ra.size) (s.hp++List.replicate (Q9 ra.toList ra.size) none) p:=by
  intro i hi o ho ha
  have hlt:i<ra.toList.length:=(List.getElem?_eq_some_iff.1 ho).1
  have h1:=z0Z ho ha
  have h2:=z0U (ops:=ra.toList) (show i+1≤ra.toList.length from hlt)
  refine⟨?_,hB _ (by simp)⟩
  rw[List.getElem?_append_right (by omega),List.getElem?_replicate,if_pos (by rw[hall];omega)]
 have hQ : ∀ a' w' I' p', I.le I' → SRel w0 s' I' p' a' w' → z5f ra.toList s.hp.length p p' →
     z3M w0 s' I p .normal a' w':=by
  intro a' w' I' p' k1 k2 k3
  have hpp:p.le p':=by
   intro k x hx
   rw[k3 k]
   · exact hx
   · intro j o hj ha e
     have:p k=none:=hB k (by omega)
     rw[this]at hx;cases hx
  refine⟨rfl,I',p',k1,k2,fun k hk=>?_,hpp⟩
  have hlen:=z31 _ _ _ hc
  simp only[List.length_append,List.length_replicate]at hlen
  rw[k3 k]
  · exact hB k (by omega)
  · intro j o hj ha e
    have hlt:j<ra.toList.length:=(List.getElem?_eq_some_iff.1 hj).1
    have h1:=z0Z hj ha
    have h2:=z0U (ops:=ra.toList) (show j+1≤ra.toList.length from hlt)
    rw[hall]at hlen
    omega
 have hobs': ∀i∈List.range ra.size,∀e,E i=some e→ ∀q∈e.ob,q:=fun i hi e he q hq=>hob q (hobs i hi e he q hq)
 cases draw with
 |false=>
  refine wp_region ?_
  have:=z3L (P:=P) (w0:=w0) (Q:=z3M w0 s' I p) (List.range ra.size) _ a w I p hc List.nodup_range hobs' R1 hsl hQ
  simpa using this
 |true=>
  have hd':=hd rfl
  simp only[Bool.and_eq_true]at hd'
  obtain⟨⟨hd1,hd2⟩,hd3⟩:=hd'
  refine wp_region_any hd3 ?_
  rw[he]at hd1
  have hpw:=z4o (z44 _ hd1)
  have hrem:rem ra.toList (Array.replicate ra.size false)=List.range ra.size:=by
   unfold rem
   simp only[Array.length_toList]
   apply List.filter_eq_self.2
   intro i hi
   simp at hi
   simp[hi]
  have R2:SRel w0 {s with hp:=s.hp++List.replicate (Q9 ra.toList ra.size) none} I p a {w with drawn:=w.drawn+1}:=⟨R1.tm,R1.defers,R1.hp.drew⟩
  have:=z69 (P:=P) (w0:=w0) (s':=s') (Q:=z3M w0 s' I p) hd2 (fun i j hij hj=>hpw i j hij (by simpa using hj)) ra.size (Array.replicate ra.size false) _ a {w with drawn:=w.drawn+1} I p
   (by rw[hrem];simp) (by rw[hrem];exact hc) (by rw[hrem];exact hobs') R2 (by rw[hrem];exact hsl) hQ
  simpa using this
structure Goal where
 n:Nat
 e:Nat
 c:CV→Prop
 m:MV→List Blk→Prop
def Goal.of(R:CV→Prop):Goal:=⟨0,0,R,fun _ _=>False⟩
def Goal.lent(n:Nat)(Q:MV→List Blk→Prop):Goal:=⟨n,n,fun _=>False,Q⟩
def Goal.fresh(Q:MV→List Blk→Prop):Goal:=⟨0,1,fun _=>False,Q⟩
instance:Coe (CV→Prop) Goal:=⟨Goal.of⟩
def Fin(w0:Start)(G:Goal)(e:Ending)(w':World):Prop:=
 ∃y I',e= .returned y∧w0.im.le I'∧
  ((∃v,G.c v∧v.rep I' y∧ImOk I' w'∧Blw w0 w'∧ ∀x,I' x≠none→w0.im x≠none∨w0.own x)∨
   (∃v hp' p',G.m v hp'∧v.rep I' p' y∧HRel w0 hp' I' p' w'∧w0.pl.le p'∧ ∀k,G.e≤k→p' k=none))
def Ok(P:Program)(f:FuncId)(todo:List Item)(s:St)(R:Goal):Prop:=
 ∀(w0:Start) (I:Imm) (p:Pl) (a:Act) (w:World) (b:Frame) (cs:List Frame),b.fn=f→b.kind= .normal→w0.im.le I→w0.pl.le p→(∀k,R.n≤k→w0.pl k=none)→SRel w0 s I p a w→z2d s p→
  ∃e w' fr,Fin w0 R e w'∧Comes P (lone (b.at a todo) cs w) (lone fr cs w') e∧fr.fn=f∧fr.leaving P w' e
theorem Ok.step {f : FuncId} {todo todo' : List Item} {s : St} {R : Goal} (h : Ok P f todo' s R)
    (hs: ∀(b:Frame) (a:Act) (cs:List Frame) (w:World),step P (lone (b.at a todo) cs w)= .next (lone (b.at a todo') cs w)):Ok P f todo s R:=by
 intro w0 I p a w b cs h1 h2 h3 h31 h32 h4 h5
 obtain⟨e,w',fr,k1,k2,k3⟩:=h w0 I p a w b cs h1 h2 h3 h31 h32 h4 h5
 exact⟨e,w',fr,k1,.of_steps (.one (hs b a cs w)) k2,k3⟩
theorem Ok.cond {f : FuncId} {c : Operand} {x y : Code} {k : List Item} {s : St} {R : Goal} {t d : Bool} (hc : z0D s.tm c = .cv (.lit (.bool t))) (htd : t = d)
    (h:Ok P f (.code (if d then x else y)::k) s R):Ok P f (.code (.cond c x y)::k) s R:=by
 intro w0 I p a w b cs h1 h2 h3 h31 h32 h4 h5
 obtain⟨e,w',fr,k1,k2,k3⟩:=h w0 I p a w b cs h1 h2 h3 h31 h32 h4 h5
 refine⟨e,w',fr,k1,.of_steps (.one (step_cond ?_)) k2,k3⟩
 have:=z3E h4.tm c
 rw[hc]at this
 rw[J2 this,htd]
theorem z0T {a : Act} {w : World} {b : Frame} {k : List Item} {cs : List Frame} {c : Code} {Q : Act → World → Prop} (h : c.wp P (fun e a' w' => e = .normal ∧ Q a' w') a w) :
    ∃a' w',Q a' w'∧Steps P (lone (b.at a (.code c::k)) cs w) (lone (b.at a' k) cs w'):=by
 obtain⟨e,a',w',⟨rfl,hq⟩,harr⟩:=h b k cs
 exact⟨a',w',hq,harr⟩
theorem Ok.region {f : FuncId} {ra : Array Oper} {id : Nat} {draw ask : Bool} {n n' : Nat} {ors ors' : Ors} {s s' : St} {ob : List Prop} {es : List (Nat × Option Eff)} {k : List Item} {R : Goal}
    (h:z9S P ra.toList s.hp.length ask (List.range ra.size) n ors {s with hp:=s.hp++List.replicate (Q9 ra.toList ra.size) none} [] []= .ok n' ors' s' ob es)
    (hd:draw=true→(z4a s.hp.length ra.toList es&&U3 0 ra.toList&&P.follows .mixedOrders)=true) (hob: ∀q∈ob,q) (hk:Ok P f k s' R):Ok P f (.code (.region id ra draw)::k) s R:=by
 intro w0 I p a w b cs h1 h2 h3 h31 h32 h4 h5
 obtain⟨a',w1,⟨I',p',q1,q2,q3,q4⟩,hst⟩:=z0T (P:=P) (b:=b) (k:=k) (cs:=cs) (show(Code.region id ra draw).wp P (fun e a' w'=>e= .normal∧ ∃I' p',I.le I'∧SRel w0 s' I' p' a' w'∧z2d s' p'∧p.le p') a w from z2U (P:=P) (w0:=w0) (id:=id) h hd hob h4 h5)
 obtain⟨e,w',fr,k1,k2,k3⟩:=hk w0 I' p' a' w1 b cs h1 h2 (Imm.le_trans h3 q1) (Pl.le_trans h31 q4) h32 q2 q3
 exact⟨e,w',fr,k1,.of_steps hst k2,k3⟩
end
section
variable{P:Program}{w0:Start}{I:Imm}{p:Pl}{a:Act}{w:World}
theorem z5n {s : St} {r : ResultVar} {m : MV} (h : z6i P s r = some m) (R : SRel w0 s I p a w) :
    ∃y,((match r with| .tmp t=>pure (a.tmps.getD t undef)| .cell b t=>do loadVar t (←asAddr (a.tmps.getD b undef))):Sem Value).run P w= .ok y w∧m.rep I p y:=by
 unfold z6i at h
 split at h
 · rename_i t
   obtain⟨y,hy,hr⟩:=MV.repL_get R.tm h
   rw[Array.getElem?_toList]at hy
   exact⟨y,by simp[hy],hr⟩
 · rename_i b T
   split at h
   · rename_i i off ht
     split at h
     · rename_i cells hi
       dsimp only at h
       split at h
       · rename_i hlen
         obtain⟨y,hy,hr⟩:=MV.repL_get R.tm ht
         rw[Array.getElem?_toList]at hy
         have hld:=z42 (P:=P) (w0:=w0) (hp:=s.hp) (I:=I) (p:=p) (w:=w) (or:=none) (T:=T) (a:= .ptr i off) (e:=⟨m,[i],[],none,[]⟩) (by
          unfold z7v
          dsimp only
          simp only[hi,hlen,if_true,h]) (by simp) R.hp hr
         obtain⟨z,hz,hr2,_⟩:=hld
         refine⟨z,?_,hr2⟩
         simp only[MV.rep]at hr
         obtain⟨b',κ,_,rfl⟩:=hr
         simp[Instr.loadAt,Instr.sureAddr]at hz
         simp[hy,asAddr,hz]
       · cases h
     · cases h
   · cases h
theorem z0y {s : St} : ∀ (rs : List ResultVar) (ms : List MV), z0v P s rs = some ms → SRel w0 s I p a w →
    ∃ys,(rs.mapM fun| .tmp t=>pure (a.tmps.getD t undef)| .cell b t=>do loadVar t (←asAddr (a.tmps.getD b undef)):Sem (List Value)).run P w= .ok ys w∧MV.repL I p ms ys
 | [],ms,h,R=>by
  simp only[z0v]at h;cases h
  exact⟨[],by simp,by simp[MV.repL]⟩
 |r::rs,ms,h,R=>by
  simp only[z0v]at h
  split at h
  · rename_i m ms' hm hms
    cases h
    obtain⟨y,hy,hr⟩:=z5n hm R
    obtain⟨ys,hys,hrs⟩:=z0y rs ms' hms R
    refine⟨y::ys,?_,by simp only[MV.repL];exact⟨y,ys,rfl,hr,hrs⟩⟩
    rw[List.mapM_cons,Sem.run_bind,hy]
    simp only[Result.andThen_ok,Sem.run_bind,hys]
    rfl
  · cases h
theorem z8w{J:Imm}{cs:List CV}{ys:List Value}(h:CV.repL J cs ys)(t:Value)(ht:t=if h:ys.toArray.size=1 then ys.toArray[0]else .tuple ys.toArray):(zbo cs).rep J t:=by
 have hl:=CV.repL_length h
 unfold zbo
 split
 · rename_i c
   simp only[CV.repL]at h
   obtain⟨y,ys',rfl,h1,rfl⟩:=h
   simp at ht;subst ht;exact h1
 · rename_i hne
   have:ys.length≠1:=by
    intro e
    rw[←hl]at e
    obtain⟨c,rfl⟩:=List.length_eq_one_iff.1 e
    exact hne c rfl
   simp[this]at ht
   subst ht
   simp only[CV.rep]
   exact⟨ys.toArray,rfl,by simpa using h⟩
theorem z49 {fn : Func} {a : Act} {w : World} {ys : List Value} (hys : (fn.results.toList.mapM fun | .tmp t => pure (a.tmps.getD t undef) | .cell b t => do loadVar t (← asAddr (a.tmps.getD b undef)) : Sem (List Value)).run P w = .ok ys w) :
    (results fn a.tmps).run P w= .ok (if h:ys.toArray.size=1 then ys.toArray[0]else .tuple ys.toArray) w:=by
 unfold results
 rw[Array.mapM_eq_mapM_toList]
 simp only[Sem.run_bind,Sem.run_map]
 generalize hX:(List.mapM _ fn.results.toList:Sem (List Value))=X
 have hX2:X.run P w= .ok ys w:=by rw[←hX];exact hys
 rw[hX2]
 rfl
theorem z64 {f : FuncId} {fn : Func} (hf : P.funcs[f]? = some fn) {n : Nat} {s : St} {ors : Ors} {ob ob' : List Prop} {v : CV} (h : z4E P fn.results.toList n s ors ob = .ret v ob') :
    (∀q∈ob,q∈ob')∧((∀q∈ob',q)→ ∀(R:Goal),R.c v→ ∀(todo:List Item),(todo=[]∨ ∃k,todo= .code .ret::k)→Ok P f todo s R):=by
 unfold z4E at h
 split at h
 · cases h
 · rename_i ms hms
   split at h
   · cases h
   · rename_i cs is o ha
     cases h
     refine⟨fun q hq=>by simp[hq],fun hob R hR todo htodo=>?_⟩
     intro w0 I p a w b cs' h1 h2 h3 h31 h32 h4 h5
     obtain⟨ys,hys,hrs⟩:=z0y (P:=P) _ ms hms h4
     obtain⟨J,k1,k2,k3,k4,k5⟩:=V6 h4.hp ms _ cs is o ys ha (fun q hq=>hob q (by simp[hq])) hrs
     have hres:=z49 (P:=P) (fn:=fn) hys
     refine⟨.returned (if h:ys.toArray.size=1 then ys.toArray[0]else .tuple ys.toArray),w,{b.at a todo with mode:= .returning},⟨_,J,rfl,Imm.le_trans h3 k1,.inl ⟨zbo cs,hR,z8w k3 _ rfl,k2,h4.hp.below,?_⟩⟩,?_,?_,?_⟩
     · intro x hx
       rcases k4 x hx with h|⟨i,hi,κ,h⟩
       · exact h4.hp.imf x h
       · obtain⟨cells,hc⟩:=k5 i hi
         obtain⟨b1,κ1,c,T,g1,g2,g3,g4,g5,g6⟩:=h4.hp.live i cells hc
         rw[h]at g1;cases g1
         exact .inr g5
     · rcases htodo with rfl|⟨k,rfl⟩
       · exact Steps.one step_end
       · exact Steps.one step_ret
     · exact h1
     · refine⟨rfl,h4.defers,h2,fn,?_,hres⟩
       show P.funcs[b.fn]?=some fn
       rw[h1];exact hf
def Pl.trunc(p:Pl)(m:Nat):Pl:=fun k=>if k<m then p k else none
mutual
theorem MV.rep_under{I:Imm}{p:Pl}{m:Nat}: ∀(v:MV) (y:Value),v.under m=true→v.rep I p y→v.rep I (p.trunc m) y
 | .cv c,y,_,h=>by simpa[MV.rep]using h
 | .ptr i off,y,hb,h=>by
  simp only[MV.under,decide_eq_true_eq]at hb
  simp only[MV.rep,Pl.trunc,hb,if_true]at h ⊢;exact h
 | .sl i off len sz,y,hb,h=>by
  simp only[MV.under,decide_eq_true_eq]at hb
  simp only[MV.rep,Pl.trunc,hb,if_true]at h ⊢;exact h
 | .pim es off,y,_,h=>by simpa[MV.rep]using h
 | .agg ms,y,hb,h=>by
  simp only[MV.under]at hb
  simp only[MV.rep]at h ⊢
  obtain⟨ys,rfl,hl⟩:=h
  exact⟨ys,rfl,MV.repL_under ms _ hb hl⟩
 | .tup ms,y,hb,h=>by
  simp only[MV.under]at hb
  simp only[MV.rep]at h ⊢
  obtain⟨ys,rfl,hl⟩:=h
  exact⟨ys,rfl,MV.repL_under ms _ hb hl⟩
 | .fn g a b,y,hb,h=>by
  simp only[MV.under,Bool.and_eq_true]at hb
  simp only[MV.rep]at h ⊢
  obtain⟨f,c,rfl,hl,hk⟩:=h
  exact⟨f,c,rfl,MV.repL_under a _ hb.1 hl,MV.repL_under b _ hb.2 hk⟩
 | .unk,y,_,h=>by simp[MV.rep]
theorem MV.repL_under{I:Imm}{p:Pl}{m:Nat}: ∀(vs:List MV) (ys:List Value),MV.underL m vs=true→MV.repL I p vs ys→MV.repL I (p.trunc m) vs ys
 | [],ys,_,h=>by simpa[MV.repL]using h
 |v::vs,ys,hb,h=>by
  simp only[MV.underL,Bool.and_eq_true]at hb
  simp only[MV.repL]at h ⊢
  obtain⟨y,ys',rfl,h1,h2⟩:=h
  exact⟨y,ys',rfl,MV.rep_under v y hb.1 h1,MV.repL_under vs ys' hb.2 h2⟩
end
theorem z5q{m:Nat}: ∀{vs:List MV},(∀v∈vs,v.under m=true)→MV.underL m vs=true
 | [],_=>rfl
 |v::vs,h=>by simp only[MV.underL,Bool.and_eq_true];exact⟨h v (by simp),z5q (fun u hu=>h u (by simp[hu]))⟩
theorem HRel.first{hp:List Blk}(H:HRel w0 hp I p w){m:Nat}(hb: ∀cells,some cells∈hp.take m→ ∀v∈cells,v.under m=true):HRel w0 (hp.take m) I (p.trunc m) w:=by
 have key: ∀(i:Nat) (ci:List MV),(hp.take m)[i]?=some (some ci)→i<m∧hp[i]?=some (some ci):=by
  intro i ci hi
  rw[List.getElem?_take]at hi
  split at hi
  · rename_i hlt;exact⟨hlt,hi⟩
  · cases hi
 refine⟨H.below,H.im,H.imf,fun i cells hi=>?_,fun i j ci cj x κ x' κ' hi hj hne hx hx'=>?_⟩
 · obtain⟨hlt,hi'⟩:=key i cells hi
   obtain⟨b1,κ1,c,T,g1,g2,g3,g4,g5,g6⟩:=H.live i cells hi'
   exact⟨b1,κ1,c,T,by simp[Pl.trunc,hlt,g1],g2,g3,MV.repL_under _ _ (z5q (hb cells (List.mem_of_getElem? hi))) g4,g5,g6⟩
 · obtain⟨hlt,hi'⟩:=key i ci hi
   obtain⟨hlt2,hj'⟩:=key j cj hj
   simp only[Pl.trunc,hlt,hlt2,if_true]at hx hx'
   exact H.inj i j ci cj x κ x' κ' hi' hj' hne hx hx'
theorem z9a{ms:List MV}{ys:List Value}(h:MV.repL I p ms ys)(t:Value)(ht:t=if h:ys.toArray.size=1 then ys.toArray[0]else .tuple ys.toArray):(z55 ms).rep I p t:=by
 have hl:=MV.repL_length h
 unfold z55
 split
 · rename_i c
   simp only[MV.repL]at h
   obtain⟨y,ys',rfl,h1,rfl⟩:=h
   simp at ht;subst ht;exact h1
 · rename_i hne
   have:ys.length≠1:=by
    intro e
    rw[←hl]at e
    obtain⟨c,rfl⟩:=List.length_eq_one_iff.1 e
    exact hne c rfl
   simp[this]at ht
   subst ht
   simp only[MV.rep]
   exact⟨ys.toArray,rfl,by simpa using h⟩
theorem z1i{n:Nat}: ∀(hp:List Blk),z2E n hp=true→ ∀cells,some cells∈hp→ ∀v∈cells,v.under n=true
 | [],_,cells,h=>by simp at h
 |some c::r,hu,cells,h=>by
  simp only[z2E,Bool.and_eq_true,List.all_eq_true]at hu
  simp only[List.mem_cons,Option.some.injEq]at h
  rcases h with rfl|h
  · exact hu.1
  · exact z1i r hu.2 cells h
 |none::r,hu,cells,h=>by
  simp only[z2E]at hu
  simp only[List.mem_cons]at h
  rcases h with h|h
  · cases h
  · exact z1i r hu cells h
theorem z4u: ∀(σ:List Nat) (k n:Nat),n≤z8f k σ→ ∀j,j<n→k≤j→σ[j-k]?=some j
 | [],k,n,h,j,h1,h2=>by simp only[z8f]at h;omega
 |i::is,k,n,h,j,h1,h2=>by
  simp only[z8f]at h
  split at h
  · rename_i e
    simp only[beq_iff_eq]at e
    subst e
    by_cases hj:j=i
    · subst hj;simp
    · have:=z4u is (i+1) n h j h1 (by omega)
      rw[show j-i=(j-(i+1))+1 by omega]
      simpa using this
  · omega
theorem CellsC.spec: ∀{hp:List Blk},(∀q∈CellsC hp,q)→ ∀cells,some cells∈hp→CvL cells
 | [],_,cells,h=>by simp at h
 |some c::r,hq,cells,h=>by
  simp only[List.mem_cons,Option.some.injEq]at h
  rcases h with rfl|h
  · exact hq _ (by simp[CellsC])
  · exact CellsC.spec (hp:=r) (fun q hq'=>hq q (by simp[CellsC,hq'])) cells h
 |none::r,hq,cells,h=>by
  simp only[List.mem_cons]at h
  rcases h with h|h
  · cases h
  · exact CellsC.spec (hp:=r) (fun q hq'=>hq q (by simpa[CellsC]using hq')) cells h
theorem HRel.sel{hp:List Blk}(H:HRel w0 hp I p w){σ:List Nat}(hσ:V8 σ=true)(hb: ∀q∈CellsC (σ.map fun i=>hp.getD i none),q):HRel w0 (σ.map fun i=>hp.getD i none) I (p.at σ) w:=by
 have key: ∀(k:Nat) (ck:List MV),(σ.map fun i=>hp.getD i none)[k]?=some (some ck)→ ∃i,σ[k]?=some i∧hp[i]?=some (some ck):=by
  intro k ck hk
  simp only[List.getElem?_map,Option.map_eq_some_iff]at hk
  obtain⟨i,hi,he⟩:=hk
  refine⟨i,hi,?_⟩
  rw[List.getD_eq_getElem?_getD]at he
  cases hh:hp[i]? with
  |none=>rw[hh]at he;simp at he
  |some x=>rw[hh]at he;simp at he;rw[he]
 refine⟨H.below,H.im,H.imf,fun k cells hk=>?_,fun k j ck cj x κ x' κ' hk hj hne hx hx'=>?_⟩
 · obtain⟨i,hi,hc⟩:=key k cells hk
   obtain⟨b1,κ1,c,T,g1,g2,g3,g4,g5,g6⟩:=H.live i cells hc
   have hcv:=CellsC.spec hb cells (List.mem_of_getElem? hk)
   exact⟨b1,κ1,c,T,by simp[Pl.at,hi,g1],g2,g3,z2h (fun c' hc'=>by cases hc';exact hcv) (Imm.le_refl I) g4,g5,g6⟩
 · obtain⟨i,hi,hc⟩:=key k ck hk
   obtain⟨i',hi',hc'⟩:=key j cj hj
   simp only[Pl.at,hi]at hx
   simp only[Pl.at,hi']at hx'
   refine H.inj i i' ck cj x κ x' κ' hc hc' (fun e=>?_) hx hx'
   subst e
   exact hne (z11 σ hσ k j i hi hi')
theorem z4S {f : FuncId} {fn : Func} (hf : P.funcs[f]? = some fn) {m n : Nat} {ask : Bool} {s : St} {ors : Ors} {ob ob' : List Prop} {v : MV} {hp' : List Blk} {n0 : Nat} (h : z2G P fn.results.toList m ask n s ors ob = .retM v hp' n0 ob') :
    (∀q∈ob,q∈ob')∧((∀q∈ob',q)→ ∀(R:Goal),R.e=m→R.n≤n0→R.m v hp'→ ∀(todo:List Item),(todo=[]∨ ∃k,todo= .code .ret::k)→Ok P f todo s R):=by
 have main : ∀ (ms : List MV), z0v P s fn.results.toList = some ms → ∀ (v : MV) (hp' : List Blk) (R : Goal),
     (∀(w0:Start) (I:Imm) (p:Pl) (w:World),HRel w0 s.hp I p w→w0.pl.le p→(∀k,R.n≤k→w0.pl k=none)→ ∀y,(z55 ms).rep I p y→ ∃p':Pl,v.rep I p' y∧HRel w0 hp' I p' w∧w0.pl.le p'∧ ∀k,R.e≤k→p' k=none)→
     R.m v hp'→ ∀(todo:List Item),(todo=[]∨ ∃k,todo= .code .ret::k)→Ok P f todo s R:=by
  intro ms hms v hp' R key hR todo htodo
  intro w0 I p a w b cs' h1 h2 h3 h31 h32 h4 h5
  obtain⟨ys,hys,hrs⟩:=z0y (P:=P) _ ms hms h4
  have hres:=z49 (P:=P) (fn:=fn) hys
  obtain⟨p',g1,g2,g3,g4⟩:=key w0 I p w h4.hp h31 h32 _ (z9a hrs _ rfl)
  refine⟨.returned (if h:ys.toArray.size=1 then ys.toArray[0]else .tuple ys.toArray),w,{b.at a todo with mode:= .returning},⟨_,I,rfl,h3,.inr ⟨v,hp',p',hR,g1,g2,g3,g4⟩⟩,?_,?_,?_⟩
  · rcases htodo with rfl|⟨k,rfl⟩
    · exact Steps.one step_end
    · exact Steps.one step_ret
  · exact h1
  · refine⟨rfl,h4.defers,h2,fn,?_,hres⟩
    show P.funcs[b.fn]?=some fn
    rw[h1];exact hf
 have first : ∀ (ms : List MV), z0v P s fn.results.toList = some ms → (z55 ms).under m = true → m ≤ s.hp.length → (∀ cells, some cells ∈ s.hp.take m → ∀ v ∈ cells, v.under m = true) →
     ∀(R:Goal),R.e=m→R.n≤m→R.m (z55 ms) (s.hp.take m)→ ∀(todo:List Item),(todo=[]∨ ∃k,todo= .code .ret::k)→Ok P f todo s R:=by
  intro ms hms hu hm hb R hn hn0 hR todo htodo
  refine main ms hms _ _ R (fun w0 I p w H h31 h32 y hy=>⟨p.trunc m,MV.rep_under _ _ hu hy,H.first hb,?_,?_⟩) hR todo htodo
  · intro k x hk
    have:k<m:=by
     rcases Nat.lt_or_ge k m with h|h
     · exact h
     · rw[h32 k (by omega)]at hk;cases hk
    simp only[Pl.trunc,this,if_true];exact h31 k x hk
  · intro k hk
    unfold Pl.trunc
    rw[if_neg (by omega)]
 unfold z2G at h
 split at h
 · cases h
 · rename_i ms hms
   split at h
   · rename_i σ _ _ _ _
     split at h
     · rename_i v' hv
       split at h
       · rename_i hc
         simp only[Bool.and_eq_true,beq_iff_eq]at hc
         cases h
         refine⟨fun q hq=>by simp[hq],fun hob R hn hn0 hR todo htodo=>main ms hms _ _ R (fun w0 I p w H h31 h32 y hy=>⟨p.at σ,MV.inv_rep _ _ _ hv hy,H.sel hc.1 (fun q hq=>hob q (List.mem_append.2 (.inr hq))),?_,?_⟩) hR todo htodo⟩
         · intro k x hk
           have hk':k<R.n:=by
            rcases Nat.lt_or_ge k R.n with h|h
            · exact h
            · rw[h32 k h]at hk;cases hk
           have:=z4u σ 0 R.n hn0 k hk' (Nat.zero_le _)
           simp only[Nat.sub_zero]at this
           simp only[Pl.at,this];exact h31 k x hk
         · intro k hk
           simp only[Pl.at]
           rw[List.getElem?_eq_none_iff.2 (by omega)]
       · cases h
     · cases h
   · split at h
     · rename_i hu
       split at h
       · cases h
         refine⟨fun q hq=>by simp[hq],fun hob R hn hn0 hR todo htodo=>first ms hms hu (hob (m≤s.hp.length) (by simp)) (fun cells hc v hv=>?_) R hn hn0 hR todo htodo⟩
         obtain⟨c,rfl⟩:=hob (BlksCv (s.hp.take m)) (by simp) _ hc cells rfl v hv
         rfl
       · split at h
         · cases h
         split at h
         · rename_i hb
           cases h
           exact⟨fun q hq=>by simp[hq],fun hob R hn hn0 hR todo htodo=>first ms hms hu (hob (m≤s.hp.length) (by simp)) (z1i _ hb) R hn hn0 hR todo htodo⟩
         · cases h
     · cases h
theorem Ok.loopHead{f:FuncId}{c:Code}{k:List Item}{s:St}{R:Goal}(h:Ok P f (.inLoop c::k) s R):Ok P f (.code (.loop c)::k) s R:=by
 intro w0 I p a w b cs h1 h2 h3 h31 h32 h4 h5
 obtain⟨e,w',fr,k1,k2,k3,k4⟩:=h w0 I p a w b cs h1 h2 h3 h31 h32 h4 h5
 refine⟨e,w',fr,k1,?_,k3,k4⟩
 obtain⟨y,I',rfl,_⟩:=k1
 obtain⟨n,hn⟩:=k2
 cases n with
 |zero=>
  exfalso
  have hm:=k4.1
  simp only[runN]at hn
  injection hn with hn
  have:=congrArg (fun m:Machine=>m.gs) hn
  simp only[lone]at this
  have:=congrArg (fun x:Array Goroutine=>(x[0]?).map (·.frame.mode)) this
  simp[Frame.at,hm]at this
 |succ n=>
  simp only[runN,step_inLoop]at hn
  exact⟨n+1,by simp only[runN,step_loop];exact hn⟩
def Good(P:Program)(f:FuncId)(md:Option Nat)(todo:List Item)(s:St)(ob0:List Prop):Out→Prop
 | .ret v ob=>(∀q∈ob0,q∈ob)∧((∀q∈ob,q)→ ∀R:Goal,R.c v→Ok P f todo s R)
 | .retM v hp' n0 ob=>(∀q∈ob0,q∈ob)∧((∀q∈ob,q)→ ∀R:Goal,md=some R.e→R.n≤n0→R.m v hp'→Ok P f todo s R)
 | .stop todo' s' ob=>(∀q∈ob0,q∈ob)∧((∀q∈ob,q)→ ∀R:Goal,Ok P f todo' s' R→Ok P f todo s R)
 | .fail .. =>True
theorem Good.mono {f : FuncId} {md : Option Nat} {todo todo' : List Item} {s s' : St} {ob0 ob1 : List Prop} {out : Out} (h : Good P f md todo' s' ob1 out) (hob : ∀ q ∈ ob0, q ∈ ob1)
    (hs:(∀q∈ob1,q)→ ∀R:Goal,Ok P f todo' s' R→Ok P f todo s R):Good P f md todo s ob0 out:=by
 cases out with
 |ret v ob=>exact⟨fun q hq=>h.1 q (hob q hq),fun hq R hR=>hs (fun q hq'=>hq q (h.1 q hq')) R (h.2 hq R hR)⟩
 |retM v hp' n0 ob=>exact⟨fun q hq=>h.1 q (hob q hq),fun hq R hn hn0 hR=>hs (fun q hq'=>hq q (h.1 q hq')) R (h.2 hq R hn hn0 hR)⟩
 |stop t2 s2 ob=>exact⟨fun q hq=>h.1 q (hob q hq),fun hq R hR=>hs (fun q hq'=>hq q (h.1 q hq')) R (h.2 hq R hR)⟩
 |fail=>trivial
theorem X2 {f : FuncId} {fn : Func} (hf : P.funcs[f]? = some fn) (md : Option Nat) (ask : Bool) : ∀ (fuel n : Nat) (todo : List Item) (s : St) (ors : Ors) (ob : List Prop),
    Good P f md todo s ob (run P fn.results.toList md ask fuel n todo s ors ob)
 |0,n,todo,s,ors,ob=>by simp only[run];trivial
 |fuel+1,n,todo,s,ors,ob=>by
  have ih:=fun n todo s ors ob=>X2 hf md ask fuel n todo s ors ob
  have fin: ∀(todo:List Item),(todo=[]∨ ∃k,todo= .code .ret::k)→Good P f md todo s ob (z6c P fn.results.toList md ask n s ors ob):=by
   intro todo htodo
   unfold z6c
   cases md with
   |none=>
    dsimp only
    cases hfin:z4E P fn.results.toList n s ors ob with
    |ret v ob'=>
     obtain⟨h1,h2⟩:=z64 hf hfin
     exact⟨h1,fun hq R hR=>h2 hq R hR todo htodo⟩
    |retM=>
     unfold z4E at hfin
     split at hfin
     · cases hfin
     · split at hfin<;>cases hfin
    |stop t2 s2 ob'=>
     unfold z4E at hfin
     split at hfin
     · cases hfin
     · split at hfin<;>cases hfin
    |fail=>trivial
   |some m=>
    dsimp only
    cases hfin:z2G P fn.results.toList m ask n s ors ob with
    |retM v hp' n0 ob'=>
     obtain⟨h1,h2⟩:=z4S hf hfin
     exact⟨h1,fun hq R hn hn0 hR=>h2 hq R (by cases hn;rfl) hn0 hR todo htodo⟩
    |ret=>
     unfold z2G at hfin
     repeat' split at hfin
     all_goals cases hfin
    |stop t2 s2 ob'=>
     unfold z2G at hfin
     repeat' split at hfin
     all_goals cases hfin
    |fail=>trivial
  have stp : ∀ (todo' : List Item) (n' : Nat) (ors' : Ors), (∀ (b : Frame) (a : Act) (cs : List Frame) (w : World), step P (lone (b.at a todo) cs w) = .next (lone (b.at a todo') cs w)) →
      Good P f md todo s ob (run P fn.results.toList md ask fuel n' todo' s ors' ob):=
   fun todo' n' ors' hs=>(ih n' todo' s ors' ob).mono (fun _ h=>h) (fun _ R hR=>hR.step hs)
  unfold run
  split
  · exact fin _ (.inl rfl)
  · exact fin _ (.inr ⟨_,rfl⟩)
  · exact stp _ _ _ (fun b a cs w=>step_skip)
  · exact stp _ _ _ (fun b a cs w=>step_label)
  · exact stp _ _ _ (fun b a cs w=>step_inBlock)
  · exact stp _ _ _ (fun b a cs w=>step_lone_go (by simp[stepG,stepG.exec,Frame.at]))
  · exact stp _ _ _ (fun b a cs w=>step_seq)
  · exact stp _ _ _ (fun b a cs w=>step_block)
  · exact stp _ _ _ (fun b a cs w=>step_lone_go (by simp[stepG,stepG.exec,Frame.at]))
  · split
    · rename_i hx
      exact stp _ _ _ (fun b a cs w=>step_exit hx)
    · trivial
  · split
    · rename_i t hc
      split
      · rename_i d ors' _
        refine(ih (n+1) _ s ors' (ob++[t=d])).mono (fun q hq=>by simp[hq]) (fun hq R hR=>?_)
        refine Ok.cond hc (hq (t=d) (by simp)) ?_
        cases d
        · exact hR
        · exact hR
      · split
        · trivial
        · split
          · exact(ih _ _ s _ ob).mono (fun _ h=>h) (fun _ R hR=>Ok.cond hc rfl hR)
          · exact(ih _ _ s _ ob).mono (fun _ h=>h) (fun _ R hR=>Ok.cond hc rfl hR)
    · trivial
  · split
    · exact⟨fun _ h=>h,fun _ R hR=>hR.loopHead⟩
    · split
      · trivial
      · exact stp _ _ _ (fun b a cs w=>step_loop)
  · split
    · exact⟨fun _ h=>h,fun _ R hR=>hR⟩
    · split
      · trivial
      · exact stp _ _ _ (fun b a cs w=>step_inLoop)
  · rename_i id ra draw k
    split
    · rename_i n' ors' s' o es hm
      split
      · trivial
      · rename_i hd
        refine(ih n' k s' ors' (ob++o)).mono (fun q hq=>by simp[hq]) (fun hq R hR=>?_)
        refine Ok.region hm (fun hdr=>?_) (fun q hq'=>hq q (by simp[hq'])) hR
        subst hdr
        simpa using hd
    · trivial
  · trivial
end
end Go.Fw
