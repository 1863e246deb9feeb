/- A part of the proof that the law returns true for every input: an executor for the model's code, and what functions of the program compute. -/
import Derived.Test.YtcafjpldfnegiaaGreatDoorB07
open Go IntKind
namespace Go.Fw
section
variable{P:Program}{w0:Start}{w:World}{hp:List Blk}{I:Imm}{p:Pl}{slot:Nat}
theorem z4j{ev:Operand→MV}{ρ:Operand→Value}(x:Option Operand)(h: ∀y∈x.toArray,(ev y).rep I p (ρ y)):OptRep I p (x.map ev) (x.map ρ):=by
 cases x with
 |none=>exact .none
 |some y=>exact .some (h y (by simp))
theorem z56(place:Nat→Option (Nat×Nat)): ∀(parts:List (Nat×MV)) (cells cells':List MV),z68 place cells parts=some cells'→cells'.length=cells.length
 | [],cells,cells',h=>by simp[z68]at h;rw[h]
 |(i,v)::rest,cells,cells',h=>by
  simp only[z68]at h
  split at h
  · cases h
  · split at h
    · rename_i hc
      simp only[Bool.and_eq_true,decide_eq_true_eq]at hc
      rw[z56 place rest _ cells' h,z2H hc.2]
    · cases h
theorem z5h(z:List MV)(n:Nat):(z21 z n).length=n:=by
 unfold z21;split<;>simp
theorem z9M {or : Option Or} {ev : Operand → MV} {ρ : Operand → Value} {o : Oper} {e : Eff} (h : Q5 P or ev hp slot o.op = some e) (hob : ∀ q ∈ e.ob, q) (H : HRel w0 hp I p w)
    (hev: ∀x∈o.op.operands,(ev x).rep I p (ρ x)) (hs:e.al.isSome=true→hp[slot]?=some none∧p slot=none):
    Fine P ((execOp ρ o).run P w) (Post w0 (V6 hp slot e) I p slot e.al.isSome e.v):=by
 have pureOK : ∀ (m : MV) (ob : List Prop), e = ⟨m, [], [], none, ob⟩ → (∃ z, (execOp ρ o).run P w = .ok (.value z) w ∧ m.rep I p z) →
     Fine P ((execOp ρ o).run P w) (Post w0 (V6 hp slot e) I p slot e.al.isSome e.v):=by
  rintro m ob rfl ⟨z,hz,hr⟩
  exact z0f hz (Post.same H hr _)
 obtain⟨dst,op,type,pos,after,guard⟩:=o
 simp only at h hev
 cases op with
 |move x=>
  obtain⟨m,e1,e2⟩:=W1 (by simpa[Q5]using h)
  cases e1
  exact pureOK _ _ e2 ⟨_,by simp[execOp],hev x (by simp[Op.operands])⟩
 |assign x=>
  obtain⟨m,e1,e2⟩:=W1 (by simpa[Q5]using h)
  cases e1
  exact pureOK _ _ e2 ⟨_,by simp[execOp],hev x (by simp[Op.operands])⟩
 |pick c a b=>
  simp only[Q5]at h
  split at h
  · rename_i t hc
    obtain⟨m,e1,e2⟩:=W1 h
    cases e1
    have h1:=hev c (by simp[Op.operands])
    rw[hc]at h1
    have h2:=Z4 h1
    have ha:=hev a (by simp[Op.operands])
    have hb:=hev b (by simp[Op.operands])
    refine pureOK _ _ e2 ⟨if t then ρ a else ρ b,by simp[execOp,h2,asBool],?_⟩
    cases t
    · exact hb
    · exact ha
  · cases h
 |alloc T=>
  simp only[Q5]at h
  split at h
  · rename_i cs hz
    cases h
    obtain⟨it,zv,h1,h2,rfl⟩:=z03 hz
    obtain⟨hs1,hs2⟩:=hs rfl
    refine z0f (z:= .pointer (some ⟨w.heap.size,0,none⟩)) (w':=w.alloc (.cells zv.cells T)) (by simp[execOp,Instr.alloc,zeroValue,typeInfo,h1,h2,newVar,newRow]) ?_
    exact Post.alloc H hs1 hs2 (z3W (z3R _)) T (fun q hq hqs=>by simp only[MV.rep];exact⟨_,_,hqs,rfl⟩)
  · cases h
 |box T x=>
  simp only[Q5]at h
  split at h
  · rename_i hk
    cases h
    obtain⟨hs1,hs2⟩:=hs rfl
    have hx:=hev x (by simp[Op.operands])
    refine z0f (z:= .pointer (some ⟨w.heap.size,0,none⟩)) (w':=w.alloc (.cells (ρ x).cells T)) (by simp[execOp,Instr.box,newVar,newRow]) ?_
    exact Post.alloc H hs1 hs2 (z3W (MV.cells_rep hx hk)) T (fun q hq hqs=>by simp only[MV.rep];exact⟨_,_,hqs,rfl⟩)
  · cases h
 |build T ps=>
  obtain⟨m,e1,e2⟩:=W1 (by simpa[Q5]using h)
  have hp:=z97 (I:=I) (p:=p) (ev:=ev) (ρ:=ρ) ps.toList (fun x hx=>hev x (by simpa[Op.operands]using hx))
  obtain⟨z,hz,hr⟩:=z8d (I:=I) (p:=p) (rparts:=ps.map fun(i,x)=>(i,ρ x)) (by simpa using e1) (by simp) (by simpa using hp) w
  exact pureOK _ _ e2 ⟨z,by simp[execOp,hz],hr⟩
 |buildSlice T n ps=>
  simp only[Q5]at h
  split at h
  · rename_i elem hu
    split at h
    · rename_i cs hb
      cases h
      obtain⟨hs1,hs2⟩:=hs rfl
      have hprep:=z97 (I:=I) (p:=p) (ev:=ev) (ρ:=ρ) ps.toList (fun x hx=>hev x (by simpa[Op.operands]using hx))
      unfold z5E at hb
      simp only[hu]at hb
      split at hb
      · rename_i hcond
        simp only[Bool.and_eq_true,decide_eq_true_eq]at hcond
        obtain⟨hty,hsmall⟩:=hcond
        obtain⟨ie,hie⟩:=z0e hty
        by_cases hz:n*P.cellsOf elem=0
        · -- no cell at all
          simp only[hz,if_true]at hb
          obtain⟨rc',hf,hr⟩:=z2g (I:=I) (p:=p) _ _ (ps.map fun(i,x)=>(i,ρ x)).toList _ cs #[] hb (by simp[MV.repL]) (by simp) (by simpa using hprep)
          refine z0f (z:= .slice (some ⟨w.heap.size,0,none⟩) n n) (w':=w.alloc (.cells rc' elem)) ?_ ?_
          · have hz':n*ie.size=0:=by rw[←X2 hie];exact hz
            have hf':Instr.fill (fun i=>some (i*ie.size,ie.size)) #[] (ps.toList.map fun q=>(q.1,ρ q.2))=some rc':=by
             rw[←X2 hie];simpa using hf
            simp[execOp,Instr.buildSlice,run_underlying hu,sizeOf,typeInfo,hie,hz',newRow,Array.range_zero',hf']
          · exact Post.alloc H hs1 hs2 (z3W hr) elem (fun q hq hqs => by
              simp only[MV.rep];exact⟨_,_,n,hqs,rfl,Nat.le_refl _,by rw[hz];simp⟩)
        · simp only[hz,if_false]at hb
          split at hb
          · rename_i zero hzc
            split at hb
            · rename_i hzl
              obtain⟨it,zv,h1,h2,rfl⟩:=z03 hzc
              rw[hie]at h1;cases h1
              have hzl':zv.cells.size=P.cellsOf elem:=by simpa using hzl
              have hpos:0<P.cellsOf elem:=Nat.pos_of_ne_zero (fun e=>hz (by rw[e];simp))
              have hmk:=z4n (I:=I) (p:=p) (z:=zv) (n*P.cellsOf elem) (.inr (by omega))
              obtain⟨rc',hf,hr⟩:=z2g (I:=I) (p:=p) _ _ (ps.map fun(i,x)=>(i,ρ x)).toList _ cs _ hb hmk (by simp) (by simpa using hprep)
              have hrun:=run_buildSlice (P:=P) w T elem n (ps.map fun(i,x)=>(i,ρ x)) rc' ie zv hu hie h2 (by rw[←X2 hie];omega) (by rw[←X2 hie];exact hz)
               (by rw[←X2 hie];exact hf)
              refine z0f (by simp[execOp,hrun];exact⟨rfl,rfl⟩) ?_
              have hsz:n*P.cellsOf elem=rc'.size:=by
               have e1:=MV.repL_length hr
               rw[z56 _ _ _ _ hb,z5h]at e1
               simpa using e1
              exact Post.alloc H hs1 hs2 (z3W hr) elem (fun q hq hqs=>by
               simp only[MV.rep];exact⟨_,_,n,hqs,rfl,Nat.le_refl _,by omega⟩)
            · cases hb
          · cases hb
      · cases hb
    · cases h
  · cases h
 |load T a=>
  obtain⟨y,h1,h2,h3,h4⟩:=z5D (by simpa[Q5]using h) hob H (hev a (by simp[Op.operands]))
  refine z0f (by simp[execOp,h1];exact⟨rfl,rfl⟩) ?_
  have:V6 hp slot e=hp:=by simp[V6,h3,h4,X5]
  rw[this]
  exact Post.same H h2 _
 |store T a x=>
  obtain⟨w',h1,h2,h3,h4⟩:=z8l (slot:=slot) (by simpa[Q5]using h) hob H (hev a (by simp[Op.operands])) (hev x (by simp[Op.operands]))
  have hr:(execOp ρ {dst:=dst,op:= .store T a x,type:=type,pos:=pos,after:=after,guard:=guard}).run P w= .ok .skip w':=by simp[execOp,h1]
  rw[hr]
  refine⟨I,p,I.le_refl,p.le_refl,fun _ _=>rfl,fun _=>rfl,h2,?_⟩
  rw[h3];simp[undefM,MV.rep,CV.rep]
 |nilCheck x=>
  have hx:=hev x (by simp[Op.operands])
  simp only[Q5]at h
  split at h
  · rename_i i off hm
    obtain⟨m,e1,e2⟩:=W1 h
    cases e1
    rw[hm]at hx
    have hx':=hx
    simp only[MV.rep]at hx'
    obtain⟨b,κ,_,hv⟩:=hx'
    exact pureOK _ _ e2 ⟨ρ x,by simp[execOp,hv],hx⟩
  · rename_i es off hm
    obtain⟨m,e1,e2⟩:=W1 h
    cases e1
    rw[hm]at hx
    have hx':=hx
    simp only[MV.rep]at hx'
    obtain⟨b,o,cs,hv,_⟩:=hx'
    exact pureOK _ _ e2 ⟨ρ x,by simp[execOp,hv],hx⟩
  · rename_i g a b hm
    obtain⟨m,e1,e2⟩:=W1 h
    cases e1
    rw[hm]at hx
    have hx':=hx
    simp only[MV.rep]at hx'
    obtain⟨f,c,hv,_⟩:=hx'
    exact pureOK _ _ e2 ⟨ρ x,by simp[execOp,hv],hx⟩
  · cases h
 |makeFunc fn first captured=>
  cases fn with
  |func g=>
   obtain⟨m,e1,e2⟩:=W1 (by simpa[Q5]using h)
   cases e1
   have hl: ∀(l:Array Operand),(∀x∈l,x∈(Op.makeFunc (.func g) first captured).operands)→MV.repL I p (l.toList.map ev) (l.map ρ).toList:=by
    intro l hl
    refine(MV.repL_iff _ _).2 ⟨by simp,fun i c y hc hy=>?_⟩
    simp only[Array.toList_map,List.getElem?_map,Option.map_eq_some_iff]at hc hy
    obtain⟨a,ha,rfl⟩:=hc
    obtain⟨b,hb,rfl⟩:=hy
    rw[ha]at hb;cases hb
    exact hev _ (hl _ (by simpa using List.mem_of_getElem? ha))
   exact pureOK _ _ e2 ⟨.func (.func g) (first.map ρ) (captured.map ρ),by simp[execOp,Instr.makeFunc],
    by simp only[MV.rep];exact⟨_,_,rfl,hl first (fun x hx=>by simp[Op.operands,hx]),hl captured (fun x hx=>by simp[Op.operands,hx])⟩⟩
  |_=>simp[Q5]at h
 |binOp bop t x y yt=>
  obtain⟨m,ob,e1,e2⟩:=z1m (by simpa[Q5]using h)
  obtain⟨z,hz,hr⟩:=zcv e1 (by rw[e2]at hob;exact hob) (hev x (by simp[Op.operands])) (hev y (by simp[Op.operands])) x y w
  exact pureOK _ _ e2 ⟨z,by simp only[execOp,Sem.run_bind];rw[Sem.run_bind]at hz;rw[hz];simp,hr⟩
 |unOp uop t x=>
  obtain⟨m,e1,e2⟩:=W1 (by simpa[Q5]using h)
  obtain⟨z,hz,hr⟩:=zcX (P:=P) e1 (hev x (by simp[Op.operands])) w
  exact pureOK _ _ e2 ⟨z,by simp[execOp,hz],hr⟩
 |convert s d x=>
  have hx:=hev x (by simp[Op.operands])
  simp only[Q5]at h
  split at h
  · rename_i el hs' hd'
    split at h
    · rename_i hel'
      obtain⟨z,hz,hr,h3,h4⟩:=z6m h hob H hx hs' hel' hd'
      refine z0f (by simp[execOp,hz];exact⟨rfl,rfl⟩) ?_
      have:V6 hp slot e=hp:=by simp[V6,h3,h4,X5]
      rw[this]
      exact Post.same H hr _
    · cases h
  · obtain⟨m,e1,e2⟩:=W1 h
    obtain⟨z,hz,hr⟩:=z9y e1 hx w
    exact pureOK _ _ e2 ⟨z,by simp[execOp,hz],hr⟩
 |makeSlice T l c=>
  simp only[Q5]at h
  have hal:e.al.isSome=true:=by
   unfold z2a at h
   split at h
   · split at h
     · cases h;rfl
     · cases h
   · cases h
  obtain⟨hs1,hs2⟩:=hs hal
  obtain⟨z,w',hz,hP⟩:=z5i h hob H (hev l (by simp[Op.operands])) (hev c (by simp[Op.operands])) hs1 hs2
  exact z0f (by simp[execOp,hz]) hP
 |slice T x lo hi mx=>
  simp only[Q5]at h
  split at h
  · obtain⟨m,ob,e1,e2⟩:=z1m h
    obtain⟨z,hz,hr⟩:=z8g e1 (by rw[e2]at hob;exact hob) (hev x (by simp[Op.operands])) (z4j lo (fun y hy=>hev y (by simp[Op.operands]at hy ⊢;simp[hy])))
     (z4j hi (fun y hy=>hev y (by simp[Op.operands]at hy ⊢;simp[hy]))) (z4j mx (fun y hy=>hev y (by simp[Op.operands]at hy ⊢;simp[hy]))) w
    exact pureOK _ _ e2 ⟨z,by simp[execOp,hz],hr⟩
  · split at h
    · rename_i n elem hu
      obtain⟨z,h1,h2,h3,h4⟩:=z8s hu h hob H (hev x (by simp[Op.operands])) (z4j lo (fun y hy=>hev y (by simp[Op.operands]at hy ⊢;simp[hy])))
       (z4j hi (fun y hy=>hev y (by simp[Op.operands]at hy ⊢;simp[hy]))) (z4j mx (fun y hy=>hev y (by simp[Op.operands]at hy ⊢;simp[hy])))
      refine z0f (by simp[execOp,h1];exact⟨rfl,rfl⟩) ?_
      have:V6 hp slot e=hp:=by simp[V6,h3,h4,X5]
      rw[this]
      exact Post.same H h2 _
    obtain⟨m,ob,e1,e2⟩:=z1m h
    obtain⟨z,hz,hr⟩:=z8O e1 (by rw[e2]at hob;exact hob) (hev x (by simp[Op.operands])) (z4j lo (fun y hy=>hev y (by simp[Op.operands]at hy ⊢;simp[hy])))
     (z4j hi (fun y hy=>hev y (by simp[Op.operands]at hy ⊢;simp[hy]))) (z4j mx (fun y hy=>hev y (by simp[Op.operands]at hy ⊢;simp[hy]))) w
    exact pureOK _ _ e2 ⟨z,by simp[execOp,hz],hr⟩
 |fieldAddr s x f=>
  obtain⟨m,e1,e2⟩:=W1 (by simpa[Q5]using h)
  obtain⟨z,hz,hr⟩:=z5d e1 (hev x (by simp[Op.operands])) w
  exact pureOK _ _ e2 ⟨z,by simp[execOp,hz],hr⟩
 |field t x f=>
  obtain⟨m,e1,e2⟩:=W1 (by simpa[Q5]using h)
  obtain⟨z,hz,hr⟩:=z8K e1 (hev x (by simp[Op.operands])) w
  exact pureOK _ _ e2 ⟨z,by simp[execOp,hz],hr⟩
 |indexAddr t x i=>
  obtain⟨m,ob,e1,e2⟩:=z1m (by simpa[Q5]using h)
  obtain⟨z,hz,hr⟩:=z5e e1 (by rw[e2]at hob;exact hob) (hev x (by simp[Op.operands])) (hev i (by simp[Op.operands])) w
  exact pureOK _ _ e2 ⟨z,by simp[execOp,hz],hr⟩
 |index t x i=>
  obtain⟨m,ob,e1,e2⟩:=z1m (by simpa[Q5]using h)
  obtain⟨z,hz,hr⟩:=z8h e1 (by rw[e2]at hob;exact hob) (hev x (by simp[Op.operands])) (hev i (by simp[Op.operands])) w
  exact pureOK _ _ e2 ⟨z,by simp[execOp,hz],hr⟩
 |extract x i=>
  obtain⟨m,e1,e2⟩:=W1 (by simpa[Q5]using h)
  obtain⟨z,hz,hr⟩:=z6B (P:=P) e1 (hev x (by simp[Op.operands])) w
  exact pureOK _ _ e2 ⟨z,by simp[execOp,hz],hr⟩
 |call c=>
  obtain⟨callee,args,ts⟩:=c
  cases callee with
  |invoke r m=>simp[Q5]at h
  |builtin b=>
   cases b with
   |len=>
    simp only[Q5]at h
    split at h
    · rename_i t x ht hargs
      obtain⟨m,e1,e2⟩:=W1 h
      have ha:args= #[x]:=by apply Array.ext';simpa using hargs
      subst ha
      obtain⟨z,hz,hr⟩:=zc2 (P:=P) (ts:=ts) (T:=type) ht e1 (hev x (by simp[Op.operands,Call.operands])) w
      exact pureOK _ _ e2 ⟨z,by simp[execOp,resolve,invoke,builtin,hz],hr⟩
    · cases h
   |append=>
    simp only[Q5]at h
    split at h
    · rename_i t u s x hts hargs
      split at h
      · rename_i htu
        subst htu
        have ha:args= #[s,x]:=by apply Array.ext';simpa using hargs
        have hb:ts= #[t,t]:=by apply Array.ext';simpa using hts
        subst ha;subst hb
        have hal:e.al.isSome=true:=by
         unfold z4P at h
         split at h
         · dsimp only at h
           split at h
           · cases h
           · split at h
             · cases h
             · split at h
               · cases h;rfl
               · split at h
                 · split at h
                   · cases h;rfl
                   · cases h
                 · cases h
               · cases h
         · cases h
        obtain⟨hs1,hs2⟩:=hs hal
        obtain⟨z,w',hz,hP⟩:=z7J h hob H (hev s (by simp[Op.operands,Call.operands])) (hev x (by simp[Op.operands,Call.operands])) hs1 hs2 type
        exact z0f (by simp[execOp,resolve,invoke,builtin,hz]) hP
      · cases h
    · cases h
   |max=>
    simp only[Q5]at h
    split at h
    · rename_i x y hargs
      have ha:args= #[x,y]:=by apply Array.ext';simpa using hargs
      subst ha
      split at h
      · rename_i k a k' b hx hy
        obtain⟨m,e1,e2⟩:=W1 h
        cases e1
        have hx':=hev x (by simp[Op.operands,Call.operands])
        have hy':=hev y (by simp[Op.operands,Call.operands])
        rw[hx]at hx';rw[hy]at hy'
        have hvx:=Z4 hx'
        have hvy:=Z4 hy'
        exact pureOK _ _ e2 ⟨.int k (if b>a then b else a),by simp[execOp,resolve,invoke,builtin,Builtin.max_,Builtin.max2,hvx,hvy],by simp[z2D,MV.rep,CV.rep]⟩
      · cases h
    · cases h
   |min=>
    simp only[Q5]at h
    split at h
    · rename_i x y hargs
      have ha:args= #[x,y]:=by apply Array.ext';simpa using hargs
      subst ha
      split at h
      · rename_i k a k' b hx hy
        obtain⟨m,e1,e2⟩:=W1 h
        cases e1
        have hx':=hev x (by simp[Op.operands,Call.operands])
        have hy':=hev y (by simp[Op.operands,Call.operands])
        rw[hx]at hx';rw[hy]at hy'
        have hvx:=Z4 hx'
        have hvy:=Z4 hy'
        exact pureOK _ _ e2 ⟨.int k (if b<a then b else a),by simp[execOp,resolve,invoke,builtin,Builtin.min_,Builtin.min2,hvx,hvy],by simp[z2D,MV.rep,CV.rep]⟩
      · cases h
    · cases h
   |_=>simp[Q5]at h
  |value f=>
   simp only[Q5]at h
   have hargs:MV.repL I p (args.toList.map ev) (args.map ρ).toList:=by
    refine(MV.repL_iff _ _).2 ⟨by simp,fun i c y hc hy=>?_⟩
    simp only[Array.toList_map,List.getElem?_map,Option.map_eq_some_iff]at hc hy
    obtain⟨a,ha,rfl⟩:=hc
    obtain⟨b,hb,rfl⟩:=hy
    rw[ha]at hb;cases hb
    refine hev _ ?_
    have:=List.mem_of_getElem? ha
    simp[Op.operands,Call.operands]
    right;simpa using this
   obtain⟨g,a,b,hfv,hc,hcalls⟩:=z9H (slot:=slot) h hob H hs (hev f (by simp[Op.operands,Call.operands])) hargs
   have hr:=zfP (P:=P) (o:={dst:=dst,op:= .call {callee:= .value f,args,argTypes:=ts},type:=type,pos:=pos,after:=after,guard:=guard}) rfl hfv hc w
   rw[hr]
   exact hcalls
 |_=>simp[Q5]at h
end
section
variable{P:Program}{w0:Start}{w:World}{I:Imm}{p:Pl}
structure SRel(w0:Start)(s:St)(I:Imm)(p:Pl)(a:Act)(w:World):Prop where
 tm:MV.repL I p s.tm a.tmps.toList
 defers:a.defers=[]
 hp:HRel w0 s.hp I p w
theorem z4D:undefM.rep I p undef:=by simp[undefM,MV.rep,CV.rep]
theorem z5V{tm:List MV}{a:Act}(h:MV.repL I p tm a.tmps.toList)(x:Operand):(z1R tm x).rep I p (a.eval x):=by
 cases x with
 |tmp t=>
  simp only[z1R,Act.eval]
  cases ht:tm[t]? with
  |some m=>
   obtain⟨y,hy,hr⟩:=MV.repL_get h ht
   rw[Array.getElem?_toList]at hy
   simp[List.getD,ht,hy,hr]
  |none=>
   have:a.tmps[t]?=none:=by
    have h1:=MV.repL_length h
    have h2:=List.getElem?_eq_none_iff.1 ht
    rw[Array.getElem?_eq_none_iff];simp at h1;omega
   simp[List.getD,ht,this,z4D]
 |const v=>simp[z1R,Act.eval,MV.rep,CV.rep]
 |global g=>simp[z1R,MV.rep]
 |func f=>simp[z1R,Act.eval,MV.rep,CV.rep]
theorem zb6{tm:List MV}{a:Act}(h:MV.repL I p tm a.tmps.toList)(dst:Option Tmp){m:MV}{y:Value}(hm:m.rep I p y):MV.repL I p (z6v tm dst m) (a.put dst y).tmps.toList:=by
 cases dst with
 |none=>exact h
 |some d=>
  simp only[z6v,Act.put,Array.toList_setIfInBounds]
  exact MV.repL_set h d hm
theorem z76(a:Act)(dst:Option Tmp)(v:Value):(a.put dst v).defers=a.defers:=by cases dst<;>rfl
theorem z4f {ops : List Oper} {tm : List MV} {a : Act} {o : Oper} {b : Bool} (h : z0g ops tm o = some b) (ht : MV.repL I p tm a.tmps.toList) :
    Region.wanted o (yielded ops.toArray a.tmps)=b:=by
 unfold z0g at h
 unfold Region.wanted
 split at h
 · rename_i hg;cases h;simp[hg]
 · rename_i j want hg
   simp only[hg]
   split at h
   · rename_i oj hj
     split at h
     · rename_i d hd
       unfold yielded
       simp only[List.getElem?_toArray,hj,Option.bind_some,hd]
       split at h
       · rename_i t hm
         cases h
         obtain⟨y,hy,hr⟩:=MV.repL_get ht hm
         have:=Z4 hr;subst this
         rw[Array.getElem?_toList]at hy
         simp[hy]
       · rename_i vs hm
         cases h
         obtain⟨y,hy,hr⟩:=MV.repL_get ht hm
         have:=Z4 hr;subst this
         rw[Array.getElem?_toList]at hy
         simp[hy]
       · cases h
     · cases h
   · cases h
theorem z51{or:Option Or}{e e':Eff}(h:z4Q or e=some e'):e'.rd=e.rd∧e'.wr=e.wr∧e'.al=e.al∧((∀q∈e'.ob,q)→(∀q∈e.ob,q)∧e'.v=e.v):=by
 unfold z4Q at h
 split at h
 · rename_i d
   split at h
   · rename_i t hv
     cases h
     refine⟨rfl,rfl,rfl,fun hob=>?_⟩
     simp only[List.mem_cons,forall_eq_or_imp]at hob
     refine⟨hob.2,?_⟩
     rw[hv,z8N,hob.1]
   · cases h
 · cases h;exact⟨rfl,rfl,rfl,fun hob=>⟨hob,rfl⟩⟩
theorem zhg {or : Option Or} {ev : Operand → MV} {hp : List Blk} {slot : Nat} {op : Op} {e : Eff} (h : Q5 P or ev hp slot op = some e) :
    (∀x∈e.wr,∃cells,hp[x.1]?=some (some cells))∧(e.al.isSome=true→z9w op=true):=by
 have hE: ∀{v:Option MV} {e:Eff},z26 v=some e→(∀x∈e.wr,∃cells,hp[x.1]?=some (some cells))∧(e.al.isSome=true→z9w op=true):=by
  intro v e h
  obtain⟨m,_,rfl⟩:=W1 h
  exact⟨by simp,by simp⟩
 have hO: ∀{v:Option (MV×List Prop)} {e:Eff},z8H v=some e→(∀x∈e.wr,∃cells,hp[x.1]?=some (some cells))∧(e.al.isSome=true→z9w op=true):=by
  intro v e h
  obtain⟨m,ob,_,rfl⟩:=z1m h
  exact⟨by simp,by simp⟩
 cases op with
 |move x=>exact hE (by simpa[Q5]using h)
 |assign x=>exact hE (by simpa[Q5]using h)
 | pick c a b => simp only [Q5] at h; split at h; · exact hE h
                 · cases h
 | alloc T => simp only [Q5] at h; split at h; · cases h; exact ⟨by simp, by simp [z9w]⟩
              · cases h
 | box T x => simp only [Q5] at h; split at h; · cases h; exact ⟨by simp, by simp [z9w]⟩
              · cases h
 |build T ps=>exact hE (by simpa[Q5]using h)
 |buildSlice T n ps=>
  simp only[Q5]at h
  split at h
  · split at h
    · cases h;exact⟨by simp,by simp[z9w]⟩
    · cases h
  · cases h
 |load T a=>
  simp only[Q5]at h
  unfold zbL at h
  dsimp only at h
  split at h
  · split at h
    · split at h
      · split at h
        · cases h;exact⟨by simp,by simp⟩
        · cases h
      · split at h
        · cases h;exact⟨by simp,by simp⟩
        · cases h
      · split at h
        · split at h
          · cases h;exact⟨by simp,by simp⟩
          · cases h
        · cases h
    · cases h
  · split at h
    · split at h
      · cases h;exact⟨by simp,by simp⟩
      · cases h
    · split at h
      · cases h;exact⟨by simp,by simp⟩
      · cases h
    · split at h
      · exact hE h
      · cases h
  · cases h
 |store T a x=>
  simp only[Q5]at h
  unfold z8b at h
  split at h
  · split at h
    · rename_i cells hi
      dsimp only at h
      split at h
      · cases h;exact⟨by simp[hi],by simp⟩
      · cases h
    · cases h
  · cases h
 | nilCheck x => simp only [Q5] at h; split at h; · exact hE h
                 · exact hE h
                 · exact hE h
                 · cases h
 |makeFunc fn a b=>
  cases fn with
  |func g=>exact hE (by simpa[Q5]using h)
  |_=>simp[Q5]at h
 |binOp b t x y yt=>exact hO (by simpa[Q5]using h)
 |unOp u t x=>exact hE (by simpa[Q5]using h)
 |convert s d x=>
  simp only[Q5]at h
  split at h
  · split at h
    · unfold z2I at h
      split at h
      · split at h
        · cases h;exact⟨by simp,by simp⟩
        · cases h
      · cases h;exact⟨by simp,by simp⟩
      · cases h
    · cases h
  · exact hE h
 |makeSlice T l c=>
  simp only[Q5]at h
  unfold z2a at h
  split at h
  · split at h
    · cases h;exact⟨by simp,by simp[z9w]⟩
    · cases h
  · cases h
 |slice T x lo hi mx=>
  simp only[Q5]at h
  split at h
  · exact hO h
  · split at h
    · unfold z9f at h
      split at h
      · split at h
        · split at h
          · split at h
            · rename_i hc
              cases h;exact⟨by simp,by simp⟩
            · cases h
          · cases h
        · cases h
      · cases h
    · exact hO h
 |fieldAddr s x f=>exact hE (by simpa[Q5]using h)
 |field t x f=>exact hE (by simpa[Q5]using h)
 |indexAddr t x i=>exact hO (by simpa[Q5]using h)
 |index t x i=>exact hO (by simpa[Q5]using h)
 |extract x i=>exact hE (by simpa[Q5]using h)
 |call c=>
  obtain⟨callee,args,ts⟩:=c
  cases callee with
  |invoke r m=>simp[Q5]at h
  |builtin b=>
   cases b with
   | len => simp only [Q5] at h; split at h; · exact hE h
            · cases h
   |max|min=>
    simp only[Q5]at h
    split at h
    · split at h
      · exact hE h
      · cases h
    · cases h
   |append=>
    simp only[Q5]at h
    split at h
    · split at h
      · refine⟨?_,fun _=>rfl⟩
        unfold z4P at h
        split at h
        · dsimp only at h
          split at h
          · cases h
          · split at h
            · cases h
            · split at h
              · cases h;simp
              · split at h
                · rename_i cells hi
                  split at h
                  · cases h;simp[hi]
                  · cases h
                · cases h
              · cases h
        · cases h
      · cases h
    · cases h
   |_=>simp[Q5]at h
  |value f=>
   simp only[Q5]at h
   have hargs: ∀(ms:List MV) (ess:List (List CV)) (cs:List CV) (is:List Nat) (ob:List Prop),z1i hp ms ess=some (cs,is,ob)→ ∀i∈is,∃cells,hp[i]?=some (some cells):=by
    intro ms
    induction ms with
    |nil=>intro ess cs is ob h;simp only[z1i]at h;cases h;simp
    |cons m ms ih=>
     intro ess cs is ob h
     cases m with
     |sl i off len sz=>
      cases ess with
      |nil=>simp[z1i]at h
      |cons es ess=>
       simp only[z1i]at h
       split at h
       · rename_i cells cs' is' ob' hi ha
         cases h
         intro j hj
         simp only[List.mem_cons]at hj
         rcases hj with rfl|hj
         · exact⟨cells,hi⟩
         · exact ih _ _ _ _ ha j hj
       · cases h
     |_=>
      simp only[z1i]at h
      split at h
      · rename_i c cs' is' ob' hc ha
        cases h
        exact ih _ _ _ _ ha
      · cases h
   have hG: ∀(g:FuncId) (args:List MV),z7v P or hp slot g args=some e→(∀x∈e.wr,∃cells,hp[x.1]?=some (some cells))∧(e.al.isSome=true→z9w (.call {callee:= .value f,args:= #[],argTypes:=ts})=true):=by
    intro g args h
    unfold z7v at h
    split at h
    · split at h
      · rename_i cs is ob ha
        cases h
        refine⟨?_,by simp⟩
        intro x hx
        simp only[List.mem_map]at hx
        obtain⟨i,hi,rfl⟩:=hx
        exact hargs _ _ _ _ _ ha i hi
      · cases h
    · split at h
      · split at h
        · cases h;exact⟨by simp,by simp⟩
        · cases h
      · cases h
    · split at h
      · rename_i σ v hp' args0 hp0 _ hl
        split at h
        · cases h
          refine⟨fun x hx=>?_,by simp⟩
          have hx1:=(List.of_mem_zip (a:=x.1) (b:=x.2) (by simpa using hx)).1
          obtain⟨k,hk⟩:=List.getElem?_of_mem hx1
          obtain⟨cells,hc,_⟩:=(z3z _ _ hl).2 k _ hk
          exact⟨cells,hc⟩
        · cases h
      · cases h
    · split at h
      · rename_i cs is ob ha
        split at h
        · cases h
          refine⟨?_,fun _=>rfl⟩
          intro x hx
          simp only[List.mem_map]at hx
          obtain⟨i,hi,rfl⟩:=hx
          exact hargs _ _ _ _ _ ha i hi
        · cases h
      · cases h
    · split at h
      · split at h
        · cases h;exact⟨by simp,fun _=>rfl⟩
        · cases h
      · cases h
    · cases h
   unfold zem at h
   split at h
   · split at h
     · exact hG _ _ h
     · cases h
   · split at h
     · exact hG _ _ h
     · cases h
   · cases h
 |_=>simp[Q5]at h
theorem z2i: ∀(l:List (Nat×Blk)) (hp:List Blk) (k:Nat),(∀x∈l,x.1≠k)→(X5 hp l)[k]?=hp[k]?
 | [],hp,k,_=>rfl
 |(i,b)::l,hp,k,h=>by
  simp only[X5]
  rw[z2i l _ k (fun x hx=>h x (by simp[hx])),List.getElem?_set,if_neg (h (i,b) (by simp))]
theorem z7N(hp:List Blk)(slot:Nat)(e:Eff):(V6 hp slot e).length=hp.length:=by
 unfold V6;split<;>simp[z3j]
theorem z50{hp:List Blk}{slot:Nat}{e:Eff}{k:Nat}(h1: ∀x∈e.wr,x.1≠k)(h2:e.al.isSome=true→slot≠k):(V6 hp slot e)[k]?=hp[k]?:=by
 unfold V6
 split
 · rename_i cs hc
   rw[List.getElem?_set,if_neg (h2 (by simp[hc]))]
   exact z2i _ _ _ h1
 · exact z2i _ _ _ h1
def z5K(ops:List Oper)(base:Nat)(l:List Nat)(hp:List Blk)(p:Pl):Prop:=
 ∀i∈l,∀o,ops[i]?=some o→z9w o.op=true→hp[base+X6 ops i]?=some none∧p (base+X6 ops i)=none
theorem z2m{ops:List Oper}{i:Nat}{o:Oper}(h:ops[i]?=some o)(ha:z9w o.op=true):X6 ops (i+1)=X6 ops i+1:=by
 unfold X6
 have hi:=(List.getElem?_eq_some_iff.1 h).1
 have he:=(List.getElem?_eq_some_iff.1 h).2
 rw[List.take_succ_eq_append_getElem hi,List.countP_append,he]
 simp[ha]
theorem z2t{ops:List Oper}{i j:Nat}(h:i≤j):X6 ops i≤X6 ops j:=by
 unfold X6
 exact List.Sublist.countP_le (List.take_sublist_take_left h)
theorem z6S {ops : List Oper} {i j : Nat} {oi oj : Oper} (hi : ops[i]? = some oi) (hj : ops[j]? = some oj) (ai : z9w oi.op = true) (aj : z9w oj.op = true) (hne : i ≠ j) :
    X6 ops i≠X6 ops j:=by
 rcases Nat.lt_or_gt_of_ne hne with h|h
 · have:=z2m hi ai
   have:=z2t (ops:=ops) (show i+1≤j from h)
   omega
 · have:=z2m hj aj
   have:=z2t (ops:=ops) (show j+1≤i from h)
   omega
theorem z9c {ops : List Oper} {base : Nat} {or : Option Or} {i : Nat} {s s' : St} {eo : Option Eff} {l : List Nat} {a : Act} {Q : Exit → Act → World → Prop} {K : Act → World → Prop}
    (h:mOp P ops base or i s=some (s',eo)) (hob: ∀e,eo=some e→ ∀q∈e.ob,q) (R:SRel w0 s I p a w) (hi:i∉l) (hsl:z5K ops base (i::l) s.hp p)
    (hK: ∀a' w' I' p',I.le I'→SRel w0 s' I' p' a' w'→z5K ops base l s'.hp p'→(∀k,(∀j o,ops[j]?=some o→z9w o.op=true→k≠base+X6 ops j)→p' k=p k)→K a' w'):
    wpOp P ops.toArray Q i K a w:=by
 unfold mOp at h
 split at h
 · cases h
 · rename_i o ho
   have ho':ops.toArray[i]?=some o:=by simpa using ho
   unfold wpOp
   simp only[ho']
   split at h
   · cases h
   · rename_i hw
     cases h
     have hw':=z4f hw R.tm
     rw[if_neg (by rw[hw'];simp)]
     exact hK _ _ I p I.le_refl ⟨zb6 R.tm _ z4D,by rw[z76];exact R.defers,R.hp⟩ (fun j hj=>hsl j (by simp[hj])) (fun _ _=>rfl)
   · rename_i hw
     have hw':=z4f hw R.tm
     split at h
     · cases h
     · rename_i e0 he0
       split at h
       · cases h
       · rename_i e he
         cases h
         obtain⟨d1,d2,d3,d4⟩:=z51 he
         obtain⟨d5,d6⟩:=d4 (hob e rfl)
         obtain⟨g1,g2⟩:=zhg he0
         rw[if_pos hw']
         left
         have hF:=z9M (P:=P) (w:=w) (ρ:=a.eval) (slot:=base+X6 ops i) he0 d5 R.hp (fun x _=>z5V R.tm x) (fun hal=>hsl i (by simp) o ho (g2 hal))
         unfold Oper.wp
         refine hF.upon (fun v w' hP=>?_)
         obtain⟨I',p',k1,k2,k3,k4,k5,k6⟩:=hP
         have happ:V6 s.hp (base+X6 ops i) e0=V6 s.hp (base+X6 ops i) e:=by simp only[V6,d2,d3]
         rw[happ]at k5
         rw[←d6]at k6
         refine hK _ _ I' p' k1 ⟨zb6 (MV.repL_mono k1 k2 _ _ R.tm) _ k6,by rw[z76];exact R.defers,k5⟩ ?_ ?_
         · intro j hj oj hoj haj
           obtain⟨q1,q2⟩:=hsl j (by simp[hj]) oj hoj haj
           have hji:j≠i:=fun e=>hi (e ▸ hj)
           refine⟨?_,?_⟩
           · show(V6 s.hp (base+X6 ops i) e)[base+X6 ops j]?=some none
             rw[z50,q1]
             · intro x hx hxe
               rw[d2]at hx
               obtain⟨cells,hc⟩:=g1 x hx
               rw[hxe,q1]at hc;cases hc
             · intro hal hxe
               rw[d3]at hal
               exact z6S hoj ho haj (g2 hal) hji (by omega)
           · by_cases hal:e0.al.isSome=true
             · rw[k3 _ (fun hxe=>z6S hoj ho haj (g2 hal) hji (by omega))];exact q2
             · rw[k4 (by simpa using hal)];exact q2
         · intro k hk
           by_cases hal:e0.al.isSome=true
           · exact k3 k (hk i o ho (g2 hal))
           · rw[k4 (by simpa using hal)]
end
end Go.Fw
