/- A part of the proof that the law returns true for every input: an executor for the model's code, and what functions of the program compute. -/
import Derived.Test.YtcafjpldfnegiaaDoorB07
open Go IntKind
namespace Go.Fw
section
variable{P:Program}{w0:Start}{w:World}{hp:List Blk}{I:Imm}{p:Pl}{slot:Nat}
theorem z28{ev:Operand→MV}{ρ:Operand→Value}(x:Option Operand)(h: ∀y∈x.toArray,(ev y).rep I p (ρ y)):OptRep I p (x.map ev) (x.map ρ):=by
 cases x with
 |none=>exact .none
 |some y=>exact .some (h y (by simp))
theorem z2V(place:Nat→Option (Nat×Nat)): ∀(parts:List (Nat×MV)) (cells cells':List MV),z3V place cells parts=some cells'→cells'.length=cells.length
 | [],cells,cells',h=>by simp[z3V]at h;rw[h]
 |(i,v)::rest,cells,cells',h=>by
  simp only[z3V]at h
  split at h
  · cases h
  · split at h
    · rename_i hc
      simp only[Bool.and_eq_true,decide_eq_true_eq]at hc
      rw[z2V place rest _ cells' h,z1l hc.2]
    · cases h
theorem z33(z:List MV)(n:Nat):(z0J z n).length=n:=by
 unfold z0J;split<;>simp
theorem z6d {or : Option Or} {ev : Operand → MV} {ρ : Operand → Value} {o : Oper} {e : Eff} (h : j8 P or ev hp slot o.op = some e) (hob : ∀ q ∈ e.ob, q) (H : HRel w0 hp I p w)
    (hev: ∀x∈o.op.operands,(ev x).rep I p (ρ x)) (hs:e.al.isSome=true→hp[slot]?=some none∧p slot=none):
    Fine P ((execOp ρ o).run P w) (Post w0 (Z5 hp slot e) I p slot e.al.isSome e.v):=by
 have pureOK : ∀ (m : MV) (ob : List Prop), e = ⟨m, [], [], none, ob⟩ → (∃ z, (execOp ρ o).run P w = .ok (.value z) w ∧ m.rep I p z) →
     Fine P ((execOp ρ o).run P w) (Post w0 (Z5 hp slot e) I p slot e.al.isSome e.v):=by
  rintro m ob rfl ⟨z,hz,hr⟩
  exact Y7 hz (Post.same H hr _)
 obtain⟨dst,op,type,pos,after,guard⟩:=o
 simp only at h hev
 cases op with
 |move x=>
  obtain⟨m,e1,e2⟩:=Q1 (by simpa[j8]using h)
  cases e1
  exact pureOK _ _ e2 ⟨_,by simp[execOp],hev x (by simp[Op.operands])⟩
 |assign x=>
  obtain⟨m,e1,e2⟩:=Q1 (by simpa[j8]using h)
  cases e1
  exact pureOK _ _ e2 ⟨_,by simp[execOp],hev x (by simp[Op.operands])⟩
 |pick c a b=>
  simp only[j8]at h
  split at h
  · rename_i t hc
    obtain⟨m,e1,e2⟩:=Q1 h
    cases e1
    have h1:=hev c (by simp[Op.operands])
    rw[hc]at h1
    have h2:=J2 h1
    have ha:=hev a (by simp[Op.operands])
    have hb:=hev b (by simp[Op.operands])
    refine pureOK _ _ e2 ⟨if t then ρ a else ρ b,by simp[execOp,h2,asBool],?_⟩
    cases t
    · exact hb
    · exact ha
  · cases h
 |alloc T=>
  simp only[j8]at h
  split at h
  · rename_i cs hz
    cases h
    obtain⟨it,zv,h1,h2,rfl⟩:=Z8 hz
    obtain⟨hs1,hs2⟩:=hs rfl
    refine Y7 (z:= .pointer (some ⟨w.heap.size,0,none⟩)) (w':=w.alloc (.cells zv.cells T)) (by simp[execOp,Instr.alloc,zeroValue,typeInfo,h1,h2,newVar,newRow]) ?_
    exact Post.alloc H hs1 hs2 (z1Z (z2l _)) T (fun q hq hqs=>by simp only[MV.rep];exact⟨_,_,hqs,rfl⟩)
  · cases h
 |box T x=>
  simp only[j8]at h
  split at h
  · rename_i hk
    cases h
    obtain⟨hs1,hs2⟩:=hs rfl
    have hx:=hev x (by simp[Op.operands])
    refine Y7 (z:= .pointer (some ⟨w.heap.size,0,none⟩)) (w':=w.alloc (.cells (ρ x).cells T)) (by simp[execOp,Instr.box,newVar,newRow]) ?_
    exact Post.alloc H hs1 hs2 (z1Z (MV.cells_rep hx hk)) T (fun q hq hqs=>by simp only[MV.rep];exact⟨_,_,hqs,rfl⟩)
  · cases h
 |build T ps=>
  obtain⟨m,e1,e2⟩:=Q1 (by simpa[j8]using h)
  have hp:=z5M (I:=I) (p:=p) (ev:=ev) (ρ:=ρ) ps.toList (fun x hx=>hev x (by simpa[Op.operands]using hx))
  obtain⟨z,hz,hr⟩:=z5A (I:=I) (p:=p) (rparts:=ps.map fun(i,x)=>(i,ρ x)) (by simpa using e1) (by simp) (by simpa using hp) w
  exact pureOK _ _ e2 ⟨z,by simp[execOp,hz],hr⟩
 |buildSlice T n ps=>
  simp only[j8]at h
  split at h
  · rename_i elem hu
    split at h
    · rename_i cs hb
      cases h
      obtain⟨hs1,hs2⟩:=hs rfl
      have hprep:=z5M (I:=I) (p:=p) (ev:=ev) (ρ:=ρ) ps.toList (fun x hx=>hev x (by simpa[Op.operands]using hx))
      unfold z4g at hb
      simp only[hu]at hb
      split at hb
      · rename_i hcond
        simp only[Bool.and_eq_true,decide_eq_true_eq]at hcond
        obtain⟨hty,hsmall⟩:=hcond
        obtain⟨ie,hie⟩:=W6 hty
        by_cases hz:n*P.cellsOf elem=0
        · -- no cell at all
          simp only[hz,if_true]at hb
          obtain⟨rc',hf,hr⟩:=z0E (I:=I) (p:=p) _ _ (ps.map fun(i,x)=>(i,ρ x)).toList _ cs #[] hb (by simp[MV.repL]) (by simp) (by simpa using hprep)
          refine Y7 (z:= .slice (some ⟨w.heap.size,0,none⟩) n n) (w':=w.alloc (.cells rc' elem)) ?_ ?_
          · have hz':n*ie.size=0:=by rw[←Q6 hie];exact hz
            have hf':Instr.fill (fun i=>some (i*ie.size,ie.size)) #[] (ps.toList.map fun q=>(q.1,ρ q.2))=some rc':=by
             rw[←Q6 hie];simpa using hf
            simp[execOp,Instr.buildSlice,run_underlying hu,sizeOf,typeInfo,hie,hz',newRow,Array.range_zero',hf']
          · exact Post.alloc H hs1 hs2 (z1Z hr) elem (fun q hq hqs => by
              simp only[MV.rep];exact⟨_,_,n,hqs,rfl,Nat.le_refl _,by rw[hz];simp⟩)
        · simp only[hz,if_false]at hb
          split at hb
          · rename_i zero hzc
            split at hb
            · rename_i hzl
              obtain⟨it,zv,h1,h2,rfl⟩:=Z8 hzc
              rw[hie]at h1;cases h1
              have hzl':zv.cells.size=P.cellsOf elem:=by simpa using hzl
              have hpos:0<P.cellsOf elem:=Nat.pos_of_ne_zero (fun e=>hz (by rw[e];simp))
              have hmk:=z2q (I:=I) (p:=p) (z:=zv) (n*P.cellsOf elem) (.inr (by omega))
              obtain⟨rc',hf,hr⟩:=z0E (I:=I) (p:=p) _ _ (ps.map fun(i,x)=>(i,ρ x)).toList _ cs _ hb hmk (by simp) (by simpa using hprep)
              have hrun:=run_buildSlice (P:=P) w T elem n (ps.map fun(i,x)=>(i,ρ x)) rc' ie zv hu hie h2 (by rw[←Q6 hie];omega) (by rw[←Q6 hie];exact hz)
               (by rw[←Q6 hie];exact hf)
              refine Y7 (by simp[execOp,hrun];exact⟨rfl,rfl⟩) ?_
              have hsz:n*P.cellsOf elem=rc'.size:=by
               have e1:=MV.repL_length hr
               rw[z2V _ _ _ _ hb,z33]at e1
               simpa using e1
              exact Post.alloc H hs1 hs2 (z1Z hr) elem (fun q hq hqs=>by
               simp only[MV.rep];exact⟨_,_,n,hqs,rfl,Nat.le_refl _,by omega⟩)
            · cases hb
          · cases hb
      · cases hb
    · cases h
  · cases h
 |load T a=>
  obtain⟨y,h1,h2,h3,h4⟩:=z42 (by simpa[j8]using h) hob H (hev a (by simp[Op.operands]))
  refine Y7 (by simp[execOp,h1];exact⟨rfl,rfl⟩) ?_
  have:Z5 hp slot e=hp:=by simp[Z5,h3,h4,Q8]
  rw[this]
  exact Post.same H h2 _
 |store T a x=>
  obtain⟨w',h1,h2,h3,h4⟩:=z63 (slot:=slot) (by simpa[j8]using h) hob H (hev a (by simp[Op.operands])) (hev x (by simp[Op.operands]))
  have hr:(execOp ρ {dst:=dst,op:= .store T a x,type:=type,pos:=pos,after:=after,guard:=guard}).run P w= .ok .skip w':=by simp[execOp,h1]
  rw[hr]
  refine⟨I,p,I.le_refl,p.le_refl,fun _ _=>rfl,fun _=>rfl,h2,?_⟩
  rw[h3];simp[undefM,MV.rep,CV.rep]
 |nilCheck x=>
  have hx:=hev x (by simp[Op.operands])
  simp only[j8]at h
  split at h
  · rename_i i off hm
    obtain⟨m,e1,e2⟩:=Q1 h
    cases e1
    rw[hm]at hx
    have hx':=hx
    simp only[MV.rep]at hx'
    obtain⟨b,κ,_,hv⟩:=hx'
    exact pureOK _ _ e2 ⟨ρ x,by simp[execOp,hv],hx⟩
  · rename_i es off hm
    obtain⟨m,e1,e2⟩:=Q1 h
    cases e1
    rw[hm]at hx
    have hx':=hx
    simp only[MV.rep]at hx'
    obtain⟨b,o,cs,hv,_⟩:=hx'
    exact pureOK _ _ e2 ⟨ρ x,by simp[execOp,hv],hx⟩
  · rename_i g a b hm
    obtain⟨m,e1,e2⟩:=Q1 h
    cases e1
    rw[hm]at hx
    have hx':=hx
    simp only[MV.rep]at hx'
    obtain⟨f,c,hv,_⟩:=hx'
    exact pureOK _ _ e2 ⟨ρ x,by simp[execOp,hv],hx⟩
  · cases h
 |makeFunc fn first captured=>
  cases fn with
  |func g=>
   obtain⟨m,e1,e2⟩:=Q1 (by simpa[j8]using h)
   cases e1
   have hl: ∀(l:Array Operand),(∀x∈l,x∈(Op.makeFunc (.func g) first captured).operands)→MV.repL I p (l.toList.map ev) (l.map ρ).toList:=by
    intro l hl
    refine(MV.repL_iff _ _).2 ⟨by simp,fun i c y hc hy=>?_⟩
    simp only[Array.toList_map,List.getElem?_map,Option.map_eq_some_iff]at hc hy
    obtain⟨a,ha,rfl⟩:=hc
    obtain⟨b,hb,rfl⟩:=hy
    rw[ha]at hb;cases hb
    exact hev _ (hl _ (by simpa using List.mem_of_getElem? ha))
   exact pureOK _ _ e2 ⟨.func (.func g) (first.map ρ) (captured.map ρ),by simp[execOp,Instr.makeFunc],
    by simp only[MV.rep];exact⟨_,_,rfl,hl first (fun x hx=>by simp[Op.operands,hx]),hl captured (fun x hx=>by simp[Op.operands,hx])⟩⟩
  |_=>simp[j8]at h
 |binOp bop t x y yt=>
  obtain⟨m,ob,e1,e2⟩:=z0h (by simpa[j8]using h)
  obtain⟨z,hz,hr⟩:=z7o e1 (by rw[e2]at hob;exact hob) (hev x (by simp[Op.operands])) (hev y (by simp[Op.operands])) x y w
  exact pureOK _ _ e2 ⟨z,by simp only[execOp,Sem.run_bind];rw[Sem.run_bind]at hz;rw[hz];simp,hr⟩
 |unOp uop t x=>
  obtain⟨m,e1,e2⟩:=Q1 (by simpa[j8]using h)
  obtain⟨z,hz,hr⟩:=z9m (P:=P) e1 (hev x (by simp[Op.operands])) w
  exact pureOK _ _ e2 ⟨z,by simp[execOp,hz],hr⟩
 |convert s d x=>
  have hx:=hev x (by simp[Op.operands])
  simp only[j8]at h
  split at h
  · rename_i el hs' hd'
    split at h
    · rename_i hel'
      obtain⟨z,hz,hr,h3,h4⟩:=z40 h hob H hx hs' hel' hd'
      refine Y7 (by simp[execOp,hz];exact⟨rfl,rfl⟩) ?_
      have:Z5 hp slot e=hp:=by simp[Z5,h3,h4,Q8]
      rw[this]
      exact Post.same H hr _
    · cases h
  · obtain⟨m,e1,e2⟩:=Q1 h
    obtain⟨z,hz,hr⟩:=z6k e1 hx w
    exact pureOK _ _ e2 ⟨z,by simp[execOp,hz],hr⟩
 |makeSlice T l c=>
  simp only[j8]at h
  have hal:e.al.isSome=true:=by
   unfold z0L at h
   split at h
   · split at h
     · cases h;rfl
     · cases h
   · cases h
  obtain⟨hs1,hs2⟩:=hs hal
  obtain⟨z,w',hz,hP⟩:=z35 h hob H (hev l (by simp[Op.operands])) (hev c (by simp[Op.operands])) hs1 hs2
  exact Y7 (by simp[execOp,hz]) hP
 |slice T x lo hi mx=>
  simp only[j8]at h
  split at h
  · obtain⟨m,ob,e1,e2⟩:=z0h h
    obtain⟨z,hz,hr⟩:=z5K e1 (by rw[e2]at hob;exact hob) (hev x (by simp[Op.operands])) (z28 lo (fun y hy=>hev y (by simp[Op.operands]at hy ⊢;simp[hy])))
     (z28 hi (fun y hy=>hev y (by simp[Op.operands]at hy ⊢;simp[hy]))) (z28 mx (fun y hy=>hev y (by simp[Op.operands]at hy ⊢;simp[hy]))) w
    exact pureOK _ _ e2 ⟨z,by simp[execOp,hz],hr⟩
  · split at h
    · rename_i n elem hu
      obtain⟨z,h1,h2,h3,h4⟩:=z5W hu h hob H (hev x (by simp[Op.operands])) (z28 lo (fun y hy=>hev y (by simp[Op.operands]at hy ⊢;simp[hy])))
       (z28 hi (fun y hy=>hev y (by simp[Op.operands]at hy ⊢;simp[hy]))) (z28 mx (fun y hy=>hev y (by simp[Op.operands]at hy ⊢;simp[hy])))
      refine Y7 (by simp[execOp,h1];exact⟨rfl,rfl⟩) ?_
      have:Z5 hp slot e=hp:=by simp[Z5,h3,h4,Q8]
      rw[this]
      exact Post.same H h2 _
    obtain⟨m,ob,e1,e2⟩:=z0h h
    obtain⟨z,hz,hr⟩:=z65 e1 (by rw[e2]at hob;exact hob) (hev x (by simp[Op.operands])) (z28 lo (fun y hy=>hev y (by simp[Op.operands]at hy ⊢;simp[hy])))
     (z28 hi (fun y hy=>hev y (by simp[Op.operands]at hy ⊢;simp[hy]))) (z28 mx (fun y hy=>hev y (by simp[Op.operands]at hy ⊢;simp[hy]))) w
    exact pureOK _ _ e2 ⟨z,by simp[execOp,hz],hr⟩
 |fieldAddr s x f=>
  obtain⟨m,e1,e2⟩:=Q1 (by simpa[j8]using h)
  obtain⟨z,hz,hr⟩:=z36 e1 (hev x (by simp[Op.operands])) w
  exact pureOK _ _ e2 ⟨z,by simp[execOp,hz],hr⟩
 |field t x f=>
  obtain⟨m,e1,e2⟩:=Q1 (by simpa[j8]using h)
  obtain⟨z,hz,hr⟩:=z5F e1 (hev x (by simp[Op.operands])) w
  exact pureOK _ _ e2 ⟨z,by simp[execOp,hz],hr⟩
 |indexAddr t x i=>
  obtain⟨m,ob,e1,e2⟩:=z0h (by simpa[j8]using h)
  obtain⟨z,hz,hr⟩:=z34 e1 (by rw[e2]at hob;exact hob) (hev x (by simp[Op.operands])) (hev i (by simp[Op.operands])) w
  exact pureOK _ _ e2 ⟨z,by simp[execOp,hz],hr⟩
 |index t x i=>
  obtain⟨m,ob,e1,e2⟩:=z0h (by simpa[j8]using h)
  obtain⟨z,hz,hr⟩:=z5V e1 (by rw[e2]at hob;exact hob) (hev x (by simp[Op.operands])) (hev i (by simp[Op.operands])) w
  exact pureOK _ _ e2 ⟨z,by simp[execOp,hz],hr⟩
 |extract x i=>
  obtain⟨m,e1,e2⟩:=Q1 (by simpa[j8]using h)
  obtain⟨z,hz,hr⟩:=z4n (P:=P) e1 (hev x (by simp[Op.operands])) w
  exact pureOK _ _ e2 ⟨z,by simp[execOp,hz],hr⟩
 |call c=>
  obtain⟨callee,args,ts⟩:=c
  cases callee with
  |invoke r m=>simp[j8]at h
  |builtin b=>
   cases b with
   |len=>
    simp only[j8]at h
    split at h
    · rename_i t x ht hargs
      obtain⟨m,e1,e2⟩:=Q1 h
      have ha:args= #[x]:=by apply Array.ext';simpa using hargs
      subst ha
      obtain⟨z,hz,hr⟩:=z7P (P:=P) (ts:=ts) (T:=type) ht e1 (hev x (by simp[Op.operands,Call.operands])) w
      exact pureOK _ _ e2 ⟨z,by simp[execOp,resolve,invoke,builtin,hz],hr⟩
    · cases h
   |append=>
    simp only[j8]at h
    split at h
    · rename_i t u s x hts hargs
      split at h
      · rename_i htu
        subst htu
        have ha:args= #[s,x]:=by apply Array.ext';simpa using hargs
        have hb:ts= #[t,t]:=by apply Array.ext';simpa using hts
        subst ha;subst hb
        unfold zgw at h
        cases hna:z17 P hp slot t (ev s) (ev x)with
        |some e'=>
         rw[hna]at h
         cases h
         have hal:e.al.isSome=true:=by
          obtain⟨_,_,_,_,_,_,_,_,_,_,_,rfl⟩:=z1R hna
          rfl
         obtain⟨hs1,hs2⟩:=hs hal
         obtain⟨hz,hP⟩:=z5R hna H (hev s (by simp[Op.operands,Call.operands])) (hev x (by simp[Op.operands,Call.operands])) hs1 hs2 type
         exact Y7 (by simp[execOp,resolve,invoke,builtin,hz]) hP
        |none=>
        rw[hna]at h
        dsimp only at h
        have hal:e.al.isSome=true:=by
         unfold z1g at h
         split at h
         · dsimp only at h
           split at h
           · cases h
           · split at h
             · cases h
             · split at h
               · cases h;rfl
               · split at h
                 · split at h
                   · cases h;rfl
                   · cases h
                 · cases h
               · cases h
         · cases h
        obtain⟨hs1,hs2⟩:=hs hal
        obtain⟨z,w',hz,hP⟩:=z5b h hob H (hev s (by simp[Op.operands,Call.operands])) (hev x (by simp[Op.operands,Call.operands])) hs1 hs2 type
        exact Y7 (by simp[execOp,resolve,invoke,builtin,hz]) hP
      · cases h
    · cases h
   |max=>
    simp only[j8]at h
    split at h
    · rename_i x y hargs
      have ha:args= #[x,y]:=by apply Array.ext';simpa using hargs
      subst ha
      split at h
      · rename_i k a k' b hx hy
        obtain⟨m,e1,e2⟩:=Q1 h
        cases e1
        have hx':=hev x (by simp[Op.operands,Call.operands])
        have hy':=hev y (by simp[Op.operands,Call.operands])
        rw[hx]at hx';rw[hy]at hy'
        have hvx:=J2 hx'
        have hvy:=J2 hy'
        exact pureOK _ _ e2 ⟨.int k (if b>a then b else a),by simp[execOp,resolve,invoke,builtin,Builtin.max_,Builtin.max2,hvx,hvy],by simp[z14,MV.rep,CV.rep]⟩
      · cases h
    · cases h
   |min=>
    simp only[j8]at h
    split at h
    · rename_i x y hargs
      have ha:args= #[x,y]:=by apply Array.ext';simpa using hargs
      subst ha
      split at h
      · rename_i k a k' b hx hy
        obtain⟨m,e1,e2⟩:=Q1 h
        cases e1
        have hx':=hev x (by simp[Op.operands,Call.operands])
        have hy':=hev y (by simp[Op.operands,Call.operands])
        rw[hx]at hx';rw[hy]at hy'
        have hvx:=J2 hx'
        have hvy:=J2 hy'
        exact pureOK _ _ e2 ⟨.int k (if b<a then b else a),by simp[execOp,resolve,invoke,builtin,Builtin.min_,Builtin.min2,hvx,hvy],by simp[z14,MV.rep,CV.rep]⟩
      · cases h
    · cases h
   |_=>simp[j8]at h
  |value f=>
   simp only[j8]at h
   have hargs:MV.repL I p (args.toList.map ev) (args.map ρ).toList:=by
    refine(MV.repL_iff _ _).2 ⟨by simp,fun i c y hc hy=>?_⟩
    simp only[Array.toList_map,List.getElem?_map,Option.map_eq_some_iff]at hc hy
    obtain⟨a,ha,rfl⟩:=hc
    obtain⟨b,hb,rfl⟩:=hy
    rw[ha]at hb;cases hb
    refine hev _ ?_
    have:=List.mem_of_getElem? ha
    simp[Op.operands,Call.operands]
    right;simpa using this
   obtain⟨g,a,b,hfv,hc,hcalls⟩:=z6t (slot:=slot) h hob H hs (hev f (by simp[Op.operands,Call.operands])) hargs
   have hr:=za3 (P:=P) (o:={dst:=dst,op:= .call {callee:= .value f,args,argTypes:=ts},type:=type,pos:=pos,after:=after,guard:=guard}) rfl hfv hc w
   rw[hr]
   exact hcalls
 |_=>simp[j8]at h
end
section
variable{P:Program}{w0:Start}{w:World}{I:Imm}{p:Pl}
structure SRel(w0:Start)(s:St)(I:Imm)(p:Pl)(a:Act)(w:World):Prop where
 tm:MV.repL I p s.tm a.tmps.toList
 defers:a.defers=[]
 hp:HRel w0 s.hp I p w
theorem z2y:undefM.rep I p undef:=by simp[undefM,MV.rep,CV.rep]
theorem z3E{tm:List MV}{a:Act}(h:MV.repL I p tm a.tmps.toList)(x:Operand):(z0D tm x).rep I p (a.eval x):=by
 cases x with
 |tmp t=>
  simp only[z0D,Act.eval]
  cases ht:tm[t]? with
  |some m=>
   obtain⟨y,hy,hr⟩:=MV.repL_get h ht
   rw[Array.getElem?_toList]at hy
   simp[List.getD,ht,hy,hr]
  |none=>
   have:a.tmps[t]?=none:=by
    have h1:=MV.repL_length h
    have h2:=List.getElem?_eq_none_iff.1 ht
    rw[Array.getElem?_eq_none_iff];simp at h1;omega
   simp[List.getD,ht,this,z2y]
 |const v=>simp[z0D,Act.eval,MV.rep,CV.rep]
 |global g=>simp[z0D,MV.rep]
 |func f=>simp[z0D,Act.eval,MV.rep,CV.rep]
theorem z7g{tm:List MV}{a:Act}(h:MV.repL I p tm a.tmps.toList)(dst:Option Tmp){m:MV}{y:Value}(hm:m.rep I p y):MV.repL I p (z4i tm dst m) (a.put dst y).tmps.toList:=by
 cases dst with
 |none=>exact h
 |some d=>
  simp only[z4i,Act.put,Array.toList_setIfInBounds]
  exact MV.repL_set h d hm
theorem z4F(a:Act)(dst:Option Tmp)(v:Value):(a.put dst v).defers=a.defers:=by cases dst<;>rfl
theorem z20 {ops : List Oper} {tm : List MV} {a : Act} {o : Oper} {b : Bool} (h : W8 ops tm o = some b) (ht : MV.repL I p tm a.tmps.toList) :
    Region.wanted o (yielded ops.toArray a.tmps)=b:=by
 unfold W8 at h
 unfold Region.wanted
 split at h
 · rename_i hg;cases h;simp[hg]
 · rename_i j want hg
   simp only[hg]
   split at h
   · rename_i oj hj
     split at h
     · rename_i d hd
       unfold yielded
       simp only[List.getElem?_toArray,hj,Option.bind_some,hd]
       split at h
       · rename_i t hm
         cases h
         obtain⟨y,hy,hr⟩:=MV.repL_get ht hm
         have:=J2 hr;subst this
         rw[Array.getElem?_toList]at hy
         simp[hy]
       · rename_i vs hm
         cases h
         obtain⟨y,hy,hr⟩:=MV.repL_get ht hm
         have:=J2 hr;subst this
         rw[Array.getElem?_toList]at hy
         simp[hy]
       · cases h
     · cases h
   · cases h
theorem z2W{or:Option Or}{e e':Eff}(h:z2I or e=some e'):e'.rd=e.rd∧e'.wr=e.wr∧e'.al=e.al∧((∀q∈e'.ob,q)→(∀q∈e.ob,q)∧e'.v=e.v):=by
 unfold z2I at h
 split at h
 · rename_i d
   split at h
   · rename_i t hv
     cases h
     refine⟨rfl,rfl,rfl,fun hob=>?_⟩
     simp only[List.mem_cons,forall_eq_or_imp]at hob
     refine⟨hob.2,?_⟩
     rw[hv,z5u,hob.1]
   · cases h
 · cases h;exact⟨rfl,rfl,rfl,fun hob=>⟨hob,rfl⟩⟩
theorem za7 {or : Option Or} {ev : Operand → MV} {hp : List Blk} {slot : Nat} {op : Op} {e : Eff} (h : j8 P or ev hp slot op = some e) :
    (∀x∈e.wr,∃cells,hp[x.1]?=some (some cells))∧(e.al.isSome=true→z6B op=true):=by
 have hE: ∀{v:Option MV} {e:Eff},z0F v=some e→(∀x∈e.wr,∃cells,hp[x.1]?=some (some cells))∧(e.al.isSome=true→z6B op=true):=by
  intro v e h
  obtain⟨m,_,rfl⟩:=Q1 h
  exact⟨by simp,by simp⟩
 have hO: ∀{v:Option (MV×List Prop)} {e:Eff},z5r v=some e→(∀x∈e.wr,∃cells,hp[x.1]?=some (some cells))∧(e.al.isSome=true→z6B op=true):=by
  intro v e h
  obtain⟨m,ob,_,rfl⟩:=z0h h
  exact⟨by simp,by simp⟩
 cases op with
 |move x=>exact hE (by simpa[j8]using h)
 |assign x=>exact hE (by simpa[j8]using h)
 | pick c a b => simp only [j8] at h; split at h; · exact hE h
                 · cases h
 | alloc T => simp only [j8] at h; split at h; · cases h; exact ⟨by simp, by simp [z6B]⟩
              · cases h
 | box T x => simp only [j8] at h; split at h; · cases h; exact ⟨by simp, by simp [z6B]⟩
              · cases h
 |build T ps=>exact hE (by simpa[j8]using h)
 |buildSlice T n ps=>
  simp only[j8]at h
  split at h
  · split at h
    · cases h;exact⟨by simp,by simp[z6B]⟩
    · cases h
  · cases h
 |load T a=>
  simp only[j8]at h
  unfold z7v at h
  dsimp only at h
  split at h
  · split at h
    · split at h
      · split at h
        · cases h;exact⟨by simp,by simp⟩
        · cases h
      · split at h
        · cases h;exact⟨by simp,by simp⟩
        · cases h
      · split at h
        · split at h
          · cases h;exact⟨by simp,by simp⟩
          · cases h
        · cases h
    · cases h
  · split at h
    · split at h
      · cases h;exact⟨by simp,by simp⟩
      · cases h
    · split at h
      · cases h;exact⟨by simp,by simp⟩
      · cases h
    · split at h
      · exact hE h
      · cases h
  · cases h
 |store T a x=>
  simp only[j8]at h
  unfold z5S at h
  split at h
  · split at h
    · rename_i cells hi
      dsimp only at h
      split at h
      · cases h;exact⟨by simp[hi],by simp⟩
      · cases h
    · cases h
  · cases h
 | nilCheck x => simp only [j8] at h; split at h; · exact hE h
                 · exact hE h
                 · exact hE h
                 · cases h
 |makeFunc fn a b=>
  cases fn with
  |func g=>exact hE (by simpa[j8]using h)
  |_=>simp[j8]at h
 |binOp b t x y yt=>exact hO (by simpa[j8]using h)
 |unOp u t x=>exact hE (by simpa[j8]using h)
 |convert s d x=>
  simp only[j8]at h
  split at h
  · split at h
    · unfold z1o at h
      split at h
      · split at h
        · cases h;exact⟨by simp,by simp⟩
        · cases h
      · cases h;exact⟨by simp,by simp⟩
      · cases h
    · cases h
  · exact hE h
 |makeSlice T l c=>
  simp only[j8]at h
  unfold z0L at h
  split at h
  · split at h
    · cases h;exact⟨by simp,by simp[z6B]⟩
    · cases h
  · cases h
 |slice T x lo hi mx=>
  simp only[j8]at h
  split at h
  · exact hO h
  · split at h
    · unfold z61 at h
      split at h
      · split at h
        · split at h
          · split at h
            · rename_i hc
              cases h;exact⟨by simp,by simp⟩
            · cases h
          · cases h
        · cases h
      · cases h
    · exact hO h
 |fieldAddr s x f=>exact hE (by simpa[j8]using h)
 |field t x f=>exact hE (by simpa[j8]using h)
 |indexAddr t x i=>exact hO (by simpa[j8]using h)
 |index t x i=>exact hO (by simpa[j8]using h)
 |extract x i=>exact hE (by simpa[j8]using h)
 |call c=>
  obtain⟨callee,args,ts⟩:=c
  cases callee with
  |invoke r m=>simp[j8]at h
  |builtin b=>
   cases b with
   | len => simp only [j8] at h; split at h; · exact hE h
            · cases h
   |max|min=>
    simp only[j8]at h
    split at h
    · split at h
      · exact hE h
      · cases h
    · cases h
   |append=>
    simp only[j8]at h
    split at h
    · split at h
      · refine⟨?_,fun _=>rfl⟩
        unfold zgw at h
        split at h
        · rename_i hna
          cases h
          obtain⟨_,i,_,_,_,cells,_,_,_,_,hi,rfl⟩:=z1R hna
          simp[hi]
        unfold z1g at h
        split at h
        · dsimp only at h
          split at h
          · cases h
          · split at h
            · cases h
            · split at h
              · cases h;simp
              · split at h
                · rename_i cells hi
                  split at h
                  · cases h;simp[hi]
                  · cases h
                · cases h
              · cases h
        · cases h
      · cases h
    · cases h
   |_=>simp[j8]at h
  |value f=>
   simp only[j8]at h
   have hargs: ∀(ms:List MV) (ess:List (List CV)) (cs:List CV) (is:List Nat) (ob:List Prop),z0d hp ms ess=some (cs,is,ob)→ ∀i∈is,∃cells,hp[i]?=some (some cells):=by
    intro ms
    induction ms with
    |nil=>intro ess cs is ob h;simp only[z0d]at h;cases h;simp
    |cons m ms ih=>
     intro ess cs is ob h
     cases m with
     |sl i off len sz=>
      cases ess with
      |nil=>simp[z0d]at h
      |cons es ess=>
       simp only[z0d]at h
       split at h
       · rename_i cells cs' is' ob' hi ha
         cases h
         intro j hj
         simp only[List.mem_cons]at hj
         rcases hj with rfl|hj
         · exact⟨cells,hi⟩
         · exact ih _ _ _ _ ha j hj
       · cases h
     |_=>
      simp only[z0d]at h
      split at h
      · rename_i c cs' is' ob' hc ha
        cases h
        exact ih _ _ _ _ ha
      · cases h
   have hG: ∀(g:FuncId) (args:List MV),z52 P or hp slot g args=some e→(∀x∈e.wr,∃cells,hp[x.1]?=some (some cells))∧(e.al.isSome=true→z6B (.call {callee:= .value f,args:= #[],argTypes:=ts})=true):=by
    intro g args h
    unfold z52 at h
    split at h
    · split at h
      · rename_i cs is ob ha
        cases h
        refine⟨?_,by simp⟩
        intro x hx
        simp only[List.mem_map]at hx
        obtain⟨i,hi,rfl⟩:=hx
        exact hargs _ _ _ _ _ ha i hi
      · cases h
    · split at h
      · split at h
        · cases h;exact⟨by simp,by simp⟩
        · cases h
      · cases h
    · split at h
      · rename_i σ v hp' args0 hp0 _ hl
        split at h
        · cases h
          refine⟨fun x hx=>?_,by simp⟩
          have hx1:=(List.of_mem_zip (a:=x.1) (b:=x.2) (by simpa using hx)).1
          obtain⟨k,hk⟩:=List.getElem?_of_mem hx1
          obtain⟨cells,hc,_⟩:=(z1S _ _ hl).2 k _ hk
          exact⟨cells,hc⟩
        · cases h
      · cases h
    · split at h
      · rename_i cs is ob ha
        split at h
        · cases h
          refine⟨?_,fun _=>rfl⟩
          intro x hx
          simp only[List.mem_map]at hx
          obtain⟨i,hi,rfl⟩:=hx
          exact hargs _ _ _ _ _ ha i hi
        · cases h
      · cases h
    · split at h
      · split at h
        · cases h;exact⟨by simp,fun _=>rfl⟩
        · cases h
      · cases h
    · cases h
   unfold z9o at h
   split at h
   · split at h
     · exact hG _ _ h
     · cases h
   · split at h
     · exact hG _ _ h
     · cases h
   · cases h
 |_=>simp[j8]at h
theorem z0P: ∀(l:List (Nat×Blk)) (hp:List Blk) (k:Nat),(∀x∈l,x.1≠k)→(Q8 hp l)[k]?=hp[k]?
 | [],hp,k,_=>rfl
 |(i,b)::l,hp,k,h=>by
  simp only[Q8]
  rw[z0P l _ k (fun x hx=>h x (by simp[hx])),List.getElem?_set,if_neg (h (i,b) (by simp))]
theorem z4X(hp:List Blk)(slot:Nat)(e:Eff):(Z5 hp slot e).length=hp.length:=by
 unfold Z5;split<;>simp[z1A]
theorem z2S{hp:List Blk}{slot:Nat}{e:Eff}{k:Nat}(h1: ∀x∈e.wr,x.1≠k)(h2:e.al.isSome=true→slot≠k):(Z5 hp slot e)[k]?=hp[k]?:=by
 unfold Z5
 split
 · rename_i cs hc
   rw[List.getElem?_set,if_neg (h2 (by simp[hc]))]
   exact z0P _ _ _ h1
 · exact z0P _ _ _ h1
def z3z(ops:List Oper)(base:Nat)(l:List Nat)(hp:List Blk)(p:Pl):Prop:=
 ∀i∈l,∀o,ops[i]?=some o→z6B o.op=true→hp[base+Q9 ops i]?=some none∧p (base+Q9 ops i)=none
theorem z0Z{ops:List Oper}{i:Nat}{o:Oper}(h:ops[i]?=some o)(ha:z6B o.op=true):Q9 ops (i+1)=Q9 ops i+1:=by
 unfold Q9
 have hi:=(List.getElem?_eq_some_iff.1 h).1
 have he:=(List.getElem?_eq_some_iff.1 h).2
 rw[List.take_succ_eq_append_getElem hi,List.countP_append,he]
 simp[ha]
theorem z0U{ops:List Oper}{i j:Nat}(h:i≤j):Q9 ops i≤Q9 ops j:=by
 unfold Q9
 exact List.Sublist.countP_le (List.take_sublist_take_left h)
theorem z4y {ops : List Oper} {i j : Nat} {oi oj : Oper} (hi : ops[i]? = some oi) (hj : ops[j]? = some oj) (ai : z6B oi.op = true) (aj : z6B oj.op = true) (hne : i ≠ j) :
    Q9 ops i≠Q9 ops j:=by
 rcases Nat.lt_or_gt_of_ne hne with h|h
 · have:=z0Z hi ai
   have:=z0U (ops:=ops) (show i+1≤j from h)
   omega
 · have:=z0Z hj aj
   have:=z0U (ops:=ops) (show j+1≤i from h)
   omega
theorem z5Z {ops : List Oper} {base : Nat} {or : Option Or} {i : Nat} {s s' : St} {eo : Option Eff} {l : List Nat} {a : Act} {Q : Exit → Act → World → Prop} {K : Act → World → Prop}
    (h:mOp P ops base or i s=some (s',eo)) (hob: ∀e,eo=some e→ ∀q∈e.ob,q) (R:SRel w0 s I p a w) (hi:i∉l) (hsl:z3z ops base (i::l) s.hp p)
    (hK: ∀a' w' I' p',I.le I'→SRel w0 s' I' p' a' w'→z3z ops base l s'.hp p'→(∀k,(∀j o,ops[j]?=some o→z6B o.op=true→k≠base+Q9 ops j)→p' k=p k)→K a' w'):
    wpOp P ops.toArray Q i K a w:=by
 unfold mOp at h
 split at h
 · cases h
 · rename_i o ho
   have ho':ops.toArray[i]?=some o:=by simpa using ho
   unfold wpOp
   simp only[ho']
   split at h
   · cases h
   · rename_i hw
     cases h
     have hw':=z20 hw R.tm
     rw[if_neg (by rw[hw'];simp)]
     exact hK _ _ I p I.le_refl ⟨z7g R.tm _ z2y,by rw[z4F];exact R.defers,R.hp⟩ (fun j hj=>hsl j (by simp[hj])) (fun _ _=>rfl)
   · rename_i hw
     have hw':=z20 hw R.tm
     split at h
     · cases h
     · rename_i e0 he0
       split at h
       · cases h
       · rename_i e he
         cases h
         obtain⟨d1,d2,d3,d4⟩:=z2W he
         obtain⟨d5,d6⟩:=d4 (hob e rfl)
         obtain⟨g1,g2⟩:=za7 he0
         rw[if_pos hw']
         left
         have hF:=z6d (P:=P) (w:=w) (ρ:=a.eval) (slot:=base+Q9 ops i) he0 d5 R.hp (fun x _=>z3E R.tm x) (fun hal=>hsl i (by simp) o ho (g2 hal))
         unfold Oper.wp
         refine hF.upon (fun v w' hP=>?_)
         obtain⟨I',p',k1,k2,k3,k4,k5,k6⟩:=hP
         have happ:Z5 s.hp (base+Q9 ops i) e0=Z5 s.hp (base+Q9 ops i) e:=by simp only[Z5,d2,d3]
         rw[happ]at k5
         rw[←d6]at k6
         refine hK _ _ I' p' k1 ⟨z7g (MV.repL_mono k1 k2 _ _ R.tm) _ k6,by rw[z4F];exact R.defers,k5⟩ ?_ ?_
         · intro j hj oj hoj haj
           obtain⟨q1,q2⟩:=hsl j (by simp[hj]) oj hoj haj
           have hji:j≠i:=fun e=>hi (e ▸ hj)
           refine⟨?_,?_⟩
           · show(Z5 s.hp (base+Q9 ops i) e)[base+Q9 ops j]?=some none
             rw[z2S,q1]
             · intro x hx hxe
               rw[d2]at hx
               obtain⟨cells,hc⟩:=g1 x hx
               rw[hxe,q1]at hc;cases hc
             · intro hal hxe
               rw[d3]at hal
               exact z4y hoj ho haj (g2 hal) hji (by omega)
           · by_cases hal:e0.al.isSome=true
             · rw[k3 _ (fun hxe=>z4y hoj ho haj (g2 hal) hji (by omega))];exact q2
             · rw[k4 (by simpa using hal)];exact q2
         · intro k hk
           by_cases hal:e0.al.isSome=true
           · exact k3 k (hk i o ho (g2 hal))
           · rw[k4 (by simpa using hal)]
end
end Go.Fw
