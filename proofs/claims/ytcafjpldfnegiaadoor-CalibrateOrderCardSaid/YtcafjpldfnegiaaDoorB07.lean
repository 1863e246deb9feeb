/- A part of the proof that the law returns true for every input: an executor for the model's code, and what functions of the program compute. -/
import Derived.Test.YtcafjpldfnegiaaDoorB06
open Go IntKind
namespace Go.Fw
section
variable{P:Program}{w0:Start}{w:World}{hp:List Blk}{I:Imm}{p:Pl}{slot:Nat}
theorem V6 (H : HRel w0 hp I p w) : ∀ (ms : List MV) (ess : List (List CV)) (cs : List CV) (is : List Nat) (ob : List Prop) (ys : List Value),
    z0d hp ms ess=some (cs,is,ob)→(∀q∈ob,q)→MV.repL I p ms ys→
    ∃I',I.le I'∧ImOk I' w∧CV.repL I' cs ys∧(∀b,I' b≠none→I b≠none∨ ∃i∈is,∃κ,p i=some (b,κ))∧(∀i∈is,∃cells,hp[i]?=some (some cells))
 | [],ess,cs,is,ob,ys,h,_,hr=>by
  simp only[z0d]at h;cases h
  simp only[MV.repL]at hr;subst hr
  exact⟨I,I.le_refl,H.im,by simp[CV.repL],fun b hb=> .inl hb,by simp⟩
 |m::ms,ess,cs,is,ob,ys,h,hob,hr=>by
  simp only[MV.repL]at hr
  obtain⟨y,ys,rfl,hy,hys⟩:=hr
  have plain : ∀ (ess' : List (List CV)) (c : CV) (cs' : List CV), m.toCV = some c → z0d hp ms ess' = some (cs', is, ob) → cs = c :: cs' →
      ∃I',I.le I'∧ImOk I' w∧CV.repL I' cs (y::ys)∧(∀b,I' b≠none→I b≠none∨ ∃i∈is,∃κ,p i=some (b,κ))∧(∀i∈is,∃cells,hp[i]?=some (some cells)):=by
   intro ess' c cs' hc ha hcs
   obtain⟨I',h1,h2,h3,h4,h5⟩:=V6 H ms ess' cs' is ob ys ha hob hys
   subst hcs
   exact⟨I',h1,h2,by simp only[CV.repL];exact⟨y,ys,rfl,CV.rep_mono h1 c y (MV.toCV_rep m c y hc hy),h3⟩,h4,h5⟩
  cases m with
  |sl i off len sz=>
   cases ess with
   |nil=>simp[z0d]at h
   |cons es ess=>
    simp only[z0d]at h
    split at h
    · rename_i cells cs' is' ob' hi ha
      cases h
      simp only[List.mem_cons,forall_eq_or_imp]at hob
      obtain⟨o1,o2⟩:=hob
      obtain⟨I',h1,h2,h3,h4,h5⟩:=V6 H ms ess cs' is' ob' ys ha o2 hys
      simp only[MV.rep]at hy
      obtain⟨b,κ,cap,g1,rfl,g2,g3⟩:=hy
      obtain⟨b1,κ1,c,T,k1,k2,k3,k4,k5,k6⟩:=H.live i cells hi
      rw[g1]at k1;cases k1
      let J:Imm:=fun x=>if x=b then some c.toList else I' x
      have hle:I'.le J:=by
       intro x cs2 hx
       show(if x=b then some c.toList else I' x)=some cs2
       split
       · rename_i e;subst e
         obtain⟨c2,T2,fz,q1,q2⟩:=h2 x cs2 hx
         rw[k2]at q1;cases q1;rw[q2]
       · exact hx
      refine⟨J,Imm.le_trans h1 hle,?_,?_,?_,?_⟩
      · intro x cs2 hx
        by_cases e:x=b
        · subst e
          simp only[J,if_true,Option.some.injEq]at hx
          exact⟨c,T,_,k2,hx⟩
        · simp only[J,e,if_false]at hx
          exact h2 x cs2 hx
      · simp only[CV.repL]
        refine⟨_,_,rfl,?_,CV.repL_mono hle _ _ h3⟩
        simp only[CV.rep]
        refine⟨_,_,rfl,g2,.inr ⟨b,off,c.toList,rfl,by simp[J],?_⟩⟩
        have hh:=MV.repL_take (len*sz) (MV.repL_drop off k4)
        rw[o1,MV.repL_map_cv,List.drop_take,List.take_take]at hh
        have hl:es.length=min (len*sz) (cells.length-off):=by
         have:=congrArg List.length o1
         simp at this;omega
        rw[←hl]at hh
        exact CV.repL_mono (Imm.le_trans h1 hle) _ _ hh
      · intro x hx
        by_cases e:x=b
        · subst e;exact .inr ⟨i,by simp,κ,g1⟩
        · simp only[J,e,if_false]at hx
          rcases h4 x hx with h|⟨j,hj,κ2,h⟩
          · exact .inl h
          · exact .inr ⟨j,by simp[hj],κ2,h⟩
      · intro j hj
        simp only[List.mem_cons]at hj
        rcases hj with rfl|hj
        · exact⟨cells,hi⟩
        · exact h5 j hj
    · cases h
  |_=>
   simp only[z0d]at h
   split at h
   · rename_i c cs' is' ob' hc ha
     cases h
     exact plain ess c cs' hc ha rfl
   · cases h
theorem za3 {ρ : Operand → Value} {g : FuncId} {f : Operand} {args : Array Operand} {ts : Array TypeId} {o : Oper} (ho : o.op = .call { callee := .value f, args, argTypes := ts })
    {a b:Array Value} (hf:ρ f= .func (.func g) a b) (hc:z2n P g=true) (w:World):(execOp ρ o).run P w= .ok (.enter g (a++args.map ρ++b)) w:=by
 unfold z2n at hc
 split at hc
 · rename_i fn hfn
   simp only[Bool.and_eq_true,Bool.not_eq_true']at hc
   obtain⟨h1,h2⟩:=hc
   obtain⟨c,hb⟩:=Option.isSome_iff_exists.1 h2
   have hne: ¬fn.name= "runtime.NumGoroutine" :=by simpa using h1
   simp[execOp,ho,resolve,hf,Deferred.ofValue,invoke,callFunc,hfn,hne,hb]
 · cases hc
theorem Y9(hp:List Blk): ∀(is:List Nat) (k:Nat) (ck:List MV),(Q8 hp (is.map fun i=>(i,none)))[k]?=some (some ck)→hp[k]?=some (some ck)∧k∉is
 | [],k,ck,h=>⟨by simpa[Q8]using h,by simp⟩
 |i::is,k,ck,h=>by
  simp only[List.map_cons,Q8]at h
  obtain⟨h1,h2⟩:=Y9 (hp.set i none) is k ck h
  rw[List.getElem?_set]at h1
  by_cases e:i=k
  · subst e
    simp only[if_true]at h1
    split at h1<;>cases h1
  · simp only[e,if_false]at h1
    exact⟨h1,by simp only[List.mem_cons,not_or];exact⟨fun e2=>e e2.symm,h2⟩⟩
theorem z2w{i:Nat}: ∀(σ:List Nat) (k r:Nat),z7x i k σ=some r→k≤r∧σ[r-k]?=some i
 | [],_,_,h=>by simp[z7x]at h
 |j::js,k,r,h=>by
  simp only[z7x]at h
  split at h
  · rename_i e;cases h;simp[e]
  · obtain⟨h1,h2⟩:=z2w js (k+1) r h
    refine⟨by omega,?_⟩
    have:r-k=(r-(k+1))+1:=by omega
    rw[this,List.getElem?_cons_succ];exact h2
def Pl.at(p:Pl)(σ:List Nat):Pl:=fun k=>match σ[k]? with|some i=>p i|none=>none
mutual
theorem MV.inv_rep{σ:List Nat}: ∀(m m':MV) (y:Value),m.inv σ=some m'→m.rep I p y→m'.rep I (p.at σ) y
 | .cv c,m',y,h,hr=>by simp only[MV.inv,Option.some.injEq]at h;subst h;simpa[MV.rep]using hr
 | .ptr i off,m',y,h,hr=>by
  simp only[MV.inv]at h
  split at h
  · rename_i k hk
    cases h
    obtain⟨_,h2⟩:=z2w σ 0 k hk
    simp only[Nat.sub_zero]at h2
    simp only[MV.rep,Pl.at,h2]at hr ⊢;exact hr
  · cases h
 | .sl i off len sz,m',y,h,hr=>by
  simp only[MV.inv]at h
  split at h
  · rename_i k hk
    cases h
    obtain⟨_,h2⟩:=z2w σ 0 k hk
    simp only[Nat.sub_zero]at h2
    simp only[MV.rep,Pl.at,h2]at hr ⊢;exact hr
  · cases h
 | .pim es off,m',y,h,hr=>by simp only[MV.inv,Option.some.injEq]at h;subst h;simpa[MV.rep]using hr
 | .agg ms,m',y,h,hr=>by
  simp only[MV.inv]at h
  split at h
  · rename_i l hl
    cases h
    simp only[MV.rep]at hr ⊢
    obtain⟨ys,rfl,hh⟩:=hr
    exact⟨ys,rfl,MV.invL_rep ms l _ hl hh⟩
  · cases h
 | .tup ms,m',y,h,hr=>by
  simp only[MV.inv]at h
  split at h
  · rename_i l hl
    cases h
    simp only[MV.rep]at hr ⊢
    obtain⟨ys,rfl,hh⟩:=hr
    exact⟨ys,rfl,MV.invL_rep ms l _ hl hh⟩
  · cases h
 | .fn g a b,m',y,h,hr=>by
  simp only[MV.inv]at h
  split at h
  · rename_i x z hx hz
    cases h
    simp only[MV.rep]at hr ⊢
    obtain⟨f,c,rfl,h1,h2⟩:=hr
    exact⟨f,c,rfl,MV.invL_rep a x _ hx h1,MV.invL_rep b z _ hz h2⟩
  · cases h
 | .unk,_,_,h,_=>by simp[MV.inv]at h
theorem MV.invL_rep{σ:List Nat}: ∀(ms ms':List MV) (l:List Value),MV.invL σ ms=some ms'→MV.repL I p ms l→MV.repL I (p.at σ) ms' l
 | [],ms',l,h,hr=>by simp only[MV.invL,Option.some.injEq]at h;subst h;simpa[MV.repL]using hr
 |m::ms,ms',l,h,hr=>by
  simp only[MV.invL]at h
  split at h
  · rename_i x l' hx hl
    cases h
    simp only[MV.repL]at hr ⊢
    obtain⟨y,ys,rfl,h1,h2⟩:=hr
    exact⟨y,ys,rfl,MV.inv_rep m x y hx h1,MV.invL_rep ms l' ys hl h2⟩
  · cases h
end
mutual
theorem MV.ren_rep{σ:List Nat}: ∀(m:MV) (y:Value),m.under σ.length=true→m.rep I (p.at σ) y→(m.ren σ).rep I p y
 | .cv c,y,_,hr=>by simpa[MV.rep,MV.ren]using hr
 | .ptr i off,y,hu,hr=>by
  simp only[MV.under,decide_eq_true_eq]at hu
  simp only[MV.rep,MV.ren,Pl.at,List.getElem?_eq_getElem hu,List.getD,Option.getD_some]at hr ⊢;exact hr
 | .sl i off len sz,y,hu,hr=>by
  simp only[MV.under,decide_eq_true_eq]at hu
  simp only[MV.rep,MV.ren,Pl.at,List.getElem?_eq_getElem hu,List.getD,Option.getD_some]at hr ⊢;exact hr
 | .pim es off,y,_,hr=>by simpa[MV.rep,MV.ren]using hr
 | .agg ms,y,hu,hr=>by
  simp only[MV.under]at hu
  simp only[MV.rep,MV.ren]at hr ⊢
  obtain⟨ys,rfl,hh⟩:=hr
  exact⟨ys,rfl,MV.renL_rep ms _ hu hh⟩
 | .tup ms,y,hu,hr=>by
  simp only[MV.under]at hu
  simp only[MV.rep,MV.ren]at hr ⊢
  obtain⟨ys,rfl,hh⟩:=hr
  exact⟨ys,rfl,MV.renL_rep ms _ hu hh⟩
 | .fn g a b,y,hu,hr=>by
  simp only[MV.under,Bool.and_eq_true]at hu
  simp only[MV.rep,MV.ren]at hr ⊢
  obtain⟨f,c,rfl,h1,h2⟩:=hr
  exact⟨f,c,rfl,MV.renL_rep a _ hu.1 h1,MV.renL_rep b _ hu.2 h2⟩
 | .unk,_,_,_=>by simp[MV.rep,MV.ren]
theorem MV.renL_rep{σ:List Nat}: ∀(ms:List MV) (l:List Value),MV.underL σ.length ms=true→MV.repL I (p.at σ) ms l→MV.repL I p (MV.renL σ ms) l
 | [],l,_,hr=>by simpa[MV.repL,MV.renL]using hr
 |m::ms,l,hu,hr=>by
  simp only[MV.underL,Bool.and_eq_true]at hu
  simp only[MV.repL,MV.renL]at hr ⊢
  obtain⟨y,ys,rfl,h1,h2⟩:=hr
  exact⟨y,ys,rfl,MV.ren_rep m y hu.1 h1,MV.renL_rep ms ys hu.2 h2⟩
end
theorem z2h{J:Imm}{q:Pl}{cells:List MV}(h:zfn (some cells)){l:List Value}(hle:I.le J)(hr:MV.repL I p cells l):MV.repL J q cells l:=by
 obtain⟨h1,h2⟩:=(MV.repL_iff _ _).1 hr
 refine(MV.repL_iff _ _).2 ⟨h1,fun i c y hc hy=>?_⟩
 obtain⟨c',rfl⟩:=h cells rfl c (List.mem_of_getElem? hc)
 have:=h2 i _ y hc hy
 simp only[MV.rep]at this ⊢
 exact CV.rep_mono hle _ _ this
theorem z1S: ∀(σ:List Nat) (l:List Blk),z2k hp σ=some l→l.length=σ.length∧ ∀(k i:Nat),σ[k]?=some i→ ∃cells,hp[i]?=some (some cells)∧l[k]?=some (some cells)
 | [],l,h=>by simp only[z2k,Option.some.injEq]at h;subst h;simp
 |i::is,l,h=>by
  simp only[z2k]at h
  split at h
  · rename_i cells l' h1 h2
    cases h
    obtain⟨h3,h4⟩:=z1S is l' h2
    refine⟨by simp[h3],fun k j hk=>?_⟩
    cases k with
    |zero=>simp only[List.getElem?_cons_zero,Option.some.injEq]at hk;subst hk;exact⟨cells,h1,rfl⟩
    |succ k=>simp only[List.getElem?_cons_succ]at hk;exact h4 k j hk
  · cases h
theorem z11: ∀(σ:List Nat),V8 σ=true→ ∀(k j i:Nat),σ[k]?=some i→σ[j]?=some i→k=j
 | [],_,k,j,i,h,_=>by simp at h
 |a::as,h,k,j,i,hk,hj=>by
  simp only[V8,Bool.and_eq_true,Bool.not_eq_true',List.contains_eq_mem,decide_eq_false_iff_not]at h
  cases k with
  |zero=>
   cases j with
   |zero=>rfl
   |succ j=>
    simp only[List.getElem?_cons_zero,Option.some.injEq,List.getElem?_cons_succ]at hk hj
    exact absurd (List.mem_of_getElem? hj) (hk ▸ h.1)
  |succ k=>
   cases j with
   |zero=>
    simp only[List.getElem?_cons_zero,Option.some.injEq,List.getElem?_cons_succ]at hk hj
    exact absurd (List.mem_of_getElem? hk) (hj ▸ h.1)
   |succ j=>
    simp only[List.getElem?_cons_succ]at hk hj
    rw[z11 as h.2 k j i hk hj]
theorem z1A: ∀(l:List (Nat×Blk)) (hp:List Blk),(Q8 hp l).length=hp.length
 | [],_=>rfl
 |(i,b)::l,hp=>by simp only[Q8];rw[z1A l];simp
theorem z1I : ∀ (σ : List Nat) (bs : List Blk) (hp : List Blk) (k : Nat) (ck : List MV), V8 σ = true → bs.length = σ.length → (Q8 hp (σ.zip bs))[k]? = some (some ck) →
    (k∉σ∧hp[k]?=some (some ck))∨ ∃j:Nat,σ[j]?=some k∧bs[j]?=some (some ck)
 | [],bs,hp,k,ck,_,_,h=>by simp only[List.zip_nil_left,Q8]at h;exact .inl ⟨by simp,h⟩
 |i::σ,[],hp,k,ck,_,hl,h=>by simp at hl
 |i::σ,b::bs,hp,k,ck,hn,hl,h=>by
  simp only[List.zip_cons_cons,Q8]at h
  have hn':=hn
  simp only[V8,Bool.and_eq_true,Bool.not_eq_true',List.contains_eq_mem,decide_eq_false_iff_not]at hn'
  rcases z1I σ bs (hp.set i b) k ck hn'.2 (by simpa using hl) h with⟨h1,h2⟩|⟨j,h1,h2⟩
  · rw[List.getElem?_set]at h2
    by_cases e:i=k
    · subst e
      simp only[if_true]at h2
      split at h2
      · cases h2;exact .inr ⟨0,rfl,rfl⟩
      · cases h2
    · simp only[e,if_false]at h2
      exact .inl ⟨by simp only[List.mem_cons,not_or];exact⟨fun h=>e h.symm,h1⟩,h2⟩
  · exact .inr ⟨j+1,by simpa using h1,by simpa using h2⟩
theorem HRel.fresh {w' : World} {I2 : Imm} {hp1 : List Blk} (H1 : HRel w0 hp1 I2 p w') {b0 κ0 : Nat} {c0 : Array Value} {T0 : TypeId} {cells : List MV}
    (hlt: ∀(i:Nat) (ci:List MV) (b κ:Nat),hp1[i]?=some (some ci)→p i=some (b,κ)→b≠b0) (hle:p.le (p.upd slot (b0,κ0)))
    (hb:w'.heap[b0]?=some (.cells c0 T0 (0,0))) (hκ:c0.size=κ0) (hc:MV.repL I2 p cells (c0.toList.take cells.length)) (ho:w0.own b0) (hI:I2 b0=none):
    HRel w0 (hp1.set slot (some cells)) I2 (p.upd slot (b0,κ0)) w':=by
 have key: ∀(k:Nat) (ck:List MV),k≠slot→(hp1.set slot (some cells))[k]?=some (some ck)→hp1[k]?=some (some ck):=by
  intro k ck hne hk
  rw[List.getElem?_set,if_neg (fun e=>hne e.symm)]at hk
  exact hk
 refine⟨H1.below,H1.im,H1.imf,fun i cs hi=>?_,fun i j ci cj b κ b' κ' hi hj hne hb1 hb2=>?_⟩
 · by_cases e:i=slot
   · subst e
     rw[List.getElem?_set]at hi
     simp only[if_true]at hi
     split at hi
     · cases hi
       exact⟨b0,κ0,c0,T0,by simp[Pl.upd],hb,hκ,MV.repL_mono I2.le_refl hle _ _ hc,ho,hI⟩
     · cases hi
   · obtain⟨b,κ,c,T,k1,k2,k3,k4,k5,k6⟩:=H1.live i cs (key i cs e hi)
     exact⟨b,κ,c,T,hle _ _ k1,k2,k3,MV.repL_mono I2.le_refl hle _ _ k4,k5,k6⟩
 · by_cases e:i=slot
   · subst e
     have hj':=key j cj (fun e=>hne e.symm) hj
     simp only[Pl.upd,if_true,Option.some.injEq,Prod.mk.injEq]at hb1
     simp only[Pl.upd,if_neg (fun e=>hne (Eq.symm e))]at hb2
     have:=hlt j cj b' κ' hj' hb2
     omega
   · have hi':=key i ci e hi
     simp only[Pl.upd,if_neg e]at hb1
     by_cases e2:j=slot
     · subst e2
       simp only[Pl.upd,if_true,Option.some.injEq,Prod.mk.injEq]at hb2
       have:=hlt i ci b κ hi' hb1
       omega
     · have hj':=key j cj e2 hj
       simp only[Pl.upd,if_neg e2]at hb2
       exact H1.inj i j ci cj b κ b' κ' hi' hj' hne hb1 hb2
theorem z4h {or : Option Or} {g : FuncId} {args : List MV} {e : Eff} (h : z52 P or hp slot g args = some e) (hob : ∀ q ∈ e.ob, q) (H : HRel w0 hp I p w) (hs : e.al.isSome = true → hp[slot]? = some none ∧ p slot = none)
    {vs:Array Value} (hargs:MV.repL I p args vs.toList):
    Calls P g vs w fun en w'=> ∃z,en= .returned z∧Post w0 (Z5 hp slot e) I p slot e.al.isSome e.v z w':=by
 unfold z52 at h
 split at h
 · rename_i v es
   split at h
   · rename_i cs is ob ha
     cases h
     simp only[List.mem_cons,forall_eq_or_imp]at hob
     obtain⟨o1,o2⟩:=hob
     obtain⟨I',h1,h2,h3,h4,h5⟩:=V6 H args es cs is ob vs.toList ha o2 hargs
     refine(o1 I' w vs h2 h3).mono ?_
     rintro en w' ⟨z,v',I2,rfl,rfl,q1,q2,q3,q4,q5⟩
     refine⟨z,rfl,I2,p,Imm.le_trans h1 q2,p.le_refl,fun _ _=>rfl,fun _=>rfl,?_,by simpa[MV.rep]using q1⟩
     refine⟨H.below.trans q4,q3,fun b hb=>?_,fun i cells hi=>?_,fun i j ci cj b κ b' κ' hi hj=>?_⟩
     · rcases q5 b hb with h6|h6
       · rcases h4 b h6 with h7|⟨j,hj,κ2,h7⟩
         · exact H.imf b h7
         · obtain⟨cj,hcj⟩:=h5 j hj
           obtain⟨b1,κ1,c,T,k1,k2,k3,k4,k5,k6⟩:=H.live j cj hcj
           rw[h7]at k1;cases k1
           exact .inr k5
       · exact .inr (Start.own_ge H.below h6)
     · simp only[Z5]at hi
       obtain⟨hi1,hi2⟩:=Y9 hp is i cells hi
       obtain⟨b,κ,c,T,k1,k2,k3,k4,k5,k6⟩:=H.live i cells hi1
       have hb:b<w.heap.size:=(Array.getElem?_eq_some_iff.1 k2).1
       refine⟨b,κ,c,T,k1,by rw[q4.block b hb];exact k2,k3,MV.repL_mono (Imm.le_trans h1 q2) p.le_refl _ _ k4,k5,?_⟩
       cases hI:I2 b with
       |none=>rfl
       |some cs2=>
        exfalso
        rcases q5 b (by rw[hI];simp)with h6|h6
        · rcases h4 b h6 with h7|⟨j,hj,κ2,h7⟩
          · exact h7 k6
          · obtain⟨cj,hcj⟩:=h5 j hj
            have hne:i≠j:=by intro e;subst e;exact hi2 hj
            exact H.inj i j cells cj b κ b κ2 hi1 hcj hne k1 h7 rfl
        · omega
     · simp only[Z5]at hi hj
       exact H.inj i j ci cj b κ b' κ' (Y9 hp is i ci hi).1 (Y9 hp is j cj hj).1
   · cases h
 · rename_i v es
   split at h
   · rename_i cs is ob ha
     split at h
     · rename_i hflat
       cases h
       simp only[List.mem_cons,forall_eq_or_imp]at hob
       obtain⟨o1,o2⟩:=hob
       obtain⟨I',h1,h2,h3,h4,h5⟩:=V6 H args es cs is ob vs.toList ha o2 hargs
       refine(o1 I' w vs h2 h3).mono ?_
       rintro en w' ⟨z,v',I2,rfl,rfl,q1,q2,q3,q4,q5⟩
       refine⟨z,rfl,I,p,I.le_refl,p.le_refl,fun _ _=>rfl,fun _=>rfl,?_,by simp only[MV.rep];exact CV.rep_flat _ _ hflat q1⟩
       refine⟨H.below.trans q4,fun b cs2 hb=>q3 b cs2 (q2 b cs2 (h1 b cs2 hb)),H.imf,fun i cells hi=>?_,H.inj⟩
       obtain⟨b,κ,c,T,k1,k2,k3,k4,k5,k6⟩:=H.live i cells hi
       have hb:b<w.heap.size:=(Array.getElem?_eq_some_iff.1 k2).1
       exact⟨b,κ,c,T,k1,by rw[q4.block b hb];exact k2,k3,k4,k5,k6⟩
     · cases h
   · cases h
 · rename_i σ v hp'
   split at h
   · rename_i args0 hp0 hargs0 hlive
     split at h
     · rename_i hc
       simp only[Bool.and_eq_true,beq_iff_eq]at hc
       obtain⟨⟨hc1,hc2⟩,hc3⟩:=hc
       cases h
       simp only[List.mem_cons,forall_eq_or_imp,List.not_mem_nil,false_imp_iff,implies_true,and_true]at hob
       obtain⟨o1,o2⟩:=hob
       obtain⟨l1,l2⟩:=z1S σ hp0 hlive
       have hlen: ∀k i:Nat,σ[k]?=some i→k<σ.length:=fun k i hk=>(List.getElem?_eq_some_iff.1 hk).1
       have Hs:HRel ⟨w,I,p.at σ⟩ hp0 I (p.at σ) w:=by
        refine⟨⟨rfl,rfl,rfl,Nat.le_refl _,fun _ _=>rfl⟩,H.im,fun b hb=> .inl hb,fun k cells hk=>?_,fun k j ck cj b κ b' κ' hk hj hne hb hb'=>?_⟩
        · have hk1:k<σ.length:=by have:=(List.getElem?_eq_some_iff.1 hk).1;omega
          obtain⟨cells',hc1,hc2⟩:=l2 k _ (List.getElem?_eq_getElem hk1)
          rw[hk]at hc2;cases hc2
          obtain⟨b,κ,c,T,k1,k2,k3,k4,k5,k6⟩:=H.live _ cells hc1
          have hpk:p.at σ k=some (b,κ):=by simp only[Pl.at,List.getElem?_eq_getElem hk1];exact k1
          exact⟨b,κ,c,T,hpk,k2,k3,z2h (o2 _ (by simp only[List.mem_append];exact .inl (List.mem_of_getElem? hk))) I.le_refl k4,.inr ⟨k,κ,hpk⟩,k6⟩
        · have hk1:k<σ.length:=by have:=(List.getElem?_eq_some_iff.1 hk).1;omega
          have hj1:j<σ.length:=by have:=(List.getElem?_eq_some_iff.1 hj).1;omega
          obtain⟨ck',hc1',_⟩:=l2 k _ (List.getElem?_eq_getElem hk1)
          obtain⟨cj',hc2',_⟩:=l2 j _ (List.getElem?_eq_getElem hj1)
          simp only[Pl.at,List.getElem?_eq_getElem hk1]at hb
          simp only[Pl.at,List.getElem?_eq_getElem hj1]at hb'
          refine H.inj _ _ ck' cj' b κ b' κ' hc1' hc2' (fun e=>?_) hb hb'
          exact hne (z11 σ hc1 k j σ[k] (List.getElem?_eq_getElem hk1) (by rw[List.getElem?_eq_getElem hj1,e]))
       have hdom: ∀k,k<hp0.length↔p.at σ k≠none:=by
        intro k
        rw[l1]
        constructor
        · intro hk
          obtain⟨cells,h1,_⟩:=l2 k _ (List.getElem?_eq_getElem hk)
          obtain⟨b,κ,_,_,k1,_⟩:=H.live _ cells h1
          simp only[Pl.at,List.getElem?_eq_getElem hk,k1];simp
        · intro hk
          rcases Nat.lt_or_ge k σ.length with h|h
          · exact h
          · exfalso;apply hk;simp[Pl.at,List.getElem?_eq_none_iff.2 h]
       refine(o1 I (p.at σ) w vs Hs hdom (MV.invL_rep args args0 _ hargs0 hargs)).mono ?_
       rintro en w' ⟨z,v',hp2,I2,rfl,⟨rfl,rfl⟩,q1,q2,q3⟩
       refine⟨z,rfl,I2,p,q2,p.le_refl,fun _ _=>rfl,fun _=>rfl,?_,MV.ren_rep _ _ hc2 q1⟩
       have lent: ∀(i κ b:Nat),p.at σ i=some (b,κ)→w0.own b∧I b=none:=by
        intro i κ b hb
        have hi:i<σ.length:=by have:=(hdom i).2 (by rw[hb];simp);omega
        obtain⟨cells,h1,_⟩:=l2 i _ (List.getElem?_eq_getElem hi)
        obtain⟨b1,κ1,c,T,k1,k2,k3,k4,k5,k6⟩:=H.live _ cells h1
        simp only[Pl.at,List.getElem?_eq_getElem hi,k1,Option.some.injEq,Prod.mk.injEq]at hb
        rw[←hb.1];exact⟨k5,k6⟩
       have hown: ∀b,(⟨w,I,p.at σ⟩:Start).own b→w0.own b:=by
        intro b hb
        rcases hb with hb|⟨i,κ,hb⟩
        · exact Start.own_ge H.below hb
        · exact(lent i κ b hb).1
       have other: ∀(k:Nat) (cells:List MV),k∉σ→hp[k]?=some (some cells)→ ∃b κ c T,p k=some (b,κ)∧w'.heap[b]?=some (.cells c T (0,0))∧c.size=κ∧MV.repL I2 p cells (c.toList.take cells.length)∧w0.own b∧I2 b=none∧ ¬(⟨w,I,p.at σ⟩:Start).own b:=by
        intro k cells hk hcells
        obtain⟨b,κ,c,T,k1,k2,k3,k4,k5,k6⟩:=H.live k cells hcells
        have hno: ¬(⟨w,I,p.at σ⟩:Start).own b:=by
         rintro(h|⟨i,κ2,h⟩)
         · have:=(Array.getElem?_eq_some_iff.1 k2).1
           simp only at h;omega
         · simp only at h
           have hi:i<σ.length:=by have:=(hdom i).2 (by rw[h];simp);omega
           obtain⟨ci,h1,_⟩:=l2 i _ (List.getElem?_eq_getElem hi)
           simp only[Pl.at,List.getElem?_eq_getElem hi]at h
           exact H.inj k σ[i] cells ci b κ b κ2 hcells h1 (fun e=>hk (e ▸ List.getElem_mem hi)) k1 h rfl
        refine⟨b,κ,c,T,k1,by rw[q3.below.block b hno];exact k2,k3,MV.repL_mono q2 p.le_refl _ _ k4,k5,?_,hno⟩
        cases hI:I2 b with
        |none=>rfl
        |some cs2=>
         exfalso
         rcases q3.imf b (by rw[hI];simp)with h|h
         · exact h k6
         · exact hno h
       have lentNow: ∀(j k:Nat) (ck:List MV),σ[j]?=some k→hp2[j]?=some (some ck)→ ∃b κ c T,p k=some (b,κ)∧w'.heap[b]?=some (.cells c T (0,0))∧c.size=κ∧MV.repL I2 p ck (c.toList.take ck.length)∧w0.own b∧I2 b=none∧(⟨w,I,p.at σ⟩:Start).own b:=by
        intro j k ck hj hck
        obtain⟨b,κ,c,T,k1,k2,k3,k4,k5,k6⟩:=q3.live j ck hck
        have hpk:p k=some (b,κ):=by simpa only[Pl.at,hj]using k1
        exact⟨b,κ,c,T,hpk,k2,k3,z2h (o2 _ (by simp only[List.mem_append];exact .inr (List.mem_of_getElem? hck))) I2.le_refl k4,hown b k5,k6,k5⟩
       refine⟨⟨q3.below.os.trans H.below.os,q3.below.tape.trans H.below.tape,q3.below.output.trans H.below.output,Nat.le_trans H.below.size q3.below.size,fun k hk=>?_⟩,q3.im,fun b hb=>?_,fun k ck hk=>?_,fun k j ck cj b κ b' κ' hk hj hne hb hb'=>?_⟩
       · have: ¬(⟨w,I,p.at σ⟩:Start).own k:=fun h=>hk (hown k h)
         rw[q3.below.block k this];exact H.below.block k hk
       · rcases q3.imf b hb with h|h
         · exact H.imf b h
         · exact .inr (hown b h)
       · simp only[Z5]at hk
         rcases z1I σ hp2 hp k ck hc1 hc3 hk with⟨h1,h2⟩|⟨j,h1,h2⟩
         · obtain⟨b,κ,c,T,k1,k2,k3,k4,k5,k6,_⟩:=other k ck h1 h2
           exact⟨b,κ,c,T,k1,k2,k3,k4,k5,k6⟩
         · obtain⟨b,κ,c,T,k1,k2,k3,k4,k5,k6,_⟩:=lentNow j k ck h1 h2
           exact⟨b,κ,c,T,k1,k2,k3,k4,k5,k6⟩
       · simp only[Z5]at hk hj
         have old: ∀(k:Nat) (ck:List MV),(Q8 hp (σ.zip hp2))[k]?=some (some ck)→ ∃ck',hp[k]?=some (some ck'):=by
          intro k ck hk
          rcases z1I σ hp2 hp k ck hc1 hc3 hk with⟨_,h2⟩|⟨j,h1,_⟩
          · exact⟨ck,h2⟩
          · obtain⟨cells,h3,_⟩:=l2 j k h1
            exact⟨cells,h3⟩
         obtain⟨ck',h1⟩:=old k ck hk
         obtain⟨cj',h2⟩:=old j cj hj
         exact H.inj k j ck' cj' b κ b' κ' h1 h2 hne hb hb'
     · cases h
   · cases h
 · rename_i v cells es
   split at h
   · rename_i cs is ob ha
     split at h
     · rename_i hu
       cases h
       simp only[List.mem_cons,forall_eq_or_imp]at hob
       obtain⟨o1,o2⟩:=hob
       obtain⟨I',h1,h2,h3,h4,h5⟩:=V6 H args es cs is ob vs.toList ha o2 hargs
       obtain⟨hs1,hs2⟩:=hs rfl
       refine(o1 I' w vs h2 h3).mono ?_
       rintro en w' ⟨z,v',cells',I2,b0,κ0,c0,T0,rfl,⟨rfl,rfl⟩,q1,q2,q3,q4,q5,q6,q7,q8,q9,q10⟩
       have H1:HRel w0 (Q8 hp (is.map fun i=>(i,none))) I2 p w':=by
        refine⟨H.below.trans q4,q3,fun b hb=>?_,fun i cells hi=>?_,fun i j ci cj b κ b' κ' hi hj=>?_⟩
        · rcases q5 b hb with h6|h6
          · rcases h4 b h6 with h7|⟨j,hj,κ2,h7⟩
            · exact H.imf b h7
            · obtain⟨cj,hcj⟩:=h5 j hj
              obtain⟨b1,κ1,c,T,k1,k2,k3,k4,k5,k6⟩:=H.live j cj hcj
              rw[h7]at k1;cases k1
              exact .inr k5
          · exact .inr (Start.own_ge H.below h6)
        · obtain⟨hi1,hi2⟩:=Y9 hp is i cells hi
          obtain⟨b,κ,c,T,k1,k2,k3,k4,k5,k6⟩:=H.live i cells hi1
          have hb:b<w.heap.size:=(Array.getElem?_eq_some_iff.1 k2).1
          refine⟨b,κ,c,T,k1,by rw[q4.block b hb];exact k2,k3,MV.repL_mono (Imm.le_trans h1 q2) p.le_refl _ _ k4,k5,?_⟩
          cases hI:I2 b with
          |none=>rfl
          |some cs2=>
           exfalso
           rcases q5 b (by rw[hI];simp)with h6|h6
           · rcases h4 b h6 with h7|⟨j,hj,κ2,h7⟩
             · exact h7 k6
             · obtain⟨cj,hcj⟩:=h5 j hj
               have hne:i≠j:=by intro e;subst e;exact hi2 hj
               exact H.inj i j cells cj b κ b κ2 hi1 hcj hne k1 h7 rfl
           · omega
        · exact H.inj i j ci cj b κ b' κ' (Y9 hp is i ci hi).1 (Y9 hp is j cj hj).1
       have hlt: ∀(i:Nat) (ci:List MV) (b κ:Nat),(Q8 hp (is.map fun i=>(i,none)))[i]?=some (some ci)→p i=some (b,κ)→b≠b0:=by
        intro i ci b κ hi hb e
        obtain⟨b1,κ1,c,T,k1,k2,_⟩:=H.live i ci (Y9 hp is i ci hi).1
        rw[hb]at k1;cases k1
        have:=(Array.getElem?_eq_some_iff.1 k2).1
        omega
       have hle:p.le (p.upd slot (b0,κ0)):=Pl.le_upd hs2 _
       refine⟨z,rfl,I2,p.upd slot (b0,κ0),Imm.le_trans h1 q2,hle,fun j hj=>by simp[Pl.upd,hj],(fun hh=>by cases hh),?_,?_⟩
       · exact H1.fresh hlt hle q8 q9 ((MV.repL_map_cv _ _).2 (by rw[show ∀cs:List CV,(own cs).length=cs.length from fun cs=>List.length_map ..];exact q10)) (Start.own_ge H.below q6) q7
       · refine MV.ren_rep (σ:=[slot]) _ _ (by simpa using hu) ?_
         have e:(p.upd slot (b0,κ0)).at [slot]=(fun k=>if k=0 then some (b0,κ0)else none):=by
          funext k
          cases k with
          |zero=>simp[Pl.at,Pl.upd]
          |succ k=>simp[Pl.at]
         rw[e];exact q1
     · cases h
   · cases h
 · rename_i v cells es
   split at h
   · rename_i cs is ob ha
     split at h
     · rename_i hu
       cases h
       simp only[List.mem_cons,forall_eq_or_imp]at hob
       obtain⟨⟨o1,of⟩,o2⟩:=hob
       obtain⟨I',h1,h2,h3,h4,h5⟩:=V6 H args es cs is ob vs.toList ha o2 hargs
       obtain⟨hs1,hs2⟩:=hs rfl
       refine(o1 I' w vs h2 h3).mono ?_
       rintro en w' ⟨z,v',cells',I2,b0,κ0,c0,T0,rfl,⟨rfl,rfl⟩,q1,q2,q3,q4,q5,q6,q7,q8,q9,q10⟩
       have H1:HRel w0 hp I p w':=by
        refine⟨H.below.trans q4,fun b cs2 hb=>q3 b cs2 (q2 b cs2 (h1 b cs2 hb)),H.imf,fun i cells hi=>?_,H.inj⟩
        obtain⟨b,κ,c,T,k1,k2,k3,k4,k5,k6⟩:=H.live i cells hi
        have hb:b<w.heap.size:=(Array.getElem?_eq_some_iff.1 k2).1
        exact⟨b,κ,c,T,k1,by rw[q4.block b hb];exact k2,k3,k4,k5,k6⟩
       have hlt: ∀(i:Nat) (ci:List MV) (b κ:Nat),hp[i]?=some (some ci)→p i=some (b,κ)→b≠b0:=by
        intro i ci b κ hi hb e
        obtain⟨b1,κ1,c,T,k1,k2,_⟩:=H.live i ci hi
        rw[hb]at k1;cases k1
        have:=(Array.getElem?_eq_some_iff.1 k2).1
        omega
       have hI0:I b0=none:=by
        cases hI:I b0 with
        |none=>rfl
        |some cs2=>
         obtain⟨c,T,fz,k1,_⟩:=H.im b0 cs2 hI
         have:=(Array.getElem?_eq_some_iff.1 k1).1
         omega
       have hle:p.le (p.upd slot (b0,κ0)):=Pl.le_upd hs2 _
       refine⟨z,rfl,I,p.upd slot (b0,κ0),I.le_refl,hle,fun j hj=>by simp[Pl.upd,hj],(fun hh=>by cases hh),?_,?_⟩
       · exact H1.fresh hlt hle q8 q9 ((MV.repL_map_cv _ _).2 (by rw[show ∀cs:List CV,(own cs).length=cs.length from fun cs=>List.length_map ..];exact CV.repL_flat _ _ of q10)) (Start.own_ge H.below q6) hI0
       · match v',hu,q1 with
         | .sl 0 off len sz,_,q1=>
          simp only[MV.rep]at q1
          obtain⟨b,κ,cap,k1,k2,k3,k4⟩:=q1
          simp only[if_true,Option.some.injEq,Prod.mk.injEq]at k1
          obtain⟨rfl,rfl⟩:=k1
          simp only[MV.ren]
          exact⟨b0,κ0,cap,by simp[Pl.upd],k2,k3,k4⟩
     · cases h
   · cases h
 · cases h
theorem z6t {or : Option Or} {f : MV} {args : List MV} {e : Eff} (h : z9o P or hp slot f args = some e) (hob : ∀ q ∈ e.ob, q) (H : HRel w0 hp I p w) (hs : e.al.isSome = true → hp[slot]? = some none ∧ p slot = none)
    {fv:Value} (hf:f.rep I p fv) {vs:Array Value} (hargs:MV.repL I p args vs.toList):
    ∃g a b,fv= .func (.func g) a b∧z2n P g=true∧Calls P g (a++vs++b) w fun en w'=> ∃z,en= .returned z∧Post w0 (Z5 hp slot e) I p slot e.al.isSome e.v z w':=by
 unfold z9o at h
 split at h
 · rename_i g first captured
   split at h
   · rename_i hc
     simp only[Bool.and_eq_true,Array.isEmpty_iff]at hc
     obtain⟨⟨hc1,rfl⟩,rfl⟩:=hc
     have:=J2 hf
     subst this
     refine⟨g, #[], #[],rfl,hc1,z4h h hob H hs (by simpa using hargs)⟩
   · cases h
 · rename_i g first cap
   split at h
   · rename_i hc
     simp only[MV.rep]at hf
     obtain⟨a,b,rfl,h1,h2⟩:=hf
     refine⟨g,a,b,rfl,hc,z4h h hob H hs ?_⟩
     simp only[Array.toList_append]
     exact MV.repL_append (MV.repL_append h1 hargs) h2
   · cases h
 · cases h
theorem Q1{v:Option MV}{e:Eff}(h:z0F v=some e): ∃m,v=some m∧e=⟨m,[],[],none,[]⟩:=by
 unfold z0F at h;split at h
 · cases h;exact⟨_,rfl,rfl⟩
 · cases h
theorem z0h{v:Option (MV×List Prop)}{e:Eff}(h:z5r v=some e): ∃m ob,v=some (m,ob)∧e=⟨m,[],[],none,ob⟩:=by
 unfold z5r at h;split at h
 · cases h;exact⟨_,_,rfl,rfl⟩
 · cases h
theorem Y7{o:Oper}{ρ:Operand→Value}{R:Value→World→Prop}{z:Value}{w':World}(h:(execOp ρ o).run P w= .ok (.value z) w')(hR:R z w'):Fine P ((execOp ρ o).run P w) R:=by
 rw[h];exact hR
end
end Go.Fw
