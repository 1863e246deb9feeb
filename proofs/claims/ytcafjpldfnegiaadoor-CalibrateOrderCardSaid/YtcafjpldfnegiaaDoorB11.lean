/- A part of the proof that the law returns true for every input: an executor for the model's code, and what functions of the program compute. -/
import Derived.Test.YtcafjpldfnegiaaDoorB10
import Derived.Test.YtcafjpldfnegiaaDoorProg
open Go IntKind
namespace Go.Fw
section
variable{P:Program}
theorem z0B{I:Imm}{p:Pl}(n:Nat):MV.repL I p (List.replicate n undefM) (List.replicate n undef):=by
 refine(MV.repL_iff _ _).2 ⟨by simp,fun i c y hc hy=>?_⟩
 rw[List.getElem?_replicate]at hc hy
 split at hc
 · rename_i h;rw[if_pos h]at hy;cases hc;cases hy;exact z2y
 · cases hc
theorem z1e{f:FuncId}{args:List CV}{todo:List Item}{s:St}{rs:List ResultVar}{R:CV→Prop}(he:z30 P f args=some (todo,s,rs))(h:Ok P f todo s R):W9 P f args R:=by
 unfold z30 at he
 split at he
 · rename_i fn hf
   split at he
   · rename_i c hb
     cases he
     intro Im w vs him hrep cs
     have hlen:=CV.repL_length hrep
     simp only[Array.length_toList]at hlen
     let b:Frame:={(default:Frame)with fn:=f,kind:= .normal}
     have henter:Frame.enter P f vs .normal=b.at {tmps:=vs++Array.replicate (fn.ntmps-vs.size) undef,defers:=[]} [.code c]:=by
      simp[Frame.enter,Frame.at,hf,hb,b]
     rw[henter]
     have R0:SRel ⟨w,Im,fun _=>none⟩ ⟨args.map .cv++List.replicate (fn.ntmps-args.length) undefM,[]⟩ Im (fun _=>none) {tmps:=vs++Array.replicate (fn.ntmps-vs.size) undef,defers:=[]} w:=by
      refine⟨?_,rfl,⟨⟨rfl,rfl,rfl,Nat.le_refl _,fun _ _=>rfl⟩,him,fun b hb=> .inl hb,fun i cells hi=>by simp at hi,fun i j ci cj b κ b' κ' hi=>by simp at hi⟩⟩
      simp only[Array.toList_append,Array.toList_replicate]
      rw[←hlen]
      exact MV.repL_append ((MV.repL_map_cv _ _).2 hrep) (z0B _)
     obtain⟨e,w',fr,⟨y,I',rfl,k2,k⟩,q1,q2,q3⟩:=h ⟨w,Im,fun _=>none⟩ Im (fun _=>none) _ w b cs rfl rfl (Imm.le_refl Im) (Pl.le_refl _) (fun _ _=>rfl) R0 (fun _ _=>rfl)
     rcases k with⟨v,g1,g2,g3,g4,g5⟩|⟨v,hp',p',g1,_⟩
     · have hown : ∀ b, (⟨w, Im, fun _ => none⟩ : Start).own b → w.heap.size ≤ b := by
         rintro b (h|⟨i,κ,h⟩)
         · exact h
         · cases h
       exact⟨_,w',fr,⟨y,v,I',rfl,g1,g2,k2,g3,⟨g4.os,g4.tape,g4.output,g4.size,fun k hk=>g4.block k (fun h=>by have:=hown k h;omega)⟩,fun b hb=>(g5 b hb).imp id (hown b)⟩,q1,q2,q3⟩
     · exact g1.elim
   · cases he
 · cases he
theorem z2Z {f : FuncId} {fn : Func} {c : Code} {hp : List Blk} {args : List MV} {Q : MV → List Blk → Prop} (hf : P.funcs[f]? = some fn) (hb : fn.body = some c)
    (h:Ok P f [.code c] ⟨args++List.replicate (fn.ntmps-args.length) undefM,hp⟩ (.lent hp.length Q)):z43 P f hp args Q:=by
 intro I p w vs H hdom hrep cs
 have hlen:=MV.repL_length hrep
 simp only[Array.length_toList]at hlen
 let b:Frame:={(default:Frame)with fn:=f,kind:= .normal}
 have henter:Frame.enter P f vs .normal=b.at {tmps:=vs++Array.replicate (fn.ntmps-vs.size) undef,defers:=[]} [.code c]:=by
  simp[Frame.enter,Frame.at,hf,hb,b]
 rw[henter]
 have hnone: ∀k,hp.length≤k→p k=none:=by
  intro k hk
  cases hpk:p k with
  |none=>rfl
  |some x=>have:=(hdom k).2 (by rw[hpk];simp);omega
 have R0:SRel ⟨w,I,p⟩ ⟨args++List.replicate (fn.ntmps-args.length) undefM,hp⟩ I p {tmps:=vs++Array.replicate (fn.ntmps-vs.size) undef,defers:=[]} w:=by
  refine⟨?_,rfl,H⟩
  simp only[Array.toList_append,Array.toList_replicate]
  rw[←hlen]
  exact MV.repL_append hrep (z0B _)
 obtain⟨e,w',fr,⟨y,I',rfl,k2,k⟩,q1,q2,q3⟩:=h ⟨w,I,p⟩ I p _ w b cs rfl rfl I.le_refl (Pl.le_refl _) hnone R0 hnone
 rcases k with⟨v,g1,_⟩|⟨v,hp',p',g1,g2,g3,g4,g5⟩
 · exact g1.elim
 · have hpp : p' = p := by
     funext k
     cases hpk:p k with
     |none=>
      have: ¬k<hp.length:=fun h=>(hdom k).1 h hpk
      exact g5 k (by simp only[Goal.lent];omega)
     |some x=>exact g4 k x hpk
   subst hpp
   exact⟨_,w',fr,⟨y,v,hp',I',rfl,g1,g2,k2,g3⟩,q1,q2,q3⟩
theorem z4c{f:FuncId}{args:List CV}{todo:List Item}{s:St}{rs:List ResultVar}(he:z30 P f args=some (todo,s,rs)): ∃fn,P.funcs[f]?=some fn∧rs=fn.results.toList:=by
 unfold z30 at he
 split at he
 · rename_i fn hf
   split at he
   · cases he;exact⟨fn,hf,rfl⟩
   · cases he
 · cases he
def AllP:List Prop→Prop
 | []=>True
 | [p]=>p
 |p::ps=>p∧AllP ps
theorem AllP.mem: ∀{l:List Prop},AllP l→ ∀q∈l,q
 | [],_,q,hq=>by simp at hq
 | [p],h,q,hq=>by rw[List.mem_singleton]at hq;rw[hq];exact h
 |p::p'::ps,h,q,hq=>by
  simp only[List.mem_cons]at hq
  rcases hq with rfl|hq
  · exact h.1
  · exact AllP.mem (l:=p'::ps) h.2 q (by simpa using hq)
def z3F(Q:MV→List CV→Prop)(v:MV)(hp:List Blk):Prop:= ∃cells:List CV,hp=[some (own cells)]∧Q v cells
theorem z68{f:FuncId}{args:List CV}{todo:List Item}{s:St}{rs:List ResultVar}{Q:MV→List CV→Prop}(he:z30 P f args=some (todo,s,rs))(h:Ok P f todo s (.fresh (z3F Q))):z4r P f args Q:=by
 unfold z30 at he
 split at he
 · rename_i fn hf
   split at he
   · rename_i c hb
     cases he
     intro Im w vs him hrep cs
     have hlen:=CV.repL_length hrep
     simp only[Array.length_toList]at hlen
     let b:Frame:={(default:Frame)with fn:=f,kind:= .normal}
     have henter:Frame.enter P f vs .normal=b.at {tmps:=vs++Array.replicate (fn.ntmps-vs.size) undef,defers:=[]} [.code c]:=by
      simp[Frame.enter,Frame.at,hf,hb,b]
     rw[henter]
     have R0:SRel ⟨w,Im,fun _=>none⟩ ⟨args.map .cv++List.replicate (fn.ntmps-args.length) undefM,[]⟩ Im (fun _=>none) {tmps:=vs++Array.replicate (fn.ntmps-vs.size) undef,defers:=[]} w:=by
      refine⟨?_,rfl,⟨⟨rfl,rfl,rfl,Nat.le_refl _,fun _ _=>rfl⟩,him,fun b hb=> .inl hb,fun i cells hi=>by simp at hi,fun i j ci cj b κ b' κ' hi=>by simp at hi⟩⟩
      simp only[Array.toList_append,Array.toList_replicate]
      rw[←hlen]
      exact MV.repL_append ((MV.repL_map_cv _ _).2 hrep) (z0B _)
     obtain⟨e,w',fr,⟨y,I',rfl,k2,k⟩,q1,q2,q3⟩:=h ⟨w,Im,fun _=>none⟩ Im (fun _=>none) _ w b cs rfl rfl (Imm.le_refl Im) (Pl.le_refl _) (fun _ _=>rfl) R0 (fun _ _=>rfl)
     rcases k with⟨v,g1,_⟩|⟨v,hp',p',⟨cells,rfl,hQ⟩,g2,g3,g4,g5⟩
     · exact g1.elim
     · have hown : ∀ b, (⟨w, Im, fun _ => none⟩ : Start).own b → w.heap.size ≤ b := by
         rintro b (h|⟨i,κ,h⟩)
         · exact h
         · cases h
       obtain⟨b0,κ0,c0,T0,k1,k2',k3,k4,k5,k6⟩:=g3.live 0 _ rfl
       have hp:p'=fun k=>if k=0 then some (b0,κ0)else none:=by
        funext k
        cases k with
        |zero=>simpa using k1
        |succ k=>simpa using g5 (k+1) (by simp[Goal.fresh])
       refine⟨_,w',fr,⟨y,v,cells,I',b0,κ0,c0,T0,rfl,hQ,hp ▸ g2,k2,g3.im,⟨g3.below.os,g3.below.tape,g3.below.output,g3.below.size,fun k hk=>g3.below.block k (fun h=>by have:=hown k h;omega)⟩,
        fun b hb=>(g3.imf b hb).imp id (hown b),hown _ k5,k6,k2',k3,?_⟩,q1,q2,q3⟩
       have:=(MV.repL_map_cv _ _).1 k4
       rwa[show(own cells).length=cells.length from List.length_map ..]at this
   · cases he
 · cases he
theorem z9A{f:FuncId}{args:List CV}{v:CV}{ors:Ors}{ob:List Prop}(fuel:Nat)(h:zar P f args ors false fuel= .ret v ob)(hob:AllP ob):PCall P f args v:=by
 unfold zar at h
 split at h
 · rename_i todo s rs he
   obtain⟨fn,hf,rfl⟩:=z4c he
   have:=X2 hf none false fuel 0 todo s ors []
   rw[h]at this
   exact z1e he (this.2 hob.mem _ rfl)
 · cases h
theorem z6J{f:FuncId}{args:List CV}{todo:List Item}{s:St}{ors:Ors}{ob:List Prop}{R:CV→Prop}(fuel:Nat)(h:zar P f args ors false fuel= .stop todo s ob)(hob:AllP ob)(hk:Ok P f todo s R):W9 P f args R:=by
 unfold zar at h
 split at h
 · rename_i todo s rs he
   obtain⟨fn,hf,rfl⟩:=z4c he
   have:=X2 hf none false fuel 0 todo s ors []
   rw[h]at this
   exact z1e he (this.2 hob.mem _ hk)
 · cases h
theorem zfY{f:FuncId}{todo:List Item}{s:St}{v:CV}{ors:Ors}{ob:List Prop}{R:Goal}(fuel:Nat)(h:z71 P f todo s ors false fuel= .ret v ob)(hob:AllP ob)(hR:R.c v):Ok P f todo s R:=by
 unfold z71 at h
 split at h
 · rename_i fn hf
   have:=X2 hf none false fuel 0 todo s ors []
   rw[h]at this
   exact this.2 hob.mem _ hR
 · cases h
theorem zdB{f:FuncId}{todo todo':List Item}{s s':St}{ors:Ors}{ob:List Prop}{R:Goal}(fuel:Nat)(h:z71 P f todo s ors false fuel= .stop todo' s' ob)(hob:AllP ob)(hk:Ok P f todo' s' R):Ok P f todo s R:=by
 unfold z71 at h
 split at h
 · rename_i fn hf
   have:=X2 hf none false fuel 0 todo s ors []
   rw[h]at this
   exact this.2 hob.mem _ hk
 · cases h
theorem z7U{f:FuncId}{hp:List Blk}{args:List MV}{v:MV}{hp':List Blk}{ors:Ors}{ob:List Prop}{Q:MV→List Blk→Prop}(fuel:Nat)(h:z7X P f hp args ors false fuel= .retM v hp' hp.length ob)(hob:AllP ob)(hQ:Q v hp'):z43 P f hp args Q:=by
 unfold z7X at h
 split at h
 · rename_i fn hf
   split at h
   · rename_i c hc
     have:=X2 hf (some hp.length) false fuel 0 [.code c] ⟨args++List.replicate (fn.ntmps-args.length) undefM,hp⟩ ors []
     rw[h]at this
     exact z2Z hf hc (this.2 hob.mem (.lent hp.length Q) rfl (Nat.le_refl _) hQ)
   · cases h
 · cases h
theorem z6b{f:FuncId}{hp:List Blk}{args:List MV}{todo:List Item}{s:St}{ors:Ors}{ob:List Prop}{Q:MV→List Blk→Prop}(fuel:Nat)(h:z7X P f hp args ors false fuel= .stop todo s ob)(hob:AllP ob)(hk:Ok P f todo s (.lent hp.length Q)):z43 P f hp args Q:=by
 unfold z7X at h
 split at h
 · rename_i fn hf
   split at h
   · rename_i c hc
     have:=X2 hf (some hp.length) false fuel 0 [.code c] ⟨args++List.replicate (fn.ntmps-args.length) undefM,hp⟩ ors []
     rw[h]at this
     exact z2Z hf hc (this.2 hob.mem _ hk)
   · cases h
 · cases h
structure Goal.Lent(R:Goal)(m:Nat):Prop where
 n:R.n=m
 e:R.e=m
theorem zcm{f:FuncId}{m:Nat}{todo:List Item}{s:St}{v:MV}{hp':List Blk}{ors:Ors}{ob:List Prop}{R:Goal}(fuel:Nat)(h:z4l P f m todo s ors false fuel= .retM v hp' m ob)(hob:AllP ob)(hn:R.Lent m)(hR:R.m v hp'):Ok P f todo s R:=by
 unfold z4l at h
 split at h
 · rename_i fn hf
   have:=X2 hf (some m) false fuel 0 todo s ors []
   rw[h]at this
   exact this.2 hob.mem _ (by rw[hn.e]) (by rw[hn.n];exact Nat.le_refl _) hR
 · cases h
structure Goal.Fresh(R:Goal):Prop where
 n:R.n=0
 e:R.e=1
theorem zci{f:FuncId}{todo:List Item}{s:St}{v:MV}{hp':List Blk}{n0:Nat}{ors:Ors}{ob:List Prop}{R:Goal}(fuel:Nat)(h:z4l P f 1 todo s ors false fuel= .retM v hp' n0 ob)(hob:AllP ob)(hn:R.Fresh)(hR:R.m v hp'):Ok P f todo s R:=by
 unfold z4l at h
 split at h
 · rename_i fn hf
   have:=X2 hf (some 1) false fuel 0 todo s ors []
   rw[h]at this
   exact this.2 hob.mem _ (by rw[hn.e]) (by rw[hn.n];exact Nat.zero_le _) hR
 · cases h
theorem z6q{f:FuncId}{args:List CV}{todo:List Item}{s:St}{ors:Ors}{ob:List Prop}{Q:MV→List CV→Prop}(fuel:Nat)(h:zcY P f args ors false fuel= .stop todo s ob)(hob:AllP ob)(hk:Ok P f todo s (.fresh (z3F Q))):z4r P f args Q:=by
 unfold zcY at h
 split at h
 · rename_i todo s rs he
   obtain⟨fn,hf,rfl⟩:=z4c he
   have:=X2 hf (some 1) false fuel 0 todo s ors []
   rw[h]at this
   exact z68 he (this.2 hob.mem _ hk)
 · cases h
theorem zbv{f:FuncId}{m:Nat}{todo todo':List Item}{s s':St}{ors:Ors}{ob:List Prop}{R:Goal}(fuel:Nat)(h:z4l P f m todo s ors false fuel= .stop todo' s' ob)(hob:AllP ob)(hk:Ok P f todo' s' R):Ok P f todo s R:=by
 unfold z4l at h
 split at h
 · rename_i fn hf
   have:=X2 hf (some m) false fuel 0 todo s ors []
   rw[h]at this
   exact this.2 hob.mem _ hk
 · cases h
end
theorem PCall.eqB{P:Program}{f:FuncId}{args:List CV}{t d:Bool}(h:PCall P f args (.lit (.bool t)))(ht:t=d):PCall P f args (.lit (.bool d)):=ht ▸ h
theorem PCall.eq{P:Program}{f:FuncId}{args:List CV}{v v':CV}(h:PCall P f args v)(ht:v=v'):PCall P f args v':=ht ▸ h
theorem CvL.under{l:List MV}(h:CvL l)(m:Nat): ∀v∈l,v.under m=true:=by
 intro v hv;obtain⟨c,rfl⟩:=h v hv;rfl
theorem CvL.map_cv(l:List CV):CvL (l.map .cv):=by
 intro m hm;simp at hm;obtain⟨c,_,rfl⟩:=hm;exact⟨c,rfl⟩
def CellsU(m:Nat):List Blk→List Prop
 | []=>[]
 |some cells::r=>(∀v∈cells,v.under m=true)::CellsU m r
 |none::r=>CellsU m r
theorem CellsU.spec{m:Nat}: ∀{hp:List Blk},(∀q∈CellsU m hp,q)→ ∀cells,some cells∈hp→ ∀v∈cells,v.under m=true
 | [],_,cells,h=>by simp at h
 |some c::r,hq,cells,h=>by
  simp only[List.mem_cons,Option.some.injEq]at h
  rcases h with rfl|h
  · exact hq _ (by simp[CellsU])
  · exact CellsU.spec (hp:=r) (fun q hq'=>hq q (by simp[CellsU,hq'])) cells h
 |none::r,hq,cells,h=>by
  simp only[List.mem_cons]at h
  rcases h with h|h
  · cases h
  · exact CellsU.spec (hp:=r) (fun q hq'=>hq q (by simpa[CellsU]using hq')) cells h
def z8W(keep σ:List Nat):Nat→List MV→List MV
 |_,[]=>[]
 |i,v::vs=>(if keep.contains i then(MV.inv σ v).getD .unk else .unk)::z8W keep σ (i+1) vs
def St.sel(s:St)(keep σ:List Nat):St:=⟨z8W keep σ 0 s.tm,σ.map fun i=>s.hp.getD i none⟩
theorem z3R{I:Imm}{p:Pl}{keep σ:List Nat}: ∀(vs:List MV) (i:Nat) (ys:List Value),MV.repL I p vs ys→MV.repL I (p.at σ) (z8W keep σ i vs) ys
 | [],i,ys,h=>by simpa[MV.repL,z8W]using h
 |v::vs,i,ys,h=>by
  simp only[MV.repL]at h
  obtain⟨y,ys',rfl,h1,h2⟩:=h
  simp only[z8W,MV.repL]
  refine⟨y,ys',rfl,?_,z3R vs (i+1) ys' h2⟩
  split
  · cases hv:MV.inv σ v with
    |none=>simp[MV.rep]
    |some m=>exact MV.inv_rep v m y hv h1
  · simp[MV.rep]
def j7(n:Nat)(σ:List Nat):Bool:=(List.range n).all fun k=>σ[k]?==some k
theorem Ok.sel {P : Program} {f : FuncId} {todo : List Item} {s : St} {R : Goal} (keep σ : List Nat) (hσ : V8 σ = true) (hR : j7 R.n σ = true) (hb : AllP (CellsC (σ.map fun i => s.hp.getD i none)))
    (h:Ok P f todo (s.sel keep σ) R):Ok P f todo s R:=by
 intro w0 I p a w b cs h1 h2 h3 h31 h32 h4 h5
 have key: ∀(k:Nat) (ck:List MV),(s.sel keep σ).hp[k]?=some (some ck)→ ∃i,σ[k]?=some i∧s.hp[i]?=some (some ck):=by
  intro k ck hk
  simp only[St.sel,List.getElem?_map,Option.map_eq_some_iff]at hk
  obtain⟨i,hi,he⟩:=hk
  refine⟨i,hi,?_⟩
  rw[List.getD_eq_getElem?_getD]at he
  cases hh:s.hp[i]? with
  |none=>rw[hh]at he;simp at he
  |some x=>rw[hh]at he;simp at he;rw[he]
 refine h w0 I (p.at σ) a w b cs h1 h2 h3 ?_ h32 ⟨z3R _ _ _ h4.tm,h4.defers,h4.hp.below,h4.hp.im,h4.hp.imf,fun k cells hk=>?_,fun k j ck cj x κ x' κ' hk hj hne hx hx'=>?_⟩ ?_
 · intro k x hk
   have hk':k<R.n:=by
    rcases Nat.lt_or_ge k R.n with h|h
    · exact h
    · rw[h32 k h]at hk;cases hk
   have:=List.all_eq_true.1 hR k (by simpa using hk')
   simp only[beq_iff_eq]at this
   simp only[Pl.at,this];exact h31 k x hk
 · obtain⟨i,hi,hc⟩:=key k cells hk
   obtain⟨b1,κ1,c,T,g1,g2,g3,g4,g5,g6⟩:=h4.hp.live i cells hc
   have hcv:=CellsC.spec hb.mem cells (List.mem_of_getElem? (by simpa[St.sel]using hk))
   refine⟨b1,κ1,c,T,by simp[Pl.at,hi,g1],g2,g3,z2h (fun c' hc'=>by cases hc';exact hcv) (Imm.le_refl I) g4,g5,g6⟩
 · obtain⟨i,hi,hc⟩:=key k ck hk
   obtain⟨i',hi',hc'⟩:=key j cj hj
   simp only[Pl.at,hi]at hx
   simp only[Pl.at,hi']at hx'
   refine h4.hp.inj i i' ck cj x κ x' κ' hc hc' (fun e=>?_) hx hx'
   subst e
   exact hne (z11 σ hσ k j i hi hi')
 · intro k hk
   simp only[St.sel,List.length_map]at hk
   simp[Pl.at,List.getElem?_eq_none_iff.2 hk]
theorem Ok.shorten{P:Program}{f:FuncId}{todo:List Item}{tm:List MV}{hp:List Blk}{R:Goal}(i n:Nat){cells:List MV}(hi:hp[i]?=some (some cells))(h:Ok P f todo ⟨tm,hp.set i (some (cells.take n))⟩ R):Ok P f todo ⟨tm,hp⟩ R:=by
 intro w0 I p a w b cs h1 h2 h3 h31 h32 h4 h5
 have key: ∀(k:Nat) (ck:List MV),(hp.set i (some (cells.take n)))[k]?=some (some ck)→ ∃ck':List MV,hp[k]?=some (some ck')∧ ∃m,ck=ck'.take m:=by
  intro k ck hk
  rw[List.getElem?_set]at hk
  by_cases e:i=k
  · subst e
    simp only[if_true]at hk
    split at hk
    · cases hk;exact⟨cells,hi,n,rfl⟩
    · cases hk
  · simp only[e,if_false]at hk
    exact⟨ck,hk,ck.length,by simp⟩
 refine h w0 I p a w b cs h1 h2 h3 h31 h32 ⟨h4.tm,h4.defers,h4.hp.below,h4.hp.im,h4.hp.imf,fun k ck hk=>?_,fun k j ck cj x κ x' κ' hk hj hne=>?_⟩ ?_
 · obtain⟨ck',hc,m,rfl⟩:=key k ck hk
   obtain⟨b1,κ1,c,T,g1,g2,g3,g4,g5,g6⟩:=h4.hp.live k ck' hc
   refine⟨b1,κ1,c,T,g1,g2,g3,?_,g5,g6⟩
   have:=MV.repL_take m g4
   rw[List.take_take]at this
   rwa[List.length_take]
 · obtain⟨_,hc,_⟩:=key k ck hk
   obtain⟨_,hc',_⟩:=key j cj hj
   exact h4.hp.inj k j _ _ x κ x' κ' hc hc' hne
 · intro k hk
   exact h5 k (by simpa using hk)
def j0(xs:List Nat):List CV:=xs.map fun n:Nat=>CV.lit (.int .u32 (n:Int))
def z3U(xs:List Nat)(i:Nat):CV:= .lit (.int .u32 (xs.getD i 0:Nat))
def z6f(xs:List Nat):List CV:=xs.map fun n:Nat=>CV.lit (.int .i64 (n:Int))
def z8F(xs:List Nat)(i:Nat):CV:= .lit (.int .i64 (xs.getD i 0:Nat))
theorem j9(xs:List Nat):(j0 xs).length=xs.length:=by simp[j0]
theorem z4Y{xs:List Nat}{i:Nat}(h:i<xs.length):(j0 xs)[i]?=some (z3U xs i):=by
 simp[j0,z3U,List.getElem?_eq_getElem h,List.getD_eq_getElem?_getD]
theorem zaX{xs:List Nat}{i:Nat}(h:i<xs.length):(z6f xs)[i]?=some (z8F xs i):=by
 simp[z6f,z8F,List.getElem?_eq_getElem h,List.getD_eq_getElem?_getD]
theorem U1{es:List CV}{i:Nat}{c:CV}(h:es[i]?=some c):(own es)[i]?=some (.cv c):=by simp[own,h]
theorem J4(es:List CV):(own es).length=es.length:=by simp[own]
theorem J8(es:List CV):CvL (own es):=CvL.map_cv es
theorem z0H{es:List CV}{n:Nat}(h:n=es.length):((own es).drop 0).take (n*1)=es.map .cv:=by
 rw[List.drop_zero,Nat.mul_one,List.take_of_length_le (by rw[J4,h];exact Nat.le_refl _)];rfl
theorem z8D{es:List CV}{i:Nat}{c:CV}(h:i<es.length):j4 (own es) i [.cv c]=own (es.set i c):=by
 unfold j4 own
 rw[List.set_eq_take_append_cons_drop,if_pos h]
 simp
theorem zb6(xs:List Nat)(i n:Nat):(j0 xs).set i (.lit (.int .u32 n))=j0 (xs.set i n):=by
 simp[j0,List.map_set]
theorem J0{xs:List Nat}{i n:Nat}(h:i<xs.length):j4 (own (j0 xs)) i [.cv (.lit (.int .u32 n))]=own (j0 (xs.set i n)):=by
 rw[z8D (by simpa[j0]using h),zb6]
theorem Y6(n:Nat):List.replicate n (MV.cv (CV.lit (Value.int u32 (0:Int))))=own (j0 (List.replicate n 0)):=by
 simp[own,j0,List.map_replicate]
theorem BlksCv.one{l:List MV}(h:CvL l):BlksCv [some l]:=by
 intro b hb cells hc m hm
 simp only[List.mem_singleton]at hb
 subst hb;cases hc;exact h m hm
theorem BlksCv.two{l l':List MV}(h:CvL l)(h':CvL l'):BlksCv [some l,some l']:=by
 intro b hb cells hc m hm
 simp only[List.mem_cons,List.not_mem_nil,or_false]at hb
 rcases hb with rfl|rfl
 · cases hc;exact h m hm
 · cases hc;exact h' m hm
def z7a(n:Nat):List MV:=List.replicate n .unk
def zhk(i:Nat):List (Nat×MV)→MV
 | []=> .unk
 |(j,m)::r=>match Nat.beq i j with|true=>m|false=>zhk i r
def zeJ:Nat→Nat→List (Nat×MV)→List MV
 |_,0,_=>[]
 |i,n+1,l=>zhk i l::zeJ (i+1) n l
def J6(n:Nat)(l:List (Nat×MV)):List MV:=zeJ 0 n l
def u8s(xs:List Nat):List CV:=xs.map fun n:Nat=>CV.lit (.int .u8 (n:Int))
def zbL(xs:List Nat)(i:Nat):CV:= .lit (.int .u8 (xs.getD i 0:Nat))
def z0M(bs:List Nat):ByteArray:=⟨(bs.map UInt8.ofNat).toArray⟩
theorem z4D(xs:List Nat):(u8s xs).length=xs.length:=by simp[u8s]
theorem zdy{xs:List Nat}{i:Nat}(h:i<xs.length):(u8s xs)[i]?=some (zbL xs i):=by
 simp[u8s,zbL,List.getElem?_eq_getElem h,List.getD_eq_getElem?_getD]
theorem zdk(xs:List Nat)(i n:Nat):(u8s xs).set i (.lit (.int .u8 n))=u8s (xs.set i n):=by
 simp[u8s,List.map_set]
theorem z7Q{xs:List Nat}{i n:Nat}(h:i<xs.length):j4 (own (u8s xs)) i [.cv (.lit (.int .u8 n))]=own (u8s (xs.set i n)):=by
 rw[z8D (by simpa[u8s]using h),zdk]
theorem z5d(n:Nat):List.replicate n (MV.cv (CV.lit (Value.int u8 (0:Int))))=own (u8s (List.replicate n 0)):=by
 simp[own,u8s,List.map_replicate]
theorem z2F(bs:List Nat):(z0M bs).size=bs.length:=by simp[z0M,ByteArray.size]
theorem z47{bs:List Nat}(h: ∀b∈bs,b<256):(own (u8s bs))=(z0M bs).data.toList.map (fun b=>z14 .u8 (b.toNat:Nat)):=by
 simp only[own,u8s,z0M,List.map_map,z14]
 refine List.map_congr_left fun x hx=>?_
 have:=h x hx
 simp only[Function.comp_apply,UInt8.toNat_ofNat']
 rw[Nat.mod_eq_of_lt (by omega)]
theorem z3W(xs:List Nat)(off len:Nat):((own (j0 xs)).drop off).take (len*1)=(j0 ((xs.drop off).take len)).map .cv:=by simp[own,j0,List.map_take,List.map_drop]
noncomputable abbrev P:Program:=Go.Proofs.Tryd.prog
end Go.Fw
