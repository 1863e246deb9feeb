/- A part of the proof that the law returns true for every input: an executor for the model's code, and what functions of the program compute. -/
import Derived.Test.YtcafjpldfnegiaaDoorB08
open Go IntKind
namespace Go.Fw
section
variable{P:Program}
theorem zbq{or:Option Or}{ev ev':Operand→MV}{hp:List Blk}{slot:Nat}{op:Op}(h: ∀x∈op.operands,ev x=ev' x):j8 P or ev hp slot op=j8 P or ev' hp slot op:=by
 have hps: ∀ps:Array (Nat×Operand),(∀x∈ps.toList.map (·.2),ev x=ev' x)→(ps.toList.map fun p=>(p.1,ev p.2))=(ps.toList.map fun p=>(p.1,ev' p.2)):=by
  intro ps hh
  refine List.map_congr_left fun p hp=>?_
  rw[hh p.2 (List.mem_map_of_mem hp)]
 cases op with
 |build t ps=>simp only[j8];rw[hps ps (fun x hx=>h x (by simpa[Op.operands]using hx))]
 |buildSlice t n ps=>simp only[j8];rw[hps ps (fun x hx=>h x (by simpa[Op.operands]using hx))]
 |slice t x lo hi mx=>
  have hx:=h x (by simp[Op.operands])
  have hlo:lo.map ev=lo.map ev':=by cases lo with|none=>rfl|some y=>simp[h y (by simp[Op.operands])]
  have hhi:hi.map ev=hi.map ev':=by cases hi with|none=>rfl|some y=>simp[h y (by simp[Op.operands])]
  have hmx:mx.map ev=mx.map ev':=by cases mx with|none=>rfl|some y=>simp[h y (by simp[Op.operands])]
  simp only[j8,hx,hlo,hhi,hmx]
 |call c=>
  obtain⟨callee,args,ts⟩:=c
  have hargs: ∀x∈args.toList,ev x=ev' x:=fun x hx=>h x (by simp[Op.operands,Call.operands];right;simpa using hx)
  cases callee with
  |invoke r m=>simp[j8]
  |value f=>
   have hf:=h f (by simp[Op.operands,Call.operands])
   simp only[j8,hf]
   rw[List.map_congr_left hargs]
  |builtin b=>
   cases b with
   |len=>
    simp only[j8]
    split
    · rename_i t x _ ha
      rw[hargs x (by rw[ha];simp)]
    · rfl
   |append=>
    simp only[j8]
    split
    · rename_i t u s x _ ha
      rw[hargs s (by rw[ha];simp),hargs x (by rw[ha];simp)]
    · rfl
   |max|min=>
    simp only[j8]
    split
    · rename_i x y ha
      rw[hargs x (by rw[ha];simp),hargs y (by rw[ha];simp)]
    · rfl
   |_=>simp[j8]
 |makeFunc fn a b=>
  cases fn with
  |func g=>
   simp only[j8]
   rw[List.map_congr_left (fun x hx=>h x (by simp[Op.operands];left;simpa using hx)),List.map_congr_left (l:=b.toList) (fun x hx=>h x (by simp[Op.operands];right;simpa using hx))]
  |_=>simp[j8]
 |move x|assign x|box _ x|load _ x|nilCheck x|unOp _ _ x|convert _ _ x|fieldAddr _ x _|field _ x _|extract x _=>
  have hx:=h x (by simp[Op.operands])
  simp only[j8,hx]
 |store _ x y|binOp _ _ x y _|makeSlice _ x y|indexAddr _ x y|index _ x y=>
  have hx:=h x (by simp[Op.operands])
  have hy:=h y (by simp[Op.operands])
  simp only[j8,hx,hy]
 |pick x y z=>
  have hx:=h x (by simp[Op.operands])
  have hy:=h y (by simp[Op.operands])
  have hz:=h z (by simp[Op.operands])
  simp only[j8,hx,hy,hz]
 |_=>simp[j8]
theorem z1q {hp hp' : List Blk} : ∀ (ms : List MV) (ess : List (List CV)) (cs : List CV) (is : List Nat) (ob : List Prop), z0d hp ms ess = some (cs, is, ob) →
    (∀i∈is,hp'[i]?=hp[i]?)→z0d hp' ms ess=some (cs,is,ob)
 | [],ess,cs,is,ob,h,_=>by simpa[z0d]using h
 |m::ms,ess,cs,is,ob,h,hh=>by
  cases m with
  |sl i off len sz=>
   cases ess with
   |nil=>simp[z0d]at h
   |cons es ess=>
    simp only[z0d]at h ⊢
    split at h
    · rename_i cells cs' is' ob' hi ha
      cases h
      rw[hh i (by simp),hi,z1q ms ess cs' is' ob' ha (fun j hj=>hh j (by simp[hj]))]
    · cases h
  |_=>
   simp only[z0d]at h ⊢
   split at h
   · rename_i c cs' is' ob' hc ha
     cases h
     rw[hc,z1q ms ess cs' is ob ha hh]
   · cases h
theorem zb7 {or : Option Or} {ev : Operand → MV} {hp hp' : List Blk} {slot : Nat} {op : Op} {e : Eff} (h : j8 P or ev hp slot op = some e)
    (hh: ∀k∈e.rd++e.wr.map (·.1),hp'[k]?=hp[k]?):j8 P or ev hp' slot op=some e:=by
 cases op with
 |load T a=>
  simp only[j8]at h ⊢
  unfold z7v at h ⊢
  dsimp only at h ⊢
  split at h
  · rename_i i off hev
    try simp only[hev]
    split at h
    · rename_i cells hi
      have hr:e.rd=[i]:=by
       split at h
       · split at h
         · cases h;rfl
         · cases h
       · split at h
         · cases h;rfl
         · cases h
       · split at h
         · split at h
           · cases h;rfl
           · cases h
         · cases h
      rw[hh i (by simp[hr]),hi]
      exact h
    · cases h
  · rename_i es off hev
    try simp only[hev]
    exact h
  · cases h
 |store T a x=>
  simp only[j8]at h ⊢
  unfold z5S at h ⊢
  split at h
  · rename_i i off hev
    try simp only
    split at h
    · rename_i cells hi
      dsimp only at h ⊢
      split at h
      · rename_i hc
        cases h
        rw[hh i (by simp),hi]
        dsimp only
        rw[if_pos hc]
      · cases h
    · cases h
  · cases h
 |convert s d x=>
  simp only[j8]at h ⊢
  split at h
  · rename_i el hs hd
    try simp only[hs,hd]
    split at h
    · rename_i hel
      try simp only[hel]
      unfold z1o at h ⊢
      split at h
      · rename_i i off len sz str es hx
        split at h
        · rename_i cells hi
          cases h
          try simp only[hx]
          rw[hh i (by simp),hi]
        · cases h
      · rename_i hx
        cases h
        try simp only
      · cases h
    · cases h
  · exact h
 |call c=>
  obtain⟨callee,args,ts⟩:=c
  cases callee with
  |invoke r m=>simp[j8]at h
  |value f=>
   simp only[j8]at h ⊢
   have hG: ∀(g:FuncId) (args:List MV),z52 P or hp slot g args=some e→z52 P or hp' slot g args=some e:=by
    clear h
    intro g args h
    unfold z52 at h ⊢
    split at h
    · rename_i v es
      split at h
      · rename_i cs is ob ha
        cases h
        have:=z1q (hp':=hp') _ _ cs is ob ha (fun i hi=>hh i (by simp[hi]))
        simp only[this]
      · cases h
    · split at h
      · rename_i cs is ob ha
        split at h
        · rename_i hfl
          cases h
          have:=z1q (hp':=hp') _ _ cs is ob ha (fun i hi=>hh i (by simp[hi]))
          simp only[this,hfl,if_true]
        · cases h
      · cases h
    · split at h
      · rename_i σ v hp2 _ _ args0 hp0 ha hl
        split at h
        · rename_i hc
          cases h
          have key: ∀(l:List Nat) (bs:List Blk),(∀k∈l,hp'[k]?=hp[k]?)→z2k hp l=some bs→z2k hp' l=some bs:=by
           intro l
           induction l with
           |nil=>intro bs _ h;simpa[z2k]using h
           |cons i is ih=>
            intro bs hk h
            simp only[z2k]at h ⊢
            split at h
            · rename_i cells l' h1 h2
              cases h
              rw[hk i (by simp),h1,ih l' (fun k hk'=>hk k (by simp[hk'])) h2]
            · cases h
          have:=key σ hp0 (fun k hk=>hh k (by simp[hk])) hl
          simp only[ha,this,hc,if_true]
        · cases h
      · cases h
    · split at h
      · rename_i cs is ob ha
        split at h
        · rename_i hfl
          cases h
          have:=z1q (hp':=hp') _ _ cs is ob ha (fun i hi=>hh i (by simp[hi]))
          simp only[this,hfl,if_true]
        · cases h
      · cases h
    · split at h
      · rename_i cs is ob ha
        split at h
        · rename_i hfl
          cases h
          have:=z1q (hp':=hp') _ _ cs is ob ha (fun i hi=>hh i (by simp[hi]))
          simp only[this,hfl,if_true]
        · cases h
      · cases h
    · cases h
   unfold z9o at h ⊢
   split at h
   · rename_i hfn
     try simp only[hfn]
     split at h
     · rename_i hc
       rw[if_pos hc]
       exact hG _ _ h
     · cases h
   · rename_i hfn
     try simp only[hfn]
     split at h
     · rename_i hc
       rw[if_pos hc]
       exact hG _ _ h
     · cases h
   · cases h
  |builtin b=>
   cases b with
   |len=>simpa only[j8]using h
   |append=>
    simp only[j8]at h ⊢
    split at h
    · rename_i t u s x ht ha
      try simp only[ht,ha]
      split at h
      · rename_i htu
        rw[if_pos htu]
        unfold zgw at h ⊢
        cases hna:z17 P hp slot t (ev s) (ev x)with
        |some e'=>
         rw[hna]at h
         cases h
         rw[z6D hna hh]
        |none=>
        rw[hna]at h
        dsimp only at h
        rw[z4m h hp']
        dsimp only
        unfold z1g at h ⊢
        split at h
        · rename_i elem hu
          try simp only
          dsimp only at h ⊢
          split at h
          · cases h
          · rename_i hcond
            rw[if_neg hcond]
            split at h
            · cases h
            · rename_i new n js ob hsrc
              have hjs: ∀j∈js,j∈e.rd:=by
               split at h
               · cases h;exact fun j hj=>hj
               · split at h
                 · split at h
                   · cases h;exact fun j hj=>hj
                   · cases h
                 · cases h
               · cases h
              have hsrc':zen hp' (P.cellsOf elem) (ev x)=some (new,n,js,ob):=by
               unfold zen at hsrc ⊢
               split at hsrc
               · rename_i j o n' sz' hxv
                 try simp only[hxv]
                 split at hsrc
                 · rename_i cells hj
                   split at hsrc
                   · rename_i hsz
                     cases hsrc
                     have hj':=hh j (by have:=hjs j (by simp);simp[this])
                     rw[hj',hj]
                     simp[hsz]
                   · cases hsrc
                 · cases hsrc
               · rename_i n' es hxv
                 try simp only[hxv]
                 exact hsrc
               · cases hsrc
              rw[hsrc']
              dsimp only
              split at h
              · rename_i hsv
                try simp only[hsv]
                exact h
              · rename_i i len sz' hsv
                try simp only[hsv]
                split at h
                · rename_i cells hi
                  split at h
                  · rename_i hc2
                    cases h
                    rw[hh i (by simp),hi]
                    dsimp only
                    rw[if_pos hc2]
                  · cases h
                · cases h
              · cases h
        · cases h
      · cases h
    · cases h
   |max|min=>simpa only[j8]using h
   |_=>simp[j8]at h
 |makeFunc fn a b=>
  cases fn with
  |func g=>simpa only[j8]using h
  |_=>simp[j8]at h
 |move x|assign x|box _ x|nilCheck x|unOp _ _ x|fieldAddr _ x _|field _ x _|extract x _=>simpa only[j8]using h
 |binOp _ _ x y _|makeSlice _ x y|indexAddr _ x y|index _ x y=>simpa only[j8]using h
 |pick x y z=>simpa only[j8]using h
 |alloc T=>simpa only[j8]using h
 |build T ps=>simpa only[j8]using h
 |buildSlice T n ps=>simpa only[j8]using h
 |slice T x lo hi mx=>
  simp only[j8]at h ⊢
  split at h
  · exact h
  · split at h
    · unfold z61 at h ⊢
      split at h
      · split at h
        · rename_i hty
          split at h
          · rename_i b off hev
            split at h
            · rename_i cells hc
              cases h
              rw[if_pos hty]
              rw[hh b (by simp),hc]
            · cases h
          · cases h
        · cases h
      · cases h
    · exact h
 |_=>simp[j8]at h
end
section
variable{P:Program}{ops:List Oper}{base:Nat}{A:Nat→Option Or}{E:Nat→Option Eff}
def Stp(P:Program)(ops:List Oper)(base:Nat)(A:Nat→Option Or)(E:Nat→Option Eff)(i:Nat)(s s':St):Prop:=mOp P ops base (A i) i s=some (s',E i)
def z27(P:Program)(ops:List Oper)(base:Nat)(A:Nat→Option Or)(E:Nat→Option Eff):List Nat→St→St→Prop
 | [],s,s'=>s=s'
 |i::l,s,s'=> ∃s1,Stp P ops base A E i s s1∧z27 P ops base A E l s1 s'
theorem z5D{tm:List MV}{dst:Option Tmp}{v:MV}{x:Operand}(h: ∀d,dst=some d→x≠ .tmp d):z0D (z4i tm dst v) x=z0D tm x:=by
 cases dst with
 |none=>rfl
 |some d=>
  cases x with
  |tmp t=>
   have hne:d≠t:=fun e=>h d rfl (e ▸ rfl)
   simp[z0D,z4i,List.getD,hne]
  |_=>rfl
theorem z3S{tm:List MV}{dst:Option Tmp}{v:MV}{o:Oper}(h: ∀d,dst=some d→d∉o.looksAt ops.toArray):W8 ops (z4i tm dst v) o=W8 ops tm o:=by
 cases dst with
 |none=>rfl
 |some d=>
  have hd:=h d rfl
  unfold W8
  cases hg:o.guard with
  |none=>rfl
  |some jw=>
   obtain⟨j,want⟩:=jw
   dsimp only
   cases hj:ops[j]? with
   |none=>rfl
   |some oj=>
    dsimp only
    cases hdj:oj.dst with
    |none=>rfl
    |some dj=>
     dsimp only
     have hne:d≠dj:=by
      intro e
      apply hd
      unfold Oper.looksAt
      rw[hg]
      simp[hj,hdj,e]
     simp only[z4i,List.getElem?_set,hne,if_false]
theorem z8c(tm:List MV){x y:Option Tmp}(u v:MV)(h: ∀d,x=some d→y≠some d):z4i (z4i tm x u) y v=z4i (z4i tm y v) x u:=by
 cases x with
 |none=>rfl
 |some d=>
  cases y with
  |none=>rfl
  |some e=>
   have hne:d≠e:=fun he=>h d rfl (he ▸ rfl)
   simp only[z4i]
   exact List.set_comm _ _ hne
theorem U7(k:Nat)(b:Blk): ∀(l:List (Nat×Blk)) (hp:List Blk),(∀x∈l,x.1≠k)→Q8 (hp.set k b) l=(Q8 hp l).set k b
 | [],hp,_=>rfl
 |(i,c)::l,hp,h=>by
  simp only[Q8]
  rw[List.set_comm _ _ (fun e=>h (i,c) (by simp) e.symm),U7 k b l _ (fun x hx=>h x (by simp[hx]))]
theorem z06: ∀(l m:List (Nat×Blk)) (hp:List Blk),(∀x∈l,∀y∈m,x.1≠y.1)→Q8 (Q8 hp l) m=Q8 (Q8 hp m) l
 | [],m,hp,_=>rfl
 |(i,c)::l,m,hp,h=>by
  simp only[Q8]
  rw[z06 l m _ (fun x hx=>h x (by simp[hx])),U7 i c m hp (fun y hy e=>h (i,c) (by simp) y hy e.symm)]
theorem z6C {hp : List Blk} {si sj : Nat} {e f : Eff} (h1 : ∀ x ∈ e.wr, ∀ y ∈ f.wr, x.1 ≠ y.1) (h2 : e.al.isSome = true → ∀ y ∈ f.wr, y.1 ≠ si) (h3 : f.al.isSome = true → ∀ x ∈ e.wr, x.1 ≠ sj)
    (h4:e.al.isSome=true→f.al.isSome=true→si≠sj):Z5 (Z5 hp si e) sj f=Z5 (Z5 hp sj f) si e:=by
 unfold Z5
 cases he:e.al with
 |none=>
  cases hf:f.al with
  |none=>exact z06 _ _ _ h1
  |some cf=>
   dsimp only
   rw[z06 _ _ _ h1,U7 _ _ _ _ (h3 (by simp[hf]))]
 |some ce=>
  cases hf:f.al with
  |none=>
   dsimp only
   rw[U7 _ _ _ _ (h2 (by simp[he])),z06 _ _ _ h1]
  |some cf=>
   dsimp only
   rw[U7 _ _ _ _ (h2 (by simp[he])),z06 _ _ _ h1,U7 _ _ _ _ (h3 (by simp[hf])),List.set_comm _ _ (h4 (by simp[he]) (by simp[hf]))]
theorem z0O {i j : Nat} {e f : Eff} (h : z2e base ops i j e f = true) :
    (∀x∈e.wr.map (·.1)++z32 base ops i e,x∉f.rd++(f.wr.map (·.1)++z32 base ops j f))∧(∀y∈f.wr.map (·.1)++z32 base ops j f,y∉e.rd++(e.wr.map (·.1)++z32 base ops i e)):=by
 unfold z2e at h
 simp only[Bool.and_eq_true,List.all_eq_true,Bool.not_eq_true',List.contains_eq_mem,decide_eq_false_iff_not]at h
 exact h
def zaw(base:Nat)(ops:List Oper)(i:Nat)(hp:List Blk):Option Eff→List Blk
 |none=>hp
 |some e=>Z5 hp (base+Q9 ops i) e
def zah:Option Eff→MV
 |none=>undefM
 |some e=>e.v
theorem z45 {or : Option Or} {i : Nat} {s s' : St} {eo : Option Eff} (h : mOp P ops base or i s = some (s', eo)) :
    ∃o,ops[i]?=some o∧s'=⟨z4i s.tm o.dst (zah eo),zaw base ops i s.hp eo⟩∧(eo=none→W8 ops s.tm o=some false)∧
     (∀e,eo=some e→W8 ops s.tm o=some true∧ ∃e0,j8 P or (z0D s.tm) s.hp (base+Q9 ops i) o.op=some e0∧z2I or e0=some e):=by
 unfold mOp at h
 split at h
 · cases h
 · rename_i o ho
   refine⟨o,ho,?_⟩
   split at h
   · cases h
   · rename_i hw
     cases h
     exact⟨rfl,fun _=>hw,fun e he=>by cases he⟩
   · rename_i hw
     split at h
     · cases h
     · rename_i e0 he0
       split at h
       · cases h
       · rename_i e he
         cases h
         exact⟨rfl,(fun hh=>by cases hh),fun e' he'=>by cases he';exact⟨hw,e0,he0,he⟩⟩
theorem zg4 {or : Option Or} {i : Nat} {s : St} {eo : Option Eff} {o : Oper} (ho : ops[i]? = some o) (h1 : eo = none → W8 ops s.tm o = some false)
    (h2: ∀e,eo=some e→W8 ops s.tm o=some true∧ ∃e0,j8 P or (z0D s.tm) s.hp (base+Q9 ops i) o.op=some e0∧z2I or e0=some e):
    mOp P ops base or i s=some (⟨z4i s.tm o.dst (zah eo),zaw base ops i s.hp eo⟩,eo):=by
 unfold mOp
 simp only[ho]
 cases eo with
 |none=>simp only[h1 rfl];rfl
 |some e=>
  obtain⟨hw,e0,he0,he⟩:=h2 e rfl
  simp only[hw,he0,he]
  rfl
theorem z6Z {or : Option Or} {i : Nat} {s t : St} {eo : Option Eff} {o : Oper} (ho : ops[i]? = some o) (h1 : eo = none → W8 ops s.tm o = some false)
    (h2: ∀e,eo=some e→W8 ops s.tm o=some true∧ ∃e0,j8 P or (z0D s.tm) s.hp (base+Q9 ops i) o.op=some e0∧z2I or e0=some e)
    (hw:W8 ops t.tm o=W8 ops s.tm o) (hev: ∀x∈o.op.operands,z0D t.tm x=z0D s.tm x) (hhp: ∀e,eo=some e→ ∀k∈e.rd++e.wr.map (·.1),t.hp[k]?=s.hp[k]?):
    mOp P ops base or i t=some (⟨z4i t.tm o.dst (zah eo),zaw base ops i t.hp eo⟩,eo):=by
 refine zg4 ho (fun he=>by rw[hw];exact h1 he) (fun e he=>?_)
 obtain⟨g1,e0,g2,g3⟩:=h2 e he
 refine⟨by rw[hw];exact g1,e0,?_,g3⟩
 obtain⟨d1,d2,d3,_⟩:=z2W g3
 have:=zb7 (hp':=t.hp) g2 (by rw[←d1,←d2];exact hhp e he)
 rw[←this]
 exact zbq hev
theorem z1F{o:Oper}{x:Operand}{d:Tmp}(hx:x∈o.op.operands)(h:d∉o.looksAt ops.toArray):x≠ .tmp d:=by
 intro e
 apply h
 unfold Oper.looksAt
 rw[List.mem_append]
 left
 rw[List.mem_filterMap]
 exact⟨x,by simpa using hx,by rw[e]⟩
theorem z4G{i:Nat}{hp:List Blk}{eo:Option Eff}{k:Nat}(h: ∀e,eo=some e→k∉e.wr.map (·.1)++z32 base ops i e):(zaw base ops i hp eo)[k]?=hp[k]?:=by
 cases eo with
 |none=>rfl
 |some e=>
  have hk:=h e rfl
  simp only[List.mem_append,not_or]at hk
  refine z2S (fun x hx he=>hk.1 (by rw[List.mem_map];exact⟨x,hx,he⟩)) (fun hal he=>hk.2 ?_)
  simp[z32,hal,he]
theorem swap {i j : Nat} {s s1 s2 : St} (hi : Stp P ops base A E i s s1) (hj : Stp P ops base A E j s1 s2) (hap : z3o ops i j = true)
    (hm: ∀e f,E i=some e→E j=some f→z2e base ops i j e f=true): ∃t,Stp P ops base A E j s t∧Stp P ops base A E i t s2:=by
 obtain⟨oi,hoi,rfl,i1,i2⟩:=z45 hi
 obtain⟨oj,hoj,rfl,j1,j2⟩:=z45 hj
 unfold z3o at hap
 simp only[hoi,hoj]at hap
 obtain⟨a1,a2,a3⟩:=Oper.apart_spec hap
 dsimp only at j1 j2
 have wj:W8 ops s.tm oj=W8 ops (z4i s.tm oi.dst (zah (E i))) oj:=(z3S (fun d hd=>a1 d hd)).symm
 have ej: ∀x∈oj.op.operands,z0D s.tm x=z0D (z4i s.tm oi.dst (zah (E i))) x:=fun x hx=>(z5D (fun d hd=>z1F hx (a1 d hd))).symm
 have hpj: ∀f,E j=some f→ ∀k∈f.rd++f.wr.map (·.1),s.hp[k]?=(zaw base ops i s.hp (E i))[k]?:=by
  intro f hf k hk
  rw[z4G]
  intro e he hk2
  have:=(z0O (hm e f he hf)).1 k hk2
  apply this
  simp only[List.mem_append]at hk ⊢
  rcases hk with hk|hk
  · exact .inl hk
  · exact .inr (.inl hk)
 have J:=z6Z (P:=P) (base:=base) (or:=A j) (s:=⟨z4i s.tm oi.dst (zah (E i)),zaw base ops i s.hp (E i)⟩) (t:=s) hoj j1 j2 wj ej hpj
 refine⟨_,J,?_⟩
 have wi:W8 ops (z4i s.tm oj.dst (zah (E j))) oi=W8 ops s.tm oi:=z3S (fun d hd=>a3 d hd)
 have ei: ∀x∈oi.op.operands,z0D (z4i s.tm oj.dst (zah (E j))) x=z0D s.tm x:=fun x hx=>z5D (fun d hd=>z1F hx (a3 d hd))
 have hpi: ∀e,E i=some e→ ∀k∈e.rd++e.wr.map (·.1),(zaw base ops j s.hp (E j))[k]?=s.hp[k]?:=by
  intro e he k hk
  rw[z4G]
  intro f hf hk2
  have:=(z0O (hm e f he hf)).2 k hk2
  apply this
  simp only[List.mem_append]at hk ⊢
  rcases hk with hk|hk
  · exact .inl hk
  · exact .inr (.inl hk)
 have I:=z6Z (P:=P) (base:=base) (or:=A i) (s:=s) (t:=⟨z4i s.tm oj.dst (zah (E j)),zaw base ops j s.hp (E j)⟩) hoi i1 i2 wi ei hpi
 unfold Stp
 rw[I]
 congr 2
 dsimp only
 rw[z8c s.tm (x:=oi.dst) (y:=oj.dst) _ _ (fun d hd=>a2 d hd)]
 congr 1
 cases hEi:E i with
 |none=>rfl
 |some e=>
  cases hEj:E j with
  |none=>rfl
  |some f=>
   obtain⟨m1,m2⟩:=z0O (hm e f hEi hEj)
   simp only[zaw]
   refine(z6C (fun x hx y hy he=>?_) (fun hal y hy he=>?_) (fun hal x hx he=>?_) (fun hal hal2 he=>?_)).symm
   · exact m1 x.1 (by simp;left;exact⟨x.2,hx⟩) (by simp;right;left;rw[he];exact⟨y.2,hy⟩)
   · exact m1 (base+Q9 ops i) (by simp[z32,hal]) (by simp;right;left;rw[←he];exact⟨y.2,hy⟩)
   · exact m2 (base+Q9 ops j) (by simp[z32,hal]) (by simp;right;left;rw[←he];exact⟨x.2,hx⟩)
   · exact m1 (base+Q9 ops i) (by simp[z32,hal]) (by rw[he];simp[z32,hal2])
theorem z3C : ∀ (l1 : List Nat) (i : Nat) (l2 : List Nat) (s s' : St), z27 P ops base A E (l1 ++ i :: l2) s s' →
    (∀j∈l1,z3o ops j i=true∧ ∀e f,E j=some e→E i=some f→z2e base ops j i e f=true)→ ∃s1,Stp P ops base A E i s s1∧z27 P ops base A E (l1++l2) s1 s'
 | [],i,l2,s,s',h,_=>h
 |j::l1,i,l2,s,s',h,hp=>by
  obtain⟨s1,h1,h2⟩:=h
  obtain⟨s2,h3,h4⟩:=z3C l1 i l2 s1 s' h2 (fun k hk=>hp k (by simp[hk]))
  obtain⟨t,h5,h6⟩:=swap h1 h3 (hp j (by simp)).1 (hp j (by simp)).2
  exact⟨t,h5,s2,h6,h4⟩
end
section
variable{P:Program}{w0:Start}{ops:List Oper}{base:Nat}{A:Nat→Option Or}{E:Nat→Option Eff}
def z5f(ops:List Oper)(base:Nat)(p p':Pl):Prop:= ∀k,(∀j o,ops[j]?=some o→z6B o.op=true→k≠base+Q9 ops j)→p' k=p k
theorem z3L {Q : Exit → Act → World → Prop} {s' : St} : ∀ (l : List Nat) (s : St) (a : Act) (w : World) (I : Imm) (p : Pl), z27 P ops base A E l s s' → l.Nodup →
    (∀i∈l,∀e,E i=some e→ ∀q∈e.ob,q)→SRel w0 s I p a w→z3z ops base l s.hp p→
    (∀a' w' I' p',I.le I'→SRel w0 s' I' p' a' w'→z5f ops base p p'→Q .normal a' w')→wpOps P ops.toArray Q l a w
 | [],s,a,w,I,p,h,_,_,R,_,hQ=>by
  simp only[z27]at h;subst h
  exact hQ a w I p I.le_refl R (fun _ _=>rfl)
 |i::l,s,a,w,I,p,h,hn,hob,R,hsl,hQ=>by
  obtain⟨s1,h1,h2⟩:=h
  rw[wpOps_cons]
  simp only[List.nodup_cons]at hn
  refine z5Z h1 (fun e he=>hob i (by simp) e he) R hn.1 hsl (fun a' w' I' p' k1 k2 k3 k4=>?_)
  refine z3L l s1 a' w' I' p' h2 hn.2 (fun j hj=>hob j (by simp[hj])) k2 k3 (fun a2 w2 I2 p2 m1 m2 m3=>?_)
  exact hQ a2 w2 I2 p2 (Imm.le_trans k1 m1) m2 (fun k hk=>(m3 k hk).trans (k4 k hk))
def rem(ops:List Oper)(listed:Array Bool):List Nat:=(List.range ops.length).filter fun i=>!listed.getD i true
theorem z5C {listed : Array Bool} {i : Nat} (h : i ∈ Region.ready .any ops.toArray listed) :
    i∈rem ops listed∧ ∃o,ops[i]?=some o∧ ∀e∈o.after,Region.binds .any e=true→listed.getD e.on false=true:=by
 unfold Region.ready at h
 rw[List.mem_filter]at h
 obtain⟨h1,h2⟩:=h
 simp only[Bool.and_eq_true]at h2
 obtain⟨h2,h3⟩:=h2
 refine⟨by unfold rem;rw[List.mem_filter];exact⟨by simpa using h1,h2⟩,?_⟩
 cases ho:ops[i]? with
 |none=>simp[ho]at h3
 |some o=>
  refine⟨o,rfl,fun e he hb=>?_⟩
  simp[ho]at h3
  obtain⟨k,hk,rfl⟩:=Array.mem_iff_getElem.1 he
  rcases h3 k hk with h4|h4
  · rw[hb]at h4;cases h4
  · rw[Array.getD_eq_getD_getElem?];exact h4
theorem z1E: ∀(k:Nat) (l:List Oper),U3 k l=true→ ∀i o,l[i]?=some o→ ∀e∈o.after,Region.binds .any e=true→e.on<k+i
 |k,[],_,i,o,h,_,_,_=>by simp at h
 |k,x::l,hb,i,o,h,e,he,hbe=>by
  simp only[U3,Bool.and_eq_true,List.all_eq_true]at hb
  obtain⟨h1,h2⟩:=hb
  cases i with
  |zero=>
   simp at h;subst h
   have:=h1 e (by simpa using he)
   simp[hbe]at this
   omega
  |succ i=>
   have:=z1E (k+1) l h2 i o (by simpa using h) e he hbe
   omega
theorem z5J(hb:U3 0 ops=true){listed:Array Bool}(hr:Region.ready .any ops.toArray listed=[]):rem ops listed=[]:=by
 cases hrem:rem ops listed with
 |nil=>rfl
 |cons i r=>
  exfalso
  have hmem:i∈rem ops listed:=by rw[hrem];simp
  unfold rem at hmem
  rw[List.mem_filter]at hmem
  obtain⟨h1,h2⟩:=hmem
  have hlt:i<ops.length:=by simpa using h1
  have hbefore: ∀j,j<i→listed.getD j true=true:=by
   intro j hj
   cases hl:listed.getD j true with
   |true=>rfl
   |false=>
    have hjm:j∈rem ops listed:=by
     unfold rem;rw[List.mem_filter];exact⟨by simp;omega,by simp[hl]⟩
    rw[hrem]at hjm
    have hsorted : (rem ops listed).Pairwise (· < ·) := by
     unfold rem;exact List.Pairwise.filter _ List.pairwise_lt_range
    rw[hrem]at hsorted
    simp only[List.mem_cons]at hjm
    rcases hjm with rfl|hjm
    · omega
    · have:=(List.pairwise_cons.1 hsorted).1 j hjm;omega
  have:i∈Region.ready .any ops.toArray listed:=by
   unfold Region.ready
   rw[List.mem_filter]
   refine⟨by simpa using hlt,?_⟩
   simp only[Bool.and_eq_true]
   refine⟨h2,?_⟩
   have ho:ops[i]?=some ops[i]:=List.getElem?_eq_getElem hlt
   simp only[List.getElem?_toArray,ho,Option.map_some,Option.getD_some]
   rw[Array.all_eq_true]
   intro k hk
   cases hbe:Region.binds .any (ops[i].after[k])with
   |false=>simp
   |true=>
    have hlt2:=z1E 0 ops hb i _ ho _ (Array.getElem_mem hk) hbe
    have hl:=hbefore (ops[i].after[k].on) (by omega)
    simp only[Bool.not_true,Bool.false_or]
    have hsz:listed.getD i true=false:=by simpa using h2
    have hi2:i<listed.size:=by
     rcases Nat.lt_or_ge i listed.size with h|h
     · exact h
     · rw[Array.getD_eq_getD_getElem?,Array.getElem?_eq_none h]at hsz;simp at hsz
    have hj2:(ops[i].after[k]).on<listed.size:=by omega
    rw[Array.getD_eq_getD_getElem?,Array.getElem?_eq_getElem hj2]at hl ⊢
    simpa using hl
  rw[hr]at this
  simp at this
theorem zcn{listed:Array Bool}{i:Nat}:rem ops (listed.setIfInBounds i true)=(rem ops listed).filter (fun j=>decide (j≠i)):=by
 unfold rem
 rw[List.filter_filter]
 refine List.filter_congr fun j _=>?_
 rw[Array.getD_eq_getD_getElem?,Array.getD_eq_getD_getElem?,Array.getElem?_setIfInBounds]
 by_cases e:i=j
 · subst e
   by_cases hs:i<listed.size
   · simp[hs]
   · simp[hs]
 · have e2: ¬j=i:=fun h=>e h.symm
   simp[e,e2]
theorem z69 {Q : Exit → Act → World → Prop} {s' : St} (hb : U3 0 ops = true)
    (hpair: ∀i j,i<j→j<ops.length→z6W base ops i (E i) j (E j)=true): ∀(fuel:Nat) (listed:Array Bool) (s:St) (a:Act) (w:World) (I:Imm) (p:Pl),
    (rem ops listed).length≤fuel→z27 P ops base A E (rem ops listed) s s'→
    (∀i∈rem ops listed,∀e,E i=some e→ ∀q∈e.ob,q)→SRel w0 s I p a w→z3z ops base (rem ops listed) s.hp p→
    (∀a' w' I' p',I.le I'→SRel w0 s' I' p' a' w'→z5f ops base p p'→Q .normal a' w')→wpAny P .any ops.toArray Q fuel listed a w
 |0,listed,s,a,w,I,p,hlen,hc,_,R,_,hQ=>by
  have hr:rem ops listed=[]:=List.eq_nil_of_length_eq_zero (by omega)
  refine⟨?_,?_⟩
  · cases hrd:Region.ready .any ops.toArray listed with
    |nil=>rfl
    |cons i r=>
     have:=(z5C (ops:=ops) (listed:=listed) (i:=i) (by rw[hrd];simp)).1
     rw[hr]at this;simp at this
  · rw[hr]at hc
    simp only[z27]at hc;subst hc
    exact hQ a w I p I.le_refl R (fun _ _=>rfl)
 |fuel+1,listed,s,a,w,I,p,hlen,hc,hob,R,hsl,hQ=>by
  refine⟨fun hr=>?_,fun i hi=>?_⟩
  · rw[z5J hb hr]at hc
    simp only[z27]at hc;subst hc
    exact hQ a w I p I.le_refl R (fun _ _=>rfl)
  · obtain⟨hmem,o,ho,hed⟩:=z5C hi
    have hsorted : (rem ops listed).Pairwise (· < ·) := by unfold rem; exact List.Pairwise.filter _ List.pairwise_lt_range
    have hnd:(rem ops listed).Nodup:=hsorted.imp (fun h=>Nat.ne_of_lt h)
    obtain⟨r1,r2,hsplit⟩:=List.append_of_mem hmem
    have hrem:rem ops (listed.setIfInBounds i true)=r1++r2:=by
     rw[zcn,hsplit,List.filter_append]
     rw[hsplit]at hnd
     have h1:i∉r1:=fun h=>by
      have:=(List.nodup_append.1 hnd).2.2 i h i (by simp)
      exact this rfl
     have h2:i∉r2:=(List.nodup_cons.1 (List.nodup_append.1 hnd).2.1).1
     congr 1
     · exact List.filter_eq_self.2 (fun j hj=>by simp;exact fun e=>h1 (e ▸ hj))
     · rw[List.filter_cons]
       simp
       exact fun j hj e=>h2 (e ▸ hj)
    rw[hsplit]at hc hsl hob hlen
    have hlti:i<ops.length:=(List.getElem?_eq_some_iff.1 ho).1
    obtain⟨s1,h1,h2⟩:=z3C r1 i r2 s s' hc (fun j hj=>by
     have hji:j<i:=by
      rw[hsplit]at hsorted
      exact(List.pairwise_append.1 hsorted).2.2 j hj i (by simp)
     have hp:=hpair j i hji hlti
     have hjm:j∈rem ops listed:=by rw[hsplit];simp[hj]
     have hjl:listed.getD j true=false:=by
      unfold rem at hjm;rw[List.mem_filter]at hjm;simpa using hjm.2
     have hnd2:z5j ops j i=false:=by
      cases hd:z5j ops j i with
      |false=>rfl
      |true=>
       exfalso
       unfold z5j at hd
       simp only[ho,List.any_eq_true,Bool.and_eq_true,beq_iff_eq]at hd
       obtain⟨e,he,hon,hbi⟩:=hd
       have:=hed e (by simpa using he) hbi
       rw[hon]at this
       rw[Array.getD_eq_getD_getElem?]at this hjl
       cases hg:listed[j]? with
       |none=>rw[hg]at hjl;simp at hjl
       |some b=>rw[hg]at hjl this;simp at hjl this;rw[hjl]at this;cases this
     unfold z6W at hp
     rw[hnd2,Bool.false_or,Bool.and_eq_true]at hp
     refine⟨hp.1,fun e f he hf=>?_⟩
     have:=hp.2
     rw[he,hf]at this
     exact this)
    refine z5Z (l:=r1++r2) h1 (fun e he=>hob i (by simp) e he) R ?_ ?_ (fun a' w' I' p' k1 k2 k3 k4=>?_)
    · rw[hsplit]at hnd
      intro h
      rcases List.mem_append.1 h with h|h
      · exact(List.nodup_append.1 hnd).2.2 i h i (by simp) rfl
      · exact(List.nodup_cons.1 (List.nodup_append.1 hnd).2.1).1 h
    · intro j hj
      exact hsl j (by simp at hj ⊢;rcases hj with rfl|hj|hj<;>simp[*])
    · refine z69 hb hpair fuel _ s1 a' w' I' p' ?_ (by rw[hrem];exact h2) ?_ k2 (by rw[hrem];exact k3) (fun a2 w2 I2 p2 m1 m2 m3=>?_)
      · rw[hrem];simp at hlen ⊢;omega
      · rw[hrem]
        intro j hj
        exact hob j (by simp at hj ⊢;rcases hj with hj|hj<;>simp[hj])
      · exact hQ a2 w2 I2 p2 (Imm.le_trans k1 m1) m2 (fun k hk=>(m3 k hk).trans (k4 k hk))
end
end Go.Fw
