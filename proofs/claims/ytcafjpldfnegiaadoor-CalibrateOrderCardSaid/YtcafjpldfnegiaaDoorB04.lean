/- A part of the proof that the law returns true for every input: an executor for the model's code, and what functions of the program compute. -/
import Derived.Test.YtcafjpldfnegiaaDoorB03
import Derived.WideLaws
import Derived.Laws.Rows
import Derived.Laws.Cells
import Derived.WalkKit
import Derived.Laws.MakeOwn
import Derived.Laws.CopyRow
import Derived.Laws.StructEq
import Derived.Laws.Small
open Go IntKind
namespace Go.Fw
mutual
theorem CV.rep_mono{I J:Imm}(h:I.le J): ∀(c:CV) (y:Value),c.rep I y→c.rep J y
 | .lit x,y,hr=>by simpa[CV.rep]using hr
 | .lst n es,y,hr=>by
  simp only[CV.rep]at hr ⊢
  obtain⟨a,cap,hy,hle,hr⟩:=hr
  refine⟨a,cap,hy,hle,?_⟩
  rcases hr with hr|⟨b,off,cs,ha,hb,hl⟩
  · exact .inl hr
  · exact .inr ⟨b,off,cs,ha,h _ _ hb,CV.repL_mono h es _ hl⟩
 | .agg cs,y,hr=>by
  simp only[CV.rep]at hr ⊢
  obtain⟨ys,hy,hl⟩:=hr
  exact⟨ys,hy,CV.repL_mono h cs _ hl⟩
 | .tup cs,y,hr=>by
  simp only[CV.rep]at hr ⊢
  obtain⟨ys,hy,hl⟩:=hr
  exact⟨ys,hy,CV.repL_mono h cs _ hl⟩
theorem CV.repL_mono{I J:Imm}(h:I.le J): ∀(cs:List CV) (l:List Value),CV.repL I cs l→CV.repL J cs l
 | [],l,hr=>by simpa[CV.repL]using hr
 |c::cs,l,hr=>by
  simp only[CV.repL]at hr ⊢
  obtain⟨y,ys,hl,h1,h2⟩:=hr
  exact⟨y,ys,hl,CV.rep_mono h c y h1,CV.repL_mono h cs ys h2⟩
end
mutual
theorem CV.rep_flat{I J:Imm}: ∀(c:CV) (y:Value),c.flat=true→c.rep I y→c.rep J y
 | .lit x,y,_,hr=>by simpa[CV.rep]using hr
 | .lst n es,y,hf,hr=>by simp[CV.flat]at hf
 | .agg cs,y,hf,hr=>by
  simp only[CV.rep]at hr ⊢
  obtain⟨ys,hy,hl⟩:=hr
  exact⟨ys,hy,CV.repL_flat cs _ (by simpa[CV.flat]using hf) hl⟩
 | .tup cs,y,hf,hr=>by
  simp only[CV.rep]at hr ⊢
  obtain⟨ys,hy,hl⟩:=hr
  exact⟨ys,hy,CV.repL_flat cs _ (by simpa[CV.flat]using hf) hl⟩
theorem CV.repL_flat{I J:Imm}: ∀(cs:List CV) (l:List Value),CV.flats cs=true→CV.repL I cs l→CV.repL J cs l
 | [],l,_,hr=>by simpa[CV.repL]using hr
 |c::cs,l,hf,hr=>by
  simp only[CV.repL]at hr ⊢
  simp only[CV.flats,Bool.and_eq_true]at hf
  obtain⟨y,ys,hl,h1,h2⟩:=hr
  exact⟨y,ys,hl,CV.rep_flat c y hf.1 h1,CV.repL_flat cs ys hf.2 h2⟩
end
def Pl.le(p q:Pl):Prop:= ∀i x,p i=some x→q i=some x
theorem Pl.le_refl(p:Pl):p.le p:=fun _ _ h=>h
theorem Imm.le_refl(p:Imm):p.le p:=fun _ _ h=>h
theorem Imm.le_trans{p q r:Imm}(h:p.le q)(k:q.le r):p.le r:=fun i x e=>k i x (h i x e)
theorem Pl.le_trans{p q r:Pl}(h:p.le q)(k:q.le r):p.le r:=fun i x e=>k i x (h i x e)
mutual
theorem MV.rep_mono{I J:Imm}{p q:Pl}(h:I.le J)(hp:p.le q): ∀(c:MV) (y:Value),c.rep I p y→c.rep J q y
 | .cv c,y,hr=>by simp only[MV.rep]at hr ⊢;exact CV.rep_mono h c y hr
 | .ptr i off,y,hr=>by
  simp only[MV.rep]at hr ⊢
  obtain⟨b,κ,h1,h2⟩:=hr
  exact⟨b,κ,hp _ _ h1,h2⟩
 | .sl i off len sz,y,hr=>by
  simp only[MV.rep]at hr ⊢
  obtain⟨b,κ,cap,h1,h2⟩:=hr
  exact⟨b,κ,cap,hp _ _ h1,h2⟩
 | .pim es off,y,hr=>by
  simp only[MV.rep]at hr ⊢
  obtain⟨b,o,cs,h1,h2,h3⟩:=hr
  exact⟨b,o,cs,h1,h _ _ h2,CV.repL_mono h es _ h3⟩
 | .agg cs,y,hr=>by
  simp only[MV.rep]at hr ⊢
  obtain⟨ys,hy,hl⟩:=hr
  exact⟨ys,hy,MV.repL_mono h hp cs _ hl⟩
 | .tup cs,y,hr=>by
  simp only[MV.rep]at hr ⊢
  obtain⟨ys,hy,hl⟩:=hr
  exact⟨ys,hy,MV.repL_mono h hp cs _ hl⟩
 | .fn g fs cs,y,hr=>by
  simp only[MV.rep]at hr ⊢
  obtain⟨f,c,hy,hl,hk⟩:=hr
  exact⟨f,c,hy,MV.repL_mono h hp fs _ hl,MV.repL_mono h hp cs _ hk⟩
 | .unk,y,hr=>by simp only[MV.rep]
theorem MV.repL_mono{I J:Imm}{p q:Pl}(h:I.le J)(hp:p.le q): ∀(cs:List MV) (l:List Value),MV.repL I p cs l→MV.repL J q cs l
 | [],l,hr=>by simpa[MV.repL]using hr
 |c::cs,l,hr=>by
  simp only[MV.repL]at hr ⊢
  obtain⟨y,ys,hl,h1,h2⟩:=hr
  exact⟨y,ys,hl,MV.rep_mono h hp c y h1,MV.repL_mono h hp cs ys h2⟩
end
section
variable{I:Imm}{p:Pl}
theorem CV.repL_iff: ∀(cs:List CV) (l:List Value),CV.repL I cs l↔cs.length=l.length∧ ∀(i:Nat) (c:CV) (y:Value),cs[i]?=some c→l[i]?=some y→c.rep I y
 | [],l=>by
  simp only[CV.repL]
  constructor
  · rintro rfl;simp
  · rintro⟨h,_⟩;exact List.length_eq_zero_iff.1 h.symm
 |c::cs,l=>by
  simp only[CV.repL]
  constructor
  · rintro⟨y,ys,rfl,h1,h2⟩
    obtain⟨h3,h4⟩:=(CV.repL_iff cs ys).1 h2
    refine⟨by simp[h3],fun i c' y' hc hy=>?_⟩
    cases i with
    |zero=>simp at hc hy;subst hc;subst hy;exact h1
    |succ i=>simp at hc hy;exact h4 i c' y' hc hy
  · rintro⟨h,k⟩
    cases l with
    |nil=>simp at h
    |cons y ys=>exact⟨y,ys,rfl,k 0 c y rfl rfl,(CV.repL_iff cs ys).2 ⟨by simpa using h,fun i c' y' hc hy=>k (i+1) c' y' (by simpa using hc) (by simpa using hy)⟩⟩
theorem MV.repL_iff: ∀(cs:List MV) (l:List Value),MV.repL I p cs l↔cs.length=l.length∧ ∀(i:Nat) (c:MV) (y:Value),cs[i]?=some c→l[i]?=some y→c.rep I p y
 | [],l=>by
  simp only[MV.repL]
  constructor
  · rintro rfl;simp
  · rintro⟨h,_⟩;exact List.length_eq_zero_iff.1 h.symm
 |c::cs,l=>by
  simp only[MV.repL]
  constructor
  · rintro⟨y,ys,rfl,h1,h2⟩
    obtain⟨h3,h4⟩:=(MV.repL_iff cs ys).1 h2
    refine⟨by simp[h3],fun i c' y' hc hy=>?_⟩
    cases i with
    |zero=>simp at hc hy;subst hc;subst hy;exact h1
    |succ i=>simp at hc hy;exact h4 i c' y' hc hy
  · rintro⟨h,k⟩
    cases l with
    |nil=>simp at h
    |cons y ys=>exact⟨y,ys,rfl,k 0 c y rfl rfl,(MV.repL_iff cs ys).2 ⟨by simpa using h,fun i c' y' hc hy=>k (i+1) c' y' (by simpa using hc) (by simpa using hy)⟩⟩
theorem MV.repL_length{cs:List MV}{l:List Value}(h:MV.repL I p cs l):cs.length=l.length:=((MV.repL_iff cs l).1 h).1
theorem CV.repL_length{cs:List CV}{l:List Value}(h:CV.repL I cs l):cs.length=l.length:=((CV.repL_iff cs l).1 h).1
theorem MV.repL_get{cs:List MV}{l:List Value}(h:MV.repL I p cs l){i:Nat}{c:MV}(hc:cs[i]?=some c): ∃y,l[i]?=some y∧c.rep I p y:=by
 obtain⟨h1,h2⟩:=(MV.repL_iff cs l).1 h
 have hi:i<cs.length:=(List.getElem?_eq_some_iff.1 hc).1
 have:i<l.length:=by omega
 exact⟨l[i],List.getElem?_eq_getElem this,h2 i c _ hc (List.getElem?_eq_getElem this)⟩
theorem CV.repL_get{cs:List CV}{l:List Value}(h:CV.repL I cs l){i:Nat}{c:CV}(hc:cs[i]?=some c): ∃y,l[i]?=some y∧c.rep I y:=by
 obtain⟨h1,h2⟩:=(CV.repL_iff cs l).1 h
 have hi:i<cs.length:=(List.getElem?_eq_some_iff.1 hc).1
 have:i<l.length:=by omega
 exact⟨l[i],List.getElem?_eq_getElem this,h2 i c _ hc (List.getElem?_eq_getElem this)⟩
theorem MV.repL_map_cv(cs:List CV)(l:List Value):MV.repL I p (cs.map .cv) l↔CV.repL I cs l:=by
 rw[MV.repL_iff,CV.repL_iff]
 simp only[List.length_map]
 refine and_congr Iff.rfl ⟨fun h i c y hc hy=>?_,fun h i c y hc hy=>?_⟩
 · have:=h i (.cv c) y (by simp[hc]) hy
   simpa[MV.rep]using this
 · rw[List.getElem?_map]at hc
   cases hcs:cs[i]? with
   |none=>simp[hcs]at hc
   |some c'=>simp[hcs]at hc;subst hc;simpa[MV.rep]using h i c' y hcs hy
theorem MV.repL_take{cs:List MV}{l:List Value}(n:Nat)(h:MV.repL I p cs l):MV.repL I p (cs.take n) (l.take n):=by
 obtain⟨h1,h2⟩:=(MV.repL_iff cs l).1 h
 refine(MV.repL_iff _ _).2 ⟨by simp[h1],fun i c y hc hy=>?_⟩
 rw[List.getElem?_take]at hc hy
 split at hc
 · rename_i hi;rw[if_pos hi]at hy;exact h2 i c y hc hy
 · cases hc
theorem MV.repL_drop{cs:List MV}{l:List Value}(n:Nat)(h:MV.repL I p cs l):MV.repL I p (cs.drop n) (l.drop n):=by
 obtain⟨h1,h2⟩:=(MV.repL_iff cs l).1 h
 refine(MV.repL_iff _ _).2 ⟨by simp[h1],fun i c y hc hy=>?_⟩
 rw[List.getElem?_drop]at hc hy
 exact h2 _ c y hc hy
theorem CV.repL_take{cs:List CV}{l:List Value}(n:Nat)(h:CV.repL I cs l):CV.repL I (cs.take n) (l.take n):=by
 obtain⟨h1,h2⟩:=(CV.repL_iff cs l).1 h
 refine(CV.repL_iff _ _).2 ⟨by simp[h1],fun i c y hc hy=>?_⟩
 rw[List.getElem?_take]at hc hy
 split at hc
 · rename_i hi;rw[if_pos hi]at hy;exact h2 i c y hc hy
 · cases hc
theorem CV.repL_drop{cs:List CV}{l:List Value}(n:Nat)(h:CV.repL I cs l):CV.repL I (cs.drop n) (l.drop n):=by
 obtain⟨h1,h2⟩:=(CV.repL_iff cs l).1 h
 refine(CV.repL_iff _ _).2 ⟨by simp[h1],fun i c y hc hy=>?_⟩
 rw[List.getElem?_drop]at hc hy
 exact h2 _ c y hc hy
theorem MV.repL_append{cs ds:List MV}{l m:List Value}(h:MV.repL I p cs l)(k:MV.repL I p ds m):MV.repL I p (cs++ds) (l++m):=by
 induction cs generalizing l with
 |nil=>simp only[MV.repL]at h;subst h;simpa using k
 |cons c cs ih=>
  simp only[MV.repL]at h
  obtain⟨y,ys,rfl,h1,h2⟩:=h
  simp only[List.cons_append,MV.repL]
  exact⟨y,ys++m,rfl,h1,ih h2⟩
theorem MV.repL_set{cs:List MV}{l:List Value}(h:MV.repL I p cs l)(i:Nat){c:MV}{y:Value}(hc:c.rep I p y):MV.repL I p (cs.set i c) (l.set i y):=by
 obtain⟨h1,h2⟩:=(MV.repL_iff cs l).1 h
 refine(MV.repL_iff _ _).2 ⟨by simp[h1],fun j c' y' hc' hy'=>?_⟩
 rw[List.getElem?_set]at hc' hy'
 by_cases e:i=j
 · subst e
   simp only[if_true]at hc' hy'
   split at hc'
   · rename_i hi
     rw[if_pos (by omega)]at hy'
     cases hc';cases hy';exact hc
   · cases hc'
 · simp only[e,if_false]at hc' hy'
   exact h2 j c' y' hc' hy'
theorem MV.cells_rep{m:MV}{y:Value}(h:m.rep I p y)(hk:m.known=true):MV.repL I p m.cells y.cells.toList:=by
 unfold MV.cells
 split
 · rename_i cs
   simp only[MV.rep,CV.rep]at h
   obtain⟨ys,rfl,hl⟩:=h
   exact(MV.repL_map_cv cs _).2 hl
 · rename_i x
   simp only[MV.rep,CV.rep]at h
   subst h
   refine(MV.repL_iff _ _).2 ⟨by simp,fun i c y' hc hy=>?_⟩
   rw[List.getElem?_map,hy]at hc
   simp at hc;subst hc
   simp[MV.rep,CV.rep]
 · rename_i ms
   simp only[MV.rep]at h
   obtain⟨ys,rfl,hl⟩:=h
   exact hl
 · rename_i h1 h2 h3
   have hy:y.cells= #[y]:=by
    cases m with
    |cv c=>
     cases c with
     |lit x=>exact absurd rfl (h2 x)
     |agg cs=>exact absurd rfl (h1 cs)
     |lst n es=>simp only[MV.rep,CV.rep]at h;obtain⟨a,cap,rfl,_⟩:=h;rfl
     |tup cs=>simp only[MV.rep,CV.rep]at h;obtain⟨ys,rfl,_⟩:=h;rfl
    |ptr i off=>simp only[MV.rep]at h;obtain⟨b,κ,_,rfl⟩:=h;rfl
    |sl i off len sz=>simp only[MV.rep]at h;obtain⟨b,κ,cap,_,rfl,_⟩:=h;rfl
    |pim es off=>simp only[MV.rep]at h;obtain⟨b,o,cs,rfl,_⟩:=h;rfl
    |agg ms=>exact absurd rfl (h3 ms)
    |tup cs=>simp only[MV.rep]at h;obtain⟨ys,rfl,_⟩:=h;rfl
    |fn g fs cs=>simp only[MV.rep]at h;obtain⟨f,c,rfl,_⟩:=h;rfl
    |unk=>simp[MV.known]at hk
   rw[hy]
   simp[MV.repL,h]
mutual
theorem MV.toCV_rep: ∀(m:MV) (c:CV) (y:Value),m.toCV=some c→m.rep I p y→c.rep I y
 | .cv c',c,y,h,hr=>by simp[MV.toCV]at h;subst h;simpa[MV.rep]using hr
 | .agg ms,c,y,h,hr=>by
  simp only[MV.toCV]at h
  split at h
  · rename_i cs hcs
    cases h
    simp only[MV.rep]at hr
    obtain⟨ys,rfl,hl⟩:=hr
    simp only[CV.rep]
    exact⟨ys,rfl,MV.toCVs_rep ms cs _ hcs hl⟩
  · cases h
 | .tup ms,c,y,h,hr=>by
  simp only[MV.toCV]at h
  split at h
  · rename_i cs hcs
    cases h
    simp only[MV.rep]at hr
    obtain⟨ys,rfl,hl⟩:=hr
    simp only[CV.rep]
    exact⟨ys,rfl,MV.toCVs_rep ms cs _ hcs hl⟩
  · cases h
 | .ptr ..,_,_,h,_=>by simp[MV.toCV]at h
 | .sl ..,_,_,h,_=>by simp[MV.toCV]at h
 | .pim ..,_,_,h,_=>by simp[MV.toCV]at h
 | .fn ..,_,_,h,_=>by simp[MV.toCV]at h
 | .unk,_,_,h,_=>by simp[MV.toCV]at h
theorem MV.toCVs_rep: ∀(ms:List MV) (cs:List CV) (l:List Value),MV.toCVs ms=some cs→MV.repL I p ms l→CV.repL I cs l
 | [],cs,l,h,hr=>by simp[MV.toCVs]at h;subst h;simpa[MV.repL,CV.repL]using hr
 |m::ms,cs,l,h,hr=>by
  simp only[MV.toCVs]at h
  split at h
  · rename_i c hc
    split at h
    · rename_i cs' hcs
      cases h
      simp only[MV.repL]at hr
      obtain⟨y,ys,rfl,h1,h2⟩:=hr
      simp only[CV.repL]
      exact⟨y,ys,rfl,MV.toCV_rep m c y hc h1,MV.toCVs_rep ms cs' ys hcs h2⟩
    · cases h
  · cases h
end
end
theorem Blw.trans{s:Start}{w w':World}(h:Blw s w)(k:RowKit.Below w.heap.size w w'):Blw s w':=
 ⟨k.os.trans h.os,k.tape.trans h.tape,k.output.trans h.output,Nat.le_trans h.size k.size,fun i hi=>by
  have:i<s.w.heap.size:=Nat.lt_of_not_le fun e=>hi (.inl e)
  rw[k.block i (Nat.lt_of_lt_of_le this h.size)];exact h.block i hi⟩
theorem Blw.alloc{s:Start}{w:World}(h:Blw s w)(o:Obj):Blw s (w.alloc o):=h.trans ((RowKit.Below.refl _ _).alloc (Nat.le_refl _) o)
theorem Blw.drew{s:Start}{w:World}(h:Blw s w):Blw s w.drew:=⟨h.os,h.tape,h.output,h.size,h.block⟩
theorem Start.own_ge{s:Start}{w:World}(h:Blw s w){b:Nat}(hb:w.heap.size≤b):s.own b:= .inl (Nat.le_trans h.size hb)
def Fine(P:Program)(r:Result Next)(R:Value→World→Prop):Prop:=
 match r with
 | .ok (.value v) w=>R v w
 | .ok .skip w=>R undef w
 | .ok (.enter f args) w=>Calls P f args w fun e w'=> ∃v,e= .returned v∧R v w'
 |_=>False
theorem Fine.upon {P : Program} {r : Result Next} {R : Value → World → Prop} (h : Fine P r R) {o : Oper} {a : Act} {next : Act → World → Prop} {Q : Exit → Act → World → Prop}
    (hn: ∀v w',R v w'→next (a.put o.dst v) w'):o.upon P a next Q r:=by
 unfold Fine at h
 split at h
 · exact hn _ _ h
 · exact hn _ _ h
 · rename_i f args w'
   rw[Oper.upon_enter]
   refine Calls.mono h ?_
   rintro e w'' ⟨v,rfl,hv⟩
   exact hn _ _ hv
 · exact h.elim
def Pl.upd(p:Pl)(i:Nat)(x:Nat×Nat):Pl:=fun j=>if j=i then some x else p j
def Post(w0:Start)(hp':List Blk)(I:Imm)(p:Pl)(slot:Nat)(al:Bool)(v:MV)(y:Value)(w':World):Prop:=
 ∃I' p',I.le I'∧p.le p'∧(∀j,j≠slot→p' j=p j)∧(al=false→p'=p)∧HRel w0 hp' I' p' w'∧v.rep I' p' y
theorem Post.same {w0 : Start} {hp : List Blk} {I : Imm} {p : Pl} {slot : Nat} {v : MV} {y : Value} {w : World} (h : HRel w0 hp I p w) (hv : v.rep I p y) (al : Bool) :
    Post w0 hp I p slot al v y w:=⟨I,p,I.le_refl,p.le_refl,fun _ _=>rfl,fun _=>rfl,h,hv⟩
theorem ImOk.lt{I:Imm}{w:World}(h:ImOk I w){b:Nat}{cs:List Value}(hb:I b=some cs):b<w.heap.size:=by
 obtain⟨c,T,fz,h1,_⟩:=h b cs hb
 exact(Array.getElem?_eq_some_iff.1 h1).1
theorem ImOk.alloc{I:Imm}{w:World}(h:ImOk I w)(o:Obj):ImOk I (w.alloc o):=by
 intro b cs hb
 obtain⟨c,T,fz,h1,h2⟩:=h b cs hb
 exact⟨c,T,fz,by rw[RowKit.Below.heap_alloc _ _ _ (h.lt hb)];exact h1,h2⟩
theorem Pl.le_upd{p:Pl}{i:Nat}(h:p i=none)(x:Nat×Nat):p.le (p.upd i x):=by
 intro j y hj
 unfold Pl.upd
 split
 · rename_i e;subst e;rw[h]at hj;cases hj
 · exact hj
theorem HRel.alloc {w0 : Start} {hp : List Blk} {I : Imm} {p : Pl} {w : World} (h : HRel w0 hp I p w) {slot : Nat} (hs : hp[slot]? = some none) (hp0 : p slot = none)
    {cells:List MV} {c:Array Value} (hc:MV.repL I p cells (c.toList.take cells.length)) (T:TypeId):
    HRel w0 (hp.set slot (some cells)) I (p.upd slot (w.heap.size,c.size)) (w.alloc (.cells c T)):=by
 have hle:p.le (p.upd slot (w.heap.size,c.size)):=Pl.le_upd hp0 _
 refine⟨h.below.alloc _,h.im.alloc _,h.imf,fun i cs hi=>?_,fun i j ci cj b κ b' κ' hi hj hne hb hb'=>?_⟩
 · rw[List.getElem?_set]at hi
   by_cases e:slot=i
   · subst e
     simp only[if_true]at hi
     split at hi
     · cases hi
       refine⟨w.heap.size,c.size,c,T,by simp[Pl.upd],heap_alloc_new _ _,rfl,MV.repL_mono I.le_refl hle _ _ hc,.inl h.below.size,?_⟩
       cases hI:I w.heap.size with
       |none=>rfl
       |some cs=>have:=h.im.lt hI;omega
     · cases hi
   · simp only[e,if_false]at hi
     obtain⟨b,κ,c',T',h1,h2,h3,h4,h5,h6⟩:=h.live i cs hi
     refine⟨b,κ,c',T',hle _ _ h1,?_,h3,MV.repL_mono I.le_refl hle _ _ h4,h5,h6⟩
     rw[RowKit.Below.heap_alloc]
     · exact h2
     · exact(Array.getElem?_eq_some_iff.1 h2).1
 · have key : ∀ (i : Nat) (ci : List MV) (b κ : Nat), i ≠ slot → (hp.set slot (some cells))[i]? = some (some ci) → p.upd slot (w.heap.size, c.size) i = some (b, κ) → hp[i]? = some (some ci) ∧ p i = some (b, κ) ∧ b < w.heap.size := by
     intro i ci b κ hne hi hb
     rw[List.getElem?_set,if_neg (fun e=>hne e.symm)]at hi
     unfold Pl.upd at hb
     rw[if_neg hne]at hb
     obtain⟨b2,κ2,c',T',h1,h2,_⟩:=h.live i ci hi
     rw[hb]at h1
     cases h1
     exact⟨hi,hb,(Array.getElem?_eq_some_iff.1 h2).1⟩
   by_cases e:i=slot
   · subst e
     have hj':=key j cj b' κ' (fun e=>hne e.symm) hj hb'
     unfold Pl.upd at hb
     rw[if_pos rfl]at hb
     cases hb
     omega
   · have hi':=key i ci b κ e hi hb
     by_cases e2:j=slot
     · subst e2
       unfold Pl.upd at hb'
       rw[if_pos rfl]at hb'
       cases hb'
       omega
     · have hj':=key j cj b' κ' e2 hj hb'
       exact h.inj i j ci cj b κ b' κ' hi'.1 hj'.1 hne hi'.2.1 hj'.2.1
theorem Post.alloc {w0 : Start} {hp : List Blk} {I : Imm} {p : Pl} {w : World} (h : HRel w0 hp I p w) {slot : Nat} (hs : hp[slot]? = some none) (hp0 : p slot = none)
    {cells:List MV} {c:Array Value} (hc:MV.repL I p cells (c.toList.take cells.length)) (T:TypeId) {v:MV} {y:Value}
    (hv: ∀q:Pl,p.le q→q slot=some (w.heap.size,c.size)→v.rep I q y):
    Post w0 (hp.set slot (some cells)) I p slot true v y (w.alloc (.cells c T)):=
 ⟨I,p.upd slot (w.heap.size,c.size),I.le_refl,Pl.le_upd hp0 _,fun j hj=>by simp[Pl.upd,hj],(fun hh=>by cases hh),h.alloc hs hp0 hc T,
  hv _ (Pl.le_upd hp0 _) (by simp[Pl.upd])⟩
theorem HRel.kill{w0:Start}{hp:List Blk}{I:Imm}{p:Pl}{w:World}(h:HRel w0 hp I p w)(i:Nat):HRel w0 (hp.set i none) I p w:=by
 have key: ∀(k:Nat) (ck:List MV),(hp.set i none)[k]?=some (some ck)→hp[k]?=some (some ck):=by
  intro k ck hk
  rw[List.getElem?_set]at hk
  split at hk
  · split at hk<;>cases hk
  · exact hk
 exact⟨h.below,h.im,h.imf,fun k ck hk=>h.live k ck (key k ck hk),fun k j ck cj b κ b' κ' hk hj hne=>h.inj k j ck cj b κ b' κ' (key k ck hk) (key j cj hj) hne⟩
theorem HRel.more{w0:Start}{hp:List Blk}{I:Imm}{p:Pl}{w:World}(h:HRel w0 hp I p w)(n:Nat):HRel w0 (hp++List.replicate n none) I p w:=by
 have key: ∀(k:Nat) (ck:List MV),(hp++List.replicate n none)[k]?=some (some ck)→hp[k]?=some (some ck):=by
  intro k ck hk
  rw[List.getElem?_append]at hk
  split at hk
  · exact hk
  · rw[List.getElem?_replicate]at hk;split at hk<;>cases hk
 exact⟨h.below,h.im,h.imf,fun k ck hk=>h.live k ck (key k ck hk),fun k j ck cj b κ b' κ' hk hj hne=>h.inj k j ck cj b κ b' κ' (key k ck hk) (key j cj hj) hne⟩
theorem HRel.drew{w0:Start}{hp:List Blk}{I:Imm}{p:Pl}{w:World}(h:HRel w0 hp I p w):HRel w0 hp I p w.drew:=
 ⟨h.below.drew,h.im,h.imf,h.live,h.inj⟩
theorem HRel.write {w0 : Start} {hp : List Blk} {I : Imm} {p : Pl} {w w' : World} (h : HRel w0 hp I p w) {i : Nat} {cells new : List MV} (hi : hp[i]? = some (some cells))
    {b κ:Nat} (hb:p i=some (b,κ)) {c:Array Value} {T:TypeId} (hw:w'.heap[b]?=some (.cells c T (0,0))) (hκ:c.size=κ)
    (hc:MV.repL I p new (c.toList.take new.length)) (hsz:w'.heap.size=w.heap.size) (hold: ∀k,k≠b→w'.heap[k]?=w.heap[k]?)
    (hos:w'.os=w.os) (htape:w'.tape=w.tape) (hout:w'.output=w.output):HRel w0 (hp.set i (some new)) I p w':=by
 obtain⟨b1,κ1,c1,T1,g1,g2,g3,g4,g5,g6⟩:=h.live i cells hi
 rw[hb]at g1;cases g1
 have him:ImOk I w':=by
  intro k cs hk
  have:k≠b:=by intro e;subst e;rw[g6]at hk;cases hk
  rw[hold k this];exact h.im k cs hk
 refine⟨⟨hos.trans h.below.os,htape.trans h.below.tape,hout.trans h.below.output,by have:=h.below.size;omega,fun k hk=>by rw[hold k (fun e=>hk (e ▸ g5))];exact h.below.block k hk⟩,him,h.imf,fun k ck hk=>?_,fun k j ck cj x κ x' κ' hk hj hne=>?_⟩
 · rw[List.getElem?_set]at hk
   by_cases e:i=k
   · subst e
     simp only[if_true]at hk
     split at hk
     · cases hk;exact⟨b,κ,c,T,hb,hw,hκ,hc,g5,g6⟩
     · cases hk
   · simp only[e,if_false]at hk
     obtain⟨b2,κ2,c2,T2,h1,h2,h3,h4,h5,h6⟩:=h.live k ck hk
     have hne:=h.inj i k cells ck b κ b2 κ2 hi hk e hb h1
     exact⟨b2,κ2,c2,T2,h1,by rw[hold _ (fun e=>hne e.symm)];exact h2,h3,h4,h5,h6⟩
 · have key : ∀ (m : Nat) (cm : List MV), (hp.set i (some new))[m]? = some (some cm) → ∃ cm', hp[m]? = some (some cm') := by
     intro m cm hm
     rw[List.getElem?_set]at hm
     by_cases e:i=m
     · subst e;exact⟨_,hi⟩
     · simp only[e,if_false]at hm;exact⟨_,hm⟩
   obtain⟨_,hk'⟩:=key k ck hk
   obtain⟨_,hj'⟩:=key j cj hj
   exact h.inj k j _ _ x κ x' κ' hk' hj' hne
section
variable{P:Program}{w0:Start}{w:World}{hp:List Blk}{I:Imm}{p:Pl}{slot:Nat}
theorem z89{T:TypeId}{d:TypeDesc}(h:P.underlying T=some d): ∃i,P.info? T=some i:=by
 unfold Program.underlying at h
 cases hi:P.info? T with
 |none=>simp[hi]at h
 |some i=>exact⟨i,rfl⟩
theorem Q6{T:TypeId}{i:TypeInfo}(h:P.info? T=some i):P.cellsOf T=i.size:=by simp[Program.cellsOf,h]
theorem z1c{T:TypeId}{i:TypeInfo}(h:P.info? T=some i):P.bytesOf T=i.bytes:=by simp[Program.bytesOf,h]
theorem z2i{T:TypeId}{d:TypeDesc}(h:P.underlying T=some d)(w:World):(isAgg T).run P w= .ok (z07 d) w:=by
 unfold isAgg
 rw[Sem.run_bind,run_underlying h w]
 cases d<;>simp[z07]
theorem z4z{T:TypeId}{d:TypeDesc}(h:P.underlying T=some d)(w:World):(sizeOf T).run P w= .ok (P.cellsOf T) w:=by
 obtain⟨i,hi⟩:=z89 h
 simp[sizeOf,typeInfo,hi,Program.cellsOf]
theorem Z4{T:TypeId}{i:TypeInfo}(hi:P.info? T=some i)(w:World):(sizeOf T).run P w= .ok (P.cellsOf T) w:=by
 simp[sizeOf,typeInfo,hi,Program.cellsOf]
theorem Z8 {T : TypeId} {cs : List MV} (h : Z6 P T = some cs) :
    ∃i v,P.info? T=some i∧i.zero=some v∧cs=v.cells.toList.map (fun x=> .cv (.lit x)):=by
 unfold Z6 at h
 split at h
 · rename_i i hi
   split at h
   · rename_i v hv;cases h;exact⟨i,v,hi,hv,rfl⟩
   · cases h
 · cases h
theorem z2l(l:List Value):MV.repL I p (l.map fun x=> .cv (.lit x)) l:=by
 refine(MV.repL_iff _ _).2 ⟨by simp,fun i c y hc hy=>?_⟩
 rw[List.getElem?_map,hy]at hc
 simp at hc;subst hc
 simp[MV.rep,CV.rep]
theorem z1Z{l:List Value}{cs:List MV}(h:MV.repL I p cs l):MV.repL I p cs (l.take cs.length):=by
 rw[MV.repL_length h,List.take_length];exact h
theorem z3r {b off n : Nat} {c : Array Value} {T U : TypeId} {fz : Nat × Nat} {d : TypeDesc} (hb : w.heap[b]? = some (.cells c T fz)) (hu : P.underlying U = some d)
    (hn:P.cellsOf U=n) {l:List Value} (hl:l=(c.toList.drop off).take n) (hlen:l.length=n) (hd:z07 d=false→n=1):
    ∃y,(loadVar U ⟨b,off,none⟩).run P w= .ok y w∧(z07 d=true→y= .agg l.toArray)∧(z07 d=false→l=[y]):=by
 have hcell: ∀j v,l[j]?=some v→w.cell? ((⟨b,off,none⟩:Addr).add j)=some v:=by
  intro j v hv
  have hadd:(⟨b,off,none⟩:Addr).add j=⟨b,off+j,none⟩:=by unfold Addr.add;split<;>simp_all
  rw[hadd,cell_of_row w b (off+j) c T fz hb]
  rw[hl,List.getElem?_take]at hv
  split at hv
  · rw[List.getElem?_drop]at hv;simpa using hv
  · cases hv
 cases hd':z07 d with
 |true=>
  refine⟨.agg l.toArray,?_,fun _=>rfl,fun h=>by cases h⟩
  have:=run_loadCells_list (P:=P) w ⟨b,off,none⟩ l hcell
  rw[hlen]at this
  simp[loadVar,z2i hu,hd',z4z hu,hn,this]
 |false=>
  have h1:=hd hd'
  rw[h1]at hlen
  obtain⟨y,rfl⟩:=List.length_eq_one_iff.1 hlen
  refine⟨y,?_,(fun h=>by cases h),fun _=>rfl⟩
  have hc0:=hcell 0 y rfl
  have hadd:(⟨b,off,none⟩:Addr).add 0=⟨b,off,none⟩:=by simp[Addr.add]
  rw[hadd]at hc0
  simp[loadVar,z2i hu,hd',hc0]
theorem z0r {T : TypeId} {cells : List MV} {m : MV} (h : U9 P T cells = some m) :
    ∃d,P.underlying T=some d∧(z07 d=true→m= .agg cells)∧(z07 d=false→cells=[m]):=by
 unfold U9 at h
 split at h
 · rename_i d hd
   refine⟨d,hd,fun ha=>?_,fun ha=>?_⟩
   · simp[ha]at h;exact h.symm
   · simp[ha]at h
     split at h
     · cases h;rfl
     · cases h
 · cases h
theorem z3A {T : TypeId} {cells : List MV} {m : MV} {d : TypeDesc} {l : List Value} {y : Value} (h : U9 P T cells = some m) (hd : P.underlying T = some d)
    (hl:MV.repL I p cells l) (h1:z07 d=true→y= .agg l.toArray) (h2:z07 d=false→l=[y]):m.rep I p y:=by
 obtain⟨d',hd',g1,g2⟩:=z0r h
 rw[hd]at hd';cases hd'
 cases ha:z07 d with
 |true=>
  rw[g1 ha,h1 ha]
  simp only[MV.rep]
  exact⟨_,rfl,by simpa using hl⟩
 |false=>
  have e1:=g2 ha;have e2:=h2 ha
  subst e1;subst e2
  simp only[MV.repL]at hl
  obtain⟨y',ys,e,hr,_⟩:=hl
  cases e;exact hr
theorem z4b{T:TypeId}{cells:List MV}{m:MV}{d:TypeDesc}(h:U9 P T cells=some m)(hd:P.underlying T=some d)(ha:z07 d=false):cells.length=1:=by
 obtain⟨d',hd',g1,g2⟩:=z0r h
 rw[hd]at hd';cases hd'
 rw[g2 ha];rfl
end
section
variable{P:Program}{w0:Start}{w:World}{hp:List Blk}{I:Imm}{p:Pl}{slot:Nat}
theorem z42 {or : Option Or} {T : TypeId} {a : MV} {e : Eff} (h : z7v P or hp T a = some e) (hob : ∀ q ∈ e.ob, q) (H : HRel w0 hp I p w)
    {ad:Value} (ha:a.rep I p ad): ∃y,(Instr.loadAt T ad).run P w= .ok y w∧e.v.rep I p y∧e.wr=[]∧e.al=none:=by
 unfold z7v at h
 have fin : ∀ (b off : Nat) (c : Array Value) (T' : TypeId) (fz : Nat × Nat) (m : MV) (cells : List MV), w.heap[b]? = some (.cells c T' fz) → ad = .pointer (some ⟨b, off, none⟩) →
     U9 P T cells=some m→MV.repL I p cells ((c.toList.drop off).take (P.cellsOf T))→cells.length=P.cellsOf T→
     ∃y,(Instr.loadAt T ad).run P w= .ok y w∧m.rep I p y:=by
  intro b off c T' fz m cells hb had hm hl hlen
  obtain⟨d,hd,_,_⟩:=z0r hm
  obtain⟨y,hr,h1,h2⟩:=z3r (P:=P) (w:=w) (off:=off) hb hd rfl rfl (by rw[←MV.repL_length hl,hlen]) (fun hf=>by rw[←hlen];exact z4b hm hd hf)
  exact⟨y,by subst had;simpa[Instr.loadAt,Instr.sureAddr]using hr,z3A hm hd hl h1 h2⟩
 have pre : ∀ (cells : List MV) (c : Array Value) (off n : Nat), MV.repL I p cells (c.toList.take cells.length) → ((cells.drop off).take n).length = n →
     MV.repL I p ((cells.drop off).take n) ((c.toList.drop off).take n):=by
  intro cells c off n hl hn
  have h1:=MV.repL_take n (MV.repL_drop off hl)
  have h2:((c.toList.take cells.length).drop off).take n=(c.toList.drop off).take n:=by
   rw[List.drop_take,List.take_take]
   congr 1
   simp at hn
   omega
  rw[h2]at h1;exact h1
 have prei : ∀ (es : List CV) (cs : List Value) (o off n : Nat), CV.repL I es ((cs.drop o).take es.length) → ((es.drop off).take n).length = n →
     MV.repL I p (((es.drop off).take n).map .cv) ((cs.drop (o+off)).take n):=by
  intro es cs o off n hl hn
  rw[MV.repL_map_cv]
  have h1:=CV.repL_take n (CV.repL_drop off hl)
  have h2:(((cs.drop o).take es.length).drop off).take n=(cs.drop (o+off)).take n:=by
   rw[List.drop_take,List.take_take,List.drop_drop]
   congr 1
   simp at hn
   omega
  rw[h2]at h1;exact h1
 split at h
 · rename_i i off
   simp only[MV.rep]at ha
   obtain⟨b,κ,hpi,had⟩:=ha
   split at h
   · rename_i cells hi
     obtain⟨b1,κ1,c,T1,g1,g2,g3,g4,g5,g6⟩:=H.live i cells hi
     rw[hpi]at g1;cases g1
     split at h
     · rename_i ms
       split at h
       · rename_i v hv
         cases h
         simp only[List.mem_cons,List.not_mem_nil,or_false,forall_eq_or_imp,forall_eq]at hob
         obtain⟨o1,o2⟩:=hob
         obtain⟨y,hy,hr⟩:=fin b off c T1 _ v ms g2 had hv (by have:=pre cells c off (P.cellsOf T) g4 (by rw[o1,o2]);rwa[o1]at this) o2
         exact⟨y,hy,hr,rfl,rfl⟩
       · cases h
     · rename_i m _
       split at h
       · rename_i v hv
         cases h
         simp only[List.mem_cons,List.not_mem_nil,or_false,forall_eq_or_imp,forall_eq]at hob
         obtain⟨o1,o2⟩:=hob
         have hone:(cells.drop off).take 1=[m]:=by
          rw[List.take_one,List.head?_drop,o1];rfl
         obtain⟨y,hy,hr⟩:=fin b off c T1 _ v [m] g2 had hv (by have:=pre cells c off 1 g4 (by rw[hone];rfl);rw[hone]at this;rwa[←o2]) (by rw[←o2];rfl)
         exact⟨y,hy,hr,rfl,rfl⟩
       · cases h
     · dsimp only at h
       split at h
       · rename_i hn
         split at h
         · rename_i v hv
           cases h
           obtain⟨y,hy,hr⟩:=fin b off c T1 _ v _ g2 had hv (pre cells c off _ g4 hn) hn
           exact⟨y,hy,hr,rfl,rfl⟩
         · cases h
       · cases h
   · cases h
 · rename_i es off
   simp only[MV.rep]at ha
   obtain⟨b,o,cs,had,hb,hl⟩:=ha
   obtain⟨c,T1,fz,g1,g2⟩:=H.im b cs hb
   split at h
   · rename_i cs' _
     split at h
     · rename_i v hv
       cases h
       simp only[List.mem_cons,List.not_mem_nil,or_false,forall_eq_or_imp,forall_eq]at hob
       obtain⟨o1,o2⟩:=hob
       obtain⟨y,hy,hr⟩:=fin b (o+off) c T1 _ v _ g1 had hv (by have:=prei es cs o off (P.cellsOf T) hl (by rw[o1,o2]);rw[o1]at this;rwa[g2]) (by simpa using o2)
       exact⟨y,hy,hr,rfl,rfl⟩
     · cases h
   · rename_i m _ _
     split at h
     · rename_i v hv
       cases h
       simp only[List.mem_cons,List.not_mem_nil,or_false,forall_eq_or_imp,forall_eq]at hob
       obtain⟨o1,o2⟩:=hob
       have hone:(es.drop off).take 1=[m]:=by
        rw[List.take_one,List.head?_drop,o1];rfl
       obtain⟨y,hy,hr⟩:=fin b (o+off) c T1 _ v [.cv m] g1 had hv (by have:=prei es cs o off 1 hl (by rw[hone];rfl);rw[hone]at this;rw[g2,←o2];exact this) (by rw[←o2];rfl)
       exact⟨y,hy,hr,rfl,rfl⟩
     · cases h
   · dsimp only at h
     split at h
     · rename_i hn
       unfold z0F at h
       split at h
       · rename_i v hv
         cases h
         obtain⟨y,hy,hr⟩:=fin b (o+off) c T1 _ v _ g1 had hv (by rw[g2];exact prei es cs o off _ hl hn) (by simpa using hn)
         exact⟨y,hy,hr,rfl,rfl⟩
       · cases h
     · cases h
 · cases h
theorem z7A{m:MV}{y:Value}(h:m.rep I p y)(ho:m.one=true):y.oneCell'=true:=by
 unfold MV.one at ho
 split at ho
 all_goals first
  |cases ho
  |skip
 rename_i h1 h2 h3 h4 h5 h6 h7
 cases m with
 |cv c=>
  cases c with
  |lit x=>
   simp only[MV.rep,CV.rep]at h
   subst h
   cases y<;>first|rfl|exact absurd rfl (h1 _)|exact absurd rfl (h2 _)
  |agg cs=>exact absurd rfl (h3 cs)
  |tup cs=>exact absurd rfl (h4 cs)
  |lst n es=>simp only[MV.rep,CV.rep]at h;obtain⟨a,cap,rfl,_⟩:=h;rfl
 |ptr i off=>simp only[MV.rep]at h;obtain⟨b,κ,_,rfl⟩:=h;rfl
 |sl i off len sz=>simp only[MV.rep]at h;obtain⟨b,κ,cap,_,rfl,_⟩:=h;rfl
 |pim es off=>simp only[MV.rep]at h;obtain⟨b,o,cs,rfl,_⟩:=h;rfl
 |agg ms=>exact absurd rfl (h5 ms)
 |tup ms=>exact absurd rfl (h6 ms)
 |fn g a b=>simp only[MV.rep]at h;obtain⟨f,c,rfl,_⟩:=h;rfl
 |unk=>exact absurd rfl h7
theorem z3O{ms:List MV}{l:List Value}(h:MV.repL I p ms l)(ho: ∀m∈ms,m.one=true): ∀y∈l,y.oneCell'=true:=by
 intro y hy
 obtain⟨i,hi⟩:=List.getElem?_of_mem hy
 obtain⟨h1,h2⟩:=(MV.repL_iff ms l).1 h
 have hlt:i<ms.length:=by have:=(List.getElem?_eq_some_iff.1 hi).1;omega
 exact z7A (h2 i _ y (List.getElem?_eq_getElem hlt) hi) (ho _ (List.getElem_mem hlt))
theorem z2R {cells new : List MV} {l ns : List Value} (off : Nat) (h : MV.repL I p cells l) (k : MV.repL I p new ns) :
    MV.repL I p (j4 cells off new) (l.take off++ns++l.drop (off+new.length)):=by
 unfold j4
 exact MV.repL_append (MV.repL_append (MV.repL_take _ h) k) (MV.repL_drop _ h)
theorem z1l{cells new:List MV}{off:Nat}(h:off+new.length≤cells.length):(j4 cells off new).length=cells.length:=by
 unfold j4;simp;omega
theorem z63 {T : TypeId} {a x : MV} {e : Eff} (h : z5S P hp T a x = some e) (hob : ∀ q ∈ e.ob, q) (H : HRel w0 hp I p w)
    {ad xv:Value} (ha:a.rep I p ad) (hx:x.rep I p xv):
    ∃w',(Instr.storeAt T ad xv).run P w= .ok () w'∧HRel w0 (Z5 hp slot e) I p w'∧e.v=undefM∧e.al=none:=by
 unfold z5S at h
 split at h
 · rename_i i off
   split at h
   · rename_i cells hi
     simp only[Bool.and_eq_true,decide_eq_true_eq]at h
     split at h
     · rename_i hc
       obtain⟨⟨⟨hk,hall⟩,hlen⟩,hty⟩:=hc
       cases h
       simp only[List.mem_cons,List.not_mem_nil,or_false,forall_eq]at hob
       rw[←hlen]at hob
       simp only[MV.rep]at ha
       obtain⟨b,κ,hpi,had⟩:=ha
       obtain⟨b1,κ1,c,T1,g1,g2,g3,g4,g5,g6⟩:=H.live i cells hi
       rw[hpi]at g1;cases g1
       have hcells:=MV.cells_rep hx hk
       have hlen2:=MV.repL_length hcells
       have hones:=z3O hcells (by simpa using hall)
       have hcl:=MV.repL_length g4
       have hst:=run_storeCells_at P b off T1 xv.cells.toList 0 c w g2 (by simp at hcl ⊢;simp at hlen2;omega) hones
       simp only[Nat.add_zero]at hst
       refine⟨_,?_,H.write (w':=w.setRow b (c.toList.take off++xv.cells.toList++c.toList.drop (off+xv.cells.toList.length)).toArray) hi hpi (setRow_heap w b c _ T1 _ g2) ?_ ?_ (by simp) (fun k hk=>setRow_other w b k _ hk) rfl rfl rfl,rfl,rfl⟩
       · obtain⟨ti,hti⟩: ∃i,P.info? T=some i:=by unfold z13 at hty;exact Option.isSome_iff_exists.1 hty
         have hsz:xv.cells.size=P.cellsOf T:=by rw[←hlen];simp at hlen2;exact hlen2.symm
         subst had
         simp[Instr.storeAt,Instr.sureAddr,storeVar,Z4 hti,hsz,hst]
       · simp at hcl hlen2 ⊢;omega
       · rw[z1l hob]
         have h2:=z2R off g4 hcells
         have h3 : (c.toList.take off ++ xv.cells.toList ++ c.toList.drop (off + xv.cells.toList.length)).toArray.toList.take cells.length =
             (c.toList.take cells.length).take off++xv.cells.toList++(c.toList.take cells.length).drop (off+x.cells.length):=by
          simp only
          rw[List.take_append,List.take_append,List.take_take,List.drop_take]
          simp at hcl hlen2
          rw[hlen2]
          have e2:List.take (cells.length-(List.take off c.toList).length) xv.cells.toList=xv.cells.toList:=List.take_of_length_le (by simp;omega)
          rw[e2,List.take_take,Nat.min_comm off]
          congr 2
          simp;omega
         rw[h3];exact h2
     · cases h
   · cases h
 · cases h
end
end Go.Fw
