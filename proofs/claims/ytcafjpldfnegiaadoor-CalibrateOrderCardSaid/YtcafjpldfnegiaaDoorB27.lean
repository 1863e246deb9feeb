/- A part of the proof that the law returns true for every input: an executor for the model's code, and what functions of the program compute. -/
import Derived.Test.YtcafjpldfnegiaaDoorB11
import Derived.Test.YtcafjpldfnegiaaDoorB15
import Derived.Test.YtcafjpldfnegiaaDoorB26
import Derived.KernelRfl
import Derived.Maps.RangeRun
open Go IntKind
namespace Go.Fw
set_option maxRecDepth 100000
theorem z5E(a b c d e:Int)(h1:decide (e.sign>0)=true)(f:SmlZ a)(g:SmlZ b)(i:SmlZ c)(j:SmlZ d)(k:SmlZ e)(l:(-9223372036854775808:Int)≤1∧(1:Int)≤9223372036854775807):PCall P 28 [n5C a b c d e] (.lit (.bool (decide ((↑(Z3 a b c d e):Int)<0)==false&&(bytesOf (↑(Z3 a b c d e):Int).natAbs==bytesOf 1&&true)))):=
 j3 (.c (bq 0 4) (.c (lq 2 2) (.r 12 (J3 a) (.c (bq 1 4) (.c (lq 2 2) (.r 24 (J3 b) (.c (bq 2 4) (.c (lq 2 2) (.r 36 (J3 c) (.c (bq 3 4) (.c (lq 2 2) (.r 48 (J3 d) (.r 58 (J3 e) (.r 62 (z05 e) (.b 65 h1 (.r 70 (z0W a b c d e f g i j k) (.r 71 (z0j (1:Int) l) .nil))))))))))))))))) (by kernel_rfl)
theorem z9G(a b c d e:Int)(h1:decide (e.sign>0)=false):PCall P 28 [n5C a b c d e] (.lit (.bool false)):=
 j3 (.c (bq 0 4) (.c (lq 2 2) (.r 12 (J3 a) (.c (bq 1 4) (.c (lq 2 2) (.r 24 (J3 b) (.c (bq 2 4) (.c (lq 2 2) (.r 36 (J3 c) (.c (bq 3 4) (.c (lq 2 2) (.r 48 (J3 d) (.r 58 (J3 e) (.r 62 (z05 e) (.b 65 h1 .nil))))))))))))))) (by kernel_rfl)
theorem z9V(k:Int)(h1:(k==2)=true)(a:(-9223372036854775808:Int)≤0∧(0:Int)≤9223372036854775807)(d:(-9223372036854775808:Int)≤1∧(1:Int)≤9223372036854775807):PCall P 72 [.lit (.int .i64 k)] (.agg [.lit (.bool false),.lit (.string (bytesOf 0)),.lit (.bool false),.lit (.string (bytesOf 1)),.lit (.bool false),.lit (.string (bytesOf 0)),.lit (.bool false),.lit (.string (bytesOf 0)),.lit (.bool false),.lit (.string (bytesOf 1))]):=
 j3 (.r 1 (X9 (0:Int) a) (.c (lq 10 10) (.b 7 h1 (.r 8 (z0j (1:Int) d) (.c (bq 1 4) (.c (lq 4 10) (.c (lq 10 10) .nil))))))) (by kernel_rfl)
theorem zbj(k:Int)(h1:(k==2)=false)(h2:(k==3)=true)(a:(-9223372036854775808:Int)≤0∧(0:Int)≤9223372036854775807)(d:(-9223372036854775808:Int)≤1∧(1:Int)≤9223372036854775807):PCall P 72 [.lit (.int .i64 k)] (.agg [.lit (.bool false),.lit (.string (bytesOf 0)),.lit (.bool false),.lit (.string (bytesOf 0)),.lit (.bool false),.lit (.string (bytesOf 1)),.lit (.bool false),.lit (.string (bytesOf 0)),.lit (.bool false),.lit (.string (bytesOf 1))]):=
 j3 (.r 1 (X9 (0:Int) a) (.c (lq 10 10) (.b 7 h1 (.b 10 h2 (.r 11 (z0j (1:Int) d) (.c (bq 2 4) (.c (lq 6 10) (.c (lq 10 10) .nil)))))))) (by kernel_rfl)
theorem za5(k:Int)(h1:(k==2)=false)(h2:(k==3)=false)(h3:(k==6)=true)(a:(-9223372036854775808:Int)≤0∧(0:Int)≤9223372036854775807)(d:(-9223372036854775808:Int)≤1∧(1:Int)≤9223372036854775807):PCall P 72 [.lit (.int .i64 k)] (.agg [.lit (.bool false),.lit (.string (bytesOf 0)),.lit (.bool false),.lit (.string (bytesOf 0)),.lit (.bool false),.lit (.string (bytesOf 0)),.lit (.bool false),.lit (.string (bytesOf 1)),.lit (.bool false),.lit (.string (bytesOf 1))]):=
 j3 (.r 1 (X9 (0:Int) a) (.c (lq 10 10) (.b 7 h1 (.b 10 h2 (.b 13 h3 (.r 14 (z0j (1:Int) d) (.c (bq 3 4) (.c (lq 8 10) (.c (lq 10 10) .nil))))))))) (by kernel_rfl)
theorem z90(a b c d e:Int):PCall P 34 [n5C a b c d e,.lit (.int .i64 1)] (.agg [.lit (.bool (decide (a<0))),.lit (.string (bytesOf a.natAbs)),.lit (.bool (decide (-b<0))),.lit (.string (bytesOf (-b).natAbs)),.lit (.bool (decide (c<0))),.lit (.string (bytesOf c.natAbs)),.lit (.bool (decide (-d<0))),.lit (.string (bytesOf (-d).natAbs)),.lit (.bool (decide (e<0))),.lit (.string (bytesOf e.natAbs))]):=
 j3 (.c (bq 1 4) (.r 30 (z03 b) (.c (bq 1 4) (.c (lq 4 10) (.c (bq 3 4) (.r 63 (z03 d) (.c (bq 3 4) (.c (lq 8 10) (.c (lq 10 10) .nil))))))))) (by kernel_rfl)
theorem z9w(a b c d e:Int):PCall P 34 [n5C a b c d e,.lit (.int .i64 2)] (.agg [.lit (.bool (decide (a<0))),.lit (.string (bytesOf a.natAbs)),.lit (.bool (decide (b<0))),.lit (.string (bytesOf b.natAbs)),.lit (.bool (decide (-c<0))),.lit (.string (bytesOf (-c).natAbs)),.lit (.bool (decide (-d<0))),.lit (.string (bytesOf (-d).natAbs)),.lit (.bool (decide (e<0))),.lit (.string (bytesOf e.natAbs))]):=
 j3 (.c (bq 2 4) (.r 42 (z03 c) (.c (bq 2 4) (.c (lq 6 10) (.c (bq 3 4) (.r 63 (z03 d) (.c (bq 3 4) (.c (lq 8 10) (.c (lq 10 10) .nil))))))))) (by kernel_rfl)
section
variable{P:Program}
def z6a:List Bool→Code→Code
 | [],c=>c
 |false::l,.seq x _=>z6a l x
 |true::l,.seq _ y=>z6a l y
 |_::l,.loop x=>z6a l x
 |_::l,.block _ x=>z6a l x
 |_,c=>c
def regM(P:Program)(c:Code)(s:St)(ors:Ors):Option (St×List Prop):=
 match c with
 | .region _ ra draw=>
  match z9S P ra.toList s.hp.length false (List.range ra.size) 0 ors {s with hp:=s.hp++List.replicate (Q9 ra.toList ra.size) none} [] []with
  | .ok _ _ s' ob es=>if draw&&!(z4a s.hp.length ra.toList es&&U3 0 ra.toList&&P.follows .mixedOrders)then none else some (s',ob)
  | .bad .. =>none
 |_=>none
theorem z4q {w0 : Start} {c : Code} {s s' : St} {ors : Ors} {ob : List Prop} {a : Act} {w : World} {I : Imm} {p : Pl} (h : regM P c s ors = some (s', ob)) (hob : ∀ q ∈ ob, q) (R : SRel w0 s I p a w) (hB : z2d s p) :
    c.wp P (z3M w0 s' I p) a w:=by
 unfold regM at h
 split at h
 · split at h
   · rename_i hm
     split at h
     · cases h
     · rename_i hd
       cases h
       exact z2U (ask:=false) hm (fun hdr=>by subst hdr;simpa using hd) hob R hB
   · cases h
 · cases h
theorem Ok.regM{f:FuncId}{c:Code}{k:List Item}{s s':St}{R:Goal}{ors:Ors}{ob:List Prop}(h:regM P c s ors=some (s',ob))(hob:AllP ob)(hk:Ok P f k s' R):Ok P f (.code c::k) s R:=by
 intro w0 I p a w b cs h1 h2 h3 h31 h32 h4 h5
 obtain⟨a',w1,⟨I',p',q1,q2,q3,q4⟩,hst⟩:=z0T (P:=P) (b:=b) (k:=k) (cs:=cs) (show c.wp P (fun e a' w'=>e= .normal∧ ∃I' p',I.le I'∧SRel w0 s' I' p' a' w'∧z2d s' p'∧p.le p') a w from z4q (w0:=w0) h hob.mem h4 h5)
 obtain⟨e,w',fr,k1,k2,k3⟩:=hk w0 I' p' a' w1 b cs h1 h2 (Imm.le_trans h3 q1) (Pl.le_trans h31 q4) h32 q2 q3
 exact⟨e,w',fr,k1,.of_steps hst k2,k3⟩
def OkX(P:Program)(f:FuncId)(todo:List Item)(s:St)(R:Goal)(X:Start→Pl→World→Prop):Prop:=
 ∀(w0:Start) (I:Imm) (p:Pl) (a:Act) (w:World) (b:Frame) (cs:List Frame),b.fn=f→b.kind= .normal→w0.im.le I→w0.pl.le p→(∀k,R.n≤k→w0.pl k=none)→SRel w0 s I p a w→z2d s p→X w0 p w→
  ∃e w' fr,Fin w0 R e w'∧Comes P (lone (b.at a todo) cs w) (lone fr cs w') e∧fr.fn=f∧fr.leaving P w' e
theorem OkX.of{f:FuncId}{todo:List Item}{s:St}{R:Goal}{X:Start→Pl→World→Prop}(h:Ok P f todo s R):OkX P f todo s R X:=
 fun w0 I p a w b cs h1 h2 h3 h31 h32 h4 h5 _=>h w0 I p a w b cs h1 h2 h3 h31 h32 h4 h5
theorem OkX.step {f : FuncId} {todo todo' : List Item} {s : St} {R : Goal} {X : Start → Pl → World → Prop} (h : OkX P f todo' s R X)
    (hs: ∀(b:Frame) (a:Act) (cs:List Frame) (w:World),step P (lone (b.at a todo) cs w)= .next (lone (b.at a todo') cs w)):OkX P f todo s R X:=by
 intro w0 I p a w b cs h1 h2 h3 h31 h32 h4 h5 h6
 obtain⟨e,w',fr,k1,k2,k3⟩:=h w0 I p a w b cs h1 h2 h3 h31 h32 h4 h5 h6
 exact⟨e,w',fr,k1,.of_steps (.one (hs b a cs w)) k2,k3⟩
theorem OkX.cond {f : FuncId} {c : Operand} {x y : Code} {k : List Item} {s : St} {R : Goal} {X : Start → Pl → World → Prop} {t d : Bool} (hc : z0D s.tm c = .cv (.lit (.bool t))) (htd : t = d)
    (h:OkX P f (.code (if d then x else y)::k) s R X):OkX P f (.code (.cond c x y)::k) s R X:=by
 intro w0 I p a w b cs h1 h2 h3 h31 h32 h4 h5 h6
 obtain⟨e,w',fr,k1,k2,k3⟩:=h w0 I p a w b cs h1 h2 h3 h31 h32 h4 h5 h6
 refine⟨e,w',fr,k1,.of_steps (.one (step_cond ?_)) k2,k3⟩
 have:=z3E h4.tm c
 rw[hc]at this
 rw[J2 this,htd]
structure XI(r:Nat)(es:Array MapEntry)(clock:Nat)(seen:Array Nat)(w0:Start)(p:Pl)(w:World):Prop where
 m: ∃bm,w.heap[bm]?=some (.map es clock)∧w.heap[r]?=some (.mapIter (some bm) clock seen clock)∧ ∀i κ,p i≠some (bm,κ)
 pr: ∀i κ,p i≠some (r,κ)
 own:w0.own r
 ps: ∀i b κ,p i=some (b,κ)→w0.own b
def z1P:List Blk→Bool
 | []=>true
 |some _::l=>z1P l
 |none::_=>false
theorem z0S: ∀(l:List Blk) (i:Nat),z1P l=true→i<l.length→ ∃c,l[i]?=some (some c)
 |some c::l,0,_,_=>⟨c,rfl⟩
 |some c::l,i+1,h,hi=>by simpa using z0S l i h (by simpa using hi)
 |none::l,i,h,_=>by simp[z1P]at h
 | [],i,_,hi=>by simp at hi
theorem z8k{w0:Start}{s:St}{I:Imm}{p:Pl}{a:Act}{w:World}(h:SRel w0 s I p a w):SRel ⟨w,I,p⟩ s I p a w:=by
 refine⟨h.tm,h.defers,⟨rfl,rfl,rfl,Nat.le_refl _,fun _ _=>rfl⟩,h.hp.im,fun b hb=> .inl hb,fun i cells hi=>?_,h.hp.inj⟩
 obtain⟨b,κ,c,T,g1,g2,g3,g4,_,g6⟩:=h.hp.live i cells hi
 exact⟨b,κ,c,T,g1,g2,g3,g4,.inr ⟨i,κ,g1⟩,g6⟩
theorem z93{w0:Start}{I:Imm}{p:Pl}{w:World}(hB:Blw w0 w)(hps: ∀i b κ,p i=some (b,κ)→w0.own b){b:Nat}(h:(⟨w,I,p⟩:Start).own b):w0.own b:=by
 rcases h with h|⟨i,κ,h⟩
 · exact .inl (Nat.le_trans hB.size h)
 · exact hps i b κ h
theorem zaO{w0:Start}{s s':St}{I I':Imm}{p p':Pl}{a a':Act}{w w':World}(h:SRel w0 s I p a w)(hps: ∀i b κ,p i=some (b,κ)→w0.own b)(h':SRel ⟨w,I,p⟩ s' I' p' a' w'):SRel w0 s' I' p' a' w':=by
 have ho:= @z93 w0 I p w h.hp.below hps
 refine⟨h'.tm,h'.defers,⟨h'.hp.below.os.trans h.hp.below.os,h'.hp.below.tape.trans h.hp.below.tape,h'.hp.below.output.trans h.hp.below.output,Nat.le_trans h.hp.below.size h'.hp.below.size,fun k hk=>?_⟩,h'.hp.im,fun b hb=>?_,fun i cells hi=>?_,h'.hp.inj⟩
 · rw[h'.hp.below.block k (fun hk'=>hk (ho hk')),h.hp.below.block k hk]
 · rcases h'.hp.imf b hb with g|g
   · exact h.hp.imf b g
   · exact .inr (ho g)
 · obtain⟨b,κ,c,T,g1,g2,g3,g4,g5,g6⟩:=h'.hp.live i cells hi
   exact⟨b,κ,c,T,g1,g2,g3,g4,ho g5,g6⟩
theorem OkX.region {f : FuncId} {c : Code} {k : List Item} {s s' s'' : St} {R : Goal} {ors : Ors} {ob : List Prop} {r : Nat} {es : Array MapEntry} {clock : Nat} {seen : Array Nat} (keep σ : List Nat)
    (h : regM P c s ors = some (s', ob)) (hob : AllP ob) (hl : z1P s.hp = true) (hσ : V8 σ = true) (hσl : σ.all (· < s.hp.length) = true) (hR : R.n = 0) (hs : s'' = s'.sel keep σ) (hb : AllP (CellsC s''.hp))
    (hk:OkX P f k s'' R (XI r es clock seen)):OkX P f (.code c::k) s R (XI r es clock seen):=by
 intro w0 I p a w b cs h1 h2 h3 h31 h32 h4 h5 h6
 have hlive: ∀i x,p i=some x→ ∃cells,s.hp[i]?=some (some cells):=fun i x hx=>z0S _ i hl (by
  rcases Nat.lt_or_ge i s.hp.length with hi|hi
  · exact hi
  · rw[h5 i hi]at hx;cases hx)
 have hdom: ∀i,i<s.hp.length→ ∃x,p i=some x:=fun i hi=>by
  obtain⟨c,hc⟩:=z0S _ i hl hi
  obtain⟨b,κ,_,_,g1,_⟩:=h4.hp.live i c hc
  exact⟨_,g1⟩
 obtain⟨a',w1,⟨I',p',q1,q2,q3,q4⟩,hst⟩:=z0T (P:=P) (b:=b) (k:=k) (cs:=cs) (show c.wp P (fun e a' w'=>e= .normal∧ ∃I' p',I.le I'∧SRel ⟨w,I,p⟩ s' I' p' a' w'∧z2d s' p'∧p.le p') a w from z4q h hob.mem (z8k h4) h5)
 have hat: ∀i x,(p'.at σ) i=some x→ ∃j,σ[i]?=some j∧p j=some x:=fun i x hx=>by
  simp only[Pl.at]at hx
  split at hx
  · rename_i j hj
    have hjl:j<s.hp.length:=by simpa using List.all_eq_true.1 hσl j (List.mem_of_getElem? hj)
    obtain⟨y,hy⟩:=hdom j hjl
    have:=q4 j y hy
    rw[this]at hx
    cases hx
    exact⟨j,hj,hy⟩
  · cases hx
 have q5:=zaO h4 h6.ps q2
 subst hs
 obtain⟨bm,m1,m2,m4⟩:=h6.m
 have hnb: ∀x,x<w.heap.size→(∀i κ,p i≠some (x,κ))→w1.heap[x]?=w.heap[x]?:=fun x hx hp=>q2.hp.below.block x (fun ho=>by
  rcases ho with ho|⟨i,κ,ho⟩
  · exact absurd ho (Nat.not_le.2 hx)
  · exact hp i κ ho)
 have hlt: ∀x (o:Obj),w.heap[x]?=some o→x<w.heap.size:=fun x o hx=>by
  rcases Nat.lt_or_ge x w.heap.size with g|g
  · exact g
  · rw[Array.getElem?_eq_none g]at hx;cases hx
 obtain ⟨e, w', fr, k1, k2, k3⟩ := hk w0 I' (p'.at σ) a' w1 b cs h1 h2 (Imm.le_trans h3 q1) (fun i x hx => by rw [h32 i (by omega)] at hx; cases hx) h32 ⟨z3R _ _ _ q5.tm, q5.defers, q5.hp.sel hσ hb.mem⟩ (fun i hi => by
     simp only[St.sel,List.length_map]at hi
     simp[Pl.at,List.getElem?_eq_none_iff.2 hi])
  ⟨⟨bm,(hnb bm (hlt _ _ m1) m4).trans m1,(hnb r (hlt _ _ m2) h6.pr).trans m2,fun i κ hi=>by obtain⟨j,_,hj⟩:=hat i _ hi;exact m4 j κ hj⟩,
   fun i κ hi=>by obtain⟨j,_,hj⟩:=hat i _ hi;exact h6.pr j κ hj,h6.own,fun i b κ hi=>by obtain⟨j,_,hj⟩:=hat i _ hi;exact h6.ps j b κ hj⟩
 exact⟨e,w',fr,k1,.of_steps hst k2,k3⟩
def zam(keep σ:List Nat):Option (St×List Prop)→Option (St×List Prop)
 |some (s,ob)=>some (s.sel keep σ,ob++CellsC (σ.map fun i=>s.hp.getD i none))
 |none=>none
theorem z4L {keep σ : List Nat} {o : Option (St × List Prop)} {s : St} {ob : List Prop} (h : zam keep σ o = some (s, ob)) :
    ∃s0 ob0,o=some (s0,ob0)∧s=s0.sel keep σ∧ob=ob0++CellsC (σ.map fun i=>s0.hp.getD i none):=by
 unfold zam at h
 split at h
 · rename_i s0 ob0
   simp only[Option.some.injEq,Prod.mk.injEq]at h
   obtain⟨rfl,rfl⟩:=h
   exact⟨_,_,rfl,rfl,rfl⟩
 · cases h
theorem Ok.regS{f:FuncId}{c:Code}{k:List Item}{s s':St}{R:Goal}{ors:Ors}{ob:List Prop}(keep σ:List Nat)(h:zam keep σ (Fw.regM P c s ors)=some (s',ob))(hσ:V8 σ=true)(hob:Ps ob)(hn:j7 R.n σ=true)(hk:Ok P f k s' R):Ok P f (.code c::k) s R:=by
 obtain⟨s0,ob0,h0,rfl,rfl⟩:=z4L h
 exact Ok.regM h0 hob.all.left (Ok.sel keep σ hσ hn hob.all.right hk)
theorem OkX.regS {f : FuncId} {c : Code} {k : List Item} {s s' : St} {R : Goal} {ors : Ors} {ob : List Prop} {r : Nat} {es : Array MapEntry} {clock : Nat} {seen : Array Nat} (keep σ : List Nat)
    (h : zam keep σ (Fw.regM P c s ors) = some (s', ob)) (hσ : V8 σ = true) (hob : Ps ob) (hl : z1P s.hp = true) (hσl : σ.all (· < s.hp.length) = true) (hR : R.n = 0) (hk : OkX P f k s' R (XI r es clock seen)) : OkX P f (.code c :: k) s R (XI r es clock seen) := by
 obtain⟨s0,ob0,h0,rfl,rfl⟩:=z4L h
 exact OkX.region keep σ h0 hob.all.left hl hσ hσl hR rfl hob.all.right hk
end
def icl(z:Int):List MV:=[.cv (.lit (.bool (decide (z<0)))),.cv (.lit (.string (bytesOf z.natAbs)))]
def cl4(X:Nat→Int):List MV:=[.cv (.lit (.bool (decide (X 0<0)))),.cv (.lit (.string (bytesOf (X 0).natAbs))),.cv (.lit (.bool (decide (X 1<0)))),.cv (.lit (.string (bytesOf (X 1).natAbs))),.cv (.lit (.bool (decide (X 2<0)))),.cv (.lit (.string (bytesOf (X 2).natAbs))),.cv (.lit (.bool (decide (X 3<0)))),.cv (.lit (.string (bytesOf (X 3).natAbs)))]
def cl5(X:Nat→Int)(e:Int):List MV:=[.cv (.lit (.bool (decide (X 0<0)))),.cv (.lit (.string (bytesOf (X 0).natAbs))),.cv (.lit (.bool (decide (X 1<0)))),.cv (.lit (.string (bytesOf (X 1).natAbs))),.cv (.lit (.bool (decide (X 2<0)))),.cv (.lit (.string (bytesOf (X 2).natAbs))),.cv (.lit (.bool (decide (X 3<0)))),.cv (.lit (.string (bytesOf (X 3).natAbs))),.cv (.lit (.bool (decide (e<0)))),.cv (.lit (.string (bytesOf e.natAbs)))]
theorem z79(z:Int):CvL (icl z):=by intro m hm;simp[icl]at hm;rcases hm with rfl|rfl<;>exact⟨_,rfl⟩
theorem z5P(X:Nat→Int):CvL (cl4 X):=by intro m hm;simp[cl4]at hm;rcases hm with rfl|rfl|rfl|rfl|rfl|rfl|rfl|rfl<;>exact⟨_,rfl⟩
theorem z0i(X:Nat→Int)(e:Int):CvL (cl5 X e):=by intro m hm;simp[cl5]at hm;rcases hm with rfl|rfl|rfl|rfl|rfl|rfl|rfl|rfl|rfl|rfl<;>exact⟨_,rfl⟩
def z7O(X Y C:Nat→Int)(e e':Int)(i:Nat):St:=⟨J6 62 [(2,.ptr 0 0),(3,.ptr 1 0),(4,.ptr 2 0),(5,.ptr 3 0),(12,.agg (cl4 X)),(13,.cv (.lit (.int .i64 (i:Int))))],
 [some (cl5 X e),some (cl5 Y e'),some (cl5 (fun _=>0) 0),some (cl4 C)]⟩
def z4k(X Y C:Nat→Int)(e e':Int)(i j:Nat):St:=⟨J6 62 [(2,.ptr 0 0),(3,.ptr 1 0),(4,.ptr 2 0),(5,.ptr 3 0),(6,.cv (.lit (.int .i64 (i:Int)))),(7,.ptr 4 0),(12,.agg (cl4 X)),(13,.cv (.lit (.int .i64 (i:Int)))),(18,.agg (cl4 Y)),(19,.cv (.lit (.int .i64 (j:Int))))],
 [some (cl5 X e),some (cl5 Y e'),some (cl5 (fun _=>0) 0),some (cl4 C),some (icl (X i))]⟩
def sq4(i j:Nat):Int:=[1,2,3,6].getD (i&&&j) 0
def zfE(C:Nat→Int)(k:Nat)(z:Int):Nat→Int:=fun n=>match Nat.beq n k with|true=>z|false=>C n
theorem zei (X Y C : Nat → Int) (e e' : Int) : ∀ i j, i < 4 → j < 4 →
    (z71 P 35 (loopHead P 35 1) (z4k X Y C e e' i j) [(11,.b true),(19,.stop)] false 100000).pick [2,3,4,5,6,7,12,13,18,19] [0,1,2,3,4]=
     some (loopHead P 35 1,z4k X Y C e e' i (j+1),[(0:Int)≤(j:Int)∧(j:Int)<4,2≤2,((bytesOf (X i).natAbs).toList==[])=true,CvL (cl5 X e),CvL (cl5 Y e'),CvL (cl5 (fun _=>0) 0),CvL (cl4 C),CvL (icl (X i))]):=by
 intro i j hi hj
 have hi':i=0∨i=1∨i=2∨i=3:=by omega
 have hj':j=0∨j=1∨j=2∨j=3:=by omega
 rcases hi' with rfl|rfl|rfl|rfl<;>rcases hj' with rfl|rfl|rfl|rfl<;>(show _=_;kernel_rfl)
theorem zfr (X Y C : Nat → Int) (e e' : Int) : ∀ i j, i < 4 → j < 4 →
    (z71 P 35 (loopHead P 35 1) (z4k X Y C e e' i j) [(11,.b false),(16,.b true),(19,.stop)] false 100000).pick [2,3,4,5,6,7,12,13,18,19] [0,1,2,3,4]=
     some (loopHead P 35 1,z4k X Y C e e' i (j+1),[(0:Int)≤(j:Int)∧(j:Int)<4,2≤2,((bytesOf (X i).natAbs).toList==[])=false,((bytesOf (Y j).natAbs).toList==[])=true,CvL (cl5 X e),CvL (cl5 Y e'),CvL (cl5 (fun _=>0) 0),CvL (cl4 C),CvL (icl (X i))]):=by
 intro i j hi hj
 have hi':i=0∨i=1∨i=2∨i=3:=by omega
 have hj':j=0∨j=1∨j=2∨j=3:=by omega
 rcases hi' with rfl|rfl|rfl|rfl<;>rcases hj' with rfl|rfl|rfl|rfl<;>(show _=_;kernel_rfl)
theorem zeq (X Y C : Nat → Int) (e e' : Int) : ∀ i j, i < 4 → j < 4 →
    (z71 P 35 (loopHead P 35 1) (z4k X Y C e e' i j) [(11,.b false),(16,.b false),(23,.r (Q2 (sq4 i j))),(37,.r (Q2 (X i*Y j))),(38,.r (Q2 (sq4 i j*(X i*Y j)))),(39,.r (Q2 (C (i^^^j)+sq4 i j*(X i*Y j)))),(44,.stop)] false 100000).pick [2,3,4,5,6,7,12,13,18,19] [0,1,2,3,4]=
     some (loopHead P 35 1,z4k X Y (zfE C (i^^^j) (C (i^^^j)+sq4 i j*(X i*Y j))) e e' i (j+1),[(0:Int)≤(j:Int)∧(j:Int)<4,2≤2,((bytesOf (X i).natAbs).toList==[])=false,((bytesOf (Y j).natAbs).toList==[])=false,
      (0:Int)≤((i&&&j:Nat):Int)∧((i&&&j:Nat):Int)<4,PCall P 26 [J1 (sq4 i j)] (Q2 (sq4 i j)),2≤2,(0:Int)≤((i^^^j:Nat):Int)∧((i^^^j:Nat):Int)<4,
      PCall P 39 [Q2 (X i),Q2 (Y j)] (Q2 (X i*Y j)),PCall P 39 [Q2 (sq4 i j),Q2 (X i*Y j)] (Q2 (sq4 i j*(X i*Y j))),PCall P 32 [Q2 (C (i^^^j)),Q2 (sq4 i j*(X i*Y j))] (Q2 (C (i^^^j)+sq4 i j*(X i*Y j))),
      (0:Int)≤((i^^^j:Nat):Int)∧((i^^^j:Nat):Int)<4,(i^^^j)*2+2≤8,
      CvL (cl5 X e),CvL (cl5 Y e'),CvL (cl5 (fun _=>0) 0),CvL (cl4 (zfE C (i^^^j) (C (i^^^j)+sq4 i j*(X i*Y j)))),CvL (icl (X i))]):=by
 intro i j hi hj
 have hi':i=0∨i=1∨i=2∨i=3:=by omega
 have hj':j=0∨j=1∨j=2∨j=3:=by omega
 rcases hi' with rfl|rfl|rfl|rfl<;>rcases hj' with rfl|rfl|rfl|rfl<;>(show _=_;kernel_rfl)
theorem zeZ (X Y C : Nat → Int) (e e' : Int) : ∀ i, i < 4 →
    (z71 P 35 (loopHead P 35 0) (z7O X Y C e e' i) [(11,.stop)] false 100000).pick [2,3,4,5,6,7,12,13,18,19] [0,1,2,3,4]=
     some (loopHead P 35 1,z4k X Y C e e' i 0,[(0:Int)≤(i:Int)∧(i:Int)<4,2≤2,CvL (cl5 X e),CvL (cl5 Y e'),CvL (cl5 (fun _=>0) 0),CvL (cl4 C),CvL (icl (X i))]):=by
 intro i hi
 have hi':i=0∨i=1∨i=2∨i=3:=by omega
 rcases hi' with rfl|rfl|rfl|rfl<;>(show _=_;kernel_rfl)
theorem zfG (X Y C : Nat → Int) (e e' : Int) : ∀ i, i < 4 →
    (z71 P 35 (loopHead P 35 1) (z4k X Y C e e' i 4) [(5,.stop)] false 100000).pick [2,3,4,5,12,13] [0,1,2,3]=
     some (loopHead P 35 0,z7O X Y C e e' (i+1),[CvL (cl5 X e),CvL (cl5 Y e'),CvL (cl5 (fun _=>0) 0),CvL (cl4 C)]):=by
 intro i hi
 have hi':i=0∨i=1∨i=2∨i=3:=by omega
 rcases hi' with rfl|rfl|rfl|rfl<;>(show _=_;kernel_rfl)
theorem zeX (X Y C : Nat → Int) (e e' : Int) :
    z71 P 35 (loopHead P 35 0) (z7O X Y C e e' 4) [(8,.r (Q2 (e*e'))),(9,.r (Z1 (K.of (C 0) (C 1) (C 2) (C 3) (e*e'))))] false 100000=
     .ret (Z1 (K.of (C 0) (C 1) (C 2) (C 3) (e*e'))) [PCall P 39 [Q2 e,Q2 e'] (Q2 (e*e')),PCall P 36 [c4C (C 0) (C 1) (C 2) (C 3),Q2 (e*e')] (Z1 (K.of (C 0) (C 1) (C 2) (C 3) (e*e'))),10≤10]:=by
 show _=_
 kernel_rfl
def z2f(X Y:Nat→Int)(i j:Nat)(C:Nat→Int):Nat→Int:=zfE C (i^^^j) (C (i^^^j)+sq4 i j*(X i*Y j))
theorem z4H{X Y:Nat→Int}{i j:Nat}(C:Nat→Int)(h:X i*Y j=0):z2f X Y i j C=C:=by
 funext n
 unfold z2f zfE
 split
 · rename_i hn;rw[Nat.eq_of_beq_eq_true hn,h];simp
 · rfl
theorem z3G{z:Int}:((bytesOf z.natAbs).toList==[])=decide (z=0):=by
 rw[Y4];exact decide_eq_decide.2 (by omega)
theorem zbB: ∀i,i<4→ ∀j,j<4→0<sq4 i j∧sq4 i j≤6:=by decide
section
variable{X Y:Nat→Int}{e e':Int}{p q:Nat}(hp:p+q+2<1073741824)(hX: ∀i,(X i).natAbs<256^p)(hY: ∀i,(Y i).natAbs<256^q)
include hp hX hY
omit hp in
theorem z3K(i j:Nat):(X i*Y j).natAbs<256^(p+q):=by
 rw[Int.natAbs_mul];exact K.mul_lt_pow (hX i) (hY j)
theorem z1X {R : Goal} (hn : j7 R.n [0, 1, 2, 3, 4] = true) (i j t : Nat) (hi : i < 4) (hj : j < 4) (ht : t ≤ 20) (C : Nat → Int) (hC : ∀ k, (C k).natAbs ≤ t * 6 * 256 ^ (p + q))
    (hR:Ok P 35 (loopHead P 35 1) (z4k X Y (z2f X Y i j C) e e' i (j+1)) R):Ok P 35 (loopHead P 35 1) (z4k X Y C e e' i j) R:=by
 have hjj:(0:Int)≤(j:Int)∧(j:Int)<4:=by omega
 by_cases ha:X i=0
 · rw[z4H C (by rw[ha,Int.zero_mul])]at hR
   exact okS (zei X Y C e e' i j hi hj) rfl (.cons hjj (.cons (Nat.le_refl _) (.cons (by rw[z3G,ha];rfl) (.cons (z0i _ _) (.cons (z0i _ _) (.cons (z0i _ _) (.cons (z5P _) (.cons (z79 _) .nil)))))))) hn hR
 · by_cases hb:Y j=0
   · rw[z4H C (by rw[hb,Int.mul_zero])]at hR
     exact okS (zfr X Y C e e' i j hi hj) rfl (.cons hjj (.cons (Nat.le_refl _) (.cons (by rw[z3G];simpa using ha) (.cons (by rw[z3G,hb];rfl) (.cons (z0i _ _) (.cons (z0i _ _) (.cons (z0i _ _) (.cons (z5P _) (.cons (z79 _) .nil))))))))) hn hR
   · have hm:=z3K hX hY i j
     obtain⟨s1,s2⟩:=zbB i hi j hj
     have hw:256^(p+q+1)=256*256^(p+q):=by rw[Nat.pow_succ,Nat.mul_comm]
     have hf:(sq4 i j*(X i*Y j)).natAbs<6*256^(p+q)+1:=by
      rw[Int.natAbs_mul]
      have:(sq4 i j).natAbs≤6:=by omega
      have:=Nat.mul_le_mul this (Nat.le_of_lt hm)
      omega
     have smX:SmlZ (X i):=Sml.of_lt (hX i) (by omega)
     have smY:SmlZ (Y j):=Sml.of_lt (hY j) (by omega)
     have smM:Sml ((X i).natAbs*(Y j).natAbs):=by rw[←Int.natAbs_mul];exact Sml.of_lt hm (by omega)
     have smS:SmlZ (sq4 i j):=z1s (by omega)
     have smM':SmlZ (X i*Y j):=Sml.of_lt hm (by omega)
     have hCk:=hC (i^^^j)
     have ht6:t*6*256^(p+q)≤120*256^(p+q):=Nat.mul_le_mul_right _ (by omega)
     have hpp:0<256^(p+q):=Nat.pow_pos (by decide)
     have smF:SmlZ (sq4 i j*(X i*Y j)):=Sml.of_lt (k:=p+q+1) (by omega) (by omega)
     have smF2:Sml ((sq4 i j).natAbs*(X i*Y j).natAbs):=by rw[←Int.natAbs_mul];exact smF
     have smC:SmlZ (C (i^^^j)):=Sml.of_lt (k:=p+q+1) (by omega) (by omega)
     have smA:Sml ((C (i^^^j)).natAbs+(sq4 i j*(X i*Y j)).natAbs):=Sml.of_lt (k:=p+q+1) (by omega) (by omega)
     have hx4:i^^^j<4:=Nat.xor_lt_two_pow (n:=2) (by simpa using hi) (by simpa using hj)
     have ha4:i&&&j<4:=Nat.lt_of_le_of_lt Nat.and_le_left hi
     exact okS (zeq X Y C e e' i j hi hj) rfl (.cons hjj (.cons (Nat.le_refl _) (.cons (by rw[z3G];simpa using ha) (.cons (by rw[z3G];simpa using hb) (.cons (by omega) (.cons (z0j _ (by omega)) (.cons (Nat.le_refl _) (.cons (by omega)
      (.cons (W1 _ _ smX smY smM) (.cons (W1 _ _ smS smM' smF2) (.cons (z0Q _ _ smC smF smA) (.cons (by omega) (.cons (by omega) (.cons (z0i _ _) (.cons (z0i _ _) (.cons (z0i _ _) (.cons (z5P _) (.cons (z79 _) .nil)))))))))))))))))) hn hR
omit hp in
theorem z0X(i j t:Nat)(hi:i<4)(hj:j<4)(C:Nat→Int)(hC: ∀k,(C k).natAbs≤t*6*256^(p+q)): ∀k,(z2f X Y i j C k).natAbs≤(t+1)*6*256^(p+q):=by
 intro k
 have hm:=z3K hX hY i j
 obtain⟨s1,s2⟩:=zbB i hi j hj
 have hf:(sq4 i j*(X i*Y j)).natAbs≤6*256^(p+q):=by
  rw[Int.natAbs_mul]
  exact Nat.mul_le_mul (by omega) (Nat.le_of_lt hm)
 have e1:(t+1)*6*256^(p+q)=t*6*256^(p+q)+6*256^(p+q):=by rw[Nat.add_mul,Nat.one_mul,Nat.add_mul]
 unfold z2f zfE
 split
 · have:=hC (i^^^j);omega
 · have:=hC k;omega
end
theorem zbk(a b c d e a' b' c' d' e':Int){R:CV→Prop}(hR:Ok P 35 (loopHead P 35 0) ⟨J6 62 [(2,.ptr 0 0),(3,.ptr (0+1) 0),(4,.ptr (0+1+1) 0),(5,.ptr (0+1+1+1) 0),(12,.agg [.cv (.lit (.bool (decide (a<0)))),.cv (.lit (.string (bytesOf a.natAbs))),.cv (.lit (.bool (decide (b<0)))),.cv (.lit (.string (bytesOf b.natAbs))),.cv (.lit (.bool (decide (c<0)))),.cv (.lit (.string (bytesOf c.natAbs))),.cv (.lit (.bool (decide (d<0)))),.cv (.lit (.string (bytesOf d.natAbs)))]),(13,.cv (.lit (.int .i64 0)))],[some [.cv (.lit (.bool (decide (a<0)))),.cv (.lit (.string (bytesOf a.natAbs))),.cv (.lit (.bool (decide (b<0)))),.cv (.lit (.string (bytesOf b.natAbs))),.cv (.lit (.bool (decide (c<0)))),.cv (.lit (.string (bytesOf c.natAbs))),.cv (.lit (.bool (decide (d<0)))),.cv (.lit (.string (bytesOf d.natAbs))),.cv (.lit (.bool (decide (e<0)))),.cv (.lit (.string (bytesOf e.natAbs)))],some [.cv (.lit (.bool (decide (a'<0)))),.cv (.lit (.string (bytesOf a'.natAbs))),.cv (.lit (.bool (decide (b'<0)))),.cv (.lit (.string (bytesOf b'.natAbs))),.cv (.lit (.bool (decide (c'<0)))),.cv (.lit (.string (bytesOf c'.natAbs))),.cv (.lit (.bool (decide (d'<0)))),.cv (.lit (.string (bytesOf d'.natAbs))),.cv (.lit (.bool (decide (e'<0)))),.cv (.lit (.string (bytesOf e'.natAbs)))],some [.cv (.lit (.bool false)),.cv (.lit (.string {data:= #[]})),.cv (.lit (.bool false)),.cv (.lit (.string {data:= #[]})),.cv (.lit (.bool false)),.cv (.lit (.string {data:= #[]})),.cv (.lit (.bool false)),.cv (.lit (.string {data:= #[]})),.cv (.lit (.bool false)),.cv (.lit (.string {data:= #[]}))],some [.cv (.lit (.bool false)),.cv (.lit (.string {data:= #[]})),.cv (.lit (.bool false)),.cv (.lit (.string {data:= #[]})),.cv (.lit (.bool false)),.cv (.lit (.string {data:= #[]})),.cv (.lit (.bool false)),.cv (.lit (.string {data:= #[]}))]]⟩ (.of R)):W9 P 35 [n5C a b c d e,n5C a' b' c' d' e'] R:=
 W7 (keep:=[2,3,4,5,12,13]) (σ:=[0,1,2,3]) (.o 7 .stop .nil) (by kernel_rfl) rfl hR (.cons (by simp[CvL]) (.cons (by simp[CvL]) (.cons (by simp[CvL]) (.cons (by simp[CvL]) .nil))))
section
variable{X Y:Nat→Int}{e e':Int}{p q:Nat}(hp:p+q+2<1073741824)(hX: ∀i,(X i).natAbs<256^p)(hY: ∀i,(Y i).natAbs<256^q)
include hp hX hY
theorem z1v {R : Goal} (hn : j7 R.n [0, 1, 2, 3, 4] = true) (hn' : j7 R.n [0, 1, 2, 3] = true) (i t : Nat) (hi : i < 4) (ht : t ≤ 16) (C : Nat → Int) (hC : ∀ k, (C k).natAbs ≤ t * 6 * 256 ^ (p + q))
    (hR:Ok P 35 (loopHead P 35 0) (z7O X Y (z2f X Y i 3 (z2f X Y i 2 (z2f X Y i 1 (z2f X Y i 0 C)))) e e' (i+1)) R):Ok P 35 (loopHead P 35 0) (z7O X Y C e e' i) R:=by
 have b0:=z0X hX hY i 0 t hi (by decide) C hC
 have b1:=z0X hX hY i 1 (t+1) hi (by decide) _ b0
 have b2:=z0X hX hY i 2 (t+2) hi (by decide) _ b1
 refine okS (zeZ X Y C e e' i hi) rfl (.cons (by omega) (.cons (Nat.le_refl _) (.cons (z0i _ _) (.cons (z0i _ _) (.cons (z0i _ _) (.cons (z5P _) (.cons (z79 _) .nil))))))) hn ?_
 refine z1X hp hX hY hn i 0 t hi (by decide) (by omega) C hC ?_
 refine z1X hp hX hY hn i 1 (t+1) hi (by decide) (by omega) _ b0 ?_
 refine z1X hp hX hY hn i 2 (t+2) hi (by decide) (by omega) _ b1 ?_
 refine z1X hp hX hY hn i 3 (t+3) hi (by decide) (by omega) _ b2 ?_
 exact okS (zfG X Y _ e e' i hi) rfl (.cons (z0i _ _) (.cons (z0i _ _) (.cons (z0i _ _) (.cons (z5P _) .nil)))) hn' hR
omit hp in
theorem z38(i t:Nat)(hi:i<4)(C:Nat→Int)(hC: ∀k,(C k).natAbs≤t*6*256^(p+q)): ∀k,(z2f X Y i 3 (z2f X Y i 2 (z2f X Y i 1 (z2f X Y i 0 C))) k).natAbs≤(t+4)*6*256^(p+q):=by
 have b0:=z0X hX hY i 0 t hi (by decide) C hC
 have b1:=z0X hX hY i 1 (t+1) hi (by decide) _ b0
 have b2:=z0X hX hY i 2 (t+2) hi (by decide) _ b1
 exact z0X hX hY i 3 (t+3) hi (by decide) _ b2
end
def zbG(x:K)(i:Nat):Int:=match i with|0=>x.c0|1=>x.c1|2=>x.c2|_=>x.c3
theorem z9F(x:K)(i:Nat):(zbG x i).natAbs<256^K.sz x:=by
 obtain⟨h0,h1,h2,h3,_⟩:=K.sz_lt x
 unfold zbG;split<;>assumption
theorem SmlZ.sz{x:K}(h:K.sz x<1073741824):SmlZ x.c0∧SmlZ x.c1∧SmlZ x.c2∧SmlZ x.c3∧SmlZ x.d:=by
 obtain⟨h0,h1,h2,h3,h4⟩:=K.sz_lt x
 exact⟨Sml.of_lt h0 h,Sml.of_lt h1 h,Sml.of_lt h2 h,Sml.of_lt h3 h,Sml.of_lt h4 h⟩
theorem z0N(x y:K)(h:K.sz x+K.sz y+2<1073741824):PCall P 35 [Z1 x,Z1 y] (Z1 (x*y)):=by
 have hX:=z9F x
 have hY:=z9F y
 have hd:=(K.sz_lt x).2.2.2.2
 have hd':=(K.sz_lt y).2.2.2.2
 refine zbk x.c0 x.c1 x.c2 x.c3 x.d y.c0 y.c1 y.c2 y.c3 y.d ?_
 have c0: ∀k:Nat,((fun _=>0:Nat→Int) k).natAbs≤0*6*256^(K.sz x+K.sz y):=by intro k;simp
 have c1:=z38 hX hY 0 0 (by decide) _ c0
 have c2:=z38 hX hY 1 4 (by decide) _ c1
 have c3:=z38 hX hY 2 8 (by decide) _ c2
 have c4:=z38 hX hY 3 12 (by decide) _ c3
 have main:Ok P 35 (loopHead P 35 0) (z7O (zbG x) (zbG y) (fun _=>0) x.d y.d 0) (.of (fun v=>v=Z1 (x*y))):=by
  refine z1v h hX hY rfl rfl 0 0 (by decide) (by decide) _ c0 ?_
  refine z1v h hX hY rfl rfl 1 4 (by decide) (by decide) _ c1 ?_
  refine z1v h hX hY rfl rfl 2 8 (by decide) (by decide) _ c2 ?_
  refine z1v h hX hY rfl rfl 3 12 (by decide) (by decide) _ c3 ?_
  generalize hC:z2f (zbG x) (zbG y) 3 3 _=C at*
  have e0:C 0=x.c0*y.c0+2*x.c1*y.c1+3*x.c2*y.c2+6*x.c3*y.c3:=by
   have:C 0=0+1*(x.c0*y.c0)+2*(x.c1*y.c1)+3*(x.c2*y.c2)+6*(x.c3*y.c3):=by rw[←hC];rfl
   rw[this];grind
  have e1:C 1=x.c0*y.c1+x.c1*y.c0+3*x.c2*y.c3+3*x.c3*y.c2:=by
   have:C 1=0+1*(x.c0*y.c1)+1*(x.c1*y.c0)+3*(x.c2*y.c3)+3*(x.c3*y.c2):=by rw[←hC];rfl
   rw[this];grind
  have e2:C 2=x.c0*y.c2+x.c2*y.c0+2*x.c1*y.c3+2*x.c3*y.c1:=by
   have:C 2=0+1*(x.c0*y.c2)+2*(x.c1*y.c3)+1*(x.c2*y.c0)+2*(x.c3*y.c1):=by rw[←hC];rfl
   rw[this];grind
  have e3:C 3=x.c0*y.c3+x.c3*y.c0+x.c1*y.c2+x.c2*y.c1:=by
   have:C 3=0+1*(x.c0*y.c3)+1*(x.c1*y.c2)+1*(x.c2*y.c1)+1*(x.c3*y.c0):=by rw[←hC];rfl
   rw[this];grind
  have hw:256^(K.sz x+K.sz y+1)=256*256^(K.sz x+K.sz y):=by rw[Nat.pow_succ,Nat.mul_comm]
  have hpp:0<256^(K.sz x+K.sz y):=Nat.pow_pos (by decide)
  have sm: ∀k,SmlZ (C k):=fun k=>Sml.of_lt (k:=K.sz x+K.sz y+1) (by have:=c4 k;omega) (by omega)
  have hdd:(x.d*y.d).natAbs<256^(K.sz x+K.sz y):=by rw[Int.natAbs_mul];exact K.mul_lt_pow hd hd'
  have smd:SmlZ (x.d*y.d):=Sml.of_lt hdd (by omega)
  have key:K.of (C 0) (C 1) (C 2) (C 3) (x.d*y.d)=x*y:=by rw[e0,e1,e2,e3];rfl
  refine okR (zeX (zbG x) (zbG y) C x.d y.d) (.cons (W1 _ _ (SmlZ.sz (x:=x) (by omega)).2.2.2.2 (SmlZ.sz (x:=y) (by omega)).2.2.2.2 (by rw[←Int.natAbs_mul];exact smd)) (.cons (z4Z _ _ _ _ _ (sm 0) (sm 1) (sm 2) (sm 3) smd (Int.mul_ne_zero x.d_ne y.d_ne)) (.cons (Nat.le_refl _) .nil))) ?_
  rw[key];rfl
 exact main
abbrev Smk(x:K):Prop:=K.sz x<1073741824
theorem X3(x:K)(h:Smk x):PCall P 28 [Z1 x] (.lit (.bool true)):=by
 obtain⟨h0,h1,h2,h3,h4⟩:=SmlZ.sz h
 refine(z5E _ _ _ _ _ (by rw[Int.sign_eq_one_of_pos x.pos];rfl) h0 h1 h2 h3 h4 (by decide)).eq ?_
 rw[x.cop];rfl
theorem zbi(x:K):PCall P 34 [Z1 x,J1 1] (Z1 (K.conj1 x)):=z90 _ _ _ _ _
theorem zaq(x:K):PCall P 34 [Z1 x,J1 2] (Z1 (K.conj2 x)):=z9w _ _ _ _ _
theorem zcw(z e:Int)(hz:SmlZ z)(he:SmlZ e)(h:e≠0):PCall P 36 [.agg [.lit (.bool (decide (z<0))),.lit (.string (bytesOf z.natAbs)),.lit (.bool false),.lit (.string ⟨#[]⟩),.lit (.bool false),.lit (.string ⟨#[]⟩),.lit (.bool false),.lit (.string ⟨#[]⟩)],Q2 e] (Z1 (K.of z 0 0 0 e)):=by
 have h0:SmlZ 0:=Sml.of_lt (k:=1) (by decide) (by decide)
 exact z4Z z 0 0 0 e hz h0 h0 h0 he h
end Go.Fw
