/- A part of the proof that the law returns true for every input: an executor for the model's code, and what functions of the program compute. -/
import Derived.Test.YtcafjpldfnegiaaGreatDoorB11
import Derived.Test.YtcafjpldfnegiaaGreatDoorB15
import Derived.Test.YtcafjpldfnegiaaGreatDoorB28
import Derived.Test.YtcafjpldfnegiaaGreatDoorB36
import Derived.KernelRfl
import Derived.Maps.RangeRun
open Go IntKind
namespace Go.Fw
set_option maxRecDepth 100000
theorem zkv(a b c d e g:Int)(h:g=K.den a b c d e)(he:e≠0):n5C (a/g) (b/g) (c/g) (d/g) (e/g)=Z0 (K.of a b c d e):=by
 subst h
 have key: ∀x:K,x=K.of a b c d e→n5C (a/K.den a b c d e) (b/K.den a b c d e) (c/K.den a b c d e) (d/K.den a b c d e) (e/K.den a b c d e)=Z0 x:=by
  intro x hx
  unfold K.of at hx
  rw[dif_neg he]at hx
  subst hx
  rfl
 exact key _ rfl
theorem z8R (a b c d e : Int) (he : e ≠ 0) (g1 : z7O e a) (g2 : z7O ((Nat.gcd e.natAbs a.natAbs : Nat) : Int) b) (g3 : z7O ((Nat.gcd (Nat.gcd e.natAbs a.natAbs) b.natAbs : Nat) : Int) c)
    (g4:z7O ((Nat.gcd (Nat.gcd (Nat.gcd e.natAbs a.natAbs) b.natAbs) c.natAbs:Nat):Int) d)
    (oa:z2K a (K.den a b c d e)) (ob:z2K b (K.den a b c d e)) (oc:z2K c (K.den a b c d e)) (od:z2K d (K.den a b c d e)) (oe:z2K e (K.den a b c d e)):
    PCall P 129 [c4C a b c d,J2 e] (Z0 (K.of a b c d e)):=by
 have hden:K.den a b c d e=if e<0 then-((Nat.gcd (Nat.gcd (Nat.gcd (Nat.gcd e.natAbs a.natAbs) b.natAbs) c.natAbs) d.natAbs:Nat):Int)else((Nat.gcd (Nat.gcd (Nat.gcd (Nat.gcd e.natAbs a.natAbs) b.natAbs) c.natAbs) d.natAbs:Nat):Int):=rfl
 have hg0:0<Nat.gcd (Nat.gcd (Nat.gcd (Nat.gcd e.natAbs a.natAbs) b.natAbs) c.natAbs) d.natAbs:=z33 he
 by_cases hs:e<0
 · have hsg:decide (e.sign<0)=true:=decide_eq_true (Int.sign_neg_iff.2 hs)
   rw[if_pos hs]at hden
   rw[hden]at oa ob oc od oe
   have:=zos a b c d e hsg
   simp only[Int.natAbs_natCast]at this
   refine(this ?_ g1 g2 g3 g4 (by decide) oa ob oc od oe).eq (zkv a b c d e _ hden.symm he)
   rw[decide_eq_true (by omega)];rfl
 · have hsg:decide (e.sign<0)=false:=decide_eq_false (by rw[Int.sign_neg_iff];exact hs)
   rw[if_neg hs]at hden
   rw[hden]at oa ob oc od oe
   by_cases h1:Nat.gcd (Nat.gcd (Nat.gcd (Nat.gcd e.natAbs a.natAbs) b.natAbs) c.natAbs) d.natAbs=1
   · have:=zru a b c d e hsg
     simp only[Int.natAbs_natCast]at this
     refine(this ?_ g1 g2 g3 g4 (by decide)).eq ?_
     · rw[decide_eq_false (by omega),z14,decide_eq_true h1];rfl
     · have:=zkv a b c d e _ hden.symm he
       rw[h1]at this
       simp only[Int.natCast_one,Int.ediv_one]at this
       exact this
   · have:=zoU a b c d e hsg
     simp only[Int.natAbs_natCast]at this
     refine(this ?_ g1 g2 g3 g4 (by decide) oa ob oc od oe).eq (zkv a b c d e _ hden.symm he)
     rw[z14,decide_eq_false h1];simp
theorem zqI(a b c d e:Int)(he:e≠0)(ha:a.natAbs<256^7)(hb:b.natAbs<256^7)(hc:c.natAbs<256^7)(hd:d.natAbs<256^7)(hl:e.natAbs<256^7):PCall P 129 [c4C a b c d,J2 e] (Z0 (K.of a b c d e)):=by
 have gl: ∀x y:Nat,x≠0→x<256^7→Nat.gcd x y≠0∧Nat.gcd x y<256^7:=fun x y h0 h=>⟨by have:=Nat.gcd_pos_of_pos_left y (Nat.pos_of_ne_zero h0);omega,Nat.lt_of_le_of_lt (Nat.gcd_le_left _ (Nat.pos_of_ne_zero h0)) h⟩
 obtain⟨n1,l1⟩:=gl e.natAbs a.natAbs (by omega) hl
 obtain⟨n2,l2⟩:=gl _ b.natAbs n1 l1
 obtain⟨n3,l3⟩:=gl _ c.natAbs n2 l2
 obtain⟨n4,l4⟩:=gl _ d.natAbs n3 l3
 obtain⟨v0,v1,v2,v3,v4⟩:=K.den_dvd a b c d e
 have hne:=K.den_ne (c0:=a) (c1:=b) (c2:=c) (c3:=d) he
 have hdl:(K.den a b c d e).natAbs<256^7:=by rw[K.den_natAbs];exact l4
 exact z8R a b c d e he (z8A _ _ hl ha) (z8A _ _ (by rwa[Int.natAbs_natCast]) hb) (z8A _ _ (by rwa[Int.natAbs_natCast]) hc) (z8A _ _ (by rwa[Int.natAbs_natCast]) hd)
  (z64 _ _ ha hdl hne v0) (z64 _ _ hb hdl hne v1) (z64 _ _ hc hdl hne v2) (z64 _ _ hd hdl hne v3) (z64 _ _ hl hdl hne v4)
theorem zno(a b c d e:Int)(h1:(e.sign==0)=false)(f:e≠0)(g:a.natAbs<256^7)(i:b.natAbs<256^7)(j:c.natAbs<256^7)(k:d.natAbs<256^7)(l:e.natAbs<256^7):PCall P 191 [c4C a b c d,J2 e] (.tup [Z0 (K.of a b c d e),.lit (.int .i64 0)]):=
 j3 (.c (bq 0 4) (.r 12 (J3 a) (.c (bq 1 4) (.r 25 (J3 b) (.c (bq 2 4) (.r 38 (J3 c) (.c (bq 3 4) (.r 51 (J3 d) (.r 62 (J3 e) (.r 67 (U3 e) (.b 70 h1 (.r 73 (zqI a b c d e f g i j k l) (.c (lq 10 10) .nil))))))))))))) (by kernel_rfl)
section
variable{P:Program}
def z9l:List Bool→Code→Code
 | [],c=>c
 |false::l,.seq x _=>z9l l x
 |true::l,.seq _ y=>z9l l y
 |_::l,.loop x=>z9l l x
 |_::l,.block _ x=>z9l l x
 |_,c=>c
def regM(P:Program)(c:Code)(s:St)(ors:Ors):Option (St×List Prop):=
 match c with
 | .region _ ra draw=>
  match zfy P ra.toList s.hp.length false (List.range ra.size) 0 ors {s with hp:=s.hp++List.replicate (X6 ra.toList ra.size) none} [] []with
  | .ok _ _ s' ob es=>if draw&&!(z62 s.hp.length ra.toList es&&z0J 0 ra.toList&&P.follows .mixedOrders)then none else some (s',ob)
  | .bad .. =>none
 |_=>none
theorem z6G {w0 : Start} {c : Code} {s s' : St} {ors : Ors} {ob : List Prop} {a : Act} {w : World} {I : Imm} {p : Pl} (h : regM P c s ors = some (s', ob)) (hob : ∀ q ∈ ob, q) (R : SRel w0 s I p a w) (hB : z3Y s p) :
    c.wp P (z5F w0 s' I p) a w:=by
 unfold regM at h
 split at h
 · split at h
   · rename_i hm
     split at h
     · cases h
     · rename_i hd
       cases h
       exact z4Y (ask:=false) hm (fun hdr=>by subst hdr;simpa using hd) hob R hB
   · cases h
 · cases h
theorem Ok.regM{f:FuncId}{c:Code}{k:List Item}{s s':St}{R:Goal}{ors:Ors}{ob:List Prop}(h:regM P c s ors=some (s',ob))(hob:AllP ob)(hk:Ok P f k s' R):Ok P f (.code c::k) s R:=by
 intro w0 I p a w b cs h1 h2 h3 h31 h32 h4 h5
 obtain⟨a',w1,⟨I',p',q1,q2,q3,q4⟩,hst⟩:=z2k (P:=P) (b:=b) (k:=k) (cs:=cs) (show c.wp P (fun e a' w'=>e= .normal∧ ∃I' p',I.le I'∧SRel w0 s' I' p' a' w'∧z3Y s' p'∧p.le p') a w from z6G (w0:=w0) h hob.mem h4 h5)
 obtain⟨e,w',fr,k1,k2,k3⟩:=hk w0 I' p' a' w1 b cs h1 h2 (Imm.le_trans h3 q1) (Pl.le_trans h31 q4) h32 q2 q3
 exact⟨e,w',fr,k1,.of_steps hst k2,k3⟩
def OkX(P:Program)(f:FuncId)(todo:List Item)(s:St)(R:Goal)(X:Start→Pl→World→Prop):Prop:=
 ∀(w0:Start) (I:Imm) (p:Pl) (a:Act) (w:World) (b:Frame) (cs:List Frame),b.fn=f→b.kind= .normal→w0.im.le I→w0.pl.le p→(∀k,R.n≤k→w0.pl k=none)→SRel w0 s I p a w→z3Y s p→X w0 p w→
  ∃e w' fr,Fin w0 R e w'∧Comes P (lone (b.at a todo) cs w) (lone fr cs w') e∧fr.fn=f∧fr.leaving P w' e
theorem OkX.of{f:FuncId}{todo:List Item}{s:St}{R:Goal}{X:Start→Pl→World→Prop}(h:Ok P f todo s R):OkX P f todo s R X:=
 fun w0 I p a w b cs h1 h2 h3 h31 h32 h4 h5 _=>h w0 I p a w b cs h1 h2 h3 h31 h32 h4 h5
theorem OkX.step {f : FuncId} {todo todo' : List Item} {s : St} {R : Goal} {X : Start → Pl → World → Prop} (h : OkX P f todo' s R X)
    (hs: ∀(b:Frame) (a:Act) (cs:List Frame) (w:World),step P (lone (b.at a todo) cs w)= .next (lone (b.at a todo') cs w)):OkX P f todo s R X:=by
 intro w0 I p a w b cs h1 h2 h3 h31 h32 h4 h5 h6
 obtain⟨e,w',fr,k1,k2,k3⟩:=h w0 I p a w b cs h1 h2 h3 h31 h32 h4 h5 h6
 exact⟨e,w',fr,k1,.of_steps (.one (hs b a cs w)) k2,k3⟩
theorem OkX.cond {f : FuncId} {c : Operand} {x y : Code} {k : List Item} {s : St} {R : Goal} {X : Start → Pl → World → Prop} {t d : Bool} (hc : z1R s.tm c = .cv (.lit (.bool t))) (htd : t = d)
    (h:OkX P f (.code (if d then x else y)::k) s R X):OkX P f (.code (.cond c x y)::k) s R X:=by
 intro w0 I p a w b cs h1 h2 h3 h31 h32 h4 h5 h6
 obtain⟨e,w',fr,k1,k2,k3⟩:=h w0 I p a w b cs h1 h2 h3 h31 h32 h4 h5 h6
 refine⟨e,w',fr,k1,.of_steps (.one (step_cond ?_)) k2,k3⟩
 have:=z5V h4.tm c
 rw[hc]at this
 rw[Z4 this,htd]
structure XI(r:Nat)(es:Array MapEntry)(clock:Nat)(seen:Array Nat)(w0:Start)(p:Pl)(w:World):Prop where
 m: ∃bm,w.heap[bm]?=some (.map es clock)∧w.heap[r]?=some (.mapIter (some bm) clock seen clock)∧ ∀i κ,p i≠some (bm,κ)
 pr: ∀i κ,p i≠some (r,κ)
 own:w0.own r
 ps: ∀i b κ,p i=some (b,κ)→w0.own b
def z3F:List Blk→Bool
 | []=>true
 |some _::l=>z3F l
 |none::_=>false
theorem z2o: ∀(l:List Blk) (i:Nat),z3F l=true→i<l.length→ ∃c,l[i]?=some (some c)
 |some c::l,0,_,_=>⟨c,rfl⟩
 |some c::l,i+1,h,hi=>by simpa using z2o l i h (by simpa using hi)
 |none::l,i,h,_=>by simp[z3F]at h
 | [],i,_,hi=>by simp at hi
theorem zff{w0:Start}{s:St}{I:Imm}{p:Pl}{a:Act}{w:World}(h:SRel w0 s I p a w):SRel ⟨w,I,p⟩ s I p a w:=by
 refine⟨h.tm,h.defers,⟨rfl,rfl,rfl,Nat.le_refl _,fun _ _=>rfl⟩,h.hp.im,fun b hb=> .inl hb,fun i cells hi=>?_,h.hp.inj⟩
 obtain⟨b,κ,c,T,g1,g2,g3,g4,_,g6⟩:=h.hp.live i cells hi
 exact⟨b,κ,c,T,g1,g2,g3,g4,.inr ⟨i,κ,g1⟩,g6⟩
theorem zds{w0:Start}{I:Imm}{p:Pl}{w:World}(hB:Blw w0 w)(hps: ∀i b κ,p i=some (b,κ)→w0.own b){b:Nat}(h:(⟨w,I,p⟩:Start).own b):w0.own b:=by
 rcases h with h|⟨i,κ,h⟩
 · exact .inl (Nat.le_trans hB.size h)
 · exact hps i b κ h
theorem zgs{w0:Start}{s s':St}{I I':Imm}{p p':Pl}{a a':Act}{w w':World}(h:SRel w0 s I p a w)(hps: ∀i b κ,p i=some (b,κ)→w0.own b)(h':SRel ⟨w,I,p⟩ s' I' p' a' w'):SRel w0 s' I' p' a' w':=by
 have ho:= @zds w0 I p w h.hp.below hps
 refine⟨h'.tm,h'.defers,⟨h'.hp.below.os.trans h.hp.below.os,h'.hp.below.tape.trans h.hp.below.tape,h'.hp.below.output.trans h.hp.below.output,Nat.le_trans h.hp.below.size h'.hp.below.size,fun k hk=>?_⟩,h'.hp.im,fun b hb=>?_,fun i cells hi=>?_,h'.hp.inj⟩
 · rw[h'.hp.below.block k (fun hk'=>hk (ho hk')),h.hp.below.block k hk]
 · rcases h'.hp.imf b hb with g|g
   · exact h.hp.imf b g
   · exact .inr (ho g)
 · obtain⟨b,κ,c,T,g1,g2,g3,g4,g5,g6⟩:=h'.hp.live i cells hi
   exact⟨b,κ,c,T,g1,g2,g3,g4,ho g5,g6⟩
theorem OkX.region {f : FuncId} {c : Code} {k : List Item} {s s' s'' : St} {R : Goal} {ors : Ors} {ob : List Prop} {r : Nat} {es : Array MapEntry} {clock : Nat} {seen : Array Nat} (keep σ : List Nat)
    (h : regM P c s ors = some (s', ob)) (hob : AllP ob) (hl : z3F s.hp = true) (hσ : z0E σ = true) (hσl : σ.all (· < s.hp.length) = true) (hR : R.n = 0) (hs : s'' = s'.sel keep σ) (hb : AllP (CellsC s''.hp))
    (hk:OkX P f k s'' R (XI r es clock seen)):OkX P f (.code c::k) s R (XI r es clock seen):=by
 intro w0 I p a w b cs h1 h2 h3 h31 h32 h4 h5 h6
 have hlive: ∀i x,p i=some x→ ∃cells,s.hp[i]?=some (some cells):=fun i x hx=>z2o _ i hl (by
  rcases Nat.lt_or_ge i s.hp.length with hi|hi
  · exact hi
  · rw[h5 i hi]at hx;cases hx)
 have hdom: ∀i,i<s.hp.length→ ∃x,p i=some x:=fun i hi=>by
  obtain⟨c,hc⟩:=z2o _ i hl hi
  obtain⟨b,κ,_,_,g1,_⟩:=h4.hp.live i c hc
  exact⟨_,g1⟩
 obtain⟨a',w1,⟨I',p',q1,q2,q3,q4⟩,hst⟩:=z2k (P:=P) (b:=b) (k:=k) (cs:=cs) (show c.wp P (fun e a' w'=>e= .normal∧ ∃I' p',I.le I'∧SRel ⟨w,I,p⟩ s' I' p' a' w'∧z3Y s' p'∧p.le p') a w from z6G h hob.mem (zff h4) h5)
 have hat: ∀i x,(p'.at σ) i=some x→ ∃j,σ[i]?=some j∧p j=some x:=fun i x hx=>by
  simp only[Pl.at]at hx
  split at hx
  · rename_i j hj
    have hjl:j<s.hp.length:=by simpa using List.all_eq_true.1 hσl j (List.mem_of_getElem? hj)
    obtain⟨y,hy⟩:=hdom j hjl
    have:=q4 j y hy
    rw[this]at hx
    cases hx
    exact⟨j,hj,hy⟩
  · cases hx
 have q5:=zgs h4 h6.ps q2
 subst hs
 obtain⟨bm,m1,m2,m4⟩:=h6.m
 have hnb: ∀x,x<w.heap.size→(∀i κ,p i≠some (x,κ))→w1.heap[x]?=w.heap[x]?:=fun x hx hp=>q2.hp.below.block x (fun ho=>by
  rcases ho with ho|⟨i,κ,ho⟩
  · exact absurd ho (Nat.not_le.2 hx)
  · exact hp i κ ho)
 have hlt: ∀x (o:Obj),w.heap[x]?=some o→x<w.heap.size:=fun x o hx=>by
  rcases Nat.lt_or_ge x w.heap.size with g|g
  · exact g
  · rw[Array.getElem?_eq_none g]at hx;cases hx
 obtain ⟨e, w', fr, k1, k2, k3⟩ := hk w0 I' (p'.at σ) a' w1 b cs h1 h2 (Imm.le_trans h3 q1) (fun i x hx => by rw [h32 i (by omega)] at hx; cases hx) h32 ⟨z6j _ _ _ q5.tm, q5.defers, q5.hp.sel hσ hb.mem⟩ (fun i hi => by
     simp only[St.sel,List.length_map]at hi
     simp[Pl.at,List.getElem?_eq_none_iff.2 hi])
  ⟨⟨bm,(hnb bm (hlt _ _ m1) m4).trans m1,(hnb r (hlt _ _ m2) h6.pr).trans m2,fun i κ hi=>by obtain⟨j,_,hj⟩:=hat i _ hi;exact m4 j κ hj⟩,
   fun i κ hi=>by obtain⟨j,_,hj⟩:=hat i _ hi;exact h6.pr j κ hj,h6.own,fun i b κ hi=>by obtain⟨j,_,hj⟩:=hat i _ hi;exact h6.ps j b κ hj⟩
 exact⟨e,w',fr,k1,.of_steps hst k2,k3⟩
def zgJ(keep σ:List Nat):Option (St×List Prop)→Option (St×List Prop)
 |some (s,ob)=>some (s.sel keep σ,ob++CellsC (σ.map fun i=>s.hp.getD i none))
 |none=>none
theorem z6K {keep σ : List Nat} {o : Option (St × List Prop)} {s : St} {ob : List Prop} (h : zgJ keep σ o = some (s, ob)) :
    ∃s0 ob0,o=some (s0,ob0)∧s=s0.sel keep σ∧ob=ob0++CellsC (σ.map fun i=>s0.hp.getD i none):=by
 unfold zgJ at h
 split at h
 · rename_i s0 ob0
   simp only[Option.some.injEq,Prod.mk.injEq]at h
   obtain⟨rfl,rfl⟩:=h
   exact⟨_,_,rfl,rfl,rfl⟩
 · cases h
theorem Ok.regS{f:FuncId}{c:Code}{k:List Item}{s s':St}{R:Goal}{ors:Ors}{ob:List Prop}(keep σ:List Nat)(h:zgJ keep σ (Fw.regM P c s ors)=some (s',ob))(hσ:z0E σ=true)(hob:Ps ob)(hn:j7 R.n σ=true)(hk:Ok P f k s' R):Ok P f (.code c::k) s R:=by
 obtain⟨s0,ob0,h0,rfl,rfl⟩:=z6K h
 exact Ok.regM h0 hob.all.left (Ok.sel keep σ hσ hn hob.all.right hk)
theorem OkX.regS {f : FuncId} {c : Code} {k : List Item} {s s' : St} {R : Goal} {ors : Ors} {ob : List Prop} {r : Nat} {es : Array MapEntry} {clock : Nat} {seen : Array Nat} (keep σ : List Nat)
    (h : zgJ keep σ (Fw.regM P c s ors) = some (s', ob)) (hσ : z0E σ = true) (hob : Ps ob) (hl : z3F s.hp = true) (hσl : σ.all (· < s.hp.length) = true) (hR : R.n = 0) (hk : OkX P f k s' R (XI r es clock seen)) : OkX P f (.code c :: k) s R (XI r es clock seen) := by
 obtain⟨s0,ob0,h0,rfl,rfl⟩:=z6K h
 exact OkX.region keep σ h0 hob.all.left hl hσ hσl hR rfl hob.all.right hk
end
def icl(z:Int):List MV:=[.cv (.lit (.bool (decide (z<0)))),.cv (.lit (.string (bytesOf z.natAbs)))]
def cl4(X:Nat→Int):List MV:=[.cv (.lit (.bool (decide (X 0<0)))),.cv (.lit (.string (bytesOf (X 0).natAbs))),.cv (.lit (.bool (decide (X 1<0)))),.cv (.lit (.string (bytesOf (X 1).natAbs))),.cv (.lit (.bool (decide (X 2<0)))),.cv (.lit (.string (bytesOf (X 2).natAbs))),.cv (.lit (.bool (decide (X 3<0)))),.cv (.lit (.string (bytesOf (X 3).natAbs)))]
def cl5(X:Nat→Int)(e:Int):List MV:=[.cv (.lit (.bool (decide (X 0<0)))),.cv (.lit (.string (bytesOf (X 0).natAbs))),.cv (.lit (.bool (decide (X 1<0)))),.cv (.lit (.string (bytesOf (X 1).natAbs))),.cv (.lit (.bool (decide (X 2<0)))),.cv (.lit (.string (bytesOf (X 2).natAbs))),.cv (.lit (.bool (decide (X 3<0)))),.cv (.lit (.string (bytesOf (X 3).natAbs))),.cv (.lit (.bool (decide (e<0)))),.cv (.lit (.string (bytesOf e.natAbs)))]
theorem zbj(z:Int):CvL (icl z):=by intro m hm;simp[icl]at hm;rcases hm with rfl|rfl<;>exact⟨_,rfl⟩
theorem z0b(X:Nat→Int):CvL (cl4 X):=by intro m hm;simp[cl4]at hm;rcases hm with rfl|rfl|rfl|rfl|rfl|rfl|rfl|rfl<;>exact⟨_,rfl⟩
theorem z1q(X:Nat→Int)(e:Int):CvL (cl5 X e):=by intro m hm;simp[cl5]at hm;rcases hm with rfl|rfl|rfl|rfl|rfl|rfl|rfl|rfl|rfl|rfl<;>exact⟨_,rfl⟩
def zbQ(X Y C:Nat→Int)(e e':Int)(i:Nat):St:=⟨J1 62 [(2,.ptr 0 0),(3,.ptr 1 0),(4,.ptr 2 0),(5,.ptr 3 0),(12,.agg (cl4 X)),(13,.cv (.lit (.int .i64 (i:Int))))],
 [some (cl5 X e),some (cl5 Y e'),some (cl5 (fun _=>0) 0),some (cl4 C)]⟩
def z6y(X Y C:Nat→Int)(e e':Int)(i j:Nat):St:=⟨J1 62 [(2,.ptr 0 0),(3,.ptr 1 0),(4,.ptr 2 0),(5,.ptr 3 0),(6,.cv (.lit (.int .i64 (i:Int)))),(7,.ptr 4 0),(12,.agg (cl4 X)),(13,.cv (.lit (.int .i64 (i:Int)))),(18,.agg (cl4 Y)),(19,.cv (.lit (.int .i64 (j:Int))))],
 [some (cl5 X e),some (cl5 Y e'),some (cl5 (fun _=>0) 0),some (cl4 C),some (icl (X i))]⟩
def sq4(i j:Nat):Int:=[1,2,3,6].getD (i&&&j) 0
def zkG(C:Nat→Int)(k:Nat)(z:Int):Nat→Int:=fun n=>match Nat.beq n k with|true=>z|false=>C n
theorem zoB (X Y C : Nat → Int) (e e' : Int) : ∀ i j, i < 4 → j < 4 →
    (z3O P 201 (loopHead P 201 1) (z6y X Y C e e' i j) [(11,.b true),(19,.stop)] false 100000).pick [2,3,4,5,6,7,12,13,18,19] [0,1,2,3,4]=
     some (loopHead P 201 1,z6y X Y C e e' i (j+1),[(0:Int)≤(j:Int)∧(j:Int)<4,2≤2,((bytesOf (X i).natAbs).toList==[])=true,CvL (cl5 X e),CvL (cl5 Y e'),CvL (cl5 (fun _=>0) 0),CvL (cl4 C),CvL (icl (X i))]):=by
 intro i j hi hj
 have hi':i=0∨i=1∨i=2∨i=3:=by omega
 have hj':j=0∨j=1∨j=2∨j=3:=by omega
 rcases hi' with rfl|rfl|rfl|rfl<;>rcases hj' with rfl|rfl|rfl|rfl<;>(show _=_;kernel_rfl)
theorem zp6 (X Y C : Nat → Int) (e e' : Int) : ∀ i j, i < 4 → j < 4 →
    (z3O P 201 (loopHead P 201 1) (z6y X Y C e e' i j) [(11,.b false),(16,.b true),(19,.stop)] false 100000).pick [2,3,4,5,6,7,12,13,18,19] [0,1,2,3,4]=
     some (loopHead P 201 1,z6y X Y C e e' i (j+1),[(0:Int)≤(j:Int)∧(j:Int)<4,2≤2,((bytesOf (X i).natAbs).toList==[])=false,((bytesOf (Y j).natAbs).toList==[])=true,CvL (cl5 X e),CvL (cl5 Y e'),CvL (cl5 (fun _=>0) 0),CvL (cl4 C),CvL (icl (X i))]):=by
 intro i j hi hj
 have hi':i=0∨i=1∨i=2∨i=3:=by omega
 have hj':j=0∨j=1∨j=2∨j=3:=by omega
 rcases hi' with rfl|rfl|rfl|rfl<;>rcases hj' with rfl|rfl|rfl|rfl<;>(show _=_;kernel_rfl)
theorem zpd (X Y C : Nat → Int) (e e' : Int) : ∀ i j, i < 4 → j < 4 →
    (z3O P 201 (loopHead P 201 1) (z6y X Y C e e' i j) [(11,.b false),(16,.b false),(23,.r (J2 (sq4 i j))),(37,.r (J2 (X i*Y j))),(38,.r (J2 (sq4 i j*(X i*Y j)))),(39,.r (J2 (C (i^^^j)+sq4 i j*(X i*Y j)))),(44,.stop)] false 100000).pick [2,3,4,5,6,7,12,13,18,19] [0,1,2,3,4]=
     some (loopHead P 201 1,z6y X Y (zkG C (i^^^j) (C (i^^^j)+sq4 i j*(X i*Y j))) e e' i (j+1),[(0:Int)≤(j:Int)∧(j:Int)<4,2≤2,((bytesOf (X i).natAbs).toList==[])=false,((bytesOf (Y j).natAbs).toList==[])=false,
      (0:Int)≤((i&&&j:Nat):Int)∧((i&&&j:Nat):Int)<4,PCall P 206 [j5 (sq4 i j)] (J2 (sq4 i j)),2≤2,(0:Int)≤((i^^^j:Nat):Int)∧((i^^^j:Nat):Int)<4,
      PCall P 203 [J2 (X i),J2 (Y j)] (J2 (X i*Y j)),PCall P 203 [J2 (sq4 i j),J2 (X i*Y j)] (J2 (sq4 i j*(X i*Y j))),PCall P 202 [J2 (C (i^^^j)),J2 (sq4 i j*(X i*Y j))] (J2 (C (i^^^j)+sq4 i j*(X i*Y j))),
      (0:Int)≤((i^^^j:Nat):Int)∧((i^^^j:Nat):Int)<4,(i^^^j)*2+2≤8,
      CvL (cl5 X e),CvL (cl5 Y e'),CvL (cl5 (fun _=>0) 0),CvL (cl4 (zkG C (i^^^j) (C (i^^^j)+sq4 i j*(X i*Y j)))),CvL (icl (X i))]):=by
 intro i j hi hj
 have hi':i=0∨i=1∨i=2∨i=3:=by omega
 have hj':j=0∨j=1∨j=2∨j=3:=by omega
 rcases hi' with rfl|rfl|rfl|rfl<;>rcases hj' with rfl|rfl|rfl|rfl<;>(show _=_;kernel_rfl)
theorem zq0 (X Y C : Nat → Int) (e e' : Int) : ∀ i, i < 4 →
    (z3O P 201 (loopHead P 201 0) (zbQ X Y C e e' i) [(11,.stop)] false 100000).pick [2,3,4,5,6,7,12,13,18,19] [0,1,2,3,4]=
     some (loopHead P 201 1,z6y X Y C e e' i 0,[(0:Int)≤(i:Int)∧(i:Int)<4,2≤2,CvL (cl5 X e),CvL (cl5 Y e'),CvL (cl5 (fun _=>0) 0),CvL (cl4 C),CvL (icl (X i))]):=by
 intro i hi
 have hi':i=0∨i=1∨i=2∨i=3:=by omega
 rcases hi' with rfl|rfl|rfl|rfl<;>(show _=_;kernel_rfl)
theorem zrG (X Y C : Nat → Int) (e e' : Int) : ∀ i, i < 4 →
    (z3O P 201 (loopHead P 201 1) (z6y X Y C e e' i 4) [(5,.stop)] false 100000).pick [2,3,4,5,12,13] [0,1,2,3]=
     some (loopHead P 201 0,zbQ X Y C e e' (i+1),[CvL (cl5 X e),CvL (cl5 Y e'),CvL (cl5 (fun _=>0) 0),CvL (cl4 C)]):=by
 intro i hi
 have hi':i=0∨i=1∨i=2∨i=3:=by omega
 rcases hi' with rfl|rfl|rfl|rfl<;>(show _=_;kernel_rfl)
theorem zoT (X Y C : Nat → Int) (e e' : Int) :
    z3O P 201 (loopHead P 201 0) (zbQ X Y C e e' 4) [(8,.r (J2 (e*e'))),(9,.r (Z0 (K.of (C 0) (C 1) (C 2) (C 3) (e*e'))))] false 100000=
     .ret (Z0 (K.of (C 0) (C 1) (C 2) (C 3) (e*e'))) [PCall P 203 [J2 e,J2 e'] (J2 (e*e')),PCall P 204 [c4C (C 0) (C 1) (C 2) (C 3),J2 (e*e')] (Z0 (K.of (C 0) (C 1) (C 2) (C 3) (e*e'))),10≤10]:=by
 show _=_
 kernel_rfl
def z24(X Y:Nat→Int)(i j:Nat)(C:Nat→Int):Nat→Int:=zkG C (i^^^j) (C (i^^^j)+sq4 i j*(X i*Y j))
theorem z3e{X Y:Nat→Int}{i j:Nat}(C:Nat→Int)(h:X i*Y j=0):z24 X Y i j C=C:=by
 funext n
 unfold z24 zkG
 split
 · rename_i hn;rw[Nat.eq_of_beq_eq_true hn,h];simp
 · rfl
theorem z5W{z:Int}:((bytesOf z.natAbs).toList==[])=decide (z=0):=by
 rw[Q3];exact decide_eq_decide.2 (by omega)
theorem zeP: ∀i,i<4→ ∀j,j<4→0<sq4 i j∧sq4 i j≤6:=by decide
section
variable{X Y:Nat→Int}{e e':Int}{p q:Nat}(hp:p+q+2<1073741824)(hX: ∀i,(X i).natAbs<256^p)(hY: ∀i,(Y i).natAbs<256^q)
include hp hX hY
omit hp in
theorem z3r(i j:Nat):(X i*Y j).natAbs<256^(p+q):=by
 rw[Int.natAbs_mul];exact K.mul_lt_pow (hX i) (hY j)
theorem z3P {R : Goal} (hn : j7 R.n [0, 1, 2, 3, 4] = true) (i j t : Nat) (hi : i < 4) (hj : j < 4) (ht : t ≤ 20) (C : Nat → Int) (hC : ∀ k, (C k).natAbs ≤ t * 6 * 256 ^ (p + q))
    (hR:Ok P 201 (loopHead P 201 1) (z6y X Y (z24 X Y i j C) e e' i (j+1)) R):Ok P 201 (loopHead P 201 1) (z6y X Y C e e' i j) R:=by
 have hjj:(0:Int)≤(j:Int)∧(j:Int)<4:=by omega
 by_cases ha:X i=0
 · rw[z3e C (by rw[ha,Int.zero_mul])]at hR
   exact okS (zoB X Y C e e' i j hi hj) rfl (.cons hjj (.cons (Nat.le_refl _) (.cons (by rw[z5W,ha];rfl) (.cons (z1q _ _) (.cons (z1q _ _) (.cons (z1q _ _) (.cons (z0b _) (.cons (zbj _) .nil)))))))) hn hR
 · by_cases hb:Y j=0
   · rw[z3e C (by rw[hb,Int.mul_zero])]at hR
     exact okS (zp6 X Y C e e' i j hi hj) rfl (.cons hjj (.cons (Nat.le_refl _) (.cons (by rw[z5W];simpa using ha) (.cons (by rw[z5W,hb];rfl) (.cons (z1q _ _) (.cons (z1q _ _) (.cons (z1q _ _) (.cons (z0b _) (.cons (zbj _) .nil))))))))) hn hR
   · have hm:=z3r hX hY i j
     obtain⟨s1,s2⟩:=zeP i hi j hj
     have hw:256^(p+q+1)=256*256^(p+q):=by rw[Nat.pow_succ,Nat.mul_comm]
     have hf:(sq4 i j*(X i*Y j)).natAbs<6*256^(p+q)+1:=by
      rw[Int.natAbs_mul]
      have:(sq4 i j).natAbs≤6:=by omega
      have:=Nat.mul_le_mul this (Nat.le_of_lt hm)
      omega
     have smX:SmlZ (X i):=Sml.of_lt (hX i) (by omega)
     have smY:SmlZ (Y j):=Sml.of_lt (hY j) (by omega)
     have smM:Sml ((X i).natAbs*(Y j).natAbs):=by rw[←Int.natAbs_mul];exact Sml.of_lt hm (by omega)
     have smS:SmlZ (sq4 i j):=z0q (by omega)
     have smM':SmlZ (X i*Y j):=Sml.of_lt hm (by omega)
     have hCk:=hC (i^^^j)
     have ht6:t*6*256^(p+q)≤120*256^(p+q):=Nat.mul_le_mul_right _ (by omega)
     have hpp:0<256^(p+q):=Nat.pow_pos (by decide)
     have smF:SmlZ (sq4 i j*(X i*Y j)):=Sml.of_lt (k:=p+q+1) (by omega) (by omega)
     have smF2:Sml ((sq4 i j).natAbs*(X i*Y j).natAbs):=by rw[←Int.natAbs_mul];exact smF
     have smC:SmlZ (C (i^^^j)):=Sml.of_lt (k:=p+q+1) (by omega) (by omega)
     have smA:Sml ((C (i^^^j)).natAbs+(sq4 i j*(X i*Y j)).natAbs):=Sml.of_lt (k:=p+q+1) (by omega) (by omega)
     have hx4:i^^^j<4:=Nat.xor_lt_two_pow (n:=2) (by simpa using hi) (by simpa using hj)
     have ha4:i&&&j<4:=Nat.lt_of_le_of_lt Nat.and_le_left hi
     exact okS (zpd X Y C e e' i j hi hj) rfl (.cons hjj (.cons (Nat.le_refl _) (.cons (by rw[z5W];simpa using ha) (.cons (by rw[z5W];simpa using hb) (.cons (by omega) (.cons (z0u _ (by omega)) (.cons (Nat.le_refl _) (.cons (by omega)
      (.cons (z0a _ _ smX smY smM) (.cons (z0a _ _ smS smM' smF2) (.cons (z1H _ _ smC smF smA) (.cons (by omega) (.cons (by omega) (.cons (z1q _ _) (.cons (z1q _ _) (.cons (z1q _ _) (.cons (z0b _) (.cons (zbj _) .nil)))))))))))))))))) hn hR
omit hp in
theorem z10(i j t:Nat)(hi:i<4)(hj:j<4)(C:Nat→Int)(hC: ∀k,(C k).natAbs≤t*6*256^(p+q)): ∀k,(z24 X Y i j C k).natAbs≤(t+1)*6*256^(p+q):=by
 intro k
 have hm:=z3r hX hY i j
 obtain⟨s1,s2⟩:=zeP i hi j hj
 have hf:(sq4 i j*(X i*Y j)).natAbs≤6*256^(p+q):=by
  rw[Int.natAbs_mul]
  exact Nat.mul_le_mul (by omega) (Nat.le_of_lt hm)
 have e1:(t+1)*6*256^(p+q)=t*6*256^(p+q)+6*256^(p+q):=by rw[Nat.add_mul,Nat.one_mul,Nat.add_mul]
 unfold z24 zkG
 split
 · have:=hC (i^^^j);omega
 · have:=hC k;omega
end
theorem zhO(a b c d e a' b' c' d' e':Int){R:CV→Prop}(hR:Ok P 201 (loopHead P 201 0) ⟨J1 62 [(2,.ptr 0 0),(3,.ptr (0+1) 0),(4,.ptr (0+1+1) 0),(5,.ptr (0+1+1+1) 0),(12,.agg [.cv (.lit (.bool (decide (a<0)))),.cv (.lit (.string (bytesOf a.natAbs))),.cv (.lit (.bool (decide (b<0)))),.cv (.lit (.string (bytesOf b.natAbs))),.cv (.lit (.bool (decide (c<0)))),.cv (.lit (.string (bytesOf c.natAbs))),.cv (.lit (.bool (decide (d<0)))),.cv (.lit (.string (bytesOf d.natAbs)))]),(13,.cv (.lit (.int .i64 0)))],[some [.cv (.lit (.bool (decide (a<0)))),.cv (.lit (.string (bytesOf a.natAbs))),.cv (.lit (.bool (decide (b<0)))),.cv (.lit (.string (bytesOf b.natAbs))),.cv (.lit (.bool (decide (c<0)))),.cv (.lit (.string (bytesOf c.natAbs))),.cv (.lit (.bool (decide (d<0)))),.cv (.lit (.string (bytesOf d.natAbs))),.cv (.lit (.bool (decide (e<0)))),.cv (.lit (.string (bytesOf e.natAbs)))],some [.cv (.lit (.bool (decide (a'<0)))),.cv (.lit (.string (bytesOf a'.natAbs))),.cv (.lit (.bool (decide (b'<0)))),.cv (.lit (.string (bytesOf b'.natAbs))),.cv (.lit (.bool (decide (c'<0)))),.cv (.lit (.string (bytesOf c'.natAbs))),.cv (.lit (.bool (decide (d'<0)))),.cv (.lit (.string (bytesOf d'.natAbs))),.cv (.lit (.bool (decide (e'<0)))),.cv (.lit (.string (bytesOf e'.natAbs)))],some [.cv (.lit (.bool false)),.cv (.lit (.string {data:= #[]})),.cv (.lit (.bool false)),.cv (.lit (.string {data:= #[]})),.cv (.lit (.bool false)),.cv (.lit (.string {data:= #[]})),.cv (.lit (.bool false)),.cv (.lit (.string {data:= #[]})),.cv (.lit (.bool false)),.cv (.lit (.string {data:= #[]}))],some [.cv (.lit (.bool false)),.cv (.lit (.string {data:= #[]})),.cv (.lit (.bool false)),.cv (.lit (.string {data:= #[]})),.cv (.lit (.bool false)),.cv (.lit (.string {data:= #[]})),.cv (.lit (.bool false)),.cv (.lit (.string {data:= #[]}))]]⟩ (.of R)):Y3 P 201 [n5C a b c d e,n5C a' b' c' d' e'] R:=
 Z6 (keep:=[2,3,4,5,12,13]) (σ:=[0,1,2,3]) (.o 7 .stop .nil) (by kernel_rfl) rfl hR (.cons (by simp[CvL]) (.cons (by simp[CvL]) (.cons (by simp[CvL]) (.cons (by simp[CvL]) .nil))))
section
variable{X Y:Nat→Int}{e e':Int}{p q:Nat}(hp:p+q+2<1073741824)(hX: ∀i,(X i).natAbs<256^p)(hY: ∀i,(Y i).natAbs<256^q)
include hp hX hY
theorem z3d {R : Goal} (hn : j7 R.n [0, 1, 2, 3, 4] = true) (hn' : j7 R.n [0, 1, 2, 3] = true) (i t : Nat) (hi : i < 4) (ht : t ≤ 16) (C : Nat → Int) (hC : ∀ k, (C k).natAbs ≤ t * 6 * 256 ^ (p + q))
    (hR:Ok P 201 (loopHead P 201 0) (zbQ X Y (z24 X Y i 3 (z24 X Y i 2 (z24 X Y i 1 (z24 X Y i 0 C)))) e e' (i+1)) R):Ok P 201 (loopHead P 201 0) (zbQ X Y C e e' i) R:=by
 have b0:=z10 hX hY i 0 t hi (by decide) C hC
 have b1:=z10 hX hY i 1 (t+1) hi (by decide) _ b0
 have b2:=z10 hX hY i 2 (t+2) hi (by decide) _ b1
 refine okS (zq0 X Y C e e' i hi) rfl (.cons (by omega) (.cons (Nat.le_refl _) (.cons (z1q _ _) (.cons (z1q _ _) (.cons (z1q _ _) (.cons (z0b _) (.cons (zbj _) .nil))))))) hn ?_
 refine z3P hp hX hY hn i 0 t hi (by decide) (by omega) C hC ?_
 refine z3P hp hX hY hn i 1 (t+1) hi (by decide) (by omega) _ b0 ?_
 refine z3P hp hX hY hn i 2 (t+2) hi (by decide) (by omega) _ b1 ?_
 refine z3P hp hX hY hn i 3 (t+3) hi (by decide) (by omega) _ b2 ?_
 exact okS (zrG X Y _ e e' i hi) rfl (.cons (z1q _ _) (.cons (z1q _ _) (.cons (z1q _ _) (.cons (z0b _) .nil)))) hn' hR
omit hp in
theorem z2v(i t:Nat)(hi:i<4)(C:Nat→Int)(hC: ∀k,(C k).natAbs≤t*6*256^(p+q)): ∀k,(z24 X Y i 3 (z24 X Y i 2 (z24 X Y i 1 (z24 X Y i 0 C))) k).natAbs≤(t+4)*6*256^(p+q):=by
 have b0:=z10 hX hY i 0 t hi (by decide) C hC
 have b1:=z10 hX hY i 1 (t+1) hi (by decide) _ b0
 have b2:=z10 hX hY i 2 (t+2) hi (by decide) _ b1
 exact z10 hX hY i 3 (t+3) hi (by decide) _ b2
end
def ziu(x:K)(i:Nat):Int:=match i with|0=>x.c0|1=>x.c1|2=>x.c2|_=>x.c3
theorem ze1(x:K)(i:Nat):(ziu x i).natAbs<256^K.sz x:=by
 obtain⟨h0,h1,h2,h3,_⟩:=K.sz_lt x
 unfold ziu;split<;>assumption
theorem SmlZ.sz{x:K}(h:K.sz x<1073741824):SmlZ x.c0∧SmlZ x.c1∧SmlZ x.c2∧SmlZ x.c3∧SmlZ x.d:=by
 obtain⟨h0,h1,h2,h3,h4⟩:=K.sz_lt x
 exact⟨Sml.of_lt h0 h,Sml.of_lt h1 h,Sml.of_lt h2 h,Sml.of_lt h3 h,Sml.of_lt h4 h⟩
theorem z25(x y:K)(h:K.sz x+K.sz y+2<1073741824):PCall P 201 [Z0 x,Z0 y] (Z0 (x*y)):=by
 have hX:=ze1 x
 have hY:=ze1 y
 have hd:=(K.sz_lt x).2.2.2.2
 have hd':=(K.sz_lt y).2.2.2.2
 refine zhO x.c0 x.c1 x.c2 x.c3 x.d y.c0 y.c1 y.c2 y.c3 y.d ?_
 have c0: ∀k:Nat,((fun _=>0:Nat→Int) k).natAbs≤0*6*256^(K.sz x+K.sz y):=by intro k;simp
 have c1:=z2v hX hY 0 0 (by decide) _ c0
 have c2:=z2v hX hY 1 4 (by decide) _ c1
 have c3:=z2v hX hY 2 8 (by decide) _ c2
 have c4:=z2v hX hY 3 12 (by decide) _ c3
 have main:Ok P 201 (loopHead P 201 0) (zbQ (ziu x) (ziu y) (fun _=>0) x.d y.d 0) (.of (fun v=>v=Z0 (x*y))):=by
  refine z3d h hX hY rfl rfl 0 0 (by decide) (by decide) _ c0 ?_
  refine z3d h hX hY rfl rfl 1 4 (by decide) (by decide) _ c1 ?_
  refine z3d h hX hY rfl rfl 2 8 (by decide) (by decide) _ c2 ?_
  refine z3d h hX hY rfl rfl 3 12 (by decide) (by decide) _ c3 ?_
  generalize hC:z24 (ziu x) (ziu y) 3 3 _=C at*
  have e0:C 0=x.c0*y.c0+2*x.c1*y.c1+3*x.c2*y.c2+6*x.c3*y.c3:=by
   have:C 0=0+1*(x.c0*y.c0)+2*(x.c1*y.c1)+3*(x.c2*y.c2)+6*(x.c3*y.c3):=by rw[←hC];rfl
   rw[this];grind
  have e1:C 1=x.c0*y.c1+x.c1*y.c0+3*x.c2*y.c3+3*x.c3*y.c2:=by
   have:C 1=0+1*(x.c0*y.c1)+1*(x.c1*y.c0)+3*(x.c2*y.c3)+3*(x.c3*y.c2):=by rw[←hC];rfl
   rw[this];grind
  have e2:C 2=x.c0*y.c2+x.c2*y.c0+2*x.c1*y.c3+2*x.c3*y.c1:=by
   have:C 2=0+1*(x.c0*y.c2)+2*(x.c1*y.c3)+1*(x.c2*y.c0)+2*(x.c3*y.c1):=by rw[←hC];rfl
   rw[this];grind
  have e3:C 3=x.c0*y.c3+x.c3*y.c0+x.c1*y.c2+x.c2*y.c1:=by
   have:C 3=0+1*(x.c0*y.c3)+1*(x.c1*y.c2)+1*(x.c2*y.c1)+1*(x.c3*y.c0):=by rw[←hC];rfl
   rw[this];grind
  have hw:256^(K.sz x+K.sz y+1)=256*256^(K.sz x+K.sz y):=by rw[Nat.pow_succ,Nat.mul_comm]
  have hpp:0<256^(K.sz x+K.sz y):=Nat.pow_pos (by decide)
  have sm: ∀k,SmlZ (C k):=fun k=>Sml.of_lt (k:=K.sz x+K.sz y+1) (by have:=c4 k;omega) (by omega)
  have hdd:(x.d*y.d).natAbs<256^(K.sz x+K.sz y):=by rw[Int.natAbs_mul];exact K.mul_lt_pow hd hd'
  have smd:SmlZ (x.d*y.d):=Sml.of_lt hdd (by omega)
  have key:K.of (C 0) (C 1) (C 2) (C 3) (x.d*y.d)=x*y:=by rw[e0,e1,e2,e3];rfl
  refine okR (zoT (ziu x) (ziu y) C x.d y.d) (.cons (z0a _ _ (SmlZ.sz (x:=x) (by omega)).2.2.2.2 (SmlZ.sz (x:=y) (by omega)).2.2.2.2 (by rw[←Int.natAbs_mul];exact smd)) (.cons (z5q _ _ _ _ _ (sm 0) (sm 1) (sm 2) (sm 3) smd (Int.mul_ne_zero x.d_ne y.d_ne)) (.cons (Nat.le_refl _) .nil))) ?_
  rw[key];rfl
 exact main
abbrev Smk(x:K):Prop:=K.sz x<1073741824
theorem z0j(x:K)(h:Smk x):PCall P 154 [Z0 x] (.lit (.bool true)):=by
 obtain⟨h0,h1,h2,h3,h4⟩:=SmlZ.sz h
 refine(z8m _ _ _ _ _ (by rw[Int.sign_eq_one_of_pos x.pos];rfl) h0 h1 h2 h3 h4 (by decide)).eq ?_
 rw[x.cop];rfl
theorem zgd(x:K):PCall P 211 [Z0 x,j5 1] (Z0 (K.conj1 x)):=zeb _ _ _ _ _
theorem zgC(x:K):PCall P 211 [Z0 x,j5 2] (Z0 (K.conj2 x)):=zdJ _ _ _ _ _
theorem zkD(z e:Int)(hz:SmlZ z)(he:SmlZ e)(h:e≠0):PCall P 204 [.agg [.lit (.bool (decide (z<0))),.lit (.string (bytesOf z.natAbs)),.lit (.bool false),.lit (.string ⟨#[]⟩),.lit (.bool false),.lit (.string ⟨#[]⟩),.lit (.bool false),.lit (.string ⟨#[]⟩)],J2 e] (Z0 (K.of z 0 0 0 e)):=by
 have h0:SmlZ 0:=Sml.of_lt (k:=1) (by decide) (by decide)
 exact z5q z 0 0 0 e hz h0 h0 h0 he h
end Go.Fw
