/- A part of the proof that the law returns true for every input: an executor for the model's code, and what functions of the program compute. -/
set_option maxRecDepth 10000
namespace Go.Fw
class CR(R:Type) extends Add R,Mul R,Neg R,Sub R where
 ofInt:Int→R
 add_comm: ∀x y:R,x+y=y+x
 add_assoc: ∀x y z:R,x+y+z=x+(y+z)
 zero_add: ∀x:R,ofInt 0+x=x
 add_neg: ∀x:R,x+ -x=ofInt 0
 mul_comm: ∀x y:R,x*y=y*x
 mul_assoc: ∀x y z:R,x*y*z=x*(y*z)
 mul_add: ∀x y z:R,x*(y+z)=x*y+x*z
 one_mul: ∀x:R,ofInt 1*x=x
 sub_eq: ∀x y:R,x-y=x+ -y
 ofInt_add: ∀a b:Int,ofInt (a+b)=ofInt a+ofInt b
 ofInt_mul: ∀a b:Int,ofInt (a*b)=ofInt a*ofInt b
namespace CR
variable{R:Type}[CR R]
theorem add_zero(x:R):x+ofInt 0=x:=by rw[add_comm,zero_add]
theorem mul_one(x:R):x*ofInt 1=x:=by rw[mul_comm,one_mul]
theorem add_mul(x y z:R):(x+y)*z=x*z+y*z:=by rw[mul_comm,mul_add,mul_comm z x,mul_comm z y]
theorem mul_zero(x:R):x*ofInt 0=ofInt 0:=by
 have h:x*ofInt 0+x*ofInt 0=x*ofInt 0:=by rw[←mul_add,add_zero]
 have h2:x*ofInt 0+x*ofInt 0+ -(x*ofInt 0)=x*ofInt 0+ -(x*ofInt 0):=by rw[h]
 rwa[add_assoc,add_neg,add_zero]at h2
theorem zero_mul(x:R):ofInt 0*x=ofInt 0:=by rw[mul_comm,mul_zero]
theorem zbI(x:R): -x=ofInt (-1)*x:=by
 have h:x+ofInt (-1)*x=ofInt 0:=by
  conv=>lhs;lhs;rw[←one_mul x]
  rw[←add_mul,←ofInt_add];exact zero_mul x
 have h2: -x+(x+ofInt (-1)*x)= -x+ofInt 0:=by rw[h]
 rw[←add_assoc,add_comm (-x) x,add_neg,zero_add,add_zero]at h2
 exact h2.symm
def zfX(i:Nat):List Nat→List Nat
 | []=>[i]
 |j::m=>match Nat.ble i j with|true=>i::j::m|false=>j::zfX i m
def z9U(a b:List Nat):List Nat:=a.foldr zfX b
def zaY:List Nat→List Nat→Ordering
 | [],[]=> .eq
 | [],_=> .lt
 |_,[]=> .gt
 |i::a,j::b=>match Nat.beq i j with
  |true=>zaY a b
  |false=>match Nat.ble i j with|true=> .lt|false=> .gt
abbrev z7p:=List (List Nat×Int)
def zfz(m:List Nat)(c:Int):z7p→z7p
 | []=>[(m,c)]
 |(k,d)::p=>match zaY m k with
  | .eq=>match c+d with| .ofNat 0=>p|s=>(k,s)::p
  | .lt=>(m,c)::(k,d)::p
  | .gt=>(k,d)::zfz m c p
def zfs(p q:z7p):z7p:=p.foldr (fun t a=>zfz t.1 t.2 a) q
def zg1(m:List Nat)(c:Int)(p:z7p):z7p:=p.map fun t=>(z9U m t.1,c*t.2)
def zgJ(p q:z7p):z7p:=p.foldr (fun t a=>zfs (zg1 t.1 t.2 q) a) []
variable(ρ:Nat→R)
def z5G(m:List Nat):R:=m.foldr (fun i a=>ρ i*a) (ofInt 1)
def z4J(p:z7p):R:=p.foldr (fun t a=>ofInt t.2*z5G ρ t.1+a) (ofInt 0)
theorem z3J(i:Nat)(m:List Nat):z5G ρ (i::m)=ρ i*z5G ρ m:=rfl
theorem z0G(t:List Nat×Int)(p:z7p):z4J ρ (t::p)=ofInt t.2*z5G ρ t.1+z4J ρ p:=rfl
theorem z6Q(i:Nat): ∀m,z5G ρ (zfX i m)=ρ i*z5G ρ m
 | []=>rfl
 |j::m=>by
  simp only[zfX]
  split
  · rfl
  · rw[z3J,z6Q i m,z3J,←mul_assoc,mul_comm (ρ j),mul_assoc]
theorem z6P: ∀a b,z5G ρ (z9U a b)=z5G ρ a*z5G ρ b
 | [],b=>(one_mul _).symm
 |i::a,b=>by
  show z5G ρ (zfX i (z9U a b))=_
  rw[z6Q,z6P a b,z3J,mul_assoc]
theorem z6S: ∀a b,zaY a b= .eq→a=b
 | [],[],_=>rfl
 | [],_::_,h=>by cases h
 |_::_,[],h=>by cases h
 |i::a,j::b,h=>by
  simp only[zaY]at h
  split at h
  · rename_i hij;rw[Nat.eq_of_beq_eq_true hij,z6S a b h]
  · split at h<;>cases h
theorem z5L(m:List Nat)(c:Int): ∀p,z4J ρ (zfz m c p)=ofInt c*z5G ρ m+z4J ρ p
 | []=>rfl
 |(k,d)::p=>by
  simp only[zfz]
  split
  · rename_i h
    have:=z6S _ _ h
    subst this
    have e:ofInt c*z5G ρ m+z4J ρ ((m,d)::p)=ofInt (c+d)*z5G ρ m+z4J ρ p:=by
     rw[z0G,←add_assoc,←add_mul,←ofInt_add]
    rw[e]
    split
    · rename_i h0
      rw[h0]
      show z4J ρ p=ofInt 0*z5G ρ m+z4J ρ p
      rw[zero_mul,zero_add]
    · rfl
  · rfl
  · rw[z0G,z5L m c p,z0G,←add_assoc,←add_assoc,add_comm (ofInt d*z5G ρ k)]
theorem z54: ∀p q,z4J ρ (zfs p q)=z4J ρ p+z4J ρ q
 | [],q=>(zero_add _).symm
 |t::p,q=>by
  show z4J ρ (zfz t.1 t.2 (zfs p q))=_
  rw[z5L,z54 p q,z0G,add_assoc]
theorem z3Z(m:List Nat)(c:Int): ∀p,z4J ρ (zg1 m c p)=ofInt c*z5G ρ m*z4J ρ p
 | []=>(mul_zero _).symm
 |t::p=>by
  show ofInt (c*t.2)*z5G ρ (z9U m t.1)+z4J ρ (zg1 m c p)=_
  rw[z3Z m c p,z0G,mul_add,z6P,ofInt_mul]
  congr 1
  rw[mul_assoc,mul_assoc]
  congr 1
  rw[←mul_assoc,mul_comm (ofInt t.2),mul_assoc]
theorem z6N: ∀p q,z4J ρ (zgJ p q)=z4J ρ p*z4J ρ q
 | [],q=>(zero_mul _).symm
 |t::p,q=>by
  show z4J ρ (zfs (zg1 t.1 t.2 q) (zgJ p q))=_
  rw[z54,z3Z,z6N p q,z0G,add_mul]
inductive Tm where
 |v (i:Nat)
 |n (k:Int)
 |add (a b:Tm)
 |mul (a b:Tm)
 |neg (a:Tm)
def Tm.den:Tm→R
 | .v i=>ρ i
 | .n k=>ofInt k
 | .add a b=>a.den+b.den
 | .mul a b=>a.den*b.den
 | .neg a=> -a.den
def Tm.norm:Tm→z7p
 | .v i=>[([i],1)]
 | .n k=>match k with| .ofNat 0=>[]|k=>[([],k)]
 | .add a b=>zfs a.norm b.norm
 | .mul a b=>zgJ a.norm b.norm
 | .neg a=>zg1 [] (-1) a.norm
theorem Tm.norm_den: ∀t:Tm,z4J ρ t.norm=t.den ρ
 | .v i=>by
  show ofInt 1*(ρ i*ofInt 1)+ofInt 0=ρ i
  rw[add_zero,mul_one,one_mul]
 | .n k=>by
  simp only[Tm.norm]
  split
  · rfl
  · show ofInt k*ofInt 1+ofInt 0=ofInt k
    rw[add_zero,mul_one]
 | .add a b=>by simp only[Tm.norm,Tm.den,z54,norm_den a,norm_den b]
 | .mul a b=>by simp only[Tm.norm,Tm.den,z6N,norm_den a,norm_den b]
 | .neg a=>by
  simp only[Tm.norm,Tm.den,z3Z,norm_den a]
  show ofInt (-1)*ofInt 1*a.den ρ=_
  rw[mul_one,←zbI]
class Rf(x:R)(t:outParam Tm):Prop where
 eq:x=t.den ρ
instance(i:Nat):Rf ρ (ρ i) (.v i):=⟨rfl⟩
instance(k:Int):Rf ρ (ofInt k) (.n k):=⟨rfl⟩
instance(x y:R)(s t:Tm)[a:Rf ρ x s][b:Rf ρ y t]:Rf ρ (x+y) (.add s t):=⟨by rw[a.eq,b.eq];rfl⟩
instance(x y:R)(s t:Tm)[a:Rf ρ x s][b:Rf ρ y t]:Rf ρ (x*y) (.mul s t):=⟨by rw[a.eq,b.eq];rfl⟩
instance(x:R)(s:Tm)[a:Rf ρ x s]:Rf ρ (-x) (.neg s):=⟨by rw[a.eq];rfl⟩
instance(x y:R)(s t:Tm)[a:Rf ρ x s][b:Rf ρ y t]:Rf ρ (x-y) (.add s (.neg t)):=⟨by rw[sub_eq,a.eq,b.eq];rfl⟩
def zgB:List Nat→List Nat→Bool
 | [],[]=>true
 |i::a,j::b=>Nat.beq i j&&zgB a b
 |_,_=>false
def eqZ:Int→Int→Bool
 | .ofNat a,.ofNat b=>Nat.beq a b
 | .negSucc a,.negSucc b=>Nat.beq a b
 |_,_=>false
def zgA:z7p→z7p→Bool
 | [],[]=>true
 |(m,c)::p,(k,d)::q=>zgB m k&&eqZ c d&&zgA p q
 |_,_=>false
theorem z8H: ∀a b,zgB a b=true→a=b
 | [],[],_=>rfl
 | [],_::_,h=>by cases h
 |_::_,[],h=>by cases h
 |i::a,j::b,h=>by
  simp only[zgB,Bool.and_eq_true]at h
  rw[Nat.eq_of_beq_eq_true h.1,z8H a b h.2]
theorem zf5: ∀a b,eqZ a b=true→a=b
 | .ofNat a,.ofNat b,h=>by rw[Nat.eq_of_beq_eq_true h]
 | .negSucc a,.negSucc b,h=>by rw[Nat.eq_of_beq_eq_true h]
 | .ofNat _,.negSucc _,h=>by cases h
 | .negSucc _,.ofNat _,h=>by cases h
theorem z9P: ∀p q,zgA p q=true→p=q
 | [],[],_=>rfl
 | [],_::_,h=>by cases h
 |_::_,[],h=>by cases h
 |(m,c)::p,(k,d)::q,h=>by
  simp only[zgA,Bool.and_eq_true]at h
  rw[z8H _ _ h.1.1,zf5 _ _ h.1.2,z9P p q h.2]
theorem ring{x y:R}{s t:Tm}[a:Rf ρ x s][b:Rf ρ y t] (h:zgA s.norm t.norm=true):x=y:=by
 rw[a.eq,b.eq,←Tm.norm_den,←Tm.norm_den,z9P _ _ h]
def vr(l:List R):Nat→R:=fun i=>l.getD i (ofInt 0)
def at3(a b c:R):Nat→R|0=>a|1=>b|_=>c
theorem z9r{x y:R}(h:x-y=ofInt 0):x=y:=by
 have:x-y+y=ofInt 0+y:=by rw[h]
 have e:x-y+y=x:=ring (at3 x y y) (x:=at3 x y y 0-at3 x y y 1+at3 x y y 1) (y:=at3 x y y 0) rfl
 rw[e,zero_add]at this;exact this
end CR
instance:CR Int where
 ofInt:=id
 add_comm:=Int.add_comm
 add_assoc:=Int.add_assoc
 zero_add:=Int.zero_add
 add_neg:=Int.add_right_neg
 mul_comm:=Int.mul_comm
 mul_assoc:=Int.mul_assoc
 mul_add:=Int.mul_add
 one_mul:=Int.one_mul
 sub_eq:=fun _ _=>Int.sub_eq_add_neg
 ofInt_add:=fun _ _=>rfl
 ofInt_mul:=fun _ _=>rfl
structure Adj(R:Type)[CR R] (m:R) where
 re:R
 im:R
namespace Adj
variable{R:Type}[CR R] {m:R}
theorem ext{x y:Adj R m}(h1:x.re=y.re)(h2:x.im=y.im):x=y:=by cases x;cases y;simp only at h1 h2;subst h1 h2;rfl
instance:CR (Adj R m) where
 add x y:=⟨x.re+y.re,x.im+y.im⟩
 mul x y:=⟨x.re*y.re+m*(x.im*y.im),x.re*y.im+x.im*y.re⟩
 neg x:=⟨-x.re,-x.im⟩
 sub x y:=⟨x.re-y.re,x.im-y.im⟩
 ofInt n:=⟨CR.ofInt n,CR.ofInt 0⟩
 add_comm x y:=ext (CR.add_comm _ _) (CR.add_comm _ _)
 add_assoc x y z:=ext (CR.add_assoc _ _ _) (CR.add_assoc _ _ _)
 zero_add x:=ext (CR.zero_add _) (CR.zero_add _)
 add_neg x:=ext (CR.add_neg _) (CR.add_neg _)
 mul_comm x y:=by
  refine ext ?_ ?_
  · show x.re*y.re+m*(x.im*y.im)=y.re*x.re+m*(y.im*x.im)
    rw[CR.mul_comm x.re,CR.mul_comm x.im]
  · show x.re*y.im+x.im*y.re=y.re*x.im+y.im*x.re
    rw[CR.add_comm,CR.mul_comm x.im,CR.mul_comm x.re]
 mul_assoc x y z:=by
  refine ext ?_ ?_
  · exact(show ∀ρ:Nat→R,(ρ 0*ρ 2+ρ 6*(ρ 1*ρ 3))*ρ 4+ρ 6*((ρ 0*ρ 3+ρ 1*ρ 2)*ρ 5)=ρ 0*(ρ 2*ρ 4+ρ 6*(ρ 3*ρ 5))+ρ 6*(ρ 1*(ρ 2*ρ 5+ρ 3*ρ 4))from fun ρ=>CR.ring ρ rfl) (CR.vr [x.re,x.im,y.re,y.im,z.re,z.im,m])
  · exact(show ∀ρ:Nat→R,(ρ 0*ρ 2+ρ 6*(ρ 1*ρ 3))*ρ 5+(ρ 0*ρ 3+ρ 1*ρ 2)*ρ 4=ρ 0*(ρ 2*ρ 5+ρ 3*ρ 4)+ρ 1*(ρ 2*ρ 4+ρ 6*(ρ 3*ρ 5))from fun ρ=>CR.ring ρ rfl) (CR.vr [x.re,x.im,y.re,y.im,z.re,z.im,m])
 mul_add x y z:=by
  refine ext ?_ ?_
  · exact(show ∀ρ:Nat→R,ρ 0*(ρ 2+ρ 4)+ρ 6*(ρ 1*(ρ 3+ρ 5))=ρ 0*ρ 2+ρ 6*(ρ 1*ρ 3)+(ρ 0*ρ 4+ρ 6*(ρ 1*ρ 5))from fun ρ=>CR.ring ρ rfl) (CR.vr [x.re,x.im,y.re,y.im,z.re,z.im,m])
  · exact(show ∀ρ:Nat→R,ρ 0*(ρ 3+ρ 5)+ρ 1*(ρ 2+ρ 4)=ρ 0*ρ 3+ρ 1*ρ 2+(ρ 0*ρ 5+ρ 1*ρ 4)from fun ρ=>CR.ring ρ rfl) (CR.vr [x.re,x.im,y.re,y.im,z.re,z.im,m])
 one_mul x:=by
  refine ext ?_ ?_
  · exact(show ∀ρ:Nat→R,CR.ofInt 1*ρ 0+ρ 2*(CR.ofInt 0*ρ 1)=ρ 0 from fun ρ=>CR.ring ρ rfl) (CR.vr [x.re,x.im,m])
  · exact(show ∀ρ:Nat→R,CR.ofInt 1*ρ 1+CR.ofInt 0*ρ 0=ρ 1 from fun ρ=>CR.ring ρ rfl) (CR.vr [x.re,x.im,m])
 sub_eq x y:=ext (CR.sub_eq _ _) (CR.sub_eq _ _)
 ofInt_add a b:=ext (CR.ofInt_add _ _) (CR.zero_add _).symm
 ofInt_mul a b:=by
  refine ext ?_ ?_
  · show CR.ofInt (a*b)=CR.ofInt a*CR.ofInt b+m*(CR.ofInt 0*CR.ofInt 0)
    rw[CR.ofInt_mul,CR.zero_mul,CR.mul_zero,CR.add_zero]
  · show CR.ofInt 0=CR.ofInt a*CR.ofInt 0+CR.ofInt 0*CR.ofInt b
    rw[CR.mul_zero,CR.zero_mul,CR.zero_add]
end Adj
class Sg(R:Type)[CR R] where
 sg:R→Int
 vals: ∀x,sg x= -1∨sg x=0∨sg x=1
 zero: ∀x,sg x=0↔x=CR.ofInt 0
 neg: ∀x,sg (-x)= -sg x
 mul: ∀x y,sg (x*y)=sg x*sg y
 add: ∀x y,sg x=1→sg y=1→sg (x+y)=1
instance:Sg Int where
 sg:=Int.sign
 vals x := by rcases Int.lt_trichotomy x 0 with h | h | h
              · exact .inl (Int.sign_eq_neg_one_of_neg h)
              · subst h;exact .inr (.inl rfl)
              · exact .inr (.inr (Int.sign_eq_one_of_pos h))
 zero x:=Int.sign_eq_zero_iff_zero
 neg x:=Int.sign_neg x
 mul x y:=Int.sign_mul x y
 add x y h1 h2:=by
  rw[Int.sign_eq_one_iff_pos]at*
  omega
namespace Sg
variable{R:Type}[CR R][Sg R]
open CR
theorem sq{x:R}(h:sg x≠0):sg (x*x)=1:=by
 rw[mul]
 rcases vals x with e|e|e<;>rw[e]at h ⊢ <;>first|rfl|exact absurd rfl h
theorem sq_nonneg(x:R):sg (x*x)=0∨sg (x*x)=1:=by
 by_cases h:sg x=0
 · left;rw[mul,h];rfl
 · right;exact sq h
def Nn(x:R):Prop:=sg x=0∨sg x=1
theorem Nn.add{x y:R}(hx:Nn x)(hy:Nn y):Nn (x+y):=by
 rcases hx with hx|hx
 · rw[(zero x).1 hx,zero_add];exact hy
 · rcases hy with hy|hy
   · rw[(zero y).1 hy,add_zero];exact .inr hx
   · exact .inr (Sg.add x y hx hy)
theorem Nn.mul{x y:R}(hx:Nn x)(hy:Nn y):Nn (x*y):=by
 unfold Nn at*
 rw[Sg.mul]
 rcases hx with hx|hx<;>rcases hy with hy|hy<;>rw[hx,hy]<;>decide
theorem z1x{x y:R}(hx:sg x=1)(hy:Nn y):sg (x+y)=1:=by
 rcases hy with hy|hy
 · rw[(zero y).1 hy,add_zero];exact hx
 · exact add x y hx hy
theorem z29{x:R}(h:sg x= -1):sg (-x)=1:=by rw[neg,h];rfl
class Irr(m:R):Prop where
 pos:sg m=1
 irr: ∀u v:R,u*u=m*(v*v)→v=ofInt 0
theorem zgy{x y:R}(hx:sg x=1)(h:sg (x*x-y*y)=1):sg (x+y)=1:=by
 have e:(x+y)*(x-y)=x*x-y*y:=CR.ring (at3 x y y) (x:=(at3 x y y 0+at3 x y y 1)*(at3 x y y 0-at3 x y y 1)) (y:=at3 x y y 0*at3 x y y 0-at3 x y y 1*at3 x y y 1) rfl
 rw[←e,mul]at h
 rcases vals (x+y)with h1|h1|h1
 · rcases vals (x-y)with h2|h2|h2
   · -- both negative: x is
     have h3:=add _ _ (z29 h1) (z29 h2)
     have e2: -(x+y)+ -(x-y)= -(x+x):=CR.ring (at3 x y y) (x:= -(at3 x y y 0+at3 x y y 1)+ -(at3 x y y 0-at3 x y y 1)) (y:= -(at3 x y y 0+at3 x y y 0)) rfl
     rw[e2,neg,add _ _ hx hx]at h3
     exact absurd h3 (by decide)
   · rw[h2,h1]at h;exact absurd h (by decide)
   · rw[h2,h1]at h;exact absurd h (by decide)
 · rw[h1,Int.zero_mul]at h;exact absurd h (by decide)
 · exact h1
end Sg
end Go.Fw
set_option maxRecDepth 10000
namespace Go.Fw
open CR
namespace Adj
variable{R:Type}[CR R][Sg R] {m:R}
def nm(x:Adj R m):R:=x.re*x.re-m*(x.im*x.im)
omit [Sg R]in
theorem zfQ(x y:Adj R m):(x*y).re=x.re*y.re+m*(x.im*y.im):=rfl
omit [Sg R]in
theorem zgc(x y:Adj R m):(x*y).im=x.re*y.im+x.im*y.re:=rfl
omit [Sg R]in
theorem zfm(x:Adj R m):(-x).re= -x.re:=rfl
omit [Sg R]in
theorem zeG(x:Adj R m):(-x).im= -x.im:=rfl
omit [Sg R]in
theorem zgr(n:Int):(ofInt n:Adj R m).im=ofInt 0:=rfl
omit [Sg R]in
theorem zfq(x y:Adj R m):nm (x*y)=nm x*nm y:=
 (show ∀ρ:Nat→R,(ρ 0*ρ 2+ρ 4*(ρ 1*ρ 3))*(ρ 0*ρ 2+ρ 4*(ρ 1*ρ 3))-ρ 4*((ρ 0*ρ 3+ρ 1*ρ 2)*(ρ 0*ρ 3+ρ 1*ρ 2))=(ρ 0*ρ 0-ρ 4*(ρ 1*ρ 1))*(ρ 2*ρ 2-ρ 4*(ρ 3*ρ 3))from fun ρ=>CR.ring ρ rfl) (vr [x.re,x.im,y.re,y.im,m])
omit [Sg R]in
theorem zbN(x:Adj R m):nm (-x)=nm x:=
 (show ∀ρ:Nat→R,-ρ 0* -ρ 0-ρ 2*(-ρ 1* -ρ 1)=ρ 0*ρ 0-ρ 2*(ρ 1*ρ 1)from fun ρ=>CR.ring ρ rfl) (vr [x.re,x.im,m])
def sg(x:Adj R m):Int:=if Sg.sg (nm x)=1 then Sg.sg x.re else if Sg.sg (nm x)= -1 then Sg.sg x.im else 0
variable [im:Sg.Irr m]
open Sg
theorem nm_zero(x:Adj R m):Sg.sg (nm x)=0↔x=ofInt 0:=by
 constructor
 · intro h
   have h0:=z9r ((Sg.zero _).1 h)
   have hi:=Irr.irr _ _ h0
   rw[hi,mul_zero,mul_zero]at h0
   refine ext ?_ hi
   have h1:Sg.sg (x.re*x.re)=0:=by rw[h0];exact(Sg.zero _).2 rfl
   rw[Sg.mul]at h1
   have h2:Sg.sg x.re=0:=by
    rcases Sg.vals x.re with e|e|e<;>rw[e]at h1 ⊢ <;>first|rfl|exact absurd h1 (by decide)
   exact(Sg.zero _).1 h2
 · rintro rfl
   rw[Sg.zero]
   show ofInt 0*ofInt 0-m*(ofInt 0*ofInt 0)=ofInt 0
   rw[mul_zero,mul_zero,sub_eq,add_neg]
theorem re_ne{x:Adj R m}(h:Sg.sg (nm x)=1):Sg.sg x.re≠0:=by
 intro e
 have e0:=(Sg.zero _).1 e
 have h1:nm x= -(m*(x.im*x.im)):=by rw[nm,e0,mul_zero,sub_eq,zero_add]
 rw[h1,Sg.neg,Sg.mul,im.pos,Int.one_mul]at h
 rcases Sg.sq_nonneg x.im with e|e<;>rw[e]at h<;>exact absurd h (by decide)
omit im in
theorem im_ne{x:Adj R m}(h:Sg.sg (nm x)= -1):Sg.sg x.im≠0:=by
 intro e
 have e0:=(Sg.zero _).1 e
 have h1:nm x=x.re*x.re:=by rw[nm,e0,mul_zero,mul_zero,sub_eq,zbI,mul_zero,add_zero]
 rw[h1]at h
 rcases Sg.sq_nonneg x.re with e|e<;>rw[e]at h<;>exact absurd h (by decide)
omit im in
theorem z6l(x:Adj R m):sg x= -1∨sg x=0∨sg x=1:=by
 unfold sg;split
 · exact Sg.vals _
 · split
   · exact Sg.vals _
   · exact .inr (.inl rfl)
theorem z2C(x:Adj R m):sg x=0↔x=ofInt 0:=by
 rw[←nm_zero]
 unfold sg
 constructor
 · intro h
   split at h
   · rename_i h1;exact absurd h (re_ne h1)
   · split at h
     · rename_i h1;exact absurd h (im_ne h1)
     · rcases Sg.vals (nm x)with e|e|e
       · contradiction
       · exact e
       · contradiction
 · intro h;rw[h];rfl
omit im in
theorem z2u(x:Adj R m):sg (-x)= -sg x:=by
 unfold sg
 rw[zbN,zfm,zeG,Sg.neg,Sg.neg]
 split
 · rfl
 · split<;>rfl
omit im in
theorem z1Q(x:Adj R m):sg x=1↔(Sg.sg (nm x)=1∧Sg.sg x.re=1)∨(Sg.sg (nm x)= -1∧Sg.sg x.im=1):=by
 unfold sg
 constructor
 · intro h
   split at h
   · exact .inl ⟨by assumption,h⟩
   · split at h
     · exact .inr ⟨by assumption,h⟩
     · exact absurd h (by decide)
 · rintro(⟨h1,h2⟩|⟨h1,h2⟩)
   · rw[if_pos h1,h2]
   · rw[if_neg (by rw[h1];decide),if_pos h1,h2]
theorem z5l{x y:Adj R m}(hx:sg x=1)(hy:sg y=1):sg (x*y)=1:=by
 rw[z1Q]at hx hy ⊢
 rw[zfq,Sg.mul,zfQ,zgc]
 rcases hx with⟨nx,px⟩|⟨nx,px⟩<;>rcases hy with⟨ny,py⟩|⟨ny,py⟩<;>rw[nx,ny]
 · left
   refine⟨rfl,zgy (by rw[Sg.mul,px,py];rfl) ?_⟩
   have e:x.re*y.re*(x.re*y.re)-m*(x.im*y.im)*(m*(x.im*y.im))=x.re*x.re*nm y+m*(y.im*y.im)*nm x:=
    (show ∀ρ:Nat→R,ρ 0*ρ 2*(ρ 0*ρ 2)-ρ 4*(ρ 1*ρ 3)*(ρ 4*(ρ 1*ρ 3))=ρ 0*ρ 0*(ρ 2*ρ 2-ρ 4*(ρ 3*ρ 3))+ρ 4*(ρ 3*ρ 3)*(ρ 0*ρ 0-ρ 4*(ρ 1*ρ 1))from fun ρ=>CR.ring ρ rfl) (vr [x.re,x.im,y.re,y.im,m])
   rw[e]
   refine z1x ?_ ?_
   · rw[Sg.mul,ny,sq (by rw[px];decide)];rfl
   · exact Nn.mul (Nn.mul (.inr im.pos) (sq_nonneg _)) (.inr nx)
 · right
   refine⟨rfl,zgy (by rw[Sg.mul,px,py];rfl) ?_⟩
   have e:x.re*y.im*(x.re*y.im)-x.im*y.re*(x.im*y.re)=y.im*y.im*nm x+x.im*x.im* -nm y:=
    (show ∀ρ:Nat→R,ρ 0*ρ 3*(ρ 0*ρ 3)-ρ 1*ρ 2*(ρ 1*ρ 2)=ρ 3*ρ 3*(ρ 0*ρ 0-ρ 4*(ρ 1*ρ 1))+ρ 1*ρ 1* -(ρ 2*ρ 2-ρ 4*(ρ 3*ρ 3))from fun ρ=>CR.ring ρ rfl) (vr [x.re,x.im,y.re,y.im,m])
   rw[e]
   refine z1x ?_ ?_
   · rw[Sg.mul,nx,sq (by rw[py];decide)];rfl
   · exact Nn.mul (sq_nonneg _) (.inr (z29 ny))
 · right
   rw[add_comm]
   refine⟨rfl,zgy (by rw[Sg.mul,px,py];rfl) ?_⟩
   have e:x.im*y.re*(x.im*y.re)-x.re*y.im*(x.re*y.im)=x.im*x.im*nm y+y.im*y.im* -nm x:=
    (show ∀ρ:Nat→R,ρ 1*ρ 2*(ρ 1*ρ 2)-ρ 0*ρ 3*(ρ 0*ρ 3)=ρ 1*ρ 1*(ρ 2*ρ 2-ρ 4*(ρ 3*ρ 3))+ρ 3*ρ 3* -(ρ 0*ρ 0-ρ 4*(ρ 1*ρ 1))from fun ρ=>CR.ring ρ rfl) (vr [x.re,x.im,y.re,y.im,m])
   rw[e]
   refine z1x ?_ ?_
   · rw[Sg.mul,ny,sq (by rw[px];decide)];rfl
   · exact Nn.mul (sq_nonneg _) (.inr (z29 nx))
 · left
   rw[add_comm]
   refine⟨rfl,zgy (by rw[Sg.mul,Sg.mul,im.pos,px,py];rfl) ?_⟩
   have e:m*(x.im*y.im)*(m*(x.im*y.im))-x.re*y.re*(x.re*y.re)=m*(x.im*x.im)* -nm y+y.re*y.re* -nm x:=
    (show ∀ρ:Nat→R,ρ 4*(ρ 1*ρ 3)*(ρ 4*(ρ 1*ρ 3))-ρ 0*ρ 2*(ρ 0*ρ 2)=ρ 4*(ρ 1*ρ 1)* -(ρ 2*ρ 2-ρ 4*(ρ 3*ρ 3))+ρ 2*ρ 2* -(ρ 0*ρ 0-ρ 4*(ρ 1*ρ 1))from fun ρ=>CR.ring ρ rfl) (vr [x.re,x.im,y.re,y.im,m])
   rw[e]
   refine z1x ?_ ?_
   · rw[Sg.mul,Sg.mul,im.pos,sq (by rw[px];decide),z29 ny];rfl
   · exact Nn.mul (sq_nonneg _) (.inr (z29 nx))
theorem z8o(x y:Adj R m):sg (x*y)=sg x*sg y:=by
 have hz: ∀x:Adj R m,(ofInt 0:Adj R m)*x=ofInt 0:=fun x=>zero_mul x
 have h0:sg (ofInt 0:Adj R m)=0:=(z2C _).2 rfl
 have hn: ∀x y:Adj R m,-x*y= -(x*y):=fun x y=>CR.ring (vr [x,y]) (x:= -(vr [x,y] 0)*vr [x,y] 1) (y:= -(vr [x,y] 0*vr [x,y] 1)) rfl
 have hp: ∀x y:Adj R m,sg y=1→sg (x*y)=sg x*sg y:=by
  intro x y hy
  rcases z6l x with e|e|e
  · have:sg (-x*y)=1:=z5l (by rw[z2u,e];rfl) hy
    rw[hn,z2u]at this
    rw[e,hy];omega
  · rw[(z2C x).1 e,hz,h0,Int.zero_mul]
  · rw[z5l e hy,e,hy];rfl
 rcases z6l y with e|e|e
 · have h1:=hp x (-y) (by rw[z2u,e];rfl)
   rw[mul_comm,hn,z2u,z2u,mul_comm]at h1
   rw[Int.mul_neg]at h1
   omega
 · rw[(z2C y).1 e,mul_comm,hz,h0,Int.mul_zero]
 · exact hp x y e
theorem z70{n:R}(hn:Sg.sg n=1){w:Adj R m}(hw:sg w=1):sg (⟨n+w.re,w.im⟩:Adj R m)=1:=by
 have hwp:=hw
 rw[z1Q]at hw
 rcases hw with⟨nw,pw⟩|⟨nw,pw⟩
 · rw[z1Q]
   left
   refine⟨?_,Sg.add _ _ hn pw⟩
   have e:nm (⟨n+w.re,w.im⟩:Adj R m)=nm w+(n*n+(n*w.re+n*w.re)):=
    (show ∀ρ:Nat→R,(ρ 0+ρ 1)*(ρ 0+ρ 1)-ρ 3*(ρ 2*ρ 2)=ρ 1*ρ 1-ρ 3*(ρ 2*ρ 2)+(ρ 0*ρ 0+(ρ 0*ρ 1+ρ 0*ρ 1))from fun ρ=>CR.ring ρ rfl) (vr [n,w.re,w.im,m])
   rw[e]
   have hnw:Sg.sg (n*w.re)=1:=by rw[Sg.mul,hn,pw];rfl
   exact Sg.add _ _ nw (Sg.add _ _ (sq (by rw[hn];decide)) (Sg.add _ _ hnw hnw))
 · have hz : sg (⟨n + w.re, w.im⟩ : Adj R m) ≠ 0 := by
     intro e
     have:=congrArg Adj.im ((z2C _).1 e)
     simp only[zgr]at this
     rw[this,(Sg.zero _).2 rfl]at pw
     exact absurd pw (by decide)
   have hN:Sg.sg (nm (⟨n+w.re,w.im⟩:Adj R m))≠0:=fun e=>hz ((z2C _).2 ((nm_zero _).1 e))
   rw[z1Q]
   rcases Sg.vals (nm (⟨n+w.re,w.im⟩:Adj R m))with e|e|e
   · exact .inr ⟨e,pw⟩
   · exact absurd e hN
   · left
     refine⟨e,?_⟩
     rcases Sg.vals (n+w.re)with k|k|k
     · -- then the part in front is too small
       exfalso
       have k':=z29 k
       have e1:nm (⟨n+w.re,w.im⟩:Adj R m)=nm w+ -(n*n+(n* -(n+w.re)+n* -(n+w.re))):=
        (show ∀ρ:Nat→R,(ρ 0+ρ 1)*(ρ 0+ρ 1)-ρ 3*(ρ 2*ρ 2)=ρ 1*ρ 1-ρ 3*(ρ 2*ρ 2)+ -(ρ 0*ρ 0+(ρ 0* -(ρ 0+ρ 1)+ρ 0* -(ρ 0+ρ 1)))from fun ρ=>CR.ring ρ rfl) (vr [n,w.re,w.im,m])
       have hnk:Sg.sg (n* -(n+w.re))=1:=by rw[Sg.mul,hn,k'];rfl
       have h3:Sg.sg (n*n+(n* -(n+w.re)+n* -(n+w.re)))=1:=Sg.add _ _ (sq (by rw[hn];decide)) (Sg.add _ _ hnk hnk)
       have h4:=Sg.add _ _ (z29 nw) h3
       have e2:nm (⟨n+w.re,w.im⟩:Adj R m)= -(-nm w+(n*n+(n* -(n+w.re)+n* -(n+w.re)))):=by
        rw[e1]
        exact(show ∀ρ:Nat→R,ρ 0+ -ρ 1= -(-ρ 0+ρ 1)from fun ρ=>CR.ring ρ rfl) (vr [nm w,n*n+(n* -(n+w.re)+n* -(n+w.re))])
       rw[e2,Sg.neg,h4]at e
       exact absurd e (by decide)
     · exact absurd k (re_ne e)
     · exact k
theorem zgj(x y:Adj R m)(hx:sg x=1)(hy:sg y=1):sg (x+y)=1:=by
 have hxp:=hx
 let z:Adj R m:=⟨x.re,-x.im⟩
 have hnz:nm z=nm x:=(show ∀ρ:Nat→R,ρ 0*ρ 0-ρ 2*(-ρ 1* -ρ 1)=ρ 0*ρ 0-ρ 2*(ρ 1*ρ 1)from fun ρ=>CR.ring ρ rfl) (vr [x.re,x.im,m])
 have e1:(x+y)*z=⟨nm x+(y*z).re,(y*z).im⟩:=by
  refine ext ?_ ?_
  · exact(show ∀ρ:Nat→R,(ρ 0+ρ 2)*ρ 0+ρ 4*((ρ 1+ρ 3)* -ρ 1)=ρ 0*ρ 0-ρ 4*(ρ 1*ρ 1)+(ρ 2*ρ 0+ρ 4*(ρ 3* -ρ 1))from fun ρ=>CR.ring ρ rfl) (vr [x.re,x.im,y.re,y.im,m])
  · exact(show ∀ρ:Nat→R,(ρ 0+ρ 2)* -ρ 1+(ρ 1+ρ 3)*ρ 0=ρ 2* -ρ 1+ρ 3*ρ 0 from fun ρ=>CR.ring ρ rfl) (vr [x.re,x.im,y.re,y.im,m])
 rw[z1Q]at hx
 rcases hx with⟨nx,px⟩|⟨nx,px⟩
 · have hz:sg z=1:=by rw[z1Q,hnz];exact .inl ⟨nx,px⟩
   have h2:=z70 nx (z5l hy hz)
   rw[←e1,z8o,hz]at h2
   omega
 · have hz : sg z = -1 := by
     have:sg (-z)=1:=by
      rw[z1Q,zbN,hnz]
      refine .inr ⟨nx,?_⟩
      show Sg.sg (- -x.im)=1
      rw[Sg.neg,Sg.neg,px];rfl
     rw[z2u]at this;omega
   have h1:sg (y* -z)=1:=z5l hy (by rw[z2u,hz];rfl)
   have h2:=z70 (z29 nx) h1
   have e2:(⟨-nm x+(y* -z).re,(y* -z).im⟩:Adj R m)= -((x+y)*z):=by
    rw[e1]
    refine ext ?_ ?_
    · exact(show ∀ρ:Nat→R,-ρ 5+(ρ 2* -ρ 0+ρ 4*(ρ 3* - -ρ 1))= -(ρ 5+(ρ 2*ρ 0+ρ 4*(ρ 3* -ρ 1)))from fun ρ=>CR.ring ρ rfl) (vr [x.re,x.im,y.re,y.im,m,nm x])
    · exact(show ∀ρ:Nat→R,ρ 2* - -ρ 1+ρ 3* -ρ 0= -(ρ 2* -ρ 1+ρ 3*ρ 0)from fun ρ=>CR.ring ρ rfl) (vr [x.re,x.im,y.re,y.im,m])
   rw[e2,z2u,z8o,hz]at h2
   omega
instance:Sg (Adj R m) where
 sg:=sg
 vals:=z6l
 zero:=z2C
 neg:=z2u
 mul:=z8o
 add:=zgj
end Adj
theorem zhe: ∀n:Nat,∀u v:Int,v.natAbs≤n→u*u=2*(v*v)→v=0
 |0,u,v,h,_=>by omega
 |n+1,u,v,hv,h=>by
  have hu:u%2=0:=by
   rcases Int.emod_two_eq u with e|e
   · exact e
   · have:(u*u)%2=1:=by rw[Int.mul_emod,e];rfl
     omega
  obtain⟨u',rfl⟩: ∃u',u=2*u':=⟨u/2,by omega⟩
  have h2:v*v=2*(u'*u'):=by grind
  have hv2:v%2=0:=by
   rcases Int.emod_two_eq v with e|e
   · exact e
   · have:(v*v)%2=1:=by rw[Int.mul_emod,e];rfl
     omega
  obtain⟨v',rfl⟩: ∃v',v=2*v':=⟨v/2,by omega⟩
  have h3:u'*u'=2*(v'*v'):=by grind
  have:=zhe n u' v' (by omega) h3
  omega
instance:Sg.Irr (2:Int):=⟨rfl,fun u v h=>zhe _ u v (Nat.le_refl _) h⟩
abbrev Z2:=Adj Int (2:Int)
theorem zgE(a:Int):a%3=0∨(a*a)%3=1:=by
 have h:a%3=0∨a%3=1∨a%3=2:=by omega
 rcases h with h|h|h
 · exact .inl h
 · right;rw[Int.mul_emod,h];rfl
 · right;rw[Int.mul_emod,h];rfl
theorem zhm: ∀n:Nat,∀a b c d:Int,c.natAbs+d.natAbs≤n→a*a+2*(b*b)=3*(c*c)+6*(d*d)→a*b=3*(c*d)→c=0∧d=0
 |0,a,b,c,d,h,_,_=>by omega
 |n+1,a,b,c,d,hn,h1,h2=>by
  have hab:a%3=0∧b%3=0:=by
   rcases zgE a with ha|ha<;>rcases zgE b with hb|hb
   · exact⟨ha,hb⟩
   · obtain⟨a',rfl⟩: ∃a',a=3*a':=⟨a/3,by omega⟩
     have:3*a'*(3*a')=9*(a'*a'):=by grind
     omega
   · obtain⟨b',rfl⟩: ∃b',b=3*b':=⟨b/3,by omega⟩
     have:3*b'*(3*b')=9*(b'*b'):=by grind
     omega
   · have h3 : (a * a) * (b * b) = 9 * ((c * d) * (c * d)) := by
       have:(a*b)*(a*b)=(3*(c*d))*(3*(c*d)):=by rw[h2]
       grind
     have h4:((a*a)*(b*b))%3=1:=by rw[Int.mul_emod,ha,hb];rfl
     omega
  obtain⟨a',rfl⟩: ∃a',a=3*a':=⟨a/3,by omega⟩
  obtain⟨b',rfl⟩: ∃b',b=3*b':=⟨b/3,by omega⟩
  have e1:c*c+2*(d*d)=3*(a'*a')+6*(b'*b'):=by grind
  have e2:c*d=3*(a'*b'):=by grind
  have hcd:c%3=0∧d%3=0:=by
   rcases zgE c with ha|ha<;>rcases zgE d with hb|hb
   · exact⟨ha,hb⟩
   · obtain⟨a',rfl⟩: ∃a',c=3*a':=⟨c/3,by omega⟩
     have:3*a'*(3*a')=9*(a'*a'):=by grind
     omega
   · obtain⟨b',rfl⟩: ∃b',d=3*b':=⟨d/3,by omega⟩
     have:3*b'*(3*b')=9*(b'*b'):=by grind
     omega
   · have h3 : (c * c) * (d * d) = 9 * ((a' * b') * (a' * b')) := by
       have:(c*d)*(c*d)=(3*(a'*b'))*(3*(a'*b')):=by rw[e2]
       grind
     have h4:((c*c)*(d*d))%3=1:=by rw[Int.mul_emod,ha,hb];rfl
     omega
  obtain⟨c',rfl⟩: ∃a',c=3*a':=⟨c/3,by omega⟩
  obtain⟨d',rfl⟩: ∃b',d=3*b':=⟨d/3,by omega⟩
  by_cases hz:c'=0∧d'=0
  · obtain⟨rfl,rfl⟩:=hz;exact⟨rfl,rfl⟩
  · have f1:a'*a'+2*(b'*b')=3*(c'*c')+6*(d'*d'):=by grind
    have f2:a'*b'=3*(c'*d'):=by grind
    have:=zhm n a' b' c' d' (by omega) f1 f2
    omega
instance:Sg.Irr (ofInt 3:Z2):=⟨by decide,fun u v h=>by
 have h1:u.re*u.re+2*(u.im*u.im)=3*(v.re*v.re)+6*(v.im*v.im):=by
  have:=congrArg Adj.re h
  have e:((ofInt 3:Z2)*(v*v)).re=3*(v.re*v.re+2*(v.im*v.im))+2*(0*(v.re*v.im+v.im*v.re)):=rfl
  rw[e]at this
  have e2:(u*u).re=u.re*u.re+2*(u.im*u.im):=rfl
  rw[e2]at this
  omega
 have h2:u.re*u.im=3*(v.re*v.im):=by
  have:=congrArg Adj.im h
  have e:((ofInt 3:Z2)*(v*v)).im=3*(v.re*v.im+v.im*v.re)+0*(v.re*v.re+2*(v.im*v.im)):=rfl
  rw[e]at this
  have e2:(u*u).im=u.re*u.im+u.im*u.re:=rfl
  rw[e2]at this
  have e3:u.im*u.re=u.re*u.im:=Int.mul_comm _ _
  have e4:v.im*v.re=v.re*v.im:=Int.mul_comm _ _
  rw[e3,e4]at this
  omega
 obtain⟨k1,k2⟩:=zhm _ _ _ _ _ (Nat.le_refl _) h1 h2
 exact Adj.ext k1 k2⟩
abbrev Z23:=Adj Z2 (ofInt 3:Z2)
end Go.Fw
