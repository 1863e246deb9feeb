/- A part of the proof that the law returns true for every input: an executor for the model's code, and what functions of the program compute. -/
import Derived.Test.YtcafjpldfnegiaaGreatDoorB11
import Derived.Test.YtcafjpldfnegiaaGreatDoorB15
import Derived.Test.YtcafjpldfnegiaaGreatDoorB22
import Derived.Test.YtcafjpldfnegiaaGreatDoorB27
import Derived.KernelRfl
open Go
namespace Go.Fw
set_option maxRecDepth 100000
def gcO(W:Nat→Int)(g:Int)(i:Nat):St:=⟨J3 28 [(1,.ptr 0 0),(3,.cv (j6 g)),(4,.cv (j6 (i:Int)))],[some (own (i5 W))]⟩
def gcT(W:Nat→Int)(a b i:Int):St:=⟨J3 28 [(1,.ptr 0 0),(4,.cv (j6 i)),(5,.cv (j6 a)),(6,.cv (j6 b))],[some (own (i5 W))]⟩
theorem zq6 (W : Nat → Int) (g : Int) : ∀ i, i < 5 → (z3Q P 192 (loopHead P 192 0) (gcO W g i) [(15, .stop)] false 100000).pick [1, 4, 5, 6] [0] =
    some (loopHead P 192 1,gcT W g (if IntKind.i64.wrap (0-W i)>W i then IntKind.i64.wrap (0-W i)else W i) (i:Int),[(0:Int)≤(i:Int)∧(i:Int)<5,(0:Int)≤(i:Int)∧(i:Int)<5,CvL (own (i5 W))]):=by
 intro i hi
 have:i=0∨i=1∨i=2∨i=3∨i=4:=by omega
 rcases this with rfl|rfl|rfl|rfl|rfl<;>(show _=_;kernel_rfl)
theorem zqj(W:Nat→Int)(g:Int):z3Q P 192 (loopHead P 192 0) (gcO W g 5) [] false 100000= .ret (j6 g) []:=by
 show _=_
 kernel_rfl
theorem zq7(W:Nat→Int):(zbE P 192 [.agg (i5 W)] [(4,.stop)] false 100000).pick [1,3,4] [0]=some (loopHead P 192 0,gcO W 0 0,[CvL (own (i5 W))]):=by
 show _=_
 kernel_rfl
theorem zmF {R : Goal} (hn : R.n = 0) (W : Nat → Int) (i : Int) (hi : 0 ≤ i ∧ i < 5) (g : Nat) (hR : Ok P 192 (loopHead P 192 0) ⟨J3 28 [(1, .ptr 0 0), (3, .cv (j6 (g : Int))), (4, .cv (j6 (i + 1)))], [some (own (i5 W))]⟩ R) :
    ∀(m:Nat) (a b:Nat),b≤m→a<2^63→b<2^63→Nat.gcd a b=g→Ok P 192 (loopHead P 192 1) (gcT W (a:Int) (b:Int) i) R
 |m,a,0,_,ha,_,hg=>by
  rw[Nat.gcd_zero_right]at hg
  subst hg
  refine zl1 W _ _ i rfl (by rw[hn];rfl) ?_
  rw[w64 (by omega)]
  exact hR
 |0,a,b+1,h,_,_,_=>by omega
 |m+1,a,b+1,hm,ha,hb,hg=>by
  have hlt:a%(b+1)<b+1:=Nat.mod_lt a (Nat.succ_pos b)
  refine zob W _ _ i (by simp;omega) (by omega) (by rw[hn];rfl) ?_
  rw[Int.tmod_eq_emod_of_nonneg (by omega),show((a:Int)%((b+1:Nat):Int))=((a%(b+1):Nat):Int) by simp]
  refine zmF hn W i hi g hR m (b+1) (a%(b+1)) (by omega) hb (by omega) ?_
  rw[←hg,Nat.gcd_comm a (b+1),Nat.gcd_comm (b+1) (a%(b+1)),←Nat.gcd_rec]
theorem zje(z:Int)(h:z.natAbs<2^63):(if IntKind.i64.wrap (0-z)>z then IntKind.i64.wrap (0-z)else z)=(z.natAbs:Int):=by
 rw[w64 (by omega)]
 split<;>omega
def z1k(W:Nat→Int):Nat→Nat
 |0=>0
 |n+1=>Nat.gcd (z1k W n) (W n).natAbs
theorem zca(W:Nat→Int)(h: ∀i,i<5→(W i).natAbs<2^63): ∀n,n≤5→z1k W n<2^63
 |0,_=>(by decide:0<2^63)
 |n+1,hn=>by
  have ih:=zca W h n (by omega)
  have hw:=h n (by omega)
  unfold z1k
  rcases Nat.eq_zero_or_pos (W n).natAbs with h0|h0
  · rw[h0,Nat.gcd_zero_right];exact ih
  · exact Nat.lt_of_le_of_lt (Nat.gcd_le_right _ h0) hw
theorem z6R(W:Nat→Int)(h: ∀i,i<5→(W i).natAbs<2^63):PCall P 192 [.agg (i5 W)] (j6 (z1k W 5:Nat)):=by
 refine X6 (z8d (zq7 W) rfl (.cons (V9 _) .nil) ?_)
 have hn:(Goal.of (fun x=>x=j6 (z1k W 5:Nat))).n=0:=rfl
 have step: ∀i,i<5→Ok P 192 (loopHead P 192 0) (gcO W (z1k W (i+1):Nat) (i+1)) (Goal.of (fun x=>x=j6 (z1k W 5:Nat)))→Ok P 192 (loopHead P 192 0) (gcO W (z1k W i:Nat) i) (Goal.of (fun x=>x=j6 (z1k W 5:Nat))):=by
  intro i hi hk
  refine okS (zq6 W _ i hi) rfl (.cons (by omega) (.cons (by omega) (.cons (V9 _) .nil))) rfl ?_
  rw[zje _ (h i hi)]
  exact zmF hn W i (by omega) _ hk _ _ _ (Nat.le_refl _) (zca W h i (by omega)) (h i hi) rfl
 refine step 0 (by decide) (step 1 (by decide) (step 2 (by decide) (step 3 (by decide) (step 4 (by decide) ?_))))
 exact okR (zqj W _) .nil rfl
theorem zbO(W:Nat→Int):z1k W 5=W7 (W 0) (W 1) (W 2) (W 3) (W 4):=by
 simp only[z1k,W7,Nat.gcd_zero_left]
 rw[Nat.gcd_comm (Nat.gcd _ _) (W 4).natAbs,Nat.gcd_assoc,Nat.gcd_assoc,Nat.gcd_assoc,Nat.gcd_assoc,Nat.gcd_assoc]
end Go.Fw
open Go IntKind
namespace Go.Fw
set_option maxRecDepth 100000
theorem zm3(W:Nat→Int)(s3_0: ∀(i:Nat),i<5→(W i).natAbs<2^63)(s17_0:(-9223372036854775808:Int)≤i64.wrap ((W 0).tdiv (↑(z1k W 5):Int))∧i64.wrap ((W 0).tdiv (↑(z1k W 5):Int))≤9223372036854775807)(s34_0:(-9223372036854775808:Int)≤i64.wrap ((W 1).tdiv (↑(z1k W 5):Int))∧i64.wrap ((W 1).tdiv (↑(z1k W 5):Int))≤9223372036854775807)(s51_0:(-9223372036854775808:Int)≤i64.wrap ((W 2).tdiv (↑(z1k W 5):Int))∧i64.wrap ((W 2).tdiv (↑(z1k W 5):Int))≤9223372036854775807)(s68_0:(-9223372036854775808:Int)≤i64.wrap ((W 3).tdiv (↑(z1k W 5):Int))∧i64.wrap ((W 3).tdiv (↑(z1k W 5):Int))≤9223372036854775807)(s83_0:(-9223372036854775808:Int)≤i64.wrap ((W 4).tdiv (↑(z1k W 5):Int))∧i64.wrap ((W 4).tdiv (↑(z1k W 5):Int))≤9223372036854775807)(o2 o7 o12 o17 o22:(↑(z1k W 5):Int)≠0):PCall P 126 [.agg [j6 (W 0),j6 (W 1),j6 (W 2),j6 (W 3),j6 (W 4)]] (.agg [.lit (.bool (decide (i64.wrap ((W 0).tdiv (↑(z1k W 5):Int))<0))),.lit (.string (bytesOf (i64.wrap ((W 0).tdiv (↑(z1k W 5):Int))).natAbs)),.lit (.bool (decide (i64.wrap ((W 1).tdiv (↑(z1k W 5):Int))<0))),.lit (.string (bytesOf (i64.wrap ((W 1).tdiv (↑(z1k W 5):Int))).natAbs)),.lit (.bool (decide (i64.wrap ((W 2).tdiv (↑(z1k W 5):Int))<0))),.lit (.string (bytesOf (i64.wrap ((W 2).tdiv (↑(z1k W 5):Int))).natAbs)),.lit (.bool (decide (i64.wrap ((W 3).tdiv (↑(z1k W 5):Int))<0))),.lit (.string (bytesOf (i64.wrap ((W 3).tdiv (↑(z1k W 5):Int))).natAbs)),.lit (.bool (decide (i64.wrap ((W 4).tdiv (↑(z1k W 5):Int))<0))),.lit (.string (bytesOf (i64.wrap ((W 4).tdiv (↑(z1k W 5):Int))).natAbs))]):=
 j5 (.r 3 (z6R (W) s3_0) (.c (bq 0 5) (.c o2 (.r 17 (Y1 (i64.wrap ((W 0).tdiv (↑(z1k W 5):Int))) s17_0) (.c (bq 0 4) (.c (lq 2 10) (.c (bq 1 5) (.c o7 (.r 34 (Y1 (i64.wrap ((W 1).tdiv (↑(z1k W 5):Int))) s34_0) (.c (bq 1 4) (.c (lq 4 10) (.c (bq 2 5) (.c o12 (.r 51 (Y1 (i64.wrap ((W 2).tdiv (↑(z1k W 5):Int))) s51_0) (.c (bq 2 4) (.c (lq 6 10) (.c (bq 3 5) (.c o17 (.r 68 (Y1 (i64.wrap ((W 3).tdiv (↑(z1k W 5):Int))) s68_0) (.c (bq 3 4) (.c (lq 8 10) (.c (bq 4 5) (.c o22 (.r 83 (Y1 (i64.wrap ((W 4).tdiv (↑(z1k W 5):Int))) s83_0) (.c (lq 10 10) (.c (lq 10 10) .nil)))))))))))))))))))))))))) (by kernel_rfl)
end Go.Fw
open Go
namespace Go.Fw
set_option maxRecDepth 100000
theorem z2n{a:Int}{g:Nat}(ha:a.natAbs<2^63)(hd:(g:Int)∣a):IntKind.i64.wrap (a.tdiv (g:Int))=a/(g:Int):=by
 rw[Int.tdiv_eq_ediv_of_dvd hd,w64]
 have:=K.natAbs_ediv_le a (g:Int) hd
 omega
theorem z2m{a:Int}{g:Nat}(ha:a.natAbs<2^63)(hd:(g:Int)∣a): -9223372036854775808≤a/(g:Int)∧a/(g:Int)≤9223372036854775807:=by
 have:=K.natAbs_ediv_le a (g:Int) hd
 omega
theorem z8u(W:Nat→Int)(h: ∀i,i<5→(W i).natAbs<2^63)(h4:0<W 4):PCall P 126 [.agg (i5 W)] (Z9 (K.of (W 0) (W 1) (W 2) (W 3) (W 4))):=by
 obtain⟨d0,d1,d2,d3,d4⟩:=z9Y (W 0) (W 1) (W 2) (W 3) (W 4)
 have hg:((z1k W 5:Nat):Int)≠0:=by
  rw[zbO];have:=z2J (a:=W 0) (b:=W 1) (c:=W 2) (d:=W 3) (e:=W 4) (by omega);omega
 rw[←zbO]at d0 d1 d2 d3 d4
 have w0:=z2n (h 0 (by decide)) d0
 have w1:=z2n (h 1 (by decide)) d1
 have w2:=z2n (h 2 (by decide)) d2
 have w3:=z2n (h 3 (by decide)) d3
 have w4:=z2n (h 4 (by decide)) d4
 refine(zm3 W h (by rw[w0];exact z2m (h 0 (by decide)) d0) (by rw[w1];exact z2m (h 1 (by decide)) d1) (by rw[w2];exact z2m (h 2 (by decide)) d2) (by rw[w3];exact z2m (h 3 (by decide)) d3) (by rw[w4];exact z2m (h 4 (by decide)) d4) hg hg hg hg hg).eq ?_
 rw[w0,w1,w2,w3,w4]
 have hden:K.den (W 0) (W 1) (W 2) (W 3) (W 4)=((z1k W 5:Nat):Int):=by unfold K.den;rw[if_neg (by omega),zbO]
 have key: ∀x:K,x=K.of (W 0) (W 1) (W 2) (W 3) (W 4)→x.c0=W 0/((z1k W 5:Nat):Int)∧x.c1=W 1/((z1k W 5:Nat):Int)∧x.c2=W 2/((z1k W 5:Nat):Int)∧x.c3=W 3/((z1k W 5:Nat):Int)∧x.d=W 4/((z1k W 5:Nat):Int):=by
  intro x hx
  subst hx
  unfold K.of
  rw[dif_neg (by omega:W 4≠0)]
  simp only[hden,and_self]
 obtain⟨e0,e1,e2,e3,e4⟩:=key _ rfl
 show n5C _ _ _ _ _=n5C _ _ _ _ _
 rw[e0,e1,e2,e3,e4]
def kZ(x:K):Nat→Int
 |0=>x.c0
 |1=>x.c1
 |2=>x.c2
 |3=>x.c3
 |_=>x.d
def kB(x:K)(i:Nat):Bool:=decide (kZ x i<0)
def kS(x:K)(i:Nat):ByteArray:=bytesOf (kZ x i).natAbs
theorem zdk(z:Int):zOf (decide (z<0)) (bytesOf z.natAbs)=z:=by
 unfold zOf
 rw[z03]
 by_cases h:z<0
 · rw[decide_eq_true h];simp;omega
 · rw[decide_eq_false h];simp;omega
theorem zm6(x:K)(i:Nat):z3Y (kB x) (kS x) i=kZ x i:=zdk _
theorem z4f(z:Int):J2 (decide (z<0)) (bytesOf z.natAbs)=true:=by
 rw[J2]
 by_cases h:z=0
 · subst h;rfl
 · have:(bytesOf z.natAbs).size≠0:=by rw[Ne,U4];omega
   rw[if_neg this]
   have:=z24 (n:=z.natAbs) (by omega)
   rw[decide_eq_true this]
def Sm3(x:K):Prop:= ∀i,i<5→(kZ x i).natAbs<256^3
theorem Sm3.ok{x:K}(h:Sm3 x): ∀i,i<5→z69 (kB x) (kS x) i:=fun i hi=>⟨X7.2 (h i hi),z4f _⟩
theorem z7u(x:K)(h:Sm3 x):PCall P 125 [Z9 x] (wdV (kZ x) true):=by
 refine(za3 (B:=kB x) (S:=kS x) h.ok).eq ?_
 unfold wdV
 rw[z9B (fun i _=>zm6 x i)]
theorem z5K(x:K)(h: ¬Sm3 x): ∃W,PCall P 125 [Z9 x] (wdV W false):=
 z8c (B:=kB x) (S:=kS x) fun hc=>h fun i hi=>X7.1 (hc i hi).1
end Go.Fw
open Go IntKind
namespace Go.Fw
set_option maxRecDepth 100000
theorem zlG(x:K)(h1:decide (kZ x 4>0)=true)(s3_0:Sm3 x)(s17_0: ∀(i:Nat),i<5→(kZ x i).natAbs<2^63):PCall P 124 [Z9 x] (.lit (.bool ((↑(z1k (kZ x) 5):Int)==1))):=
 j5 (.r 3 (z7u (x) s3_0) (.c (lq 5 5) (.c (bq 4 5) (.b 15 h1 (.r 17 (z6R (kZ x) s17_0) .nil))))) (by kernel_rfl)
theorem znv(n:Int)(s2_0:(-9223372036854775808:Int)≤n∧n≤9223372036854775807)(s4_0:(-9223372036854775808:Int)≤1∧(1:Int)≤9223372036854775807):PCall P 40 [j6 n] (.agg [.lit (.bool (decide (n<0))),.lit (.string (bytesOf n.natAbs)),.lit (.bool false),.lit (.string {data:= #[]}),.lit (.bool false),.lit (.string {data:= #[]}),.lit (.bool false),.lit (.string {data:= #[]}),.lit (.bool false),.lit (.string (bytesOf 1))]):=
 j5 (.r 2 (Y1 (n) s2_0) (.r 4 (Y1 ((1:Int)) s4_0) (.c (lq 10 10) .nil))) (by kernel_rfl)
end Go.Fw
open Go
namespace Go.Fw
set_option maxRecDepth 100000
theorem Sm3.lt{x:K}(h:Sm3 x): ∀i,i<5→(kZ x i).natAbs<2^63:=fun i hi=>Nat.lt_trans (h i hi) (by decide)
theorem zgR(x:K)(h:Sm3 x):PCall P 124 [Z9 x] (.lit (.bool true)):=by
 refine(zlG x (decide_eq_true x.pos) h h.lt).eqB ?_
 rw[zbO]
 have:W7 (kZ x 0) (kZ x 1) (kZ x 2) (kZ x 3) (kZ x 4)=1:=x.cop
 rw[this];rfl
theorem z5n(n:Int)(h: -9223372036854775808≤n∧n≤9223372036854775807):PCall P 40 [j6 n] (Z9 (K.ofInt n)):=znv n h (by decide)
def M5(a b c d e:Int):Prop:=a.natAbs<2^63∧b.natAbs<2^63∧c.natAbs<2^63∧d.natAbs<2^63∧e.natAbs<2^63
def f5(a b c d e:Int):Nat→Int
 |0=>a
 |1=>b
 |2=>c
 |3=>d
 |_=>e
theorem M5.f5{a b c d e:Int}(h:M5 a b c d e): ∀i,i<5→(f5 a b c d e i).natAbs<2^63:=by
 intro i hi
 have:i=0∨i=1∨i=2∨i=3∨i=4:=by omega
 rcases this with rfl|rfl|rfl|rfl|rfl
 · exact h.1
 · exact h.2.1
 · exact h.2.2.1
 · exact h.2.2.2.1
 · exact h.2.2.2.2
theorem zpy(a b c d e:Int)(h:M5 a b c d e)(he:0<e):PCall P 126 [.agg [j6 a,j6 b,j6 c,j6 d,j6 e]] (Z9 (K.of a b c d e)):=z8u (f5 a b c d e) h.f5 he
end Go.Fw
open Go IntKind
namespace Go.Fw
set_option maxRecDepth 100000
theorem zow(x y:K)(s4_0:Sm3 x)(s8_0:Sm3 y)(s13_0:Sm3 x)(s23_0:Sm3 y)(s137_0:M5 (i64.wrap (i64.wrap (kZ x 0*kZ y 4)+i64.wrap (kZ y 0*kZ x 4))) (i64.wrap (i64.wrap (kZ x 1*kZ y 4)+i64.wrap (kZ y 1*kZ x 4))) (i64.wrap (i64.wrap (kZ x 2*kZ y 4)+i64.wrap (kZ y 2*kZ x 4))) (i64.wrap (i64.wrap (kZ x 3*kZ y 4)+i64.wrap (kZ y 3*kZ x 4))) (i64.wrap (kZ x 4*kZ y 4)))(s137_1:(0:Int)<i64.wrap (kZ x 4*kZ y 4)):PCall P 37 [Z9 x,Z9 y] (Z9 (K.of (i64.wrap (i64.wrap (kZ x 0*kZ y 4)+i64.wrap (kZ y 0*kZ x 4))) (i64.wrap (i64.wrap (kZ x 1*kZ y 4)+i64.wrap (kZ y 1*kZ x 4))) (i64.wrap (i64.wrap (kZ x 2*kZ y 4)+i64.wrap (kZ y 2*kZ x 4))) (i64.wrap (i64.wrap (kZ x 3*kZ y 4)+i64.wrap (kZ y 3*kZ x 4))) (i64.wrap (kZ x 4*kZ y 4)))):=
 j5 (.r 4 (zgR (x) s4_0) (.r 8 (zgR (y) s8_0) (.r 13 (z7u (x) s13_0) (.c (lq 5 5) (.r 23 (z7u (y) s23_0) (.c (lq 5 5) (.c (bq 0 5) (.c (bq 4 5) (.c (bq 0 5) (.c (bq 4 5) (.c (bq 0 5) (.c (lq 1 5) (.c (bq 1 5) (.c (bq 4 5) (.c (bq 1 5) (.c (bq 4 5) (.c (bq 1 5) (.c (lq 2 5) (.c (bq 2 5) (.c (bq 4 5) (.c (bq 2 5) (.c (bq 4 5) (.c (bq 2 5) (.c (lq 3 5) (.c (bq 3 5) (.c (bq 4 5) (.c (bq 3 5) (.c (bq 4 5) (.c (bq 3 5) (.c (lq 4 5) (.c (bq 4 5) (.c (bq 4 5) (.c (bq 4 5) (.c (lq 5 5) (.r 137 (zpy (i64.wrap (i64.wrap (kZ x 0*kZ y 4)+i64.wrap (kZ y 0*kZ x 4))) (i64.wrap (i64.wrap (kZ x 1*kZ y 4)+i64.wrap (kZ y 1*kZ x 4))) (i64.wrap (i64.wrap (kZ x 2*kZ y 4)+i64.wrap (kZ y 2*kZ x 4))) (i64.wrap (i64.wrap (kZ x 3*kZ y 4)+i64.wrap (kZ y 3*kZ x 4))) (i64.wrap (kZ x 4*kZ y 4)) s137_0 s137_1) (.c (lq 10 10) .nil)))))))))))))))))))))))))))))))))))) (by kernel_rfl)
end Go.Fw
open Go
namespace Go.Fw
set_option maxRecDepth 100000
theorem zqp(a b:Int):IntKind.i64.wrap (IntKind.i64.wrap a+b)=IntKind.i64.wrap (a+b):=by simp only[IntKind.wrap_i64];omega
theorem zqn(a b:Int):IntKind.i64.wrap (a+IntKind.i64.wrap b)=IntKind.i64.wrap (a+b):=by simp only[IntKind.wrap_i64];omega
theorem zgW{a b:Int}(ha:a.natAbs<256^3)(hb:b.natAbs<256^3):(a*b).natAbs<281474976710656:=by
 rw[Int.natAbs_mul]
 exact Nat.mul_lt_mul'' ha hb
theorem zlC{a b c d e a' b' c' d' e':Int}(h0:a=a')(h1:b=b')(h2:c=c')(h3:d=d')(h4:e=e'):Z9 (K.of a b c d e)=Z9 (K.of a' b' c' d' e'):=by rw[h0,h1,h2,h3,h4]
theorem zm2(x y:K)(hx:Sm3 x)(hy:Sm3 y):PCall P 37 [Z9 x,Z9 y] (Z9 (x+y)):=by
 have p (i j:Nat) (hi:i<5) (hj:j<5):=zgW (hx i hi) (hy j hj)
 have q (i j:Nat) (hi:i<5) (hj:j<5):=zgW (hy i hi) (hx j hj)
 have e (i:Nat) (hi:i<4):IntKind.i64.wrap (IntKind.i64.wrap (kZ x i*kZ y 4)+IntKind.i64.wrap (kZ y i*kZ x 4))=kZ x i*kZ y 4+kZ y i*kZ x 4:=by
  have h1:=p i 4 (by omega) (by decide)
  have h2:=q i 4 (by omega) (by decide)
  generalize kZ x i*kZ y 4=X at*
  generalize kZ y i*kZ x 4=Y at*
  rw[zqp,zqn,w64 (by omega)]
 have e4:IntKind.i64.wrap (kZ x 4*kZ y 4)=kZ x 4*kZ y 4:=by
  have h1:=p 4 4 (by decide) (by decide)
  rw[w64 (by omega)]
 have bd (i:Nat) (hi:i<4):(kZ x i*kZ y 4+kZ y i*kZ x 4).natAbs<2^63:=by
  have h1:=p i 4 (by omega) (by decide)
  have h2:=q i 4 (by omega) (by decide)
  omega
 have:=zow x y hx hy hx hy (by
  rw[e 0 (by decide),e 1 (by decide),e 2 (by decide),e 3 (by decide),e4]
  exact⟨bd 0 (by decide),bd 1 (by decide),bd 2 (by decide),bd 3 (by decide),by have:=p 4 4 (by decide) (by decide);omega⟩) (by rw[e4];exact Int.mul_pos x.pos y.pos)
 exact this.eq (zlC (e 0 (by decide)) (e 1 (by decide)) (e 2 (by decide)) (e 3 (by decide)) e4)
theorem Sm3.neg{x:K}(h:Sm3 x):Sm3 (-x):=by
 intro i hi
 have:i=0∨i=1∨i=2∨i=3∨i=4:=by omega
 rcases this with rfl|rfl|rfl|rfl|rfl
 · show(-x.c0).natAbs<_;rw[Int.natAbs_neg];exact h 0 (by decide)
 · show(-x.c1).natAbs<_;rw[Int.natAbs_neg];exact h 1 (by decide)
 · show(-x.c2).natAbs<_;rw[Int.natAbs_neg];exact h 2 (by decide)
 · show(-x.c3).natAbs<_;rw[Int.natAbs_neg];exact h 3 (by decide)
 · exact h 4 (by decide)
end Go.Fw
open Go
namespace Go.Fw
set_option maxRecDepth 100000
theorem zfo(n:Nat):J6 (n:Int)= .agg [.lit (.bool false),X3 (bytesOf n)]:=by
 rw[J6,Int.natAbs_natCast,decide_eq_false (by omega)]
theorem z6A(n:Nat)(h:n<256^7):PCall P 194 [.agg [.lit (.bool false),X3 (bytesOf n)]] (.tup [j6 (n:Int),.lit (.bool true)]):=by
 have:=z0b (n:Int) (by rwa[Int.natAbs_natCast])
 rwa[zfo]at this
end Go.Fw
open Go IntKind
namespace Go.Fw
set_option maxRecDepth 100000
theorem zn1(a b:Int)(h1:decide ((↑(bytesOf a.natAbs).size:Int)≤7)=true)(h2:decide ((↑(bytesOf b.natAbs).size:Int)≤7)=true)(s26_0:a.natAbs<256^7)(s35_0:b.natAbs<256^7){R:CV→Prop}(hR:Ok P 184 (loopHead P 184 0) ⟨J3 111 [(4,.ptr 0 0),(5,.cv (.lit (.int .i64 (↑a.natAbs:Int)))),(7,.cv (.lit (.int .i64 (↑b.natAbs:Int))))],[some [.cv (.lit (.bool false)),.cv (.lit (.string {data:= #[]}))]]⟩ (.of R)):W6 P 184 [J6 a,J6 b] R:=
 Y4 (keep:=[4,5,7]) (σ:=[2]) (.r 4 (J5 (a)) (.r 8 (J5 (b)) (.b 16 h1 (.b 22 h2 (.r 26 (z6A (a.natAbs) s26_0) (.r 35 (z6A (b.natAbs) s35_0) (.o 41 .stop .nil))))))) (by kernel_rfl) rfl hR (.cons (by simp[CvL]) .nil)
theorem zmu(n m:Int)(h1:(m != 0)=true)(o1:m≠0){R:Goal}(hn:J0 R.n [0]=true)(hR:Ok P 184 (loopHead P 184 0) ⟨J3 111 [(4,.ptr 0 0),(5,.cv (.lit (.int .i64 m))),(7,.cv (.lit (.int .i64 (n.tmod m))))],[some [.cv (.lit (.bool false)),.cv (.lit (.string {data:= #[]}))]]⟩ R):Ok P 184 (loopHead P 184 0) ({tm:=J3 111 [(4,.ptr 0 0),(5,.cv (j6 n)),(7,.cv (j6 m))],hp:=[some [.cv (.lit (.bool false)),.cv (X3 {data:= #[]})]]}) R:=
 z0D (keep:=[4,5,7]) (σ:=[0]) (.b 3 h1 (.c o1 (.o 10 .stop .nil))) (by kernel_rfl) rfl hn hR (.cons (by simp[CvL]) .nil)
theorem zkX(n m:Int)(h1:(m != 0)=false)(s5_0:(-9223372036854775808:Int)≤n∧n≤9223372036854775807){R:Goal}(hR:R.c (.agg [.lit (.bool (decide (n<0))),.lit (.string (bytesOf n.natAbs))])):Ok P 184 (loopHead P 184 0) ({tm:=J3 111 [(4,.ptr 0 0),(5,.cv (j6 n)),(7,.cv (j6 m))],hp:=[some [.cv (.lit (.bool false)),.cv (X3 {data:= #[]})]]}) R:=
 okT (.b 3 h1 (.r 5 (Y1 (n) s5_0) (.c (show 2≤2 from by decide) .nil))) (by kernel_rfl) hR
theorem zoN(a b:Int)(h1:((bytesOf b.natAbs).toList==[])=false)(h2:decide ((↑(bytesOf b.natAbs).size:Int)≤7)=true)(h3:(a.tmod b != 0)=false)(s19_0:a.natAbs<256^7)(s34_0:b.natAbs<256^7)(s57_0:(-9223372036854775808:Int)≤i64.wrap (a.tdiv b)∧i64.wrap (a.tdiv b)≤9223372036854775807)(s63_0:(-9223372036854775808:Int)≤i64.wrap (a-i64.wrap (i64.wrap (a.tdiv b)*b))∧i64.wrap (a-i64.wrap (i64.wrap (a.tdiv b)*b))≤9223372036854775807)(o6 o7:b≠0):PCall P 233 [J6 a,J6 b] (.tup [.agg [.lit (.bool (decide (i64.wrap (a.tdiv b)<0))),.lit (.string (bytesOf (i64.wrap (a.tdiv b)).natAbs))],.agg [.lit (.bool (decide (i64.wrap (a-i64.wrap (i64.wrap (a.tdiv b)*b))<0))),.lit (.string (bytesOf (i64.wrap (a-i64.wrap (i64.wrap (a.tdiv b)*b))).natAbs))],.lit (.int .i64 0)]):=
 j5 (.r 6 (J5 (a)) (.r 10 (J5 (b)) (.b 17 h1 (.r 19 (z0b (a) s19_0) (.b 32 h2 (.r 34 (z0b (b) s34_0) (.c o6 (.c o7 (.b 48 h3 (.r 57 (Y1 (i64.wrap (a.tdiv b)) s57_0) (.r 63 (Y1 (i64.wrap (a-i64.wrap (i64.wrap (a.tdiv b)*b))) s63_0) (.c (show 2≤2 from by decide) (.c (show 2≤2 from by decide) .nil))))))))))))) (by kernel_rfl)
end Go.Fw
open Go IntKind
namespace Go.Fw
set_option maxRecDepth 100000
theorem zlM(a b:Int)(_h1:((bytesOf b.natAbs).toList==[])=false)(_h:PCall P 233 [J6 a,J6 b] (.tup [J6 (a/b),J6 (0:Int),j6 0]))(o0:PCall P 233 [.agg [.lit (.bool (decide (a<0))),.lit (.string (bytesOf a.natAbs))],.agg [.lit (.bool (decide (b<0))),.lit (.string (bytesOf b.natAbs))]] (.tup [.agg [.lit (.bool (decide (a/b<0))),.lit (.string (bytesOf (a/b).natAbs))],.agg [.lit (.bool false),.lit (.string (bytesOf 0))],.lit (.int .i64 0)])):PCall P 185 [J6 a,J6 b] (.agg [.lit (.bool (decide (a/b<0))),.lit (.string (bytesOf (a/b).natAbs))]):=
 j5 (.c o0 (.c (lq 2 2) (.c (lq 2 2) (.c (lq 2 2) (.o 5 (.r (.tup [J6 (a/b),J6 (0:Int),j6 0])) .nil))))) (by kernel_rfl)
end Go.Fw
open Go
namespace Go.Fw
set_option maxRecDepth 100000
theorem zbK {R : Goal} (hn : R.n = 0) (g : Nat) (hR : R.c (J6 (g : Int))) : ∀ (m a b : Nat), b ≤ m → a < 2 ^ 63 → b < 2 ^ 63 → Nat.gcd a b = g →
    Ok P 184 (loopHead P 184 0) ⟨J3 111 [(4,.ptr 0 0),(5,.cv (j6 (a:Int))),(7,.cv (j6 (b:Int)))],[some [.cv (.lit (.bool false)),.cv (X3 ⟨#[]⟩)]]⟩ R
 |m,a,0,_,ha,_,hg=>by
  rw[Nat.gcd_zero_right]at hg
  subst hg
  exact zkX _ _ rfl (by omega) hR
 |0,a,b+1,h,_,_,_=>by omega
 |m+1,a,b+1,hm,ha,hb,hg=>by
  have hlt:a%(b+1)<b+1:=Nat.mod_lt a (Nat.succ_pos b)
  refine zmu _ _ (by simp;omega) (by omega) (by rw[hn];rfl) ?_
  rw[Int.tmod_eq_emod_of_nonneg (by omega),show((a:Int)%((b+1:Nat):Int))=((a%(b+1):Nat):Int) by simp]
  refine zbK hn g hR m (b+1) (a%(b+1)) (by omega) hb (by omega) ?_
  rw[←hg,Nat.gcd_comm a (b+1),Nat.gcd_comm (b+1) (a%(b+1)),←Nat.gcd_rec]
theorem zlN(a b:Int)(ha:a.natAbs<256^7)(hb:b.natAbs<256^7):PCall P 184 [J6 a,J6 b] (J6 (Nat.gcd a.natAbs b.natAbs:Nat)):=by
 have h1:(bytesOf a.natAbs).size≤7:=X7.2 ha
 have h2:(bytesOf b.natAbs).size≤7:=X7.2 hb
 exact X6 (zn1 a b (decide_eq_true (by omega)) (decide_eq_true (by omega)) ha hb (zbK rfl _ rfl _ _ _ (Nat.le_refl _) (Nat.lt_trans ha (by decide)) (Nat.lt_trans hb (by decide)) rfl))
theorem zpv(a b:Int)(ha:a.natAbs<256^7)(hb:b.natAbs<256^7)(hb0:b≠0)(hd:b∣a):PCall P 233 [J6 a,J6 b] (.tup [J6 (a/b),J6 0,j6 0]):=by
 have h2:(bytesOf b.natAbs).size≤7:=X7.2 hb
 have hq:a.tdiv b=a/b:=Int.tdiv_eq_ediv_of_dvd hd
 have hl:=K.natAbs_ediv_le a b hd
 have hw:IntKind.i64.wrap (a.tdiv b)=a/b:=by rw[hq,w64 (by omega)]
 have hz:IntKind.i64.wrap (a-IntKind.i64.wrap (a/b*b))=0:=by rw[Int.ediv_mul_cancel hd,w64 (n:=a) (by omega),w64 (by omega)];omega
 have:=zoN a b (by rw[Z5];simpa using hb0) (decide_eq_true (by omega)) (by rw[Int.tmod_eq_zero_of_dvd hd];rfl) ha hb (by rw[hw];omega) (by rw[hw,hz];decide) hb0 hb0
 rw[hw,hz]at this
 exact this
end Go.Fw
open Go
namespace Go.Fw
def z6I(a b:Int):Prop:=PCall P 184 [J6 a,J6 b] (J6 (Nat.gcd a.natAbs b.natAbs:Nat))
def z2u(a b:Int):Prop:=PCall P 185 [J6 a,J6 b] (J6 (a/b))
theorem z2g(a b:Int)(h:z6I a b):PCall P 184 [J6 a,J6 b] (J6 (Nat.gcd a.natAbs b.natAbs:Nat)):=h
theorem z1w(a b:Int)(h:z2u a b):PCall P 185 [J6 a,J6 b] (J6 (a/b)):=h
end Go.Fw
open Go IntKind
namespace Go.Fw
set_option maxRecDepth 100000
theorem zkO(n m:Nat)(xs ys:List Nat)(h1:((n:Int) != (m:Int))=true)(h2:decide ((n:Int)<m)=true):PCall P 198 [.lst n (j3 xs),.lst m (j3 ys)] (.lit (.int .i64 (-1:Int))):=
 j5 (.b 6 h1 (.b 12 h2 .nil)) (by kernel_rfl)
theorem zkl(n m:Nat)(xs ys:List Nat)(h1:((n:Int) != (m:Int))=true)(h2:decide ((n:Int)<m)=false):PCall P 198 [.lst n (j3 xs),.lst m (j3 ys)] (.lit (.int .i64 1)):=
 j5 (.b 6 h1 (.b 12 h2 .nil)) (by kernel_rfl)
theorem zjX(n m:Nat)(xs ys:List Nat)(h1:((n:Int) != (m:Int))=false){R:CV→Prop}(hR:Ok P 198 (loopHead P 198 0) ⟨J3 41 [(0,.cv (.lst n (j3 xs))),(1,.cv (.lst m (j3 ys))),(5,.cv (.lit (.int .i64 (i64.wrap ((n:Int)-1)))))],[]⟩ (.of R)):W6 P 198 [.lst n (j3 xs),.lst m (j3 ys)] R:=
 Y4 (keep:=[0,1,5]) (σ:=[]) (.b 6 h1 (.o 11 .stop .nil)) (by kernel_rfl) rfl hR .nil
theorem zer(n:Nat)(i:Int)(xs ys:List Nat)(h1:decide (i≥0)=true)(h2:((↑(xs.getD (i.toNat*1) 0):Int) != (↑(ys.getD (i.toNat*1) 0):Int))=true)(h3:decide ((↑(xs.getD (i.toNat*1) 0):Int)<(↑(ys.getD (i.toNat*1) 0):Int))=true)(o1:(0:Int)≤i∧i<(n:Int))(o2:(j3 xs)[i.toNat*1]?=some (.lit (.int .i64 ↑(xs.getD (i.toNat*1) 0))))(o4:(0:Int)≤i∧i<(n:Int))(o5:(j3 ys)[i.toNat*1]?=some (.lit (.int .i64 ↑(ys.getD (i.toNat*1) 0))))(o8:(0:Int)≤i∧i<(n:Int))(o9:(j3 xs)[i.toNat*1]?=some (.lit (.int .i64 ↑(xs.getD (i.toNat*1) 0))))(o11:(0:Int)≤i∧i<(n:Int))(o12:(j3 ys)[i.toNat*1]?=some (.lit (.int .i64 ↑(ys.getD (i.toNat*1) 0)))){R:Goal}(hR:R.c (.lit (.int .i64 (-1:Int)))):Ok P 198 (loopHead P 198 0) ⟨J3 41 [(0,.cv (.lst n (j3 xs))),(1,.cv (.lst n (j3 ys))),(5,.cv (j6 i))],[]⟩ R:=
 okT (.b 3 h1 (.c o1 (.l 7 o2 (.c (eqn 1) (.c o4 (.l 11 o5 (.c (eqn 1) (.b 13 h2 (.c o8 (.l 17 o9 (.c (eqn 1) (.c o11 (.l 21 o12 (.c (eqn 1) (.b 23 h3 .nil))))))))))))))) (by kernel_rfl) hR
theorem zeY(n:Nat)(i:Int)(xs ys:List Nat)(h1:decide (i≥0)=true)(h2:((↑(xs.getD (i.toNat*1) 0):Int) != (↑(ys.getD (i.toNat*1) 0):Int))=true)(h3:decide ((↑(xs.getD (i.toNat*1) 0):Int)<(↑(ys.getD (i.toNat*1) 0):Int))=false)(o1:(0:Int)≤i∧i<(n:Int))(o2:(j3 xs)[i.toNat*1]?=some (.lit (.int .i64 ↑(xs.getD (i.toNat*1) 0))))(o4:(0:Int)≤i∧i<(n:Int))(o5:(j3 ys)[i.toNat*1]?=some (.lit (.int .i64 ↑(ys.getD (i.toNat*1) 0))))(o8:(0:Int)≤i∧i<(n:Int))(o9:(j3 xs)[i.toNat*1]?=some (.lit (.int .i64 ↑(xs.getD (i.toNat*1) 0))))(o11:(0:Int)≤i∧i<(n:Int))(o12:(j3 ys)[i.toNat*1]?=some (.lit (.int .i64 ↑(ys.getD (i.toNat*1) 0)))){R:Goal}(hR:R.c (.lit (.int .i64 1))):Ok P 198 (loopHead P 198 0) ⟨J3 41 [(0,.cv (.lst n (j3 xs))),(1,.cv (.lst n (j3 ys))),(5,.cv (j6 i))],[]⟩ R:=
 okT (.b 3 h1 (.c o1 (.l 7 o2 (.c (eqn 1) (.c o4 (.l 11 o5 (.c (eqn 1) (.b 13 h2 (.c o8 (.l 17 o9 (.c (eqn 1) (.c o11 (.l 21 o12 (.c (eqn 1) (.b 23 h3 .nil))))))))))))))) (by kernel_rfl) hR
theorem zfK(n:Nat)(i:Int)(xs ys:List Nat)(h1:decide (i≥0)=true)(h2:((↑(xs.getD (i.toNat*1) 0):Int) != (↑(ys.getD (i.toNat*1) 0):Int))=false)(o1:(0:Int)≤i∧i<(n:Int))(o2:(j3 xs)[i.toNat*1]?=some (.lit (.int .i64 ↑(xs.getD (i.toNat*1) 0))))(o4:(0:Int)≤i∧i<(n:Int))(o5:(j3 ys)[i.toNat*1]?=some (.lit (.int .i64 ↑(ys.getD (i.toNat*1) 0)))){R:Goal}(hn:J0 R.n []=true)(hR:Ok P 198 (loopHead P 198 0) ⟨J3 41 [(0,.cv (.lst n (j3 xs))),(1,.cv (.lst n (j3 ys))),(5,.cv (.lit (.int .i64 (i64.wrap (i-1)))))],[]⟩ R):Ok P 198 (loopHead P 198 0) ⟨J3 41 [(0,.cv (.lst n (j3 xs))),(1,.cv (.lst n (j3 ys))),(5,.cv (j6 i))],[]⟩ R:=
 z0D (keep:=[0,1,5]) (σ:=[]) (.b 3 h1 (.c o1 (.l 7 o2 (.c (eqn 1) (.c o4 (.l 11 o5 (.c (eqn 1) (.b 13 h2 (.o 17 .stop .nil))))))))) (by kernel_rfl) rfl hn hR .nil
theorem zeM(n:Nat)(i:Int)(xs ys:List Nat)(h1:decide (i≥0)=false){R:Goal}(hR:R.c (.lit (.int .i64 0))):Ok P 198 (loopHead P 198 0) ⟨J3 41 [(0,.cv (.lst n (j3 xs))),(1,.cv (.lst n (j3 ys))),(5,.cv (j6 i))],[]⟩ R:=
 okT (.b 3 h1 .nil) (by kernel_rfl) hR
theorem zn9(n m:Nat)(xs ys:List Nat)(h1:decide ((n:Int)<m)=true)(o1:(0:Int)≤i64.wrap ((m:Int)+1)∧i64.wrap ((m:Int)+1)≤i64.wrap ((m:Int)+1)∧(8:Int)*i64.wrap ((m:Int)+1)≤140737488355328∧i64.wrap ((m:Int)+1)≤4611686018427387904∧1=1)(o2:CvL (List.replicate ((i64.wrap ((m:Int)+1)).toNat*1) (.cv (.lit (.int .i64 0))))){R:CV→Prop}(hR:Ok P 197 (loopHead P 197 0) ⟨J3 55 [(0,.cv (.lst m (j3 ys))),(1,.cv (.lst n (j3 xs))),(5,.sl 0 0 (i64.wrap ((m:Int)+1)).toNat 1),(6,.cv (.lit (.int .i64 0))),(7,.cv (.lit (.int .i64 0)))],[some (List.replicate ((i64.wrap ((m:Int)+1)).toNat*1) (.cv (.lit (.int .i64 0))))]⟩ (.of R)):W6 P 197 [.lst n (j3 xs),.lst m (j3 ys)] R:=
 Y4 (keep:=[0,1,5,6,7]) (σ:=[0]) (.b 6 h1 (.c o1 (.o 18 .stop .nil))) (by kernel_rfl) rfl hR (.cons o2 .nil)
theorem zoj(n m:Nat)(xs ys:List Nat)(h1:decide ((n:Int)<m)=false)(o1:(0:Int)≤i64.wrap ((n:Int)+1)∧i64.wrap ((n:Int)+1)≤i64.wrap ((n:Int)+1)∧(8:Int)*i64.wrap ((n:Int)+1)≤140737488355328∧i64.wrap ((n:Int)+1)≤4611686018427387904∧1=1)(o2:CvL (List.replicate ((i64.wrap ((n:Int)+1)).toNat*1) (.cv (.lit (.int .i64 0))))){R:CV→Prop}(hR:Ok P 197 (loopHead P 197 0) ⟨J3 55 [(0,.cv (.lst n (j3 xs))),(1,.cv (.lst m (j3 ys))),(5,.sl 0 0 (i64.wrap ((n:Int)+1)).toNat 1),(6,.cv (.lit (.int .i64 0))),(7,.cv (.lit (.int .i64 0)))],[some (List.replicate ((i64.wrap ((n:Int)+1)).toNat*1) (.cv (.lit (.int .i64 0))))]⟩ (.of R)):W6 P 197 [.lst n (j3 xs),.lst m (j3 ys)] R:=
 Y4 (keep:=[0,1,5,6,7]) (σ:=[0]) (.b 6 h1 (.c o1 (.o 14 .stop .nil))) (by kernel_rfl) rfl hR (.cons o2 .nil)
theorem zi8(n m o c i:Nat)(xs ys zs:List Nat)(h1:decide ((i:Int)<n)=true)(h2:decide ((i:Int)<m)=true)(o1:(0:Int)≤i∧(i:Int)<n)(o2:(j3 xs)[(i:Int).toNat*1]?=some (.lit (.int .i64 ↑(xs.getD ((i:Int).toNat*1) 0))))(o5:(0:Int)≤i∧(i:Int)<m)(o6:(j3 ys)[(i:Int).toNat*1]?=some (.lit (.int .i64 ↑(ys.getD ((i:Int).toNat*1) 0))))(o9:(0:Int)≤i∧(i:Int)<o)(o10:0+(i:Int).toNat*1+1≤(own (j3 zs)).length)(o12:CvL (j4 (own (j3 zs)) (0+(i:Int).toNat*1) [.cv (.lit (.int .i64 ((i64.wrap (i64.wrap ((c:Int)+(↑(xs.getD ((i:Int).toNat*1) 0):Int))+(↑(ys.getD ((i:Int).toNat*1) 0):Int))).tmod 16777216)))])){R:Goal}(hn:J0 R.n [0]=true)(hR:Ok P 197 (loopHead P 197 0) ⟨J3 55 [(0,.cv (.lst n (j3 xs))),(1,.cv (.lst m (j3 ys))),(5,.sl 0 0 o 1),(6,.cv (.lit (.int .i64 (i64.wrap ((i64.wrap (i64.wrap ((c:Int)+(↑(xs.getD ((i:Int).toNat*1) 0):Int))+(↑(ys.getD ((i:Int).toNat*1) 0):Int))).tdiv 16777216))))),(7,.cv (.lit (.int .i64 (i64.wrap ((i:Int)+1)))))],[some (j4 (own (j3 zs)) (0+(i:Int).toNat*1) [.cv (.lit (.int .i64 ((i64.wrap (i64.wrap ((c:Int)+(↑(xs.getD ((i:Int).toNat*1) 0):Int))+(↑(ys.getD ((i:Int).toNat*1) 0):Int))).tmod 16777216)))])]⟩ R):Ok P 197 (loopHead P 197 0) ⟨J3 55 [(0,.cv (.lst n (j3 xs))),(1,.cv (.lst m (j3 ys))),(5,.sl 0 0 o 1),(6,.cv (j6 (c:Int))),(7,.cv (j6 (i:Int)))],[some (own (j3 zs))]⟩ R:=
 z0D (keep:=[0,1,5,6,7]) (σ:=[0]) (.b 5 h1 (.c o1 (.l 10 o2 (.c (eqn 1) (.b 17 h2 (.c o5 (.l 22 o6 (.c (eqn 1) (.c (nz 16777216) (.c o9 (.c o10 (.c (nz 16777216) (.o 37 .stop .nil))))))))))))) (by kernel_rfl) rfl hn hR (.cons o12 .nil)
theorem zkp(n m o c i:Nat)(xs ys zs:List Nat)(h1:decide ((i:Int)<n)=true)(h2:decide ((i:Int)<m)=false)(o1:(0:Int)≤i∧(i:Int)<n)(o2:(j3 xs)[(i:Int).toNat*1]?=some (.lit (.int .i64 ↑(xs.getD ((i:Int).toNat*1) 0))))(o6:(0:Int)≤i∧(i:Int)<o)(o7:0+(i:Int).toNat*1+1≤(own (j3 zs)).length)(o9:CvL (j4 (own (j3 zs)) (0+(i:Int).toNat*1) [.cv (.lit (.int .i64 ((i64.wrap ((c:Int)+(↑(xs.getD ((i:Int).toNat*1) 0):Int))).tmod 16777216)))])){R:Goal}(hn:J0 R.n [0]=true)(hR:Ok P 197 (loopHead P 197 0) ⟨J3 55 [(0,.cv (.lst n (j3 xs))),(1,.cv (.lst m (j3 ys))),(5,.sl 0 0 o 1),(6,.cv (.lit (.int .i64 (i64.wrap ((i64.wrap ((c:Int)+(↑(xs.getD ((i:Int).toNat*1) 0):Int))).tdiv 16777216))))),(7,.cv (.lit (.int .i64 (i64.wrap ((i:Int)+1)))))],[some (j4 (own (j3 zs)) (0+(i:Int).toNat*1) [.cv (.lit (.int .i64 ((i64.wrap ((c:Int)+(↑(xs.getD ((i:Int).toNat*1) 0):Int))).tmod 16777216)))])]⟩ R):Ok P 197 (loopHead P 197 0) ⟨J3 55 [(0,.cv (.lst n (j3 xs))),(1,.cv (.lst m (j3 ys))),(5,.sl 0 0 o 1),(6,.cv (j6 (c:Int))),(7,.cv (j6 (i:Int)))],[some (own (j3 zs))]⟩ R:=
 z0D (keep:=[0,1,5,6,7]) (σ:=[0]) (.b 5 h1 (.c o1 (.l 10 o2 (.c (eqn 1) (.b 17 h2 (.c (nz 16777216) (.c o6 (.c o7 (.c (nz 16777216) (.o 30 .stop .nil)))))))))) (by kernel_rfl) rfl hn hR (.cons o9 .nil)
theorem zjR(n m o c i:Nat)(xs ys zs:List Nat)(h1:decide ((i:Int)<n)=false)(s13_0:o=(zs.set (0+(n:Int).toNat*1) c).length)(s13_1:Dig 16777216 (zs.set (0+(n:Int).toNat*1) c))(s13_2:(zs.set (0+(n:Int).toNat*1) c).length<2^62)(o1:(0:Int)≤n∧(n:Int)<o)(o2:0+(n:Int).toNat*1+1≤(own (j3 zs)).length)(o4:List.take (o*1) (List.drop 0 (j4 (own (j3 zs)) (0+(n:Int).toNat*1) [.cv (.lit (.int .i64 (c:Int)))]))=List.map MV.cv (j3 (zs.set (0+(n:Int).toNat*1) c))){R:Goal}(hR:R.c (.lst (dig 16777216 (val 16777216 (zs.set (0+(n:Int).toNat*1) c))).length (j3 (dig 16777216 (val 16777216 (zs.set (0+(n:Int).toNat*1) c)))))):Ok P 197 (loopHead P 197 0) ⟨J3 55 [(0,.cv (.lst n (j3 xs))),(1,.cv (.lst m (j3 ys))),(5,.sl 0 0 o 1),(6,.cv (j6 (c:Int))),(7,.cv (j6 (i:Int)))],[some (own (j3 zs))]⟩ R:=
 okT (.b 5 h1 (.c o1 (.c o2 (.rs 13 [j3 (zs.set (0+(n:Int).toNat*1) c)] (z0G (o) (zs.set (0+(n:Int).toNat*1) c) s13_0 s13_1 s13_2) (.c o4 .nil))))) (by kernel_rfl) hR
end Go.Fw
open Go
namespace Go.Fw
set_option maxRecDepth 100000
def z1j(a b:Nat):Int:=if a<b then-1 else if a=b then 0 else 1
theorem z1t{x y:Nat}(h:(dig B24 x).length<(dig B24 y).length):x<y:=by
 rcases Nat.lt_or_ge x y with h'|h'
 · exact h'
 · have:=Q9 (by decide:2≤B24) (n:=y) (k:=(dig B24 x).length) (Nat.lt_of_le_of_lt h' (J9 (by decide) x))
   omega
theorem z9r {R : Goal} (hn : J0 R.n [] = true) (xs ys : List Nat) (hl : xs.length = ys.length) (hlen : xs.length < 2 ^ 62) (hx : Dig B24 xs) (hy : Dig B24 ys) (hR : R.c (j6 (z1j (val B24 xs) (val B24 ys)))) :
    ∀k:Nat,k≤xs.length→xs.drop k=ys.drop k→
     Ok P 198 (loopHead P 198 0) ⟨J3 41 [(0,.cv (.lst xs.length (j3 xs))),(1,.cv (.lst xs.length (j3 ys))),(5,.cv (j6 ((k:Int)-1)))],[]⟩ R:=by
 intro k
 induction k with
 |zero=>
  intro _ hd
  simp only[List.drop_zero]at hd
  refine zeM _ _ _ _ (by simp) ?_
  rw[hd,z1j,if_neg (Nat.lt_irrefl _),if_pos rfl]at hR
  exact hR
 |succ k ih=>
  intro hk hd
  have e0:((k+1:Nat):Int)-1=(k:Int):=by omega
  have e1:(k:Int).toNat*1=k:=by omega
  have gx:=Z8 (xs:=xs) (i:=(k:Int).toNat*1) (by omega)
  have gy:=Z8 (xs:=ys) (i:=(k:Int).toNat*1) (by omega)
  rw[e0]
  by_cases h1:xs.getD k 0<ys.getD k 0
  · have:=z0X hx (by decide) (by omega) hl hd h1
    rw[z1j,if_pos this]at hR
    exact zer _ _ _ _ (by simp) (by rw[e1];exact bne_iff_ne.2 (by omega)) (by rw[e1];first|exact decide_eq_true (by omega)|exact decide_eq_false (by omega)) (by omega) gx (by omega) gy (by omega) gx (by omega) gy hR
  · by_cases h2:ys.getD k 0<xs.getD k 0
    · have:=z0X hy (by decide) (by omega) hl.symm hd.symm h2
      rw[z1j,if_neg (by omega),if_neg (by omega)]at hR
      exact zeY _ _ _ _ (by simp) (by rw[e1];exact bne_iff_ne.2 (by omega)) (by rw[e1];first|exact decide_eq_true (by omega)|exact decide_eq_false (by omega)) (by omega) gx (by omega) gy (by omega) gx (by omega) gy hR
    · refine zfK _ _ _ _ (by simp) (by rw[e1];exact bne_eq_false_iff_eq.2 (by omega)) (by omega) gx (by omega) gy hn ?_
      rw[w64 (by omega)]
      refine ih (by omega) ?_
      have a1:k<xs.length:=by omega
      have a2:k<ys.length:=by omega
      rw[List.drop_eq_getElem_cons a1,List.drop_eq_getElem_cons a2,hd]
      have:xs.getD k 0=ys.getD k 0:=by omega
      simp only[List.getD_eq_getElem?_getD,List.getElem?_eq_getElem a1,List.getElem?_eq_getElem a2,Option.getD_some]at this
      rw[this]
theorem z5Q(a b:Nat)(ha:(dig B24 a).length<2^60)(_hb:(dig B24 b).length<2^60):PCall P 198 [z1X a,z1X b] (j6 (z1j a b)):=by
 by_cases h:(dig B24 a).length=(dig B24 b).length
 · refine X6 (zjX _ _ _ _ (by simp[h]) ?_)
   rw[w64 (by omega),←h]
   refine z9r (R:= .of _) rfl _ _ h (by omega) (Y5 (by decide) _) (Y5 (by decide) _) ?_ _ (Nat.le_refl _) (by rw[List.drop_length,h,List.drop_length])
   rw[Q6 (by decide),Q6 (by decide)]
   rfl
 · by_cases h1:(dig B24 a).length<(dig B24 b).length
   · refine(zkO _ _ _ _ (by simp;omega) (decide_eq_true (by omega))).eq ?_
     rw[z1j,if_pos (z1t h1)]
   · refine(zkl _ _ _ _ (by simp;omega) (decide_eq_false (by omega))).eq ?_
     have:=z1t (x:=b) (y:=a) (by omega)
     rw[z1j,if_neg (by omega),if_neg (by omega)]
end Go.Fw
