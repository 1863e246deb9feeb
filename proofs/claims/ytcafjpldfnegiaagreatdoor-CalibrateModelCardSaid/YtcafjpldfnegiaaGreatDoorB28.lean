/- A part of the proof that the law returns true for every input: an executor for the model's code, and what functions of the program compute. -/
import Derived.Test.YtcafjpldfnegiaaGreatDoorB11
import Derived.Test.YtcafjpldfnegiaaGreatDoorB15
import Derived.Test.YtcafjpldfnegiaaGreatDoorB22
import Derived.Test.YtcafjpldfnegiaaGreatDoorB27
import Derived.KernelRfl
open Go IntKind
namespace Go.Fw
set_option maxRecDepth 100000
theorem Sml.gcd{x y:Nat}(hx:Sml x)(hy:Sml y):Sml (Nat.gcd x y):=by
 rcases Nat.eq_zero_or_pos x with h|h
 · subst h;rw[Nat.gcd_zero_left];exact hy
 · exact hx.mono (Nat.gcd_le_left _ h)
theorem z2x(a b c d e:Int)(h0:SmlZ a)(h1:SmlZ b)(h2:SmlZ c)(h3:SmlZ d)(h4:SmlZ e):PCall P 216 [c4C a b c d,J2 e] (J2 (X3 a b c d e:Nat)):=by
 have g1:Sml (Nat.gcd e.natAbs a.natAbs):=Sml.gcd h4 h0
 have g2:=Sml.gcd g1 h1
 have g3:=Sml.gcd g2 h2
 have:=zej a b c d e h4 h0 (by simpa[SmlZ]using g1) h1 (by simpa[SmlZ]using g2) h2 (by simpa[SmlZ]using g3) h3
 simp only[Int.natAbs_natCast]at this
 exact this
theorem z0y(n:Int)(h: -9223372036854775808≤n∧n≤9223372036854775807):PCall P 144 [j5 n] (Z0 (K.ofInt n)):=zp9 n h (by decide)
theorem zb1(a b:Int)(ha:SmlZ a)(hb:SmlZ b)(hb0:b≠0)(hd:b∣a):PCall P 226 [J2 a,J2 b] (.tup [J2 (a/b),J2 0,j5 0]):=by
 have hl1:=ha.dig32
 have hl2:=hb.dig32
 have hmod:a.natAbs%b.natAbs=0:=Nat.mod_eq_zero_of_dvd (Int.natAbs_dvd_natAbs.2 hd)
 have hs0:sgn (decide (a<0)) 0=0:=by unfold sgn;split<;>rfl
 have:=zqt a b (by rw[Q3];simpa using hb0) (by rw[hmod,hs0,Q3];rfl) ha hb (by omega) (by simp only[B32]at*;omega) (by simp only[B32]at*;omega) (ha.mono (Nat.div_le_self _ _)) (by rw[hmod];exact Sml.of_lt (k:=1) (by decide) (by decide))
 rw[hmod,hs0]at this
 obtain⟨c,rfl⟩:=hd
 have hq:sgn (!(decide (b*c<0)==decide (b<0))) ((b*c).natAbs/b.natAbs)=b*c/b:=by
  rw[Int.mul_ediv_cancel_left _ hb0,Int.natAbs_mul,Nat.mul_div_cancel_left _ (by omega)]
  rcases Int.lt_trichotomy b 0 with h|h|h
  · rcases Int.lt_trichotomy c 0 with k|k|k
    · have:=Int.mul_pos_of_neg_of_neg h k
      rw[decide_eq_false (by omega),decide_eq_true h];simp only[sgn];simp;omega
    · subst k;simp[sgn]
    · have:=Int.mul_neg_of_neg_of_pos h k
      rw[decide_eq_true this,decide_eq_true h];simp only[sgn];simp;omega
  · exact absurd h hb0
  · rcases Int.lt_trichotomy c 0 with k|k|k
    · have:=Int.mul_neg_of_pos_of_neg h k
      rw[decide_eq_true this,decide_eq_false (by omega)];simp only[sgn];simp;omega
    · subst k;simp[sgn]
    · have:=Int.mul_pos h k
      rw[decide_eq_false (by omega),decide_eq_false (by omega)];simp only[sgn];simp;omega
 rw[hq]at this
 exact this
def gcO(W:Nat→Int)(g:Int)(i:Nat):St:=⟨J1 28 [(1,.ptr 0 0),(3,.cv (j5 g)),(4,.cv (j5 (i:Int)))],[some (own (i5 W))]⟩
def gcT(W:Nat→Int)(a b i:Int):St:=⟨J1 28 [(1,.ptr 0 0),(4,.cv (j5 i)),(5,.cv (j5 a)),(6,.cv (j5 b))],[some (own (i5 W))]⟩
theorem zuh (W : Nat → Int) (g : Int) : ∀ i, i < 5 → (z3O P 192 (loopHead P 192 0) (gcO W g i) [(15, .stop)] false 100000).pick [1, 4, 5, 6] [0] =
    some (loopHead P 192 1,gcT W g (if i64.wrap (0-W i)>W i then i64.wrap (0-W i)else W i) (i:Int),[(0:Int)≤(i:Int)∧(i:Int)<5,(0:Int)≤(i:Int)∧(i:Int)<5,CvL (own (i5 W))]):=by
 intro i hi
 have:i=0∨i=1∨i=2∨i=3∨i=4:=by omega
 rcases this with rfl|rfl|rfl|rfl|rfl<;>(show _=_;kernel_rfl)
theorem ztT(W:Nat→Int)(g:Int):z3O P 192 (loopHead P 192 0) (gcO W g 5) [] false 100000= .ret (j5 g) []:=by
 show _=_
 kernel_rfl
theorem zu1(W:Nat→Int):(zcz P 192 [.agg (i5 W)] [(4,.stop)] false 100000).pick [1,3,4] [0]=some (loopHead P 192 0,gcO W 0 0,[CvL (own (i5 W))]):=by
 show _=_
 kernel_rfl
theorem zpw {R : Goal} (hn : R.n = 0) (W : Nat → Int) (i : Int) (hi : 0 ≤ i ∧ i < 5) (g : Nat) (hR : Ok P 192 (loopHead P 192 0) ⟨J1 28 [(1, .ptr 0 0), (3, .cv (j5 (g : Int))), (4, .cv (j5 (i + 1)))], [some (own (i5 W))]⟩ R) :
    ∀(m:Nat) (a b:Nat),b≤m→a<2^63→b<2^63→Nat.gcd a b=g→Ok P 192 (loopHead P 192 1) (gcT W (a:Int) (b:Int) i) R
 |m,a,0,_,ha,_,hg=>by
  rw[Nat.gcd_zero_right]at hg
  subst hg
  refine zpk W _ _ i rfl (by rw[hn];rfl) ?_
  rw[w64 (by omega)]
  exact hR
 |0,a,b+1,h,_,_,_=>by omega
 |m+1,a,b+1,hm,ha,hb,hg=>by
  have hlt:a%(b+1)<b+1:=Nat.mod_lt a (Nat.succ_pos b)
  refine zoJ W _ _ i (by simp;omega) (by omega) (by rw[hn];rfl) ?_
  rw[Int.tmod_eq_emod_of_nonneg (by omega),show((a:Int)%((b+1:Nat):Int))=((a%(b+1):Nat):Int) by simp]
  refine zpw hn W i hi g hR m (b+1) (a%(b+1)) (by omega) hb (by omega) ?_
  rw[←hg,Nat.gcd_comm a (b+1),Nat.gcd_comm (b+1) (a%(b+1)),←Nat.gcd_rec]
theorem zmh(z:Int)(h:z.natAbs<2^63):(if i64.wrap (0-z)>z then i64.wrap (0-z)else z)=(z.natAbs:Int):=by
 rw[w64 (by omega)]
 split<;>omega
def z1B(W:Nat→Int):Nat→Nat
 |0=>0
 |n+1=>Nat.gcd (z1B W n) (W n).natAbs
theorem zee(W:Nat→Int)(h: ∀i,i<5→(W i).natAbs<2^63): ∀n,n≤5→z1B W n<2^63
 |0,_=>(by decide:0<2^63)
 |n+1,hn=>by
  have ih:=zee W h n (by omega)
  have hw:=h n (by omega)
  unfold z1B
  rcases Nat.eq_zero_or_pos (W n).natAbs with h0|h0
  · rw[h0,Nat.gcd_zero_right];exact ih
  · exact Nat.lt_of_le_of_lt (Nat.gcd_le_right _ h0) hw
theorem z7t(W:Nat→Int)(h: ∀i,i<5→(W i).natAbs<2^63):PCall P 192 [.agg (i5 W)] (j5 (z1B W 5:Nat)):=by
 refine Y6 (z91 (zu1 W) rfl (.cons (U1 _) .nil) ?_)
 have hn:(Goal.of (fun x=>x=j5 (z1B W 5:Nat))).n=0:=rfl
 have step: ∀i,i<5→Ok P 192 (loopHead P 192 0) (gcO W (z1B W (i+1):Nat) (i+1)) (Goal.of (fun x=>x=j5 (z1B W 5:Nat)))→Ok P 192 (loopHead P 192 0) (gcO W (z1B W i:Nat) i) (Goal.of (fun x=>x=j5 (z1B W 5:Nat))):=by
  intro i hi hk
  refine okS (zuh W _ i hi) rfl (.cons (by omega) (.cons (by omega) (.cons (U1 _) .nil))) rfl ?_
  rw[zmh _ (h i hi)]
  exact zpw hn W i (by omega) _ hk _ _ _ (Nat.le_refl _) (zee W h i (by omega)) (h i hi) rfl
 refine step 0 (by decide) (step 1 (by decide) (step 2 (by decide) (step 3 (by decide) (step 4 (by decide) ?_))))
 exact okR (ztT W _) .nil rfl
theorem zcW(W:Nat→Int):z1B W 5=X3 (W 0) (W 1) (W 2) (W 3) (W 4):=by
 simp only[z1B,X3,Nat.gcd_zero_left]
 rw[Nat.gcd_comm (Nat.gcd _ _) (W 4).natAbs,Nat.gcd_assoc,Nat.gcd_assoc,Nat.gcd_assoc,Nat.gcd_assoc,Nat.gcd_assoc]
theorem zs1(W:Nat→Int)(a: ∀(i:Nat),i<5→(W i).natAbs<2^63)(d:(-9223372036854775808:Int)≤i64.wrap ((W 0).tdiv (↑(z1B W 5):Int))∧i64.wrap ((W 0).tdiv (↑(z1B W 5):Int))≤9223372036854775807)(e:(-9223372036854775808:Int)≤i64.wrap ((W 1).tdiv (↑(z1B W 5):Int))∧i64.wrap ((W 1).tdiv (↑(z1B W 5):Int))≤9223372036854775807)(f:(-9223372036854775808:Int)≤i64.wrap ((W 2).tdiv (↑(z1B W 5):Int))∧i64.wrap ((W 2).tdiv (↑(z1B W 5):Int))≤9223372036854775807)(g:(-9223372036854775808:Int)≤i64.wrap ((W 3).tdiv (↑(z1B W 5):Int))∧i64.wrap ((W 3).tdiv (↑(z1B W 5):Int))≤9223372036854775807)(j:(-9223372036854775808:Int)≤i64.wrap ((W 4).tdiv (↑(z1B W 5):Int))∧i64.wrap ((W 4).tdiv (↑(z1B W 5):Int))≤9223372036854775807)(o2 o7 o12 o17 o22:(↑(z1B W 5):Int)≠0):PCall P 126 [.agg [j5 (W 0),j5 (W 1),j5 (W 2),j5 (W 3),j5 (W 4)]] (.agg [.lit (.bool (decide (i64.wrap ((W 0).tdiv (↑(z1B W 5):Int))<0))),.lit (.string (bytesOf (i64.wrap ((W 0).tdiv (↑(z1B W 5):Int))).natAbs)),.lit (.bool (decide (i64.wrap ((W 1).tdiv (↑(z1B W 5):Int))<0))),.lit (.string (bytesOf (i64.wrap ((W 1).tdiv (↑(z1B W 5):Int))).natAbs)),.lit (.bool (decide (i64.wrap ((W 2).tdiv (↑(z1B W 5):Int))<0))),.lit (.string (bytesOf (i64.wrap ((W 2).tdiv (↑(z1B W 5):Int))).natAbs)),.lit (.bool (decide (i64.wrap ((W 3).tdiv (↑(z1B W 5):Int))<0))),.lit (.string (bytesOf (i64.wrap ((W 3).tdiv (↑(z1B W 5):Int))).natAbs)),.lit (.bool (decide (i64.wrap ((W 4).tdiv (↑(z1B W 5):Int))<0))),.lit (.string (bytesOf (i64.wrap ((W 4).tdiv (↑(z1B W 5):Int))).natAbs))]):=
 j3 (.r 3 (z7t W a) (.c (bq 0 5) (.c o2 (.r 17 (Z5 (i64.wrap ((W 0).tdiv (↑(z1B W 5):Int))) d) (.c (bq 0 4) (.c (lq 2 10) (.c (bq 1 5) (.c o7 (.r 34 (Z5 (i64.wrap ((W 1).tdiv (↑(z1B W 5):Int))) e) (.c (bq 1 4) (.c (lq 4 10) (.c (bq 2 5) (.c o12 (.r 51 (Z5 (i64.wrap ((W 2).tdiv (↑(z1B W 5):Int))) f) (.c (bq 2 4) (.c (lq 6 10) (.c (bq 3 5) (.c o17 (.r 68 (Z5 (i64.wrap ((W 3).tdiv (↑(z1B W 5):Int))) g) (.c (bq 3 4) (.c (lq 8 10) (.c (bq 4 5) (.c o22 (.r 83 (Z5 (i64.wrap ((W 4).tdiv (↑(z1B W 5):Int))) j) (.c (lq 10 10) (.c (lq 10 10) .nil)))))))))))))))))))))))))) (by kernel_rfl)
theorem z2F{a:Int}{g:Nat}(ha:a.natAbs<2^63)(hd:(g:Int)∣a):i64.wrap (a.tdiv (g:Int))=a/(g:Int):=by
 rw[Int.tdiv_eq_ediv_of_dvd hd,w64]
 have:=K.natAbs_ediv_le a (g:Int) hd
 omega
theorem z2O{a:Int}{g:Nat}(ha:a.natAbs<2^63)(hd:(g:Int)∣a): -9223372036854775808≤a/(g:Int)∧a/(g:Int)≤9223372036854775807:=by
 have:=K.natAbs_ediv_le a (g:Int) hd
 omega
theorem z8F(W:Nat→Int)(h: ∀i,i<5→(W i).natAbs<2^63)(h4:0<W 4):PCall P 126 [.agg (i5 W)] (Z0 (K.of (W 0) (W 1) (W 2) (W 3) (W 4))):=by
 obtain⟨d0,d1,d2,d3,d4⟩:=zaS (W 0) (W 1) (W 2) (W 3) (W 4)
 have hg:((z1B W 5:Nat):Int)≠0:=by
  rw[zcW];have:=z33 (a:=W 0) (b:=W 1) (c:=W 2) (d:=W 3) (e:=W 4) (by omega);omega
 rw[←zcW]at d0 d1 d2 d3 d4
 have w0:=z2F (h 0 (by decide)) d0
 have w1:=z2F (h 1 (by decide)) d1
 have w2:=z2F (h 2 (by decide)) d2
 have w3:=z2F (h 3 (by decide)) d3
 have w4:=z2F (h 4 (by decide)) d4
 refine(zs1 W h (by rw[w0];exact z2O (h 0 (by decide)) d0) (by rw[w1];exact z2O (h 1 (by decide)) d1) (by rw[w2];exact z2O (h 2 (by decide)) d2) (by rw[w3];exact z2O (h 3 (by decide)) d3) (by rw[w4];exact z2O (h 4 (by decide)) d4) hg hg hg hg hg).eq ?_
 rw[w0,w1,w2,w3,w4]
 have hden:K.den (W 0) (W 1) (W 2) (W 3) (W 4)=((z1B W 5:Nat):Int):=by unfold K.den;rw[if_neg (by omega),zcW]
 have key: ∀x:K,x=K.of (W 0) (W 1) (W 2) (W 3) (W 4)→x.c0=W 0/((z1B W 5:Nat):Int)∧x.c1=W 1/((z1B W 5:Nat):Int)∧x.c2=W 2/((z1B W 5:Nat):Int)∧x.c3=W 3/((z1B W 5:Nat):Int)∧x.d=W 4/((z1B W 5:Nat):Int):=by
  intro x hx
  subst hx
  unfold K.of
  rw[dif_neg (by omega:W 4≠0)]
  simp only[hden,and_self]
 obtain⟨e0,e1,e2,e3,e4⟩:=key _ rfl
 show n5C _ _ _ _ _=n5C _ _ _ _ _
 rw[e0,e1,e2,e3,e4]
def kZ(x:K):Nat→Int
 |0=>x.c0
 |1=>x.c1
 |2=>x.c2
 |3=>x.c3
 |_=>x.d
def kB(x:K)(i:Nat):Bool:=decide (kZ x i<0)
def kS(x:K)(i:Nat):ByteArray:=bytesOf (kZ x i).natAbs
theorem zfe(z:Int):zOf (decide (z<0)) (bytesOf z.natAbs)=z:=by
 unfold zOf
 rw[z0d]
 by_cases h:z<0
 · rw[decide_eq_true h];simp;omega
 · rw[decide_eq_false h];simp;omega
theorem zr5(x:K)(i:Nat):z4o (kB x) (kS x) i=kZ x i:=zfe _
theorem z4I(z:Int):J5 (decide (z<0)) (bytesOf z.natAbs)=true:=by
 rw[J5]
 by_cases h:z=0
 · subst h;rfl
 · have:(bytesOf z.natAbs).size≠0:=by rw[Ne,Z9];omega
   rw[if_neg this]
   have:=z2j (n:=z.natAbs) (by omega)
   rw[decide_eq_true this]
def Sm3(x:K):Prop:= ∀i,i<5→(kZ x i).natAbs<256^3
theorem Sm3.ok{x:K}(h:Sm3 x): ∀i,i<5→z6A (kB x) (kS x) i:=fun i hi=>⟨V7.2 (h i hi),z4I _⟩
theorem z4E(x:K)(h:Sm3 x):PCall P 125 [Z0 x] (wdV (kZ x) true):=by
 refine(zav (B:=kB x) (S:=kS x) h.ok).eq ?_
 unfold wdV
 rw[zaX (fun i _=>zr5 x i)]
theorem z6a(x:K)(h: ¬Sm3 x): ∃W,PCall P 125 [Z0 x] (wdV W false):=
 z8j (B:=kB x) (S:=kS x) fun hc=>h fun i hi=>V7.1 (hc i hi).1
theorem zrV(x:K)(h1:decide (kZ x 4>0)=true)(a:Sm3 x)(d: ∀(i:Nat),i<5→(kZ x i).natAbs<2^63):PCall P 124 [Z0 x] (.lit (.bool ((↑(z1B (kZ x) 5):Int)==1))):=
 j3 (.r 3 (z4E x a) (.c (lq 5 5) (.c (bq 4 5) (.b 15 h1 (.r 17 (z7t (kZ x) d) .nil))))) (by kernel_rfl)
theorem zrP(n:Int)(a:(-9223372036854775808:Int)≤n∧n≤9223372036854775807)(d:(-9223372036854775808:Int)≤1∧(1:Int)≤9223372036854775807):PCall P 40 [j5 n] (.agg [.lit (.bool (decide (n<0))),.lit (.string (bytesOf n.natAbs)),.lit (.bool false),.lit (.string {data:= #[]}),.lit (.bool false),.lit (.string {data:= #[]}),.lit (.bool false),.lit (.string {data:= #[]}),.lit (.bool false),.lit (.string (bytesOf 1))]):=
 j3 (.r 2 (Z5 n a) (.r 4 (Z5 (1:Int) d) (.c (lq 10 10) .nil))) (by kernel_rfl)
theorem Sm3.lt{x:K}(h:Sm3 x): ∀i,i<5→(kZ x i).natAbs<2^63:=fun i hi=>Nat.lt_trans (h i hi) (by decide)
theorem z8U(x:K)(h:Sm3 x):PCall P 124 [Z0 x] (.lit (.bool true)):=by
 refine(zrV x (decide_eq_true x.pos) h h.lt).eqB ?_
 rw[zcW]
 have:X3 (kZ x 0) (kZ x 1) (kZ x 2) (kZ x 3) (kZ x 4)=1:=x.cop
 rw[this];rfl
theorem z49(n:Int)(h: -9223372036854775808≤n∧n≤9223372036854775807):PCall P 40 [j5 n] (Z0 (K.ofInt n)):=zrP n h (by decide)
def M5(a b c d e:Int):Prop:=a.natAbs<2^63∧b.natAbs<2^63∧c.natAbs<2^63∧d.natAbs<2^63∧e.natAbs<2^63
def f5(a b c d e:Int):Nat→Int
 |0=>a
 |1=>b
 |2=>c
 |3=>d
 |_=>e
theorem M5.f5{a b c d e:Int}(h:M5 a b c d e): ∀i,i<5→(f5 a b c d e i).natAbs<2^63:=by
 intro i hi
 have:i=0∨i=1∨i=2∨i=3∨i=4:=by omega
 rcases this with rfl|rfl|rfl|rfl|rfl
 · exact h.1
 · exact h.2.1
 · exact h.2.2.1
 · exact h.2.2.2.1
 · exact h.2.2.2.2
theorem zoc(a b c d e:Int)(h:M5 a b c d e)(he:0<e):PCall P 126 [.agg [j5 a,j5 b,j5 c,j5 d,j5 e]] (Z0 (K.of a b c d e)):=z8F (f5 a b c d e) h.f5 he
theorem zoe(x y:K)(a:Sm3 x)(d:Sm3 y)(e:Sm3 x)(f:Sm3 y)(g:M5 (i64.wrap (i64.wrap (kZ x 0*kZ y 4)+i64.wrap (kZ y 0*kZ x 4))) (i64.wrap (i64.wrap (kZ x 1*kZ y 4)+i64.wrap (kZ y 1*kZ x 4))) (i64.wrap (i64.wrap (kZ x 2*kZ y 4)+i64.wrap (kZ y 2*kZ x 4))) (i64.wrap (i64.wrap (kZ x 3*kZ y 4)+i64.wrap (kZ y 3*kZ x 4))) (i64.wrap (kZ x 4*kZ y 4)))(i:(0:Int)<i64.wrap (kZ x 4*kZ y 4)):PCall P 37 [Z0 x,Z0 y] (Z0 (K.of (i64.wrap (i64.wrap (kZ x 0*kZ y 4)+i64.wrap (kZ y 0*kZ x 4))) (i64.wrap (i64.wrap (kZ x 1*kZ y 4)+i64.wrap (kZ y 1*kZ x 4))) (i64.wrap (i64.wrap (kZ x 2*kZ y 4)+i64.wrap (kZ y 2*kZ x 4))) (i64.wrap (i64.wrap (kZ x 3*kZ y 4)+i64.wrap (kZ y 3*kZ x 4))) (i64.wrap (kZ x 4*kZ y 4)))):=
 j3 (.r 4 (z8U x a) (.r 8 (z8U y d) (.r 13 (z4E x e) (.c (lq 5 5) (.r 23 (z4E y f) (.c (lq 5 5) (.c (bq 0 5) (.c (bq 4 5) (.c (bq 0 5) (.c (bq 4 5) (.c (bq 0 5) (.c (lq 1 5) (.c (bq 1 5) (.c (bq 4 5) (.c (bq 1 5) (.c (bq 4 5) (.c (bq 1 5) (.c (lq 2 5) (.c (bq 2 5) (.c (bq 4 5) (.c (bq 2 5) (.c (bq 4 5) (.c (bq 2 5) (.c (lq 3 5) (.c (bq 3 5) (.c (bq 4 5) (.c (bq 3 5) (.c (bq 4 5) (.c (bq 3 5) (.c (lq 4 5) (.c (bq 4 5) (.c (bq 4 5) (.c (bq 4 5) (.c (lq 5 5) (.r 137 (zoc (i64.wrap (i64.wrap (kZ x 0*kZ y 4)+i64.wrap (kZ y 0*kZ x 4))) (i64.wrap (i64.wrap (kZ x 1*kZ y 4)+i64.wrap (kZ y 1*kZ x 4))) (i64.wrap (i64.wrap (kZ x 2*kZ y 4)+i64.wrap (kZ y 2*kZ x 4))) (i64.wrap (i64.wrap (kZ x 3*kZ y 4)+i64.wrap (kZ y 3*kZ x 4))) (i64.wrap (kZ x 4*kZ y 4)) g i) (.c (lq 10 10) .nil)))))))))))))))))))))))))))))))))))) (by kernel_rfl)
theorem zqQ(x y:K)(a:Sm3 x)(d:Sm3 y)(e:Sm3 x)(f:Sm3 y)(g:M5 (i64.wrap (i64.wrap (i64.wrap (i64.wrap (kZ x 0*kZ y 0)+i64.wrap (i64.wrap ((2:Int)*kZ x 1)*kZ y 1))+i64.wrap (i64.wrap ((3:Int)*kZ x 2)*kZ y 2))+i64.wrap (i64.wrap ((6:Int)*kZ x 3)*kZ y 3))) (i64.wrap (i64.wrap (i64.wrap (i64.wrap (kZ x 0*kZ y 1)+i64.wrap (kZ x 1*kZ y 0))+i64.wrap (i64.wrap ((3:Int)*kZ x 2)*kZ y 3))+i64.wrap (i64.wrap ((3:Int)*kZ x 3)*kZ y 2))) (i64.wrap (i64.wrap (i64.wrap (i64.wrap (kZ x 0*kZ y 2)+i64.wrap (kZ x 2*kZ y 0))+i64.wrap (i64.wrap ((2:Int)*kZ x 1)*kZ y 3))+i64.wrap (i64.wrap ((2:Int)*kZ x 3)*kZ y 1))) (i64.wrap (i64.wrap (i64.wrap (i64.wrap (kZ x 0*kZ y 3)+i64.wrap (kZ x 3*kZ y 0))+i64.wrap (kZ x 1*kZ y 2))+i64.wrap (kZ x 2*kZ y 1))) (i64.wrap (kZ x 4*kZ y 4)))(i:(0:Int)<i64.wrap (kZ x 4*kZ y 4)):PCall P 38 [Z0 x,Z0 y] (Z0 (K.of (i64.wrap (i64.wrap (i64.wrap (i64.wrap (kZ x 0*kZ y 0)+i64.wrap (i64.wrap ((2:Int)*kZ x 1)*kZ y 1))+i64.wrap (i64.wrap ((3:Int)*kZ x 2)*kZ y 2))+i64.wrap (i64.wrap ((6:Int)*kZ x 3)*kZ y 3))) (i64.wrap (i64.wrap (i64.wrap (i64.wrap (kZ x 0*kZ y 1)+i64.wrap (kZ x 1*kZ y 0))+i64.wrap (i64.wrap ((3:Int)*kZ x 2)*kZ y 3))+i64.wrap (i64.wrap ((3:Int)*kZ x 3)*kZ y 2))) (i64.wrap (i64.wrap (i64.wrap (i64.wrap (kZ x 0*kZ y 2)+i64.wrap (kZ x 2*kZ y 0))+i64.wrap (i64.wrap ((2:Int)*kZ x 1)*kZ y 3))+i64.wrap (i64.wrap ((2:Int)*kZ x 3)*kZ y 1))) (i64.wrap (i64.wrap (i64.wrap (i64.wrap (kZ x 0*kZ y 3)+i64.wrap (kZ x 3*kZ y 0))+i64.wrap (kZ x 1*kZ y 2))+i64.wrap (kZ x 2*kZ y 1))) (i64.wrap (kZ x 4*kZ y 4)))):=
 j3 (.r 4 (z8U x a) (.r 8 (z8U y d) (.r 13 (z4E x e) (.c (lq 5 5) (.r 23 (z4E y f) (.c (lq 5 5) (.c (bq 0 5) (.c (bq 0 5) (.c (bq 1 5) (.c (bq 1 5) (.c (bq 2 5) (.c (bq 2 5) (.c (bq 3 5) (.c (bq 3 5) (.c (bq 0 5) (.c (bq 1 5) (.c (bq 1 5) (.c (bq 0 5) (.c (bq 2 5) (.c (bq 3 5) (.c (bq 3 5) (.c (bq 2 5) (.c (bq 0 5) (.c (bq 2 5) (.c (bq 2 5) (.c (bq 0 5) (.c (bq 1 5) (.c (bq 3 5) (.c (bq 3 5) (.c (bq 1 5) (.c (bq 0 5) (.c (bq 3 5) (.c (bq 3 5) (.c (bq 0 5) (.c (bq 1 5) (.c (bq 2 5) (.c (bq 2 5) (.c (bq 1 5) (.c (bq 4 5) (.c (bq 4 5) (.r 137 (zoc (i64.wrap (i64.wrap (i64.wrap (i64.wrap (kZ x 0*kZ y 0)+i64.wrap (i64.wrap ((2:Int)*kZ x 1)*kZ y 1))+i64.wrap (i64.wrap ((3:Int)*kZ x 2)*kZ y 2))+i64.wrap (i64.wrap ((6:Int)*kZ x 3)*kZ y 3))) (i64.wrap (i64.wrap (i64.wrap (i64.wrap (kZ x 0*kZ y 1)+i64.wrap (kZ x 1*kZ y 0))+i64.wrap (i64.wrap ((3:Int)*kZ x 2)*kZ y 3))+i64.wrap (i64.wrap ((3:Int)*kZ x 3)*kZ y 2))) (i64.wrap (i64.wrap (i64.wrap (i64.wrap (kZ x 0*kZ y 2)+i64.wrap (kZ x 2*kZ y 0))+i64.wrap (i64.wrap ((2:Int)*kZ x 1)*kZ y 3))+i64.wrap (i64.wrap ((2:Int)*kZ x 3)*kZ y 1))) (i64.wrap (i64.wrap (i64.wrap (i64.wrap (kZ x 0*kZ y 3)+i64.wrap (kZ x 3*kZ y 0))+i64.wrap (kZ x 1*kZ y 2))+i64.wrap (kZ x 2*kZ y 1))) (i64.wrap (kZ x 4*kZ y 4)) g i) (.c (lq 10 10) .nil)))))))))))))))))))))))))))))))))))))))))) (by kernel_rfl)
theorem zqF(x:K)(a:Sm3 x):PCall P 41 [Z0 x] (.agg [.lit (.bool (decide (-x.c0<0))),.lit (.string (bytesOf (-x.c0).natAbs)),.lit (.bool (decide (-x.c1<0))),.lit (.string (bytesOf (-x.c1).natAbs)),.lit (.bool (decide (-x.c2<0))),.lit (.string (bytesOf (-x.c2).natAbs)),.lit (.bool (decide (-x.c3<0))),.lit (.string (bytesOf (-x.c3).natAbs)),.lit (.bool (decide (x.d<0))),.lit (.string (bytesOf x.d.natAbs))]):=
 j3 (.r 3 (z8U x a) (.c (lq 10 10) (.c (bq 0 4) (.r 19 (z0R x.c0) (.c (bq 0 4) (.c (lq 2 10) (.c (bq 1 4) (.r 35 (z0R x.c1) (.c (bq 1 4) (.c (lq 4 10) (.c (bq 2 4) (.r 51 (z0R x.c2) (.c (bq 2 4) (.c (lq 6 10) (.c (bq 3 4) (.r 67 (z0R x.c3) (.c (bq 3 4) (.c (lq 8 10) (.c (lq 10 10) .nil))))))))))))))))))) (by kernel_rfl)
theorem ztA(a b:Int):i64.wrap (i64.wrap a+b)=i64.wrap (a+b):=by simp only[IntKind.wrap_i64];omega
theorem ztK(a b:Int):i64.wrap (a+i64.wrap b)=i64.wrap (a+b):=by simp only[IntKind.wrap_i64];omega
theorem zsN(a k:Int):i64.wrap (a+k*18446744073709551616)=i64.wrap a:=by simp only[IntKind.wrap_i64];omega
theorem zug(a:Int): ∃k,i64.wrap a=a+k*18446744073709551616:=by
 refine⟨(i64.wrap a-a)/18446744073709551616,?_⟩
 simp only[IntKind.wrap_i64];omega
theorem zu2(a b:Int):i64.wrap (i64.wrap a*b)=i64.wrap (a*b):=by
 obtain⟨k,hk⟩:=zug a
 rw[hk,Int.add_mul,show k*18446744073709551616*b=(k*b)*18446744073709551616 by rw[Int.mul_assoc,Int.mul_comm _ b,←Int.mul_assoc],zsN]
theorem zd2{a b:Int}(ha:a.natAbs<256^3)(hb:b.natAbs<256^3):(a*b).natAbs<281474976710656:=by
 rw[Int.natAbs_mul]
 exact Nat.mul_lt_mul'' ha hb
theorem zit{a b c d e a' b' c' d' e':Int}(h0:a=a')(h1:b=b')(h2:c=c')(h3:d=d')(h4:e=e'):Z0 (K.of a b c d e)=Z0 (K.of a' b' c' d' e'):=by rw[h0,h1,h2,h3,h4]
theorem zrJ(x y:K)(hx:Sm3 x)(hy:Sm3 y):PCall P 37 [Z0 x,Z0 y] (Z0 (x+y)):=by
 have p (i j:Nat) (hi:i<5) (hj:j<5):=zd2 (hx i hi) (hy j hj)
 have q (i j:Nat) (hi:i<5) (hj:j<5):=zd2 (hy i hi) (hx j hj)
 have e (i:Nat) (hi:i<4):i64.wrap (i64.wrap (kZ x i*kZ y 4)+i64.wrap (kZ y i*kZ x 4))=kZ x i*kZ y 4+kZ y i*kZ x 4:=by
  have h1:=p i 4 (by omega) (by decide)
  have h2:=q i 4 (by omega) (by decide)
  generalize kZ x i*kZ y 4=X at*
  generalize kZ y i*kZ x 4=Y at*
  rw[ztA,ztK,w64 (by omega)]
 have e4:i64.wrap (kZ x 4*kZ y 4)=kZ x 4*kZ y 4:=by
  have h1:=p 4 4 (by decide) (by decide)
  rw[w64 (by omega)]
 have bd (i:Nat) (hi:i<4):(kZ x i*kZ y 4+kZ y i*kZ x 4).natAbs<2^63:=by
  have h1:=p i 4 (by omega) (by decide)
  have h2:=q i 4 (by omega) (by decide)
  omega
 have:=zoe x y hx hy hx hy (by
  rw[e 0 (by decide),e 1 (by decide),e 2 (by decide),e 3 (by decide),e4]
  exact⟨bd 0 (by decide),bd 1 (by decide),bd 2 (by decide),bd 3 (by decide),by have:=p 4 4 (by decide) (by decide);omega⟩) (by rw[e4];exact Int.mul_pos x.pos y.pos)
 exact this.eq (zit (e 0 (by decide)) (e 1 (by decide)) (e 2 (by decide)) (e 3 (by decide)) e4)
theorem znm(x y:K)(hx:Sm3 x)(hy:Sm3 y):PCall P 38 [Z0 x,Z0 y] (Z0 (x*y)):=by
 have p (i j:Nat) (hi:i<5) (hj:j<5):=zd2 (hx i hi) (hy j hj)
 have e (A B C D : Int) (k l m : Int) (hA : A.natAbs < 281474976710656) (hB : B.natAbs < 281474976710656) (hC : C.natAbs < 281474976710656) (hD : D.natAbs < 281474976710656)
     (hk:0<k∧k≤6) (hl:0<l∧l≤6) (hm:0<m∧m≤6):i64.wrap (A+k*B+l*C+m*D)=A+k*B+l*C+m*D∧(A+k*B+l*C+m*D).natAbs<2^63:=by
  have g (k B:Int) (hk:0<k∧k≤6) (hB:B.natAbs<281474976710656):(k*B).natAbs<1688849860263936:=by
   rw[Int.natAbs_mul]
   have:=Nat.mul_le_mul (show k.natAbs≤6 by omega) (Nat.le_of_lt_succ (show B.natAbs<281474976710655+1 from hB))
   omega
  have g1:=g k B hk hB
  have g2:=g l C hl hC
  have g3:=g m D hm hD
  generalize k*B=X at*
  generalize l*C=Y at*
  generalize m*D=Z at*
  constructor
  · rw[w64 (by omega)]
  · omega
 have f:=e
 have w1: ∀X Y Z W:Int,i64.wrap (i64.wrap (i64.wrap (i64.wrap X+i64.wrap Y)+i64.wrap Z)+i64.wrap W)=i64.wrap (X+Y+Z+W):=by
  intro X Y Z W
  simp only[ztA,ztK]
 have w2: ∀c X Y:Int,i64.wrap (i64.wrap (c*X)*Y)=i64.wrap (c*(X*Y)):=by intro c X Y;rw[zu2,Int.mul_assoc]
 have q:=fun i j hi hj=>p i j hi hj
 obtain⟨a0,b0⟩:=e _ _ _ _ 2 3 6 (p 0 0 (by decide) (by decide)) (p 1 1 (by decide) (by decide)) (p 2 2 (by decide) (by decide)) (p 3 3 (by decide) (by decide)) (by decide) (by decide) (by decide)
 obtain⟨a1,b1⟩:=e _ _ _ _ 1 3 3 (p 0 1 (by decide) (by decide)) (p 1 0 (by decide) (by decide)) (p 2 3 (by decide) (by decide)) (p 3 2 (by decide) (by decide)) (by decide) (by decide) (by decide)
 obtain⟨a2,b2⟩:=e _ _ _ _ 1 2 2 (p 0 2 (by decide) (by decide)) (p 2 0 (by decide) (by decide)) (p 1 3 (by decide) (by decide)) (p 3 1 (by decide) (by decide)) (by decide) (by decide) (by decide)
 obtain⟨a3,b3⟩:=e _ _ _ _ 1 1 1 (p 0 3 (by decide) (by decide)) (p 3 0 (by decide) (by decide)) (p 1 2 (by decide) (by decide)) (p 2 1 (by decide) (by decide)) (by decide) (by decide) (by decide)
 simp only[Int.one_mul]at a1 a2 a3 b1 b2 b3
 have e4:i64.wrap (kZ x 4*kZ y 4)=kZ x 4*kZ y 4:=by
  have h1:=p 4 4 (by decide) (by decide)
  rw[w64 (by omega)]
 have w3: ∀c X Y:Int,i64.wrap (i64.wrap (c*X)*Y)=i64.wrap (c*(X*Y)):=w2
 have:=zqQ x y hx hy hx hy (by
  simp only[w2,w1,a0,a1,a2,a3,e4]
  exact⟨b0,b1,b2,b3,by have:=p 4 4 (by decide) (by decide);omega⟩) (by rw[e4];exact Int.mul_pos x.pos y.pos)
 refine this.eq ?_
 simp only[w2,w1,a0,a1,a2,a3,e4]
 refine zit ?_ ?_ ?_ ?_ rfl<;>first|rfl|(simp only[←Int.mul_assoc];rfl)
theorem zf8(x:K)(hx:Sm3 x):PCall P 41 [Z0 x] (Z0 (-x)):=zqF x hx
theorem Sm3.neg{x:K}(h:Sm3 x):Sm3 (-x):=by
 intro i hi
 have:i=0∨i=1∨i=2∨i=3∨i=4:=by omega
 rcases this with rfl|rfl|rfl|rfl|rfl
 · show(-x.c0).natAbs<_;rw[Int.natAbs_neg];exact h 0 (by decide)
 · show(-x.c1).natAbs<_;rw[Int.natAbs_neg];exact h 1 (by decide)
 · show(-x.c2).natAbs<_;rw[Int.natAbs_neg];exact h 2 (by decide)
 · show(-x.c3).natAbs<_;rw[Int.natAbs_neg];exact h 3 (by decide)
 · exact h 4 (by decide)
theorem zfH(n:Nat):J2 (n:Int)= .agg [.lit (.bool false),X1 (bytesOf n)]:=by
 rw[J2,Int.natAbs_natCast,decide_eq_false (by omega)]
theorem z73(n:Nat)(h:n<256^7):PCall P 194 [.agg [.lit (.bool false),X1 (bytesOf n)]] (.tup [j5 (n:Int),.lit (.bool true)]):=by
 have:=W7 (n:Int) (by rwa[Int.natAbs_natCast])
 rwa[zfH]at this
theorem zrz(a b:Int)(h1:decide ((↑(bytesOf a.natAbs).size:Int)≤7)=true)(h2:decide ((↑(bytesOf b.natAbs).size:Int)≤7)=true)(c:a.natAbs<256^7)(d:b.natAbs<256^7){R:CV→Prop}(hR:Ok P 184 (loopHead P 184 0) ⟨J1 111 [(4,.ptr 0 0),(5,.cv (.lit (.int .i64 (↑a.natAbs:Int)))),(7,.cv (.lit (.int .i64 (↑b.natAbs:Int))))],[some [.cv (.lit (.bool false)),.cv (.lit (.string {data:= #[]}))]]⟩ (.of R)):Y3 P 184 [J2 a,J2 b] R:=
 Z6 (keep:=[4,5,7]) (σ:=[2]) (.r 4 (J3 a) (.r 8 (J3 b) (.b 16 h1 (.b 22 h2 (.r 26 (z73 a.natAbs c) (.r 35 (z73 b.natAbs d) (.o 41 .stop .nil))))))) (by kernel_rfl) rfl hR (.cons (by simp[CvL]) .nil)
theorem zpi(n m:Int)(h1:(m != 0)=true)(o1:m≠0){R:Goal}(hn:j7 R.n [0]=true)(hR:Ok P 184 (loopHead P 184 0) ⟨J1 111 [(4,.ptr 0 0),(5,.cv (.lit (.int .i64 m))),(7,.cv (.lit (.int .i64 (n.tmod m))))],[some [.cv (.lit (.bool false)),.cv (.lit (.string {data:= #[]}))]]⟩ R):Ok P 184 (loopHead P 184 0) ({tm:=J1 111 [(4,.ptr 0 0),(5,.cv (j5 n)),(7,.cv (j5 m))],hp:=[some [.cv (.lit (.bool false)),.cv (X1 {data:= #[]})]]}) R:=
 z07 (keep:=[4,5,7]) (σ:=[0]) (.b 3 h1 (.c o1 (.o 10 .stop .nil))) (by kernel_rfl) rfl hn hR (.cons (by simp[CvL]) .nil)
theorem zpF(n m:Int)(h1:(m != 0)=false)(a:(-9223372036854775808:Int)≤n∧n≤9223372036854775807){R:Goal}(hR:R.c (.agg [.lit (.bool (decide (n<0))),.lit (.string (bytesOf n.natAbs))])):Ok P 184 (loopHead P 184 0) ({tm:=J1 111 [(4,.ptr 0 0),(5,.cv (j5 n)),(7,.cv (j5 m))],hp:=[some [.cv (.lit (.bool false)),.cv (X1 {data:= #[]})]]}) R:=
 okT (.b 3 h1 (.r 5 (Z5 n a) (.c (show 2≤2 from by decide) .nil))) (by kernel_rfl) hR
theorem zpN(a b:Int)(h1:((bytesOf b.natAbs).toList==[])=false)(h2:decide ((↑(bytesOf b.natAbs).size:Int)≤7)=true)(h3:(a.tmod b != 0)=false)(d:a.natAbs<256^7)(e:b.natAbs<256^7)(f:(-9223372036854775808:Int)≤i64.wrap (a.tdiv b)∧i64.wrap (a.tdiv b)≤9223372036854775807)(g:(-9223372036854775808:Int)≤i64.wrap (a-i64.wrap (i64.wrap (a.tdiv b)*b))∧i64.wrap (a-i64.wrap (i64.wrap (a.tdiv b)*b))≤9223372036854775807)(o6 o7:b≠0):PCall P 233 [J2 a,J2 b] (.tup [.agg [.lit (.bool (decide (i64.wrap (a.tdiv b)<0))),.lit (.string (bytesOf (i64.wrap (a.tdiv b)).natAbs))],.agg [.lit (.bool (decide (i64.wrap (a-i64.wrap (i64.wrap (a.tdiv b)*b))<0))),.lit (.string (bytesOf (i64.wrap (a-i64.wrap (i64.wrap (a.tdiv b)*b))).natAbs))],.lit (.int .i64 0)]):=
 j3 (.r 6 (J3 a) (.r 10 (J3 b) (.b 17 h1 (.r 19 (W7 a d) (.b 32 h2 (.r 34 (W7 b e) (.c o6 (.c o7 (.b 48 h3 (.r 57 (Z5 (i64.wrap (a.tdiv b)) f) (.r 63 (Z5 (i64.wrap (a-i64.wrap (i64.wrap (a.tdiv b)*b))) g) (.c (show 2≤2 from by decide) (.c (show 2≤2 from by decide) .nil))))))))))))) (by kernel_rfl)
theorem zib(a b:Int)(_h1:((bytesOf b.natAbs).toList==[])=false)(_h:PCall P 233 [J2 a,J2 b] (.tup [J2 (a/b),J2 (0:Int),j5 0]))(o0:PCall P 233 [.agg [.lit (.bool (decide (a<0))),.lit (.string (bytesOf a.natAbs))],.agg [.lit (.bool (decide (b<0))),.lit (.string (bytesOf b.natAbs))]] (.tup [.agg [.lit (.bool (decide (a/b<0))),.lit (.string (bytesOf (a/b).natAbs))],.agg [.lit (.bool false),.lit (.string (bytesOf 0))],.lit (.int .i64 0)])):PCall P 185 [J2 a,J2 b] (.agg [.lit (.bool (decide (a/b<0))),.lit (.string (bytesOf (a/b).natAbs))]):=
 j3 (.c o0 (.c (lq 2 2) (.c (lq 2 2) (.c (lq 2 2) (.o 5 (.r (.tup [J2 (a/b),J2 (0:Int),j5 0])) .nil))))) (by kernel_rfl)
theorem zdc {R : Goal} (hn : R.n = 0) (g : Nat) (hR : R.c (J2 (g : Int))) : ∀ (m a b : Nat), b ≤ m → a < 2 ^ 63 → b < 2 ^ 63 → Nat.gcd a b = g →
    Ok P 184 (loopHead P 184 0) ⟨J1 111 [(4,.ptr 0 0),(5,.cv (j5 (a:Int))),(7,.cv (j5 (b:Int)))],[some [.cv (.lit (.bool false)),.cv (X1 ⟨#[]⟩)]]⟩ R
 |m,a,0,_,ha,_,hg=>by
  rw[Nat.gcd_zero_right]at hg
  subst hg
  exact zpF _ _ rfl (by omega) hR
 |0,a,b+1,h,_,_,_=>by omega
 |m+1,a,b+1,hm,ha,hb,hg=>by
  have hlt:a%(b+1)<b+1:=Nat.mod_lt a (Nat.succ_pos b)
  refine zpi _ _ (by simp;omega) (by omega) (by rw[hn];rfl) ?_
  rw[Int.tmod_eq_emod_of_nonneg (by omega),show((a:Int)%((b+1:Nat):Int))=((a%(b+1):Nat):Int) by simp]
  refine zdc hn g hR m (b+1) (a%(b+1)) (by omega) hb (by omega) ?_
  rw[←hg,Nat.gcd_comm a (b+1),Nat.gcd_comm (b+1) (a%(b+1)),←Nat.gcd_rec]
theorem z8A(a b:Int)(ha:a.natAbs<256^7)(hb:b.natAbs<256^7):PCall P 184 [J2 a,J2 b] (J2 (Nat.gcd a.natAbs b.natAbs:Nat)):=by
 have h1:(bytesOf a.natAbs).size≤7:=V7.2 ha
 have h2:(bytesOf b.natAbs).size≤7:=V7.2 hb
 exact Y6 (zrz a b (decide_eq_true (by omega)) (decide_eq_true (by omega)) ha hb (zdc rfl _ rfl _ _ _ (Nat.le_refl _) (Nat.lt_trans ha (by decide)) (Nat.lt_trans hb (by decide)) rfl))
theorem ziL(a b:Int)(ha:a.natAbs<256^7)(hb:b.natAbs<256^7)(hb0:b≠0)(hd:b∣a):PCall P 233 [J2 a,J2 b] (.tup [J2 (a/b),J2 0,j5 0]):=by
 have h2:(bytesOf b.natAbs).size≤7:=V7.2 hb
 have hq:a.tdiv b=a/b:=Int.tdiv_eq_ediv_of_dvd hd
 have hl:=K.natAbs_ediv_le a b hd
 have hw:i64.wrap (a.tdiv b)=a/b:=by rw[hq,w64 (by omega)]
 have hz:i64.wrap (a-i64.wrap (a/b*b))=0:=by rw[Int.ediv_mul_cancel hd,w64 (n:=a) (by omega),w64 (by omega)];omega
 have:=zpN a b (by rw[Q3];simpa using hb0) (decide_eq_true (by omega)) (by rw[Int.tmod_eq_zero_of_dvd hd];rfl) ha hb (by rw[hw];omega) (by rw[hw,hz];decide) hb0 hb0
 rw[hw,hz]at this
 exact this
theorem z64(a b:Int)(ha:a.natAbs<256^7)(hb:b.natAbs<256^7)(hb0:b≠0)(hd:b∣a):PCall P 185 [J2 a,J2 b] (J2 (a/b)):=
 zib a b (by rw[Q3];simpa using hb0) (ziL a b ha hb hb0 hd) (ziL a b ha hb hb0 hd)
def z7O(a b:Int):Prop:=PCall P 184 [J2 a,J2 b] (J2 (Nat.gcd a.natAbs b.natAbs:Nat))
def z2K(a b:Int):Prop:=PCall P 185 [J2 a,J2 b] (J2 (a/b))
theorem z2z(a b:Int)(h:z7O a b):PCall P 184 [J2 a,J2 b] (J2 (Nat.gcd a.natAbs b.natAbs:Nat)):=h
theorem z1T(a b:Int)(h:z2K a b):PCall P 185 [J2 a,J2 b] (J2 (a/b)):=h
end Go.Fw
