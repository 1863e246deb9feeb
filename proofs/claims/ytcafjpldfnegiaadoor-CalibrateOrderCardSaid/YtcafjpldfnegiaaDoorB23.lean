/- A part of the proof that the law returns true for every input: an executor for the model's code, and what functions of the program compute. -/
import Derived.Test.YtcafjpldfnegiaaDoorB11
import Derived.Test.YtcafjpldfnegiaaDoorB15
import Derived.Test.YtcafjpldfnegiaaDoorB16
import Derived.Test.YtcafjpldfnegiaaDoorB18
import Derived.Test.YtcafjpldfnegiaaDoorB19
import Derived.Test.YtcafjpldfnegiaaDoorB21
import Derived.Test.YtcafjpldfnegiaaDoorB22
import Derived.KernelRfl
open Go IntKind
namespace Go.Fw
set_option maxRecDepth 100000
theorem z3H{b:Nat}(xs:List Nat)(i:Nat):val b (xs.take i)≤val b xs:=by
 by_cases h:i≤xs.length
 · rw[z0l (b:=b) xs i h];omega
 · rw[z04 (by omega)];exact Nat.le_refl _
theorem zaP {R : Goal} (hn : j7 R.n [0] = true) (xs ys : List Nat) (hxl : xs.length < 2 ^ 38) (hyl : ys.length < 2 ^ 38) (hx : Dig B32 xs) (hy : Dig B32 ys)
    (hR:R.c (X5 (val B32 xs*val B32 ys))):
    ∀(k i:Nat),xs.length-i=k→i≤xs.length→
     Ok P 59 (loopHead P 59 0) ⟨J6 45 [(1,.cv (.lst ys.length (j0 ys))),(5,.sl 0 0 (xs.length+ys.length+1) 1),(6,.fn 70 [.sl 0 0 (xs.length+ys.length+1) 1] []),(20,.cv (.lst xs.length (j0 xs))),
      (21,.cv (.lit (.int .i64 xs.length))),(22,.cv (.lit (.int .i64 i)))],[some (own (j0 (Q7 B32 (xs.length+ys.length+1) (val B32 (xs.take i)*val B32 ys))))]⟩ R:=by
 have hbound:val B32 xs*val B32 ys<B32^(xs.length+ys.length+1):=by
  have h1:=z0u (by decide:0<B32) xs hx
  have h2:=z0u (by decide:0<B32) ys hy
  have h3:val B32 xs*val B32 ys<B32^xs.length*B32^ys.length:=Nat.mul_lt_mul_of_lt_of_le h1 (Nat.le_of_lt h2) (Nat.pow_pos (by decide))
  rw[←Nat.pow_add]at h3
  exact Nat.lt_trans h3 (Nat.pow_lt_pow_right (by decide) (by omega))
 generalize ho:xs.length+ys.length+1=o at*
 intro k
 induction k with
 |zero=>
  intro i hk hi
  have:i=xs.length:=by omega
  subst this
  rw[List.take_length]
  refine zcx _ _ _ _ _ _ _ (by simp) (j5 _ _ _).symm (z0p (by decide) _ _) (by rw[j5];omega) (z0H (by rw[j9,j5])) ?_
  rw[show(4294967296:Nat)=B32 from rfl,z0w,Nat.mod_eq_of_lt hbound]
  exact hR
 |succ k ih=>
  intro i hk hi
  have hlt:i<xs.length:=by omega
  have e1:(i:Int).toNat*1=i:=by omega
  have dx:=hx.get (by decide) i
  have htk:=Y0 (b:=B32) hlt
  have inner : ∀ (q j : Nat), ys.length - j = q → j ≤ ys.length →
      Ok P 59 (loopHead P 59 1) ⟨J6 45 [(1,.cv (.lst ys.length (j0 ys))),(5,.sl 0 0 o 1),(6,.fn 70 [.sl 0 0 o 1] []),(7,.cv (.lit (.int .i64 i))),(8,.cv (.lit (.int .u32 (xs.getD i 0:Nat)))),
       (20,.cv (.lst xs.length (j0 xs))),(21,.cv (.lit (.int .i64 xs.length))),(22,.cv (.lit (.int .i64 i))),(27,.cv (.lst ys.length (j0 ys))),(28,.cv (.lit (.int .i64 ys.length))),(29,.cv (.lit (.int .i64 j)))],
       [some (own (j0 (Q7 B32 o (val B32 (xs.take i)*val B32 ys+xs.getD i 0*val B32 (ys.take j)*B32^i))))]⟩ R:=by
   intro q
   induction q with
   |zero=>
    intro j hq hj
    have:j=ys.length:=by omega
    subst this
    refine zdf _ _ _ _ _ _ _ _ _ (by simp) (J8 _) hn ?_
    rw[List.take_length,show i64.wrap ((i:Int)+1)=((i+1:Nat):Int) by rw[w64 (by omega)];omega]
    have:=ih (i+1) (by omega) (by omega)
    rw[htk,Nat.add_mul,show B32^i*xs.getD i 0*val B32 ys=xs.getD i 0*val B32 ys*B32^i by rw[Nat.mul_comm (B32^i),Nat.mul_assoc,Nat.mul_assoc,Nat.mul_comm (B32^i)]]at this
    exact this
   |succ q ihq=>
    intro j hq hj
    have hjl:j<ys.length:=by omega
    have e2:(j:Int).toNat*1=j:=by omega
    have e3:i64.wrap ((i:Int)+(j:Int))=((i+j:Nat):Int):=by rw[w64 (by omega)];omega
    have e4:(((i+j:Nat):Int)).toNat=i+j:=by omega
    have e5:i64.wrap ((j:Int)+1)=((j+1:Nat):Int):=by rw[w64 (by omega)];omega
    have dy:=hy.get (by decide) j
    have hty:=Y0 (b:=B32) hjl
    have hsum : val B32 (xs.take i) * val B32 ys + xs.getD i 0 * val B32 (ys.take j) * B32 ^ i + xs.getD i 0 * ys.getD j 0 * B32 ^ (i + j) =
        val B32 (xs.take i)*val B32 ys+xs.getD i 0*val B32 (ys.take (j+1))*B32^i:=by
     rw[hty,Nat.mul_add,Nat.add_mul,Nat.pow_add,Nat.add_assoc]
     congr 2
     rw[Nat.mul_comm (B32^j),Nat.mul_assoc (xs.getD i 0),Nat.mul_assoc (xs.getD i 0),Nat.mul_assoc (ys.getD j 0),Nat.mul_comm (B32^j)]
    have hle:val B32 (xs.take i)*val B32 ys+xs.getD i 0*val B32 (ys.take (j+1))*B32^i<B32^o:=by
     refine Nat.lt_of_le_of_lt ?_ hbound
     have h1:val B32 (xs.take (i+1))*val B32 ys≤val B32 xs*val B32 ys:=Nat.mul_le_mul_right _ (z3H _ _)
     rw[htk,Nat.add_mul]at h1
     have h2:xs.getD i 0*val B32 (ys.take (j+1))*B32^i≤B32^i*xs.getD i 0*val B32 ys:=by
      rw[Nat.mul_comm _ (B32^i),←Nat.mul_assoc]
      exact Nat.mul_le_mul_left _ (z3H _ _)
     omega
    refine zcs _ _ _ _ _ _ _ _ _ (by simpa using hjl) (by rw[e3];omega) (by omega) (by rw[e3,e4];omega) (by rw[e3,e4,e2];exact hsum ▸ hle) dx (by rw[e2];exact dy) (by omega) (by rw[e2];exact J9 hjl) (BlksCv.two (J8 _) (J8 _)) (J8 _) hn ?_
    rw[e3,e4,e2,e5,show(4294967296:Nat)=B32 from rfl,hsum]
    exact ihq (j+1) (by omega) (by omega)
  refine zd7 _ _ _ _ _ _ _ (by simpa using hlt) (by omega) (by rw[e1];exact J9 hlt) (J8 _) hn ?_
  have:=inner _ 0 rfl (Nat.zero_le _)
  rw[List.take_zero,show val B32 []=0 from rfl,Nat.mul_zero,Nat.zero_mul,Nat.add_zero]at this
  rw[e1]
  exact this
theorem zb0(a b:Nat)(ha:(dig B32 a).length<2^38)(hb:(dig B32 b).length<2^38):PCall P 59 [X5 a,X5 b] (X5 (a*b)):=by
 have e1:i64.wrap (i64.wrap (((dig B32 a).length:Int)+(dig B32 b).length)+1)=(((dig B32 a).length+(dig B32 b).length+1:Nat):Int):=by
  rw[w64 (n:=((dig B32 a).length:Int)+(dig B32 b).length) (by omega),w64 (by omega)];omega
 have e2:((((dig B32 a).length+(dig B32 b).length+1:Nat):Int)).toNat=(dig B32 a).length+(dig B32 b).length+1:=by omega
 refine zd1 _ _ _ _ (by rw[e1];omega) (by rw[Y6];exact J8 _) ?_
 rw[e1,e2,Y6,Nat.mul_one]
 have:=zaP (R:= .of (fun x=>x=X5 (a*b))) rfl (dig B32 a) (dig B32 b) ha hb (V7 (by decide) _) (V7 (by decide) _) (by rw[Z9 (by decide),Z9 (by decide)];rfl) _ 0 rfl (Nat.zero_le _)
 rw[List.take_zero,show val B32 []=0 from rfl,Nat.zero_mul,z19]at this
 exact this
theorem zg5(n:Int)(h1:(decide (n<0))=true)(a:(0:Int)≤u64.wrap ((0:Int)-u64.wrap n))(d:u64.wrap ((0:Int)-u64.wrap n)<18446744073709551616)(e:Sml (u64.wrap ((0:Int)-u64.wrap n)).toNat):PCall P 26 [.lit (.int .i64 n)] (.agg [.lit (.bool (decide (sgn true (u64.wrap ((0:Int)-u64.wrap n)).toNat<0))),.lit (.string (bytesOf (sgn true (u64.wrap ((0:Int)-u64.wrap n)).toNat).natAbs))]):=
 j3 (.b 3 h1 (.r 7 (z5k (u64.wrap ((0:Int)-u64.wrap n)) a d) (.r 8 (U0 ((u64.wrap ((0:Int)-u64.wrap n)).toNat) true e) (.c (lq 2 2) .nil)))) (by kernel_rfl)
theorem zey(n:Int)(h1:(decide (n<0))=false)(a:(0:Int)≤u64.wrap n)(d:u64.wrap n<18446744073709551616)(e:Sml (u64.wrap n).toNat):PCall P 26 [.lit (.int .i64 n)] (.agg [.lit (.bool (decide (sgn false (u64.wrap n).toNat<0))),.lit (.string (bytesOf (sgn false (u64.wrap n).toNat).natAbs))]):=
 j3 (.b 3 h1 (.r 6 (z5k (u64.wrap n) a d) (.r 7 (U0 ((u64.wrap n).toNat) false e) (.c (lq 2 2) .nil)))) (by kernel_rfl)
theorem zd0(a:Int)(h1:(!decide (a<0))=true):PCall P 52 [Q2 a] (.agg [.lit (.bool !(bytesOf a.natAbs).toList==[]),.lit (.string (bytesOf a.natAbs))]):=
 j3 (.r 3 (J3 a) (.b 9 h1 (.c (lq 2 2) .nil))) (by kernel_rfl)
theorem zdP(a:Int)(h1:(!decide (a<0))=false):PCall P 52 [Q2 a] (.agg [.lit (.bool false),.lit (.string (bytesOf a.natAbs))]):=
 j3 (.r 3 (J3 a) (.b 9 h1 (.c (lq 2 2) .nil))) (by kernel_rfl)
theorem z9Y(a:Int)(h1:((bytesOf a.natAbs).toList==[])=true):PCall P 49 [Q2 a] (.lit (.int .i64 0)):=
 j3 (.r 3 (J3 a) (.b 11 h1 .nil)) (by kernel_rfl)
theorem zau(a:Int)(h1:((bytesOf a.natAbs).toList==[])=false)(h2:(decide (a<0))=true):PCall P 49 [Q2 a] (.lit (.int .i64 (-1:Int))):=
 j3 (.r 3 (J3 a) (.b 11 h1 (.b 15 h2 .nil))) (by kernel_rfl)
theorem zat(a:Int)(h1:((bytesOf a.natAbs).toList==[])=false)(h2:(decide (a<0))=false):PCall P 49 [Q2 a] (.lit (.int .i64 1)):=
 j3 (.r 3 (J3 a) (.b 11 h1 (.b 15 h2 .nil))) (by kernel_rfl)
theorem zdC(a b:Int)(h1:(decide (a<0)==decide (b<0))=true)(d:Sml a.natAbs)(e:Sml b.natAbs)(f:(dig 4294967296 a.natAbs).length<2^40)(g:(dig 4294967296 b.natAbs).length<2^40)(i:Sml (a.natAbs+b.natAbs)):PCall P 32 [Q2 a,Q2 b] (.agg [.lit (.bool (decide (sgn (decide (a<0)) (a.natAbs+b.natAbs)<0))),.lit (.string (bytesOf (sgn (decide (a<0)) (a.natAbs+b.natAbs)).natAbs))]):=
 j3 (.r 4 (J3 a) (.r 8 (J3 b) (.r 14 (V0 a.natAbs d) (.r 17 (V0 b.natAbs e) (.b 26 h1 (.r 29 (zaj a.natAbs b.natAbs f g) (.r 32 (U0 (a.natAbs+b.natAbs) (decide (a<0)) i) (.c (lq 2 2) .nil)))))))) (by kernel_rfl)
theorem zdE(a b:Int)(h1:(decide (a<0)==decide (b<0))=false)(h2:(decide (z7C a.natAbs b.natAbs (dig 4294967296 a.natAbs).length (dig 4294967296 b.natAbs).length≥0))=true)(d:Sml a.natAbs)(e:Sml b.natAbs)(f:(dig 4294967296 a.natAbs).length<2^62)(g:(dig 4294967296 b.natAbs).length<2^62)(i:(dig 4294967296 a.natAbs).length<2^40)(j:b.natAbs≤a.natAbs)(k:Sml (a.natAbs-b.natAbs)):PCall P 32 [Q2 a,Q2 b] (.agg [.lit (.bool (decide (sgn (decide (a<0)) (a.natAbs-b.natAbs)<0))),.lit (.string (bytesOf (sgn (decide (a<0)) (a.natAbs-b.natAbs)).natAbs))]):=
 j3 (.r 4 (J3 a) (.r 8 (J3 b) (.r 14 (V0 a.natAbs d) (.r 17 (V0 b.natAbs e) (.b 26 h1 (.r 29 (z1W a.natAbs b.natAbs f g) (.b 32 h2 (.r 35 (z60 a.natAbs b.natAbs i j) (.r 38 (U0 (a.natAbs-b.natAbs) (decide (a<0)) k) (.c (lq 2 2) .nil)))))))))) (by kernel_rfl)
theorem zdz(a b:Int)(h1:(decide (a<0)==decide (b<0))=false)(h2:(decide (z7C a.natAbs b.natAbs (dig 4294967296 a.natAbs).length (dig 4294967296 b.natAbs).length≥0))=false)(d:Sml a.natAbs)(e:Sml b.natAbs)(f:(dig 4294967296 a.natAbs).length<2^62)(g:(dig 4294967296 b.natAbs).length<2^62)(i:(dig 4294967296 b.natAbs).length<2^40)(j:a.natAbs≤b.natAbs)(k:Sml (b.natAbs-a.natAbs)):PCall P 32 [Q2 a,Q2 b] (.agg [.lit (.bool (decide (sgn (decide (b<0)) (b.natAbs-a.natAbs)<0))),.lit (.string (bytesOf (sgn (decide (b<0)) (b.natAbs-a.natAbs)).natAbs))]):=
 j3 (.r 4 (J3 a) (.r 8 (J3 b) (.r 14 (V0 a.natAbs d) (.r 17 (V0 b.natAbs e) (.b 26 h1 (.r 29 (z1W a.natAbs b.natAbs f g) (.b 32 h2 (.r 35 (z60 b.natAbs a.natAbs i j) (.r 38 (U0 (b.natAbs-a.natAbs) (decide (b<0)) k) (.c (lq 2 2) .nil)))))))))) (by kernel_rfl)
theorem zcd(a b:Int)(d:Sml a.natAbs)(e:Sml b.natAbs)(f:(dig 4294967296 a.natAbs).length<2^38)(g:(dig 4294967296 b.natAbs).length<2^38)(i:Sml (a.natAbs*b.natAbs)):PCall P 39 [Q2 a,Q2 b] (.agg [.lit (.bool (decide (sgn (!decide (a<0)==decide (b<0)) (a.natAbs*b.natAbs)<0))),.lit (.string (bytesOf (sgn (!decide (a<0)==decide (b<0)) (a.natAbs*b.natAbs)).natAbs))]):=
 j3 (.r 4 (J3 a) (.r 8 (J3 b) (.r 14 (V0 a.natAbs d) (.r 17 (V0 b.natAbs e) (.r 18 (zb0 a.natAbs b.natAbs f g) (.r 24 (U0 (a.natAbs*b.natAbs) (!decide (a<0)==decide (b<0)) i) (.c (lq 2 2) .nil))))))) (by kernel_rfl)
abbrev SmlZ(z:Int):Prop:=Sml z.natAbs
theorem z1s{n:Nat}(h:n<18446744073709551616):Sml n:=Sml.of_lt (k:=8) (by simpa using h) (by decide)
theorem z0j(n:Int)(h: -9223372036854775808≤n∧n≤9223372036854775807):PCall P 26 [J1 n] (Q2 n):=by
 by_cases hn:n<0
 · have e:u64.wrap (0-u64.wrap n)= -n:=by rw[z12,z12];omega
   refine(zg5 n (by simpa using hn) (by rw[e];omega) (by rw[e];omega) (z1s (by rw[e];omega))).eq ?_
   rw[e]
   have:sgn true (-n).toNat=n:=by simp only[sgn,if_true];omega
   rw[this];rfl
 · have e:u64.wrap n=n:=by rw[z12];omega
   refine(zey n (by simpa using hn) (by rw[e];omega) (by rw[e];omega) (z1s (by rw[e];omega))).eq ?_
   rw[e]
   have:sgn false n.toNat=n:=by simp only[sgn,Bool.false_eq_true,if_false];omega
   rw[this];rfl
theorem z03(a:Int):PCall P 52 [Q2 a] (Q2 (-a)):=by
 have key:(Q2 (-a))=CV.agg [CV.lit (.bool (decide (0<a))),CV.lit (.string (bytesOf a.natAbs))]:=by
  rw[Q2,Int.natAbs_neg];congr 4;exact decide_eq_decide.2 (by omega)
 rw[key]
 by_cases h:a<0
 · refine(zdP a (by simpa using h)).eq ?_
   rw[decide_eq_false (by omega)]
 · refine(zd0 a (by simpa using h)).eq ?_
   rw[Y4]
   by_cases h0:a=0
   · subst h0;rfl
   · rw[decide_eq_false (p:=a.natAbs=0) (by omega),decide_eq_true (p:=0<a) (by omega)];rfl
theorem z05(a:Int):PCall P 49 [Q2 a] (J1 a.sign):=by
 by_cases h0:a=0
 · subst h0;exact z9Y 0 (by rw[Y4];rfl)
 · have h1:((bytesOf a.natAbs).toList==[])=false:=by rw[Y4];simpa using h0
   by_cases h:a<0
   · refine(zau a h1 (by simpa using h)).eq ?_
     rw[Int.sign_eq_neg_one_of_neg h]
   · refine(zat a h1 (by simpa using h)).eq ?_
     rw[Int.sign_eq_one_of_pos (by omega)]
theorem z4O{a b:Int}(h:a=b):Q2 a=Q2 b:=by rw[h]
theorem z0Q(a b:Int)(ha:SmlZ a)(hb:SmlZ b)(hs:Sml (a.natAbs+b.natAbs)):PCall P 32 [Q2 a,Q2 b] (Q2 (a+b)):=by
 have la:(dig 4294967296 a.natAbs).length<2^30:=ha.dig32
 have lb:(dig 4294967296 b.natAbs).length<2^30:=hb.dig32
 by_cases h:decide (a<0)=decide (b<0)
 · refine(zdC a b (by simpa using h) ha hb (by omega) (by omega) hs).eq (z4O ?_)
   have h':=decide_eq_decide.1 h
   by_cases hn:a<0
   · rw[decide_eq_true hn];simp only[sgn,if_true];omega
   · rw[decide_eq_false hn];simp only[sgn,Bool.false_eq_true,if_false];omega
 · have hc:=z7i (a:=a.natAbs) (b:=b.natAbs)
   have h': ¬(a<0↔b<0):=fun e=>h (decide_eq_decide.2 e)
   by_cases hcmp:a.natAbs<b.natAbs
   · refine(zdz a b (by simpa using h) (by have:=hc.2 hcmp;simpa using this) ha hb (by omega) (by omega) (by omega) (by omega) (hb.mono (by omega))).eq (z4O ?_)
     by_cases hn:b<0
     · rw[decide_eq_true hn];simp only[sgn,if_true];omega
     · rw[decide_eq_false hn];simp only[sgn,Bool.false_eq_true,if_false];omega
   · refine(zdE a b (by simpa using h) (by have:=(not_congr hc).2 hcmp;simpa using this) ha hb (by omega) (by omega) (by omega) (by omega) (ha.mono (by omega))).eq (z4O ?_)
     by_cases hn:a<0
     · rw[decide_eq_true hn];simp only[sgn,if_true];omega
     · rw[decide_eq_false hn];simp only[sgn,Bool.false_eq_true,if_false];omega
theorem W1(a b:Int)(ha:SmlZ a)(hb:SmlZ b)(hs:Sml (a.natAbs*b.natAbs)):PCall P 39 [Q2 a,Q2 b] (Q2 (a*b)):=by
 have la:(dig 4294967296 a.natAbs).length<2^30:=ha.dig32
 have lb:(dig 4294967296 b.natAbs).length<2^30:=hb.dig32
 refine(zcd a b ha hb (by omega) (by omega) hs).eq (z4O ?_)
 have e1:sgn (decide (a<0)) a.natAbs=a:=by
  by_cases h:a<0
  · rw[decide_eq_true h];simp only[sgn,if_true];omega
  · rw[decide_eq_false h];simp only[sgn,Bool.false_eq_true,if_false];omega
 have e2:sgn (decide (b<0)) b.natAbs=b:=by
  by_cases h:b<0
  · rw[decide_eq_true h];simp only[sgn,if_true];omega
  · rw[decide_eq_false h];simp only[sgn,Bool.false_eq_true,if_false];omega
 have key: ∀(p q:Bool) (x y:Nat),sgn (!(p==q)) (x*y)=sgn p x*sgn q y:=by
  intro p q x y
  cases p<;>cases q<;>simp[sgn,Int.neg_mul,Int.mul_neg]
 rw[key,e1,e2]
theorem z6x{b:Nat}(hb:2≤b){n k:Nat}:(dig b n).length≤k↔n<b^k:=
 ⟨fun h=>Nat.lt_of_lt_of_le (J7 hb n) (Nat.pow_le_pow_right (by omega) h),fun h=>Z0 hb h⟩
theorem zeY(n:Nat)(xs:List Nat)(o0:(0:Int)≤i64.wrap ((3:Int)*(n:Int))∧i64.wrap ((3:Int)*(n:Int))≤i64.wrap ((3:Int)*(n:Int))∧(1:Int)*i64.wrap ((3:Int)*(n:Int))≤140737488355328∧i64.wrap ((3:Int)*(n:Int))≤4611686018427387904∧1=1)(o1:CvL (List.replicate ((i64.wrap ((3:Int)*(n:Int))).toNat*1) (.cv (.lit (.int .u8 0))))){R:CV→Prop}(hR:Ok P 69 (loopHead P 69 0) ⟨J6 45 [(0,.cv (.lst n (z6f xs))),(3,.sl 0 0 (i64.wrap ((3:Int)*(n:Int))).toNat 1),(4,.cv (.lit (.int .i64 0)))],[some (List.replicate ((i64.wrap ((3:Int)*(n:Int))).toNat*1) (.cv (.lit (.int .u8 0))))]⟩ (.of R)):W9 P 69 [.lst n (z6f xs)] R:=
 W7 (keep:=[0,3,4]) (σ:=[0]) (.c o0 (.o 7 .stop .nil)) (by kernel_rfl) rfl hR (.cons o1 .nil)
theorem zcg(n m i:Nat)(xs bs:List Nat)(h1:(decide ((i:Int)<(m:Int)))=true)(o2:(0:Int)≤i64.wrap ((i:Int).tdiv 3)∧i64.wrap ((i:Int).tdiv 3)<(n:Int))(o3:(z6f xs)[(i64.wrap ((i:Int).tdiv 3)).toNat*1]?=some (.lit (.int .i64 (↑(xs.getD ((i64.wrap ((i:Int).tdiv 3)).toNat*1) 0):Int))))(o6:(0:Int)≤i64.wrap ((8:Int)*(i:Int).tmod 3))(o7:(0:Int)≤i64.wrap (i64.wrap ((m:Int)-1)-(i:Int))∧i64.wrap (i64.wrap ((m:Int)-1)-(i:Int))<(m:Int))(o8:0+(i64.wrap (i64.wrap ((m:Int)-1)-(i:Int))).toNat*1+1≤(own (u8s bs)).length)(o9:CvL (j4 (own (u8s bs)) (0+(i64.wrap (i64.wrap ((m:Int)-1)-(i:Int))).toNat*1) [.cv (.lit (.int .u8 (u8.wrap ((↑(xs.getD ((i64.wrap ((i:Int).tdiv 3)).toNat*1) 0):Int).fdiv ((2:Int)^min (i64.wrap ((8:Int)*(i:Int).tmod 3)).toNat 64)))))])){R:Goal}(hn:j7 R.n [0]=true)(hR:Ok P 69 (loopHead P 69 0) ⟨J6 45 [(0,.cv (.lst n (z6f xs))),(3,.sl 0 0 m 1),(4,.cv (.lit (.int .i64 (i64.wrap ((i:Int)+1)))))],[some (j4 (own (u8s bs)) (0+(i64.wrap (i64.wrap ((m:Int)-1)-(i:Int))).toNat*1) [.cv (.lit (.int .u8 (u8.wrap ((↑(xs.getD ((i64.wrap ((i:Int).tdiv 3)).toNat*1) 0):Int).fdiv ((2:Int)^min (i64.wrap ((8:Int)*(i:Int).tmod 3)).toNat 64)))))])]⟩ R):Ok P 69 (loopHead P 69 0) ⟨J6 45 [(0,.cv (.lst n (z6f xs))),(3,.sl 0 0 m 1),(4,.cv (.lit (.int .i64 (i:Int))))],[some (own (u8s bs))]⟩ R:=
 z39 (keep:=[0,3,4]) (σ:=[0]) (.b 5 h1 (.c (nz 3) (.c o2 (.l 16 o3 (.c (eqn 1) (.c (nz 3) (.c o6 (.c o7 (.c o8 (.o 27 .stop .nil)))))))))) (by kernel_rfl) rfl hn hR (.cons o9 .nil)
theorem zd2(n m i:Nat)(xs bs:List Nat)(h1:(decide ((i:Int)<(m:Int)))=false)(o1:CvL (own (u8s bs))){R:Goal}(hn:j7 R.n [0]=true)(hR:Ok P 69 (loopHead P 69 1) ⟨J6 45 [(3,.sl 0 0 m 1)],[some (own (u8s bs))]⟩ R):Ok P 69 (loopHead P 69 0) ⟨J6 45 [(0,.cv (.lst n (z6f xs))),(3,.sl 0 0 m 1),(4,.cv (.lit (.int .i64 (i:Int))))],[some (own (u8s bs))]⟩ R:=
 z39 (keep:=[3]) (σ:=[0]) (.b 5 h1 (.o 6 .stop .nil)) (by kernel_rfl) rfl hn hR (.cons o1 .nil)
theorem zd3(j m:Nat)(bs:List Nat)(h1:(decide ((m:Int)>0))=true)(h2:((↑(bs.getD (j+0) 0):Int)==0)=true)(o1:(0:Int)≤0∧(0:Int)<(m:Int))(o2:(own (u8s bs))[j+0]?=some (.cv (.lit (.int .u8 ↑(bs.getD (j+0) 0)))))(o5:(0:Int)≤1∧(1:Int)≤(m:Int)∧(m:Int)≤(m:Int)∧((1:Int)=0∨(1:Int)<(m:Int)))(o6:CvL (own (u8s bs))){R:Goal}(hn:j7 R.n [0]=true)(hR:Ok P 69 (loopHead P 69 1) ⟨J6 45 [(3,.sl 0 (j+1) ((m:Int)-1).toNat 1)],[some (own (u8s bs))]⟩ R):Ok P 69 (loopHead P 69 1) ⟨J6 45 [(3,.sl 0 j m 1)],[some (own (u8s bs))]⟩ R:=
 z39 (keep:=[3]) (σ:=[0]) (.b 4 h1 (.c o1 (.e 7 o2 (.c (eqn 1) (.b 10 h2 (.c o5 (.o 14 .stop .nil))))))) (by kernel_rfl) rfl hn hR (.cons o6 .nil)
theorem zc3(j m:Nat)(bs:List Nat)(h1:(decide ((m:Int)>0))=true)(h2:((↑(bs.getD (j+0) 0):Int)==0)=false)(o1:(0:Int)≤0∧(0:Int)<(m:Int))(o2:(own (u8s bs))[j+0]?=some (.cv (.lit (.int .u8 ↑(bs.getD (j+0) 0)))))(o5:List.take m (List.drop j (own (u8s bs)))=List.map (fun b=>z14 u8 (↑b.toNat:Int)) (List.map UInt8.ofNat (List.take m (List.drop j bs))))(o6:(z0M (List.take m (List.drop j bs))).size=m){R:Goal}(hR:R.c (.lit (.string (z0M (List.take m (List.drop j bs)))))):Ok P 69 (loopHead P 69 1) ⟨J6 45 [(3,.sl 0 j m 1)],[some (own (u8s bs))]⟩ R:=
 okT (.b 4 h1 (.c o1 (.e 7 o2 (.c (eqn 1) (.b 10 h2 (.c o5 (.c o6 (.o 12 (.r (.lit (.string (z0M (List.take m (List.drop j bs)))))) .nil)))))))) (by kernel_rfl) hR
theorem zdD(j m:Nat)(bs:List Nat)(h1:(decide ((m:Int)>0))=false)(o1:List.take m (List.drop j (own (u8s bs)))=List.map (fun b=>z14 u8 (↑b.toNat:Int)) (List.map UInt8.ofNat (List.take m (List.drop j bs))))(o2:(z0M (List.take m (List.drop j bs))).size=m){R:Goal}(hR:R.c (.lit (.string (z0M (List.take m (List.drop j bs)))))):Ok P 69 (loopHead P 69 1) ⟨J6 45 [(3,.sl 0 j m 1)],[some (own (u8s bs))]⟩ R:=
 okT (.b 4 h1 (.c o1 (.c o2 (.o 12 (.r (.lit (.string (z0M (List.take m (List.drop j bs)))))) .nil)))) (by kernel_rfl) hR
theorem z8J(W i:Nat):(W/B24^(i/3)%B24)/2^(8*(i%3))%256=W/256^i%256:=by
 have e:(256:Nat)^i=B24^(i/3)*2^(8*(i%3)):=by
  conv=>lhs;rw[←Nat.div_add_mod i 3]
  rw[Nat.pow_add,Nat.pow_mul,show(256:Nat)^3=B24 from rfl,show(256:Nat)=2^8 from rfl,←Nat.pow_mul]
 rw[e,←Nat.div_div_eq_div_mul]
 generalize W/B24^(i/3)=X
 have h3:i%3<3:=Nat.mod_lt _ (by decide)
 have:i%3=0∨i%3=1∨i%3=2:=by omega
 rcases this with h|h|h<;>rw[h]<;>simp only[B24]<;>omega
def z8a(ds:List Nat)(m i:Nat):List Nat:=List.replicate (m-i) 0++(ds.take i).reverse
theorem z6E{ds:List Nat}{m i:Nat}(h:ds.length=m)(hi:i≤m):(z8a ds m i).length=m:=by simp[z8a];omega
theorem zbg{ds:List Nat}{m i:Nat}(h:ds.length=m)(hi:i<m):(z8a ds m i).set (m-1-i) (ds.getD i 0)=z8a ds m (i+1):=by
 unfold z8a
 rw[show m-i=(m-1-i)+1 by omega,List.replicate_succ',List.append_assoc,List.set_append_right _ _ (by simp),show m-(i+1)=m-1-i by omega]
 simp only[List.length_replicate,Nat.sub_self,List.cons_append,List.nil_append,List.set_cons_zero]
 congr 1
 rw[List.take_add_one,List.getElem?_eq_getElem (by omega),Option.toList_some,List.reverse_append]
 simp[List.getD_eq_getElem?_getD,List.getElem?_eq_getElem (show i<ds.length by omega)]
theorem zeO (j : Nat) (bs : List Nat) (h2 : ((bs.getD (j + 0) 0 : Int) == 0) = true) (o2 : (own (u8s bs))[j + 0]? = some (.cv (.lit (.int .u8 (bs.getD (j + 0) 0 : Nat))))) {R : Goal} (hn : j7 R.n [] = true)
    (hR:Ok P 69 (loopHead P 69 1) ⟨J6 45 [(3,.cv (.lst 0 []))],[]⟩ R):Ok P 69 (loopHead P 69 1) ⟨J6 45 [(3,.sl 0 j 1 1)],[some (own (u8s bs))]⟩ R:=
 okS (keep:=[3]) (σ:=[]) (ors:=[(4,Or.b true),(7,Or.e (MV.cv (CV.lit (Value.int u8 (bs.getD (j+0) 0:Nat))))),(10,Or.b true),(12,.r (.lst 0 [])),(14,Or.stop)]) (by kernel_rfl) rfl
  (.cons (show decide ((1:Int)>0)=true by decide) (.cons (show(0:Int)≤0∧(0:Int)<1 by decide) (.cons o2 (.cons (show 1=1 from rfl) (.cons h2 (.cons (show(0:Int)≤1∧(1:Int)=1∧(1:Int)≤1 by decide) .nil)))))) hn hR
theorem zhq{R:Goal}(hR:R.c (z08 ⟨#[]⟩)):Ok P 69 (loopHead P 69 1) ⟨J6 45 [(3,.cv (.lst 0 []))],[]⟩ R:=
 okR (ors:=[(12,.r (.lit (.string ⟨#[]⟩)))]) (by kernel_rfl) (.cons (show([]:List CV)=(⟨#[]⟩:ByteArray).data.toList.map (fun b=>CV.lit (.int .u8 (b.toNat:Nat)))from rfl) (.cons (show(⟨#[]⟩:ByteArray).size=0 from rfl) .nil)) hR
theorem z6h {R : Goal} (hn : R.n = 0) (ds : List Nat) (hd : Dig 256 ds) (_hl : ds.length < 2 ^ 50) (hR : R.c (z08 (z0z (tz ds)))) : ∀ (k j : Nat), j + k = ds.length → tz (ds.take k) = tz ds →
    Ok P 69 (loopHead P 69 1) ⟨J6 45 [(3,.sl 0 j k 1)],[some (own (u8s ds.reverse))]⟩ R:=by
 have hfin: ∀k j,j+k=ds.length→List.take k (List.drop j ds.reverse)=(ds.take k).reverse:=by
  intro k j hjk
  rw[List.reverse_take,List.take_of_length_le (by simp;omega)]
  congr 1;omega
 have hcell: ∀k j,List.take k (List.drop j (own (u8s ds.reverse)))=List.map (fun b=>z14 .u8 (b.toNat:Nat)) (List.map UInt8.ofNat (List.take k (List.drop j ds.reverse))):=by
  intro k j
  have hdd: ∀b∈List.take k (List.drop j ds.reverse),b<256:=fun b hb=>hd b (by have:=List.mem_of_mem_drop (List.mem_of_mem_take hb);simpa using this)
  have:=z47 hdd
  simp only[z0M]at this
  rw[show List.take k (List.drop j (own (u8s ds.reverse)))=own (u8s (List.take k (List.drop j ds.reverse))) by simp[own,u8s,List.map_take,List.map_drop],this]
 intro k
 induction k with
 |zero=>
  intro j hj ht
  refine zdD j 0 _ (by decide) (hcell 0 j) (by rw[z2F];simp) ?_
  simp only[List.take_zero]at ht ⊢
  rw[←ht]at hR
  exact hR
 |succ k ih=>
  intro j hj ht
  have hg:ds.reverse.getD (j+0) 0=ds.getD k 0:=by
   rw[List.getD_eq_getElem?_getD,List.getD_eq_getElem?_getD,List.getElem?_reverse (by omega)]
   congr 2;omega
  have hcell1:(own (u8s ds.reverse))[j+0]?=some (.cv (.lit (.int .u8 (ds.reverse.getD (j+0) 0:Nat)))):=by
   have:=zdy (xs:=ds.reverse) (i:=j) (by simp;omega)
   simp only[own,List.getElem?_map,Nat.add_zero,this];rfl
  have htk:ds.take (k+1)=ds.take k++[ds.getD k 0]:=by
   rw[List.take_add_one,List.getElem?_eq_getElem (by omega),List.getD_eq_getElem?_getD,List.getElem?_eq_getElem (by omega)];rfl
  by_cases h0:ds.getD k 0=0
  · by_cases hk0:k=0
    · subst hk0
      refine zeO j _ (by rw[hg,h0];rfl) hcell1 (by rw[hn];rfl) ?_
      refine zhq ?_
      have e:tz ds=[]:=by rw[←ht,htk,h0,Y3];rfl
      rw[e]at hR
      exact hR
    refine zd3 j (k+1) _ (by simp) (by rw[hg,h0];rfl) (by omega) hcell1 (by omega) (CvL.map_cv _) (by rw[hn];rfl) ?_
    rw[show((k+1:Nat):Int)-1=(k:Int) by omega,Int.toNat_natCast]
    exact ih (j+1) (by omega) (by rw[←ht,htk,h0,Y3])
  · refine zc3 j (k+1) _ (by simp) (by rw[hg];simpa using h0) (by omega) hcell1 (hcell _ _) (by rw[z2F];simp;omega) ?_
    rw[hfin _ _ hj,z7b,List.reverse_reverse]
    rw[←ht,htk,z1m h0,←htk]at hR
    exact hR
theorem zae (xs : List Nat) (hd : Dig B24 xs) (i : Nat) (hi : i / 3 < xs.length) (hb : i < 2 ^ 50) :
    u8.wrap (((xs.getD ((i64.wrap ((i:Int).tdiv 3)).toNat*1) 0:Nat):Int).fdiv (2^min (i64.wrap (8*(i:Int).tmod 3)).toNat 64))=((val B24 xs/256^i%256:Nat):Int):=by
 have e1:i64.wrap ((i:Int).tdiv 3)=((i/3:Nat):Int):=by
  rw[Int.tdiv_eq_ediv_of_nonneg (by omega),w64 (by omega)];omega
 have e2:i64.wrap (8*(i:Int).tmod 3)=((8*(i%3):Nat):Int):=by
  rw[Int.tmod_eq_emod_of_nonneg (by omega),w64 (by omega)];omega
 rw[e1,e2,Int.toNat_natCast,Int.toNat_natCast,Nat.mul_one,Nat.min_eq_left (by omega),wr8]
 have e3:xs.getD (i/3) 0=val B24 xs/B24^(i/3)%B24:=by
  conv=>lhs;rw[←z0V (by decide) xs hd]
  rw[X0 _ _ _ _ hi]
 rw[e3,←z8J]
 generalize val B24 xs/B24^(i/3)%B24=X
 rw[Int.fdiv_eq_ediv_of_nonneg _ (by exact_mod_cast Nat.zero_le _)]
 rw[Int.natCast_emod,Int.natCast_ediv,Int.natCast_pow]
 rfl
theorem z6H {R : Goal} (hn : R.n = 0) (xs : List Nat) (hd : Dig B24 xs) (hl : xs.length < 2 ^ 40) (hR : R.c (z08 (bytesOf (val B24 xs)))) : ∀ (d i : Nat), i + d = 3 * xs.length →
    Ok P 69 (loopHead P 69 0) ⟨J6 45 [(0,.cv (.lst xs.length (z6f xs))),(3,.sl 0 0 (3*xs.length) 1),(4,.cv (.lit (.int .i64 i)))],[some (own (u8s (z8a (Q7 256 (3*xs.length) (val B24 xs)) (3*xs.length) i)))]⟩ R:=by
 have hdl:(Q7 256 (3*xs.length) (val B24 xs)).length=3*xs.length:=j5 _ _ _
 have hdd:Dig 256 (Q7 256 (3*xs.length) (val B24 xs)):=z0p (by decide) _ _
 have hlt:val B24 xs<256^(3*xs.length):=by
  have:=z0u (b:=B24) (by decide) xs hd
  rwa[show B24=256^3 from rfl,←Nat.pow_mul]at this
 intro d
 induction d with
 |zero=>
  intro i hi
  refine zd2 xs.length (3*xs.length) i xs _ (decide_eq_false (by omega)) (CvL.map_cv _) (by rw[hn];rfl) ?_
  have e:z8a (Q7 256 (3*xs.length) (val B24 xs)) (3*xs.length) i=(Q7 256 (3*xs.length) (val B24 xs)).reverse:=by
   unfold z8a
   rw[show 3*xs.length-i=0 by omega,List.take_of_length_le (by omega)];rfl
  rw[e]
  refine z6h hn _ hdd (by omega) ?_ (3*xs.length) 0 (by omega) (by rw[List.take_of_length_le (by omega)])
  rw[z1Y (by decide) _ hdd,z0w,Nat.mod_eq_of_lt hlt]
  exact hR
 |succ d ih=>
  intro i hi
  have ew:i64.wrap (i64.wrap (((3*xs.length:Nat):Int)-1)-(i:Int))=((3*xs.length-1-i:Nat):Int):=by
   rw[w64 (n:=((3*xs.length:Nat):Int)-1) (by omega),w64 (by omega)];omega
  have e1:i64.wrap ((i:Int).tdiv 3)=((i/3:Nat):Int):=by
   rw[Int.tdiv_eq_ediv_of_nonneg (by omega),w64 (by omega)];omega
  have e2:i64.wrap (8*(i:Int).tmod 3)=((8*(i%3):Nat):Int):=by
   rw[Int.tmod_eq_emod_of_nonneg (by omega),w64 (by omega)];omega
  have hb:=zae xs hd i (by omega) (by omega)
  have hbl:=z6E hdl (show i≤3*xs.length by omega)
  have hset: ∀x:Int,x=((val B24 xs/256^i%256:Nat):Int)→j4 (own (u8s (z8a (Q7 256 (3*xs.length) (val B24 xs)) (3*xs.length) i))) (0+(3*xs.length-1-i)*1) [.cv (.lit (.int .u8 x))]=own (u8s (z8a (Q7 256 (3*xs.length) (val B24 xs)) (3*xs.length) (i+1))):=by
   intro x hx
   rw[hx,Nat.zero_add,Nat.mul_one,z7Q (by omega),←X0 256 (3*xs.length) _ i (by omega),zbg hdl (by omega)]
  refine zcg xs.length (3*xs.length) i xs _ (decide_eq_true (by omega)) (by rw[e1];omega) ?_ (by rw[e2];omega) (by rw[ew];omega) ?_ ?_ (by rw[hn];rfl) ?_
  · have:=zaX (xs:=xs) (i:=i/3) (by omega)
    rw[e1,Int.toNat_natCast,Nat.mul_one];exact this
  · rw[ew,Int.toNat_natCast];simp[own,u8s,hbl];omega
  · rw[ew,Int.toNat_natCast,hset _ hb];exact CvL.map_cv _
  · rw[ew,Int.toNat_natCast,hset _ hb,w64 (by omega)]
    exact ih (i+1) (by omega)
theorem z3t(n:Nat)(xs:List Nat)(hn:n=xs.length)(hd:Dig B24 xs)(hl:xs.length<2^40):PCall P 69 [.lst n (z6f xs)] (z08 (bytesOf (val B24 xs))):=by
 subst hn
 have e1:i64.wrap (3*(xs.length:Int))=((3*xs.length:Nat):Int):=by rw[w64 (by omega)];omega
 refine zeY xs.length xs (by rw [e1]; omega) (by rw [e1, Int.toNat_natCast, Nat.mul_one, z5d]; exact CvL.map_cv _) (R := (· = _)) ?_
 rw[e1,Int.toNat_natCast,Nat.mul_one,z5d]
 have := z6H (R := (· = z08 (bytesOf (val B24 xs)))) rfl xs hd hl rfl (3 * xs.length) 0 (by omega)
 simpa[z8a]using this
theorem zfB(b:Bool)(n:Nat)(xs:List Nat)(h1:(b)=true)(a:n=xs.length)(d:Dig 16777216 xs)(e:xs.length<2^40):PCall P 58 [.lit (.bool b),.lst n (z6f xs)] (.agg [.lit (.bool !(bytesOf (val 16777216 xs)).toList==[]),.lit (.string (bytesOf (val 16777216 xs)))]):=
 j3 (.r 2 (z3t n xs a d e) (.b 5 h1 (.c (lq 2 2) .nil))) (by kernel_rfl)
theorem zeF(b:Bool)(n:Nat)(xs:List Nat)(h1:(b)=false)(a:n=xs.length)(d:Dig 16777216 xs)(e:xs.length<2^40):PCall P 58 [.lit (.bool b),.lst n (z6f xs)] (.agg [.lit (.bool false),.lit (.string (bytesOf (val 16777216 xs)))]):=
 j3 (.r 2 (z3t n xs a d e) (.b 5 h1 (.c (lq 2 2) .nil))) (by kernel_rfl)
theorem zaI(b:Bool)(n:Nat)(xs:List Nat)(hn:n=xs.length)(hd:Dig B24 xs)(hl:xs.length<2^40):PCall P 58 [.lit (.bool b),.lst n (z6f xs)] (Q2 (if b then-(val B24 xs:Int)else val B24 xs)):=by
 cases b with
 |true=>
  refine(zfB true n xs rfl hn hd hl).eq ?_
  simp only[Q2,if_true,Int.natAbs_neg,Int.natAbs_natCast]
  congr 4
  rw[W5]
  rw[decide_eq_decide.2 (X4 (n:=val B24 xs))]
  have key: ∀v:Nat,(!decide (v=0))=decide (-(v:Int)<0):=fun v=>by
   cases v with
   |zero=>rfl
   |succ k=>rw[decide_eq_false (by omega)];exact(decide_eq_true (by omega)).symm
  exact key _
 |false=>
  refine(zeF false n xs rfl hn hd hl).eq ?_
  simp only[Q2,Bool.false_eq_true,if_false,Int.natAbs_natCast]
  congr 4
theorem zha (b : Bool) (x y z : Int) (hx : 0 ≤ x ∧ x < 16777216) (hy : 0 ≤ y ∧ y < 16777216) (hz : 0 ≤ z ∧ z < 16777216) :
    PCall P 58 [.lit (.bool b),.lst 3 [J1 x,J1 y,J1 z]] (Q2 (if b then-(x+16777216*(y+16777216*z))else x+16777216*(y+16777216*z))):=by
 have h1:x.toNat<16777216:=by omega
 have h2:y.toNat<16777216:=by omega
 have h3:z.toNat<16777216:=by omega
 have h:=zaI b 3 [x.toNat,y.toNat,z.toNat] rfl (by
  intro v hv
  simp only[List.mem_cons,List.not_mem_nil,or_false]at hv
  rcases hv with e|e|e<;>(rw[e];assumption)) (by show 3<2^40;decide)
 have e:z6f [x.toNat,y.toNat,z.toNat]=[J1 x,J1 y,J1 z]:=by
  simp only[z6f,List.map_cons,List.map_nil,Int.toNat_of_nonneg hx.1,Int.toNat_of_nonneg hy.1,Int.toNat_of_nonneg hz.1]
 rw[e]at h
 refine h.eq ?_
 have ev:((val B24 [x.toNat,y.toNat,z.toNat]:Nat):Int)=x+16777216*(y+16777216*z):=by
  simp only[val,B24];omega
 rw[ev]
end Go.Fw
