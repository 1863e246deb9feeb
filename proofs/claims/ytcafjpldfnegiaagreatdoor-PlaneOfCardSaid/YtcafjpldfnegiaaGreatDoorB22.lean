/- A part of the proof that the law returns true for every input: an executor for the model's code, and what functions of the program compute. -/
import Derived.Test.YtcafjpldfnegiaaGreatDoorB11
import Derived.Test.YtcafjpldfnegiaaGreatDoorB15
import Derived.Test.YtcafjpldfnegiaaGreatDoorB16
import Derived.Test.YtcafjpldfnegiaaGreatDoorB18
import Derived.Test.YtcafjpldfnegiaaGreatDoorB19
import Derived.Test.YtcafjpldfnegiaaGreatDoorB21
import Derived.KernelRfl
open Go
namespace Go.Fw
set_option maxRecDepth 100000
theorem z5Y{b:Nat}(xs:List Nat)(i:Nat):val b (xs.take i)≤val b xs:=by
 by_cases h:i≤xs.length
 · rw[z1g (b:=b) xs i h];omega
 · rw[z0w (by omega)];exact Nat.le_refl _
theorem zf4 {R : Goal} (hn : J0 R.n [0] = true) (xs ys : List Nat) (hxl : xs.length < 2 ^ 38) (hyl : ys.length < 2 ^ 38) (hx : Dig B32 xs) (hy : Dig B32 ys)
    (hR:R.c (z0B (val B32 xs*val B32 ys))):
    ∀(k i:Nat),xs.length-i=k→i≤xs.length→
     Ok P 243 (loopHead P 243 0) ⟨J3 45 [(1,.cv (.lst ys.length (j7 ys))),(5,.sl 0 0 (xs.length+ys.length+1) 1),(6,.fn 258 [.sl 0 0 (xs.length+ys.length+1) 1] []),(20,.cv (.lst xs.length (j7 xs))),
      (21,.cv (.lit (.int .i64 xs.length))),(22,.cv (.lit (.int .i64 i)))],[some (own (j7 (Q9 B32 (xs.length+ys.length+1) (val B32 (xs.take i)*val B32 ys))))]⟩ R:=by
 have hbound:val B32 xs*val B32 ys<B32^(xs.length+ys.length+1):=by
  have h1:=z0Q (by decide:0<B32) xs hx
  have h2:=z0Q (by decide:0<B32) ys hy
  have h3:val B32 xs*val B32 ys<B32^xs.length*B32^ys.length:=Nat.mul_lt_mul_of_lt_of_le h1 (Nat.le_of_lt h2) (Nat.pow_pos (by decide))
  rw[←Nat.pow_add]at h3
  exact Nat.lt_trans h3 (Nat.pow_lt_pow_right (by decide) (by omega))
 generalize ho:xs.length+ys.length+1=o at*
 intro k
 induction k with
 |zero=>
  intro i hk hi
  have:i=xs.length:=by omega
  subst this
  rw[List.take_length]
  refine zjl _ _ _ _ _ _ _ (by simp) (j9 _ _ _).symm (z04 (by decide) _ _) (by rw[j9];omega) (z1f (by rw[Q2,j9])) ?_
  rw[show(4294967296:Nat)=B32 from rfl,z0p,Nat.mod_eq_of_lt hbound]
  exact hR
 |succ k ih=>
  intro i hk hi
  have hlt:i<xs.length:=by omega
  have e1:(i:Int).toNat*1=i:=by omega
  have dx:=hx.get (by decide) i
  have htk:=U1 (b:=B32) hlt
  have inner : ∀ (q j : Nat), ys.length - j = q → j ≤ ys.length →
      Ok P 243 (loopHead P 243 1) ⟨J3 45 [(1,.cv (.lst ys.length (j7 ys))),(5,.sl 0 0 o 1),(6,.fn 258 [.sl 0 0 o 1] []),(7,.cv (.lit (.int .i64 i))),(8,.cv (.lit (.int .u32 (xs.getD i 0:Nat)))),
       (20,.cv (.lst xs.length (j7 xs))),(21,.cv (.lit (.int .i64 xs.length))),(22,.cv (.lit (.int .i64 i))),(27,.cv (.lst ys.length (j7 ys))),(28,.cv (.lit (.int .i64 ys.length))),(29,.cv (.lit (.int .i64 j)))],
       [some (own (j7 (Q9 B32 o (val B32 (xs.take i)*val B32 ys+xs.getD i 0*val B32 (ys.take j)*B32^i))))]⟩ R:=by
   intro q
   induction q with
   |zero=>
    intro j hq hj
    have:j=ys.length:=by omega
    subst this
    refine zkK _ _ _ _ _ _ _ _ _ (by simp) (j8 _) hn ?_
    rw[List.take_length,show IntKind.i64.wrap ((i:Int)+1)=((i+1:Nat):Int) by rw[w64 (by omega)];omega]
    have:=ih (i+1) (by omega) (by omega)
    rw[htk,Nat.add_mul,show B32^i*xs.getD i 0*val B32 ys=xs.getD i 0*val B32 ys*B32^i by rw[Nat.mul_comm (B32^i),Nat.mul_assoc,Nat.mul_assoc,Nat.mul_comm (B32^i)]]at this
    exact this
   |succ q ihq=>
    intro j hq hj
    have hjl:j<ys.length:=by omega
    have e2:(j:Int).toNat*1=j:=by omega
    have e3:IntKind.i64.wrap ((i:Int)+(j:Int))=((i+j:Nat):Int):=by rw[w64 (by omega)];omega
    have e4:(((i+j:Nat):Int)).toNat=i+j:=by omega
    have e5:IntKind.i64.wrap ((j:Int)+1)=((j+1:Nat):Int):=by rw[w64 (by omega)];omega
    have dy:=hy.get (by decide) j
    have hty:=U1 (b:=B32) hjl
    have hsum : val B32 (xs.take i) * val B32 ys + xs.getD i 0 * val B32 (ys.take j) * B32 ^ i + xs.getD i 0 * ys.getD j 0 * B32 ^ (i + j) =
        val B32 (xs.take i)*val B32 ys+xs.getD i 0*val B32 (ys.take (j+1))*B32^i:=by
     rw[hty,Nat.mul_add,Nat.add_mul,Nat.pow_add,Nat.add_assoc]
     congr 2
     rw[Nat.mul_comm (B32^j),Nat.mul_assoc (xs.getD i 0),Nat.mul_assoc (xs.getD i 0),Nat.mul_assoc (ys.getD j 0),Nat.mul_comm (B32^j)]
    have hle:val B32 (xs.take i)*val B32 ys+xs.getD i 0*val B32 (ys.take (j+1))*B32^i<B32^o:=by
     refine Nat.lt_of_le_of_lt ?_ hbound
     have h1:val B32 (xs.take (i+1))*val B32 ys≤val B32 xs*val B32 ys:=Nat.mul_le_mul_right _ (z5Y _ _)
     rw[htk,Nat.add_mul]at h1
     have h2:xs.getD i 0*val B32 (ys.take (j+1))*B32^i≤B32^i*xs.getD i 0*val B32 ys:=by
      rw[Nat.mul_comm _ (B32^i),←Nat.mul_assoc]
      exact Nat.mul_le_mul_left _ (z5Y _ _)
     omega
    refine zjv _ _ _ _ _ _ _ _ _ (by simpa using hjl) (by rw[e3];omega) (by omega) (by rw[e3,e4];omega) (by rw[e3,e4,e2];exact hsum ▸ hle) dx (by rw[e2];exact dy) (by omega) (by rw[e2];exact Y8 hjl) (BlksCv.two (j8 _) (j8 _)) (j8 _) hn ?_
    rw[e3,e4,e2,e5,show(4294967296:Nat)=B32 from rfl,hsum]
    exact ihq (j+1) (by omega) (by omega)
  refine zjx _ _ _ _ _ _ _ (by simpa using hlt) (by omega) (by rw[e1];exact Y8 hlt) (j8 _) hn ?_
  have:=inner _ 0 rfl (Nat.zero_le _)
  rw[List.take_zero,show val B32 []=0 from rfl,Nat.mul_zero,Nat.zero_mul,Nat.add_zero]at this
  rw[e1]
  exact this
theorem zg9(a b:Nat)(ha:(dig B32 a).length<2^38)(hb:(dig B32 b).length<2^38):PCall P 243 [z0B a,z0B b] (z0B (a*b)):=by
 have e1:IntKind.i64.wrap (IntKind.i64.wrap (((dig B32 a).length:Int)+(dig B32 b).length)+1)=(((dig B32 a).length+(dig B32 b).length+1:Nat):Int):=by
  rw[w64 (n:=((dig B32 a).length:Int)+(dig B32 b).length) (by omega),w64 (by omega)];omega
 have e2:((((dig B32 a).length+(dig B32 b).length+1:Nat):Int)).toNat=(dig B32 a).length+(dig B32 b).length+1:=by omega
 refine zjn _ _ _ _ (by rw[e1];omega) (by rw[z05];exact j8 _) ?_
 rw[e1,e2,z05,Nat.mul_one]
 have:=zf4 (R:= .of (fun x=>x=z0B (a*b))) rfl (dig B32 a) (dig B32 b) ha hb (X1 (by decide) _) (X1 (by decide) _) (by rw[Q8 (by decide),Q8 (by decide)];rfl) _ 0 rfl (Nat.zero_le _)
 rw[List.take_zero,show val B32 []=0 from rfl,Nat.zero_mul,z1E]at this
 exact this
end Go.Fw
open Go IntKind
namespace Go.Fw
set_option maxRecDepth 100000
theorem zqD(n:Int)(h1:(decide (n<0))=true)(s7_0:(0:Int)≤u64.wrap ((0:Int)-u64.wrap n))(s7_1:u64.wrap ((0:Int)-u64.wrap n)<18446744073709551616)(s8_0:Sml (u64.wrap ((0:Int)-u64.wrap n)).toNat):PCall P 206 [.lit (.int .i64 n)] (.agg [.lit (.bool (decide (sgn true (u64.wrap ((0:Int)-u64.wrap n)).toNat<0))),.lit (.string (bytesOf (sgn true (u64.wrap ((0:Int)-u64.wrap n)).toNat).natAbs))]):=
 j3 (.b 3 h1 (.r 7 (z7L (u64.wrap ((0:Int)-u64.wrap n)) s7_0 s7_1) (.r 8 (z0S ((u64.wrap ((0:Int)-u64.wrap n)).toNat) (true) s8_0) (.c (lq 2 2) .nil)))) (by kernel_rfl)
theorem zpG(n:Int)(h1:(decide (n<0))=false)(s6_0:(0:Int)≤u64.wrap n)(s6_1:u64.wrap n<18446744073709551616)(s7_0:Sml (u64.wrap n).toNat):PCall P 206 [.lit (.int .i64 n)] (.agg [.lit (.bool (decide (sgn false (u64.wrap n).toNat<0))),.lit (.string (bytesOf (sgn false (u64.wrap n).toNat).natAbs))]):=
 j3 (.b 3 h1 (.r 6 (z7L (u64.wrap n) s6_0 s6_1) (.r 7 (z0S ((u64.wrap n).toNat) (false) s7_0) (.c (lq 2 2) .nil)))) (by kernel_rfl)
theorem zih(a:Int)(h1:(!decide (a<0))=true):PCall P 189 [J5 a] (.agg [.lit (.bool !(bytesOf a.natAbs).toList==[]),.lit (.string (bytesOf a.natAbs))]):=
 j3 (.r 3 (Z3 (a)) (.b 9 h1 (.c (lq 2 2) .nil))) (by kernel_rfl)
theorem zl0(a:Int)(h1:(!decide (a<0))=false):PCall P 189 [J5 a] (.agg [.lit (.bool false),.lit (.string (bytesOf a.natAbs))]):=
 j3 (.r 3 (Z3 (a)) (.b 9 h1 (.c (lq 2 2) .nil))) (by kernel_rfl)
theorem zgo(a:Int)(h1:((bytesOf a.natAbs).toList==[])=true):PCall P 215 [J5 a] (.lit (.int .i64 0)):=
 j3 (.r 3 (Z3 (a)) (.b 11 h1 .nil)) (by kernel_rfl)
theorem zfB(a:Int)(h1:((bytesOf a.natAbs).toList==[])=false)(h2:(decide (a<0))=true):PCall P 215 [J5 a] (.lit (.int .i64 (-1:Int))):=
 j3 (.r 3 (Z3 (a)) (.b 11 h1 (.b 15 h2 .nil))) (by kernel_rfl)
theorem zgf(a:Int)(h1:((bytesOf a.natAbs).toList==[])=false)(h2:(decide (a<0))=false):PCall P 215 [J5 a] (.lit (.int .i64 1)):=
 j3 (.r 3 (Z3 (a)) (.b 11 h1 (.b 15 h2 .nil))) (by kernel_rfl)
theorem zk5(a b:Int)(h1:(decide (a<0)==decide (b<0))=true)(s14_0:Sml a.natAbs)(s17_0:Sml b.natAbs)(s29_0:(dig 4294967296 a.natAbs).length<2^40)(s29_1:(dig 4294967296 b.natAbs).length<2^40)(s32_0:Sml (a.natAbs+b.natAbs)):PCall P 202 [J5 a,J5 b] (.agg [.lit (.bool (decide (sgn (decide (a<0)) (a.natAbs+b.natAbs)<0))),.lit (.string (bytesOf (sgn (decide (a<0)) (a.natAbs+b.natAbs)).natAbs))]):=
 j3 (.r 4 (Z3 (a)) (.r 8 (Z3 (b)) (.r 14 (z0H (a.natAbs) s14_0) (.r 17 (z0H (b.natAbs) s17_0) (.b 26 h1 (.r 29 (zgq (a.natAbs) (b.natAbs) s29_0 s29_1) (.r 32 (z0S (a.natAbs+b.natAbs) (decide (a<0)) s32_0) (.c (lq 2 2) .nil)))))))) (by kernel_rfl)
theorem zlT(a b:Int)(h1:(decide (a<0)==decide (b<0))=false)(h2:(decide (zbt a.natAbs b.natAbs (dig 4294967296 a.natAbs).length (dig 4294967296 b.natAbs).length≥0))=true)(s14_0:Sml a.natAbs)(s17_0:Sml b.natAbs)(s29_0:(dig 4294967296 a.natAbs).length<2^62)(s29_1:(dig 4294967296 b.natAbs).length<2^62)(s35_0:(dig 4294967296 a.natAbs).length<2^40)(s35_1:b.natAbs≤a.natAbs)(s38_0:Sml (a.natAbs-b.natAbs)):PCall P 202 [J5 a,J5 b] (.agg [.lit (.bool (decide (sgn (decide (a<0)) (a.natAbs-b.natAbs)<0))),.lit (.string (bytesOf (sgn (decide (a<0)) (a.natAbs-b.natAbs)).natAbs))]):=
 j3 (.r 4 (Z3 (a)) (.r 8 (Z3 (b)) (.r 14 (z0H (a.natAbs) s14_0) (.r 17 (z0H (b.natAbs) s17_0) (.b 26 h1 (.r 29 (cmp_spec (a.natAbs) (b.natAbs) s29_0 s29_1) (.b 32 h2 (.r 35 (z7W (a.natAbs) (b.natAbs) s35_0 s35_1) (.r 38 (z0S (a.natAbs-b.natAbs) (decide (a<0)) s38_0) (.c (lq 2 2) .nil)))))))))) (by kernel_rfl)
theorem zle(a b:Int)(h1:(decide (a<0)==decide (b<0))=false)(h2:(decide (zbt a.natAbs b.natAbs (dig 4294967296 a.natAbs).length (dig 4294967296 b.natAbs).length≥0))=false)(s14_0:Sml a.natAbs)(s17_0:Sml b.natAbs)(s29_0:(dig 4294967296 a.natAbs).length<2^62)(s29_1:(dig 4294967296 b.natAbs).length<2^62)(s35_0:(dig 4294967296 b.natAbs).length<2^40)(s35_1:a.natAbs≤b.natAbs)(s38_0:Sml (b.natAbs-a.natAbs)):PCall P 202 [J5 a,J5 b] (.agg [.lit (.bool (decide (sgn (decide (b<0)) (b.natAbs-a.natAbs)<0))),.lit (.string (bytesOf (sgn (decide (b<0)) (b.natAbs-a.natAbs)).natAbs))]):=
 j3 (.r 4 (Z3 (a)) (.r 8 (Z3 (b)) (.r 14 (z0H (a.natAbs) s14_0) (.r 17 (z0H (b.natAbs) s17_0) (.b 26 h1 (.r 29 (cmp_spec (a.natAbs) (b.natAbs) s29_0 s29_1) (.b 32 h2 (.r 35 (z7W (b.natAbs) (a.natAbs) s35_0 s35_1) (.r 38 (z0S (b.natAbs-a.natAbs) (decide (b<0)) s38_0) (.c (lq 2 2) .nil)))))))))) (by kernel_rfl)
theorem zmg(a b:Int)(s14_0:Sml a.natAbs)(s17_0:Sml b.natAbs)(s18_0:(dig 4294967296 a.natAbs).length<2^38)(s18_1:(dig 4294967296 b.natAbs).length<2^38)(s24_0:Sml (a.natAbs*b.natAbs)):PCall P 203 [J5 a,J5 b] (.agg [.lit (.bool (decide (sgn (!decide (a<0)==decide (b<0)) (a.natAbs*b.natAbs)<0))),.lit (.string (bytesOf (sgn (!decide (a<0)==decide (b<0)) (a.natAbs*b.natAbs)).natAbs))]):=
 j3 (.r 4 (Z3 (a)) (.r 8 (Z3 (b)) (.r 14 (z0H (a.natAbs) s14_0) (.r 17 (z0H (b.natAbs) s17_0) (.r 18 (zg9 (a.natAbs) (b.natAbs) s18_0 s18_1) (.r 24 (z0S (a.natAbs*b.natAbs) (!decide (a<0)==decide (b<0)) s24_0) (.c (lq 2 2) .nil))))))) (by kernel_rfl)
end Go.Fw
open Go
namespace Go.Fw
set_option maxRecDepth 100000
abbrev SmlZ(z:Int):Prop:=Sml z.natAbs
theorem z27{n:Nat}(h:n<18446744073709551616):Sml n:=Sml.of_lt (k:=8) (by simpa using h) (by decide)
theorem z1D(n:Int)(h: -9223372036854775808≤n∧n≤9223372036854775807):PCall P 206 [j4 n] (J5 n):=by
 by_cases hn:n<0
 · have e:IntKind.u64.wrap (0-IntKind.u64.wrap n)= -n:=by rw[z1H,z1H];omega
   refine(zqD n (by simpa using hn) (by rw[e];omega) (by rw[e];omega) (z27 (by rw[e];omega))).eq ?_
   rw[e]
   have:sgn true (-n).toNat=n:=by simp only[sgn,if_true];omega
   rw[this];rfl
 · have e:IntKind.u64.wrap n=n:=by rw[z1H];omega
   refine(zpG n (by simpa using hn) (by rw[e];omega) (by rw[e];omega) (z27 (by rw[e];omega))).eq ?_
   rw[e]
   have:sgn false n.toNat=n:=by simp only[sgn,Bool.false_eq_true,if_false];omega
   rw[this];rfl
theorem z17(a:Int):PCall P 189 [J5 a] (J5 (-a)):=by
 have key:(J5 (-a))=CV.agg [CV.lit (.bool (decide (0<a))),CV.lit (.string (bytesOf a.natAbs))]:=by
  rw[J5,Int.natAbs_neg];congr 4;exact decide_eq_decide.2 (by omega)
 rw[key]
 by_cases h:a<0
 · refine(zl0 a (by simpa using h)).eq ?_
   rw[decide_eq_false (by omega)]
 · refine(zih a (by simpa using h)).eq ?_
   rw[Z7]
   by_cases h0:a=0
   · subst h0;rfl
   · rw[decide_eq_false (p:=a.natAbs=0) (by omega),decide_eq_true (p:=0<a) (by omega)];rfl
theorem z1a(a:Int):PCall P 215 [J5 a] (j4 a.sign):=by
 by_cases h0:a=0
 · subst h0;exact zgo 0 (by rw[Z7];rfl)
 · have h1:((bytesOf a.natAbs).toList==[])=false:=by rw[Z7];simpa using h0
   by_cases h:a<0
   · refine(zfB a h1 (by simpa using h)).eq ?_
     rw[Int.sign_eq_neg_one_of_neg h]
   · refine(zgf a h1 (by simpa using h)).eq ?_
     rw[Int.sign_eq_one_of_pos (by omega)]
theorem z7E{a b:Int}(h:a=b):J5 a=J5 b:=by rw[h]
theorem z2n(a b:Int)(ha:SmlZ a)(hb:SmlZ b)(hs:Sml (a.natAbs+b.natAbs)):PCall P 202 [J5 a,J5 b] (J5 (a+b)):=by
 have la:(dig 4294967296 a.natAbs).length<2^30:=ha.dig32
 have lb:(dig 4294967296 b.natAbs).length<2^30:=hb.dig32
 by_cases h:decide (a<0)=decide (b<0)
 · refine(zk5 a b (by simpa using h) ha hb (by omega) (by omega) hs).eq (z7E ?_)
   have h':=decide_eq_decide.1 h
   by_cases hn:a<0
   · rw[decide_eq_true hn];simp only[sgn,if_true];omega
   · rw[decide_eq_false hn];simp only[sgn,Bool.false_eq_true,if_false];omega
 · have hc:=zay (a:=a.natAbs) (b:=b.natAbs)
   have h': ¬(a<0↔b<0):=fun e=>h (decide_eq_decide.2 e)
   by_cases hcmp:a.natAbs<b.natAbs
   · refine(zle a b (by simpa using h) (by have:=hc.2 hcmp;simpa using this) ha hb (by omega) (by omega) (by omega) (by omega) (hb.mono (by omega))).eq (z7E ?_)
     by_cases hn:b<0
     · rw[decide_eq_true hn];simp only[sgn,if_true];omega
     · rw[decide_eq_false hn];simp only[sgn,Bool.false_eq_true,if_false];omega
   · refine(zlT a b (by simpa using h) (by have:=(not_congr hc).2 hcmp;simpa using this) ha hb (by omega) (by omega) (by omega) (by omega) (ha.mono (by omega))).eq (z7E ?_)
     by_cases hn:a<0
     · rw[decide_eq_true hn];simp only[sgn,if_true];omega
     · rw[decide_eq_false hn];simp only[sgn,Bool.false_eq_true,if_false];omega
theorem z0d(a b:Int)(ha:SmlZ a)(hb:SmlZ b)(hs:Sml (a.natAbs*b.natAbs)):PCall P 203 [J5 a,J5 b] (J5 (a*b)):=by
 have la:(dig 4294967296 a.natAbs).length<2^30:=ha.dig32
 have lb:(dig 4294967296 b.natAbs).length<2^30:=hb.dig32
 refine(zmg a b ha hb (by omega) (by omega) hs).eq (z7E ?_)
 have e1:sgn (decide (a<0)) a.natAbs=a:=by
  by_cases h:a<0
  · rw[decide_eq_true h];simp only[sgn,if_true];omega
  · rw[decide_eq_false h];simp only[sgn,Bool.false_eq_true,if_false];omega
 have e2:sgn (decide (b<0)) b.natAbs=b:=by
  by_cases h:b<0
  · rw[decide_eq_true h];simp only[sgn,if_true];omega
  · rw[decide_eq_false h];simp only[sgn,Bool.false_eq_true,if_false];omega
 have key: ∀(p q:Bool) (x y:Nat),sgn (!(p==q)) (x*y)=sgn p x*sgn q y:=by
  intro p q x y
  cases p<;>cases q<;>simp[sgn,Int.neg_mul,Int.mul_neg]
 rw[key,e1,e2]
end Go.Fw
open Go
namespace Go.Fw
theorem z0u(z:Int)(h:z.natAbs<256^7):PCall P 194 [J5 z] (.tup [j4 z,.lit (.bool true)]):=
 zdA z (decide_eq_false (by have:=(U2 (n:=z.natAbs) (k:=7)).2 h;omega)) (by omega)
theorem z4L(z:Int)(h:256^7≤z.natAbs):PCall P 194 [J5 z] (.tup [j4 0,.lit (.bool false)]):=
 zdK z (decide_eq_true (by
  have: ¬(bytesOf z.natAbs).size≤7:=fun h'=>by have:=U2.1 h';omega
  omega))
theorem Q7(a:Int):PCall P 183 [J5 a] (j4 a.sign):=by
 by_cases h0:a=0
 · subst h0;exact zgN 0 (by rw[Z7];rfl)
 · have h1:((bytesOf a.natAbs).toList==[])=false:=by rw[Z7];simpa using h0
   by_cases h:a<0
   · refine(zgj a h1 (by simpa using h)).eq ?_
     rw[Int.sign_eq_neg_one_of_neg h]
   · refine(zfi a h1 (by simpa using h)).eq ?_
     rw[Int.sign_eq_one_of_pos (by omega)]
theorem z2T(a:Int):PCall P 186 [J5 a] (J5 (a.natAbs:Int)):=by
 refine(zln a).eq ?_
 rw[J5,Int.natAbs_natCast,decide_eq_false (by omega)]
theorem U0(a:Int):PCall P 132 [J5 a] (J5 (-a)):=by
 by_cases h0:a=0
 · subst h0;exact zlF 0 (by rw[Z7];rfl)
 · have h1:((bytesOf a.natAbs).toList==[])=false:=by rw[Z7];simpa using h0
   refine(ziU a h1).eq ?_
   rw[J5,Int.natAbs_neg]
   congr 4
   by_cases h:a<0
   · rw[decide_eq_true h,decide_eq_false (by omega)];rfl
   · rw[decide_eq_false h,decide_eq_true (by omega)];rfl
end Go.Fw
open Go
namespace Go.Fw
set_option maxRecDepth 100000
theorem Ps.app{a b:List Prop}(ha:Ps a)(hb:Ps b):Ps (a++b):=by
 induction ha with
 |nil=>exact hb
 |cons h t ih=>exact .cons h ih
def zh9(B:Nat→Bool)(S:Nat→ByteArray):List CV:=[.lit (.bool (B 0)),Y7 (S 0),.lit (.bool (B 1)),Y7 (S 1),.lit (.bool (B 2)),Y7 (S 2),.lit (.bool (B 3)),Y7 (S 3),.lit (.bool (B 4)),Y7 (S 4)]
def zsb(B:Nat→Bool)(S:Nat→ByteArray):CV:= .agg (zh9 B S)
def i5(W:Nat→Int):List CV:=[j4 (W 0),j4 (W 1),j4 (W 2),j4 (W 3),j4 (W 4)]
theorem U9(l:List CV):CvL (own l):=CvL.map_cv l
def wdO(B:Nat→Bool)(S:Nat→ByteArray)(W:Nat→Int)(i:Nat):St:=⟨J3 58 [(1,.ptr 0 0),(2,.ptr 1 0),(4,.ptr 2 0),(5,.cv (j4 (i:Int)))],[some (own (zh9 B S)),some (own (i5 fun _=>0)),some (own (i5 W))]⟩
def wdI(B:Nat→Bool)(S:Nat→ByteArray)(W:Nat→Int)(i k:Nat):St:=⟨J3 58 [(1,.ptr 0 0),(2,.ptr 1 0),(4,.ptr 2 0),(5,.cv (j4 (i:Int))),(6,.ptr 3 0),(7,.cv (j4 (k:Int)))],[some (own (zh9 B S)),some (own (i5 fun _=>0)),some (own (i5 W)),some (own [.lit (.bool (B i)),Y7 (S i)])]⟩
def zh3(i:Nat):List Prop:=match i with|4=>[2≤2]|i=>[2≤2,(0:Int)≤(i:Int)∧(i:Int)<4,2≤2]
def wdS(i:Nat):Nat:=match i with|4=>15|_=>20
theorem z7i{i:Nat}(h:i<5):Ps (zh3 i):=by
 have:i=0∨i=1∨i=2∨i=3∨i=4:=by omega
 rcases this with rfl|rfl|rfl|rfl|rfl<;>first|exact .cons (Nat.le_refl _) (.cons (by decide) (.cons (Nat.le_refl _) .nil))|exact .cons (Nat.le_refl _) .nil
def wdV(W:Nat→Int)(b:Bool):CV:= .tup [.agg (i5 W),.lit (.bool b)]
section
variable(B:Nat→Bool)(S:Nat→ByteArray)(W:Nat→Int)
theorem ztc: ∀i,i<5→z47 P 125 (loopHead P 125 0) (wdO B S W i) [(wdS i,.b true)] false 100000= .ret (wdV W false) (zh3 i++[decide (((S i).size:Int)>3)=true,5≤5]):=by
 intro i hi
 have:i=0∨i=1∨i=2∨i=3∨i=4:=by omega
 rcases this with rfl|rfl|rfl|rfl|rfl<;>(show _=_;kernel_rfl)
theorem zta : ∀ i, i < 5 → z47 P 125 (loopHead P 125 0) (wdO B S W i) [(wdS i, .b false), (wdS i + 2, .r (.lit (.bool false)))] false 100000 =
    .ret (wdV W false) (zh3 i++[decide (((S i).size:Int)>3)=false,PCall P 193 [.agg [.lit (.bool (B i)),Y7 (S i)]] (.lit (.bool false)),5≤5]):=by
 intro i hi
 have:i=0∨i=1∨i=2∨i=3∨i=4:=by omega
 rcases this with rfl|rfl|rfl|rfl|rfl<;>(show _=_;kernel_rfl)
theorem ztl : ∀ i, i < 5 → (z47 P 125 (loopHead P 125 0) (wdO B S W i) [(wdS i, .b false), (wdS i + 2, .r (.lit (.bool true))), (wdS i + 7, .stop)] false 100000).pick [1, 2, 4, 5, 6, 7] [0, 1, 2, 3] =
    some (loopHead P 125 1,wdI B S W i 0,zh3 i++[decide (((S i).size:Int)>3)=false,PCall P 193 [.agg [.lit (.bool (B i)),Y7 (S i)]] (.lit (.bool true)),CvL (own (zh9 B S)),CvL (own (i5 fun _=>0)),CvL (own (i5 W)),CvL (own [.lit (.bool (B i)),Y7 (S i)])]):=by
 intro i hi
 have:i=0∨i=1∨i=2∨i=3∨i=4:=by omega
 rcases this with rfl|rfl|rfl|rfl|rfl<;>(show _=_;kernel_rfl)
def z8p(W:Nat→Int)(k:Nat)(z:Int):Nat→Int:=fun n=>match Nat.beq n k with|true=>z|false=>W n
theorem ztf (k : Nat) : ∀ i, i < 5 → (z47 P 125 (loopHead P 125 1) (wdI B S W i k) [(6, .b true), (23, .stop)] false 100000).pick [1, 2, 4, 5, 6, 7] [0, 1, 2, 3] =
    some (loopHead P 125 1,⟨J3 58 [(1,.ptr 0 0),(2,.ptr 1 0),(4,.ptr 2 0),(5,.cv (j4 (i:Int))),(6,.ptr 3 0),(7,.cv (j4 (IntKind.i64.wrap ((k:Int)+1))))],[some (own (zh9 B S)),some (own (i5 fun _=>0)),
     some (own (i5 (z8p W i (IntKind.i64.wrap (IntKind.i64.wrap (W i*256)+IntKind.i64.wrap (((S i).data.getD (k:Int).toNat (OfNat.ofNat 0)).toNat:Int)))))),some (own [.lit (.bool (B i)),Y7 (S i)])]⟩,
     [decide ((k:Int)<((S i).size:Int))=true,(0:Int)≤(i:Int)∧(i:Int)<5,(0:Int)≤8,0≤(k:Int)∧(k:Int)<((S i).size:Int),(0:Int)≤(i:Int)∧(i:Int)<5,i+1≤5,CvL (own (zh9 B S)),CvL (own (i5 fun _=>0)),CvL (own (i5 (z8p W i (IntKind.i64.wrap (IntKind.i64.wrap (W i*256)+IntKind.i64.wrap (((S i).data.getD (k:Int).toNat (OfNat.ofNat 0)).toNat:Int)))))),CvL (own [.lit (.bool (B i)),Y7 (S i)])]):=by
 intro i hi
 have:i=0∨i=1∨i=2∨i=3∨i=4:=by omega
 rcases this with rfl|rfl|rfl|rfl|rfl<;>(show _=_;kernel_rfl)
theorem ztd (k : Nat) : ∀ i, i < 5 → (z47 P 125 (loopHead P 125 1) (wdI B S W i k) [(6, .b false), (9, .b true), (20, .stop)] false 100000).pick [1, 2, 4, 5] [0, 1, 2] =
    some (loopHead P 125 0,wdO B S (z8p W i (IntKind.i64.wrap (0-W i))) (i+1),[decide ((k:Int)<((S i).size:Int))=false,B i=true,(0:Int)≤(i:Int)∧(i:Int)<5,(0:Int)≤(i:Int)∧(i:Int)<5,i+1≤5,CvL (own (zh9 B S)),CvL (own (i5 fun _=>0)),CvL (own (i5 (z8p W i (IntKind.i64.wrap (0-W i)))))]):=by
 intro i hi
 have:i=0∨i=1∨i=2∨i=3∨i=4:=by omega
 rcases this with rfl|rfl|rfl|rfl|rfl<;>(show _=_;kernel_rfl)
theorem ztr (k : Nat) : ∀ i, i < 5 → (z47 P 125 (loopHead P 125 1) (wdI B S W i k) [(6, .b false), (9, .b false), (13, .stop)] false 100000).pick [1, 2, 4, 5] [0, 1, 2] =
    some (loopHead P 125 0,wdO B S W (i+1),[decide ((k:Int)<((S i).size:Int))=false,B i=false,CvL (own (zh9 B S)),CvL (own (i5 fun _=>0)),CvL (own (i5 W))]):=by
 intro i hi
 have:i=0∨i=1∨i=2∨i=3∨i=4:=by omega
 rcases this with rfl|rfl|rfl|rfl|rfl<;>(show _=_;kernel_rfl)
theorem zt6:z47 P 125 (loopHead P 125 0) (wdO B S W 5) [] false 100000= .ret (wdV W true) [5≤5]:=by
 show _=_
 kernel_rfl
theorem zsM:(zbZ P 125 [zsb B S] [(5,.stop)] false 100000).pick [1,2,4,5] [0,1,2]=some (loopHead P 125 0,wdO B S (fun _=>0) 0,[CvL (own (zh9 B S)),CvL (own (i5 fun _=>0)),CvL (own (i5 fun _=>0))]):=by
 show _=_
 kernel_rfl
end
end Go.Fw
open Go
namespace Go.Fw
set_option maxRecDepth 100000
def zOf(b:Bool)(s:ByteArray):Int:=if b then-(J7 s:Int)else J7 s
def z4y(B:Nat→Bool)(S:Nat→ByteArray)(i:Nat):Int:=zOf (B i) (S i)
def z76(B:Nat→Bool)(S:Nat→ByteArray)(n:Nat):Nat→Int:=fun j=>if j<n then z4y B S j else 0
theorem z85(W:Nat→Int)(i:Nat)(x y:Int):z8p (z8p W i x) i y=z8p W i y:=by
 funext n;unfold z8p;split<;>rfl
theorem z9V(W:Nat→Int)(i:Nat)(x:Int):z8p W i x i=x:=by unfold z8p;rw[Nat.beq_refl]
theorem zcN(W:Nat→Int)(i:Nat):z8p W i (W i)=W:=by
 funext n;unfold z8p
 split
 · rename_i h;rw[Nat.eq_of_beq_eq_true h]
 · rfl
theorem zia(W:Nat→Int){i j:Nat}(x:Int)(h:j≠i):z8p W i x j=W j:=by
 unfold z8p
 split
 · rename_i hh;exact absurd (Nat.eq_of_beq_eq_true hh) h
 · rfl
theorem z8o(B:Nat→Bool)(S:Nat→ByteArray)(i:Nat):z8p (z76 B S i) i (z4y B S i)=z76 B S (i+1):=by
 funext n
 by_cases h:n=i
 · subst h;rw[z9V];simp[z76]
 · rw[zia _ _ h];unfold z76;simp only[show(n<i+1)=(n<i)from propext (by omega)]
section
variable{B:Nat→Bool}{S:Nat→ByteArray}
theorem zoc {R : Goal} (hn : R.n = 0) (W : Nat → Int) (i : Nat) (hi : i < 5) (hs : (S i).size ≤ 3) (hR : Ok P 125 (loopHead P 125 1) (wdI B S (z8p W i (J7 (S i) : Nat)) i (S i).size) R) : ∀ (d k : Nat), k + d = (S i).size →
    Ok P 125 (loopHead P 125 1) (wdI B S (z8p W i (J7 (S i)/256^((S i).size-k):Nat)) i k) R
 |0,k,hk=>by
  have:k=(S i).size:=by omega
  subst this
  simpa using hR
 |d+1,k,hk=>by
  have hb:=z4S (S i) (i:=k) (by omega)
  have hV:J7 (S i)<16777216:=Nat.lt_of_lt_of_le (z0t _) (Nat.pow_le_pow_right (by decide) hs)
  have hstep:J7 (S i)/256^((S i).size-(k+1))=J7 (S i)/256^((S i).size-k)*256+J7 (S i)/256^((S i).size-1-k)%256:=by
   rw[show(S i).size-k=((S i).size-1-k)+1 by omega,Nat.pow_succ,←Nat.div_div_eq_div_mul,show(S i).size-(k+1)=(S i).size-1-k by omega]
   omega
  have hle:=Nat.div_le_self (J7 (S i)) (256^((S i).size-(k+1)))
  have ih:=zoc hn W i hi hs hR d (k+1) (by omega)
  refine okS (ztf B S _ k i hi) rfl (.cons (decide_eq_true (by omega)) (.cons (by omega) (.cons (by decide) (.cons (by omega) (.cons (by omega) (.cons (by omega) (.cons (U9 _) (.cons (U9 _) (.cons (U9 _) (.cons (U9 _) .nil)))))))))) (by rw[hn];rfl) ?_
  rw[z9V,z85,Int.toNat_natCast,hb,w64 (n:=(k:Int)+1) (by omega)]
  rw[hstep]at ih hle
  rw[show IntKind.i64.wrap (IntKind.i64.wrap (((J7 (S i)/256^((S i).size-k):Nat):Int)*256)+IntKind.i64.wrap ((J7 (S i)/256^((S i).size-1-k)%256:Nat):Int))=((J7 (S i)/256^((S i).size-k)*256+J7 (S i)/256^((S i).size-1-k)%256:Nat):Int) by
   generalize J7 (S i)/256^((S i).size-k)=X at hle ⊢
   generalize J7 (S i)/256^((S i).size-1-k)%256=Y at hle ⊢
   rw[w64 (n:=(X:Int)*256) (by omega),w64 (n:=(Y:Int)) (by omega),w64 (by omega)];omega]
  exact ih
def z6B(B:Nat→Bool)(S:Nat→ByteArray)(i:Nat):Prop:=(S i).size≤3∧J6 (B i) (S i)=true
theorem z4I{R:Goal}(hn:R.n=0)(i:Nat)(hi:i<5)(ho:z6B B S i)(hR:Ok P 125 (loopHead P 125 0) (wdO B S (z76 B S (i+1)) (i+1)) R):Ok P 125 (loopHead P 125 0) (wdO B S (z76 B S i) i) R:=by
 have hV:J7 (S i)<16777216:=Nat.lt_of_lt_of_le (z0t _) (Nat.pow_le_pow_right (by decide) ho.1)
 refine okS (ztl B S _ i hi) rfl ((z7i hi).app (.cons (decide_eq_false (by have:=ho.1;omega)) (.cons ((J4 _ _).eqB ho.2) (.cons (U9 _) (.cons (U9 _) (.cons (U9 _) (.cons (U9 _) .nil))))))) (by rw[hn];rfl) ?_
 have h0:z76 B S i i=0:=by simp[z76]
 have:=zoc (B:=B) (R:=R) hn (z76 B S i) i hi ho.1 ?_ (S i).size 0 (by omega)
 · rw[Nat.sub_zero,Nat.div_eq_of_lt (z0t _),show((0:Nat):Int)=z76 B S i i from h0.symm,zcN]at this
   exact this
 · cases hb:B i with
   |true=>
    refine okS (ztd B S _ _ i hi) rfl (.cons (decide_eq_false (by omega)) (.cons hb (.cons (by omega) (.cons (by omega) (.cons (by omega) (.cons (U9 _) (.cons (U9 _) (.cons (U9 _) .nil)))))))) (by rw[hn];rfl) ?_
    rw[z9V,z85,w64 (by omega)]
    have e:(0:Int)-(J7 (S i):Int)=z4y B S i:=by simp[z4y,zOf,hb]
    rw[e,z8o];exact hR
   |false=>
    refine okS (ztr B S _ _ i hi) rfl (.cons (decide_eq_false (by omega)) (.cons hb (.cons (U9 _) (.cons (U9 _) (.cons (U9 _) .nil))))) (by rw[hn];rfl) ?_
    have e:(J7 (S i):Int)=z4y B S i:=by simp[z4y,zOf,hb]
    rw[e,z8o];exact hR
theorem zb0{W V:Nat→Int}(h: ∀i,i<5→W i=V i):i5 W=i5 V:=by
 simp only[i5,h 0 (by decide),h 1 (by decide),h 2 (by decide),h 3 (by decide),h 4 (by decide)]
theorem zag(h: ∀i,i<5→z6B B S i):PCall P 125 [zsb B S] (wdV (z4y B S) true):=by
 refine V8 (z7T (zsM B S) rfl (.cons (U9 _) (.cons (U9 _) (.cons (U9 _) .nil))) ?_)
 have e:(fun _=>(0:Int))=z76 B S 0:=by funext n;simp[z76]
 rw[e]
 have hn:(Goal.of (fun x=>x=wdV (z4y B S) true)).n=0:=rfl
 refine z4I hn 0 (by decide) (h 0 (by decide)) (z4I hn 1 (by decide) (h 1 (by decide)) (z4I hn 2 (by decide) (h 2 (by decide)) (z4I hn 3 (by decide) (h 3 (by decide)) (z4I hn 4 (by decide) (h 4 (by decide)) ?_))))
 refine okR (zt6 B S _) (.cons (Nat.le_refl _) .nil) ?_
 show wdV _ _=_
 unfold wdV
 rw[zb0 (V:=z4y B S) (fun i hi=>by simp[z76,hi])]
theorem z8z(h: ¬ ∀i,i<5→z6B B S i): ∃W,PCall P 125 [zsb B S] (wdV W false):=by
 have hm: ∃m,m<5∧ ¬z6B B S m∧ ∀i,i<m→z6B B S i:=by
  have h': ∃i,i<5∧ ¬z6B B S i:=Classical.byContradiction fun hc=>h fun i hi=>Classical.byContradiction fun hd=>hc ⟨i,hi,hd⟩
  obtain⟨i,hi,hb⟩:=h'
  induction i using Nat.strongRecOn with
  |_ i ih=>
   by_cases hl: ∀j,j<i→z6B B S j
   · exact⟨i,hi,hb,hl⟩
   · have: ∃j,j<i∧ ¬z6B B S j:=Classical.byContradiction fun hc=>hl fun j hj=>Classical.byContradiction fun hd=>hc ⟨j,hj,hd⟩
     obtain⟨j,hj,hjb⟩:=this
     exact ih j hj (by omega) hjb
 obtain⟨m,hm,hb,hall⟩:=hm
 refine⟨z76 B S m,V8 (z7T (zsM B S) rfl (.cons (U9 _) (.cons (U9 _) (.cons (U9 _) .nil))) ?_)⟩
 have e:(fun _=>(0:Int))=z76 B S 0:=by funext n;simp[z76]
 rw[e]
 have hn:(Goal.of (fun x=>x=wdV (z76 B S m) false)).n=0:=rfl
 have key: ∀d i,i+d=m→Ok P 125 (loopHead P 125 0) (wdO B S (z76 B S i) i) (Goal.of (fun x=>x=wdV (z76 B S m) false)):=by
  intro d
  induction d with
  |zero=>
   intro i hi
   have:i=m:=by omega
   subst this
   by_cases hs:(S i).size≤3
   · have hv : J6 (B i) (S i) = false := by
       cases hv:J6 (B i) (S i)with
       |false=>rfl
       |true=>exact absurd ⟨hs,hv⟩ hb
     exact okR (zta B S _ i hm) ((z7i hm).app (.cons (decide_eq_false (by omega)) (.cons ((J4 _ _).eqB hv) (.cons (Nat.le_refl _) .nil)))) rfl
   · exact okR (ztc B S _ i hm) ((z7i hm).app (.cons (decide_eq_true (by omega)) (.cons (Nat.le_refl _) .nil))) rfl
  |succ d ih=>
   intro i hi
   exact z4I hn i (by omega) (hall i (by omega)) (ih (i+1) (by omega))
 exact key m 0 (by omega)
end
end Go.Fw
open Go IntKind
namespace Go.Fw
set_option maxRecDepth 100000
theorem znZ(W:Nat→Int)(a b i:Int)(h1:(b != 0)=true)(o1:b≠0){R:Goal}(hn:J0 R.n [0]=true)(hR:Ok P 192 (loopHead P 192 1) ⟨J3 28 [(1,.ptr 0 0),(4,.cv (.lit (.int .i64 i))),(5,.cv (.lit (.int .i64 b))),(6,.cv (.lit (.int .i64 (a.tmod b))))],[some (own [.lit (.int .i64 (W 0)),.lit (.int .i64 (W 1)),.lit (.int .i64 (W 2)),.lit (.int .i64 (W 3)),.lit (.int .i64 (W 4))])]⟩ R):Ok P 192 (loopHead P 192 1) ⟨J3 28 [(1,.ptr 0 0),(4,.cv (j4 i)),(5,.cv (j4 a)),(6,.cv (j4 b))],[some (own (i5 W))]⟩ R:=
 z0W (keep:=[1,4,5,6]) (σ:=[0]) (.b 3 h1 (.c o1 (.o 10 .stop .nil))) (by kernel_rfl) rfl hn hR (.cons (j8 _) .nil)
theorem zo6(W:Nat→Int)(a b i:Int)(h1:(b != 0)=false){R:Goal}(hn:J0 R.n [0]=true)(hR:Ok P 192 (loopHead P 192 0) ⟨J3 28 [(1,.ptr 0 0),(3,.cv (.lit (.int .i64 a))),(4,.cv (.lit (.int .i64 (i64.wrap (i+1)))))],[some (own [.lit (.int .i64 (W 0)),.lit (.int .i64 (W 1)),.lit (.int .i64 (W 2)),.lit (.int .i64 (W 3)),.lit (.int .i64 (W 4))])]⟩ R):Ok P 192 (loopHead P 192 1) ⟨J3 28 [(1,.ptr 0 0),(4,.cv (j4 i)),(5,.cv (j4 a)),(6,.cv (j4 b))],[some (own (i5 W))]⟩ R:=
 z0W (keep:=[1,3,4]) (σ:=[0]) (.b 3 h1 (.o 9 .stop .nil)) (by kernel_rfl) rfl hn hR (.cons (j8 _) .nil)
end Go.Fw
open Go
namespace Go.Fw
def bor(x y c:Int):Int:=if x<y+c then 1 else 0
theorem zcp(x y c:Int)(hx:0≤x∧x<4294967296)(hy:0≤y∧y<4294967296)(hc:0≤c∧c≤1):PCall P 257 [.lit (.int .u32 x),.lit (.int .u32 y),.lit (.int .u32 c)] (.tup [.lit (.int .u32 ((x-y-c)%4294967296)),.lit (.int .u32 (bor x y c))]):=by
 have h:=z4W x.toNat y.toNat c.toNat (by simp only[B32];omega) (by simp only[B32];omega) (by omega)
 obtain⟨x,rfl⟩: ∃n:Nat,x=n:=⟨x.toNat,by omega⟩
 obtain⟨y,rfl⟩: ∃n:Nat,y=n:=⟨y.toNat,by omega⟩
 obtain⟨c,rfl⟩: ∃n:Nat,c=n:=⟨c.toNat,by omega⟩
 simp only[Int.toNat_natCast]at h
 refine h.eq (z68 ?_ ?_)
 · simp only[B32];omega
 · unfold bor
   split<;>split<;>first|rfl|omega
theorem zoS(x y c:Int)(hx:0≤x∧x<4294967296)(hy:0≤y∧y<4294967296)(hc:0≤c∧c≤1):PCall P 255 [.lit (.int .u32 x),.lit (.int .u32 y),.lit (.int .u32 c)] (.tup [.lit (.int .u32 ((x+y+c)%4294967296)),.lit (.int .u32 ((x+y+c)/4294967296))]):=by
 have h:=z1r x.toNat y.toNat c.toNat (by simp only[B32];omega) (by simp only[B32];omega) (by omega)
 obtain⟨x,rfl⟩: ∃n:Nat,x=n:=⟨x.toNat,by omega⟩
 obtain⟨y,rfl⟩: ∃n:Nat,y=n:=⟨y.toNat,by omega⟩
 obtain⟨c,rfl⟩: ∃n:Nat,c=n:=⟨c.toNat,by omega⟩
 simp only[Int.toNat_natCast]at h
 refine h.eq (z68 ?_ ?_)
 · simp only[B32];omega
 · simp only[B32];omega
end Go.Fw
open Go IntKind
namespace Go.Fw
set_option maxRecDepth 100000
theorem zdt(j n:Nat)(zs ys:List Nat)(o0:(0:Int)≤n∧(n:Int)<(↑(n+1):Int))(o1:(own (j7 zs))[j+(n:Int).toNat*1]?=some (.cv (.lit (.int .u32 ↑(zs.getD (j+(n:Int).toNat*1) 0)))))(o4:(0:Int)≤i64.wrap ((n:Int)-1)∧i64.wrap ((n:Int)-1)<(↑(n+1):Int))(o5:(own (j7 zs))[j+(i64.wrap ((n:Int)-1)).toNat*1]?=some (.cv (.lit (.int .u32 (↑(zs.getD (j+(i64.wrap ((n:Int)-1)).toNat*1) 0):Int)))))(o7:(0:Int)≤i64.wrap ((n:Int)-1)∧i64.wrap ((n:Int)-1)<(n:Int))(o8:(j7 ys)[(i64.wrap ((n:Int)-1)).toNat*1]?=some (.lit (.int .u32 (↑(ys.getD ((i64.wrap ((n:Int)-1)).toNat*1) 0):Int))))(o10:u64.wrap (↑(ys.getD ((i64.wrap ((n:Int)-1)).toNat*1) 0):Int)≠0)(o11:(0:Int)≤i64.wrap ((n:Int)-1)∧i64.wrap ((n:Int)-1)<(n:Int))(o12:(j7 ys)[(i64.wrap ((n:Int)-1)).toNat*1]?=some (.lit (.int .u32 (↑(ys.getD ((i64.wrap ((n:Int)-1)).toNat*1) 0):Int))))(o14:u64.wrap (↑(ys.getD ((i64.wrap ((n:Int)-1)).toNat*1) 0):Int)≠0)(o15:CvL (own (j7 zs))){Q:MV→List Blk→Prop}(hR:Ok P 264 (loopHead P 264 0) ⟨J3 159 [(0,.sl 0 j (n+1) 1),(1,.cv (.lst n (j7 ys))),(5,.cv (.lit (.int .i64 (n:Int)))),(7,.cv (.lit (.int .u64 (u64.wrap ((V6 BinOp.or u64 (u64.wrap (u64.wrap (↑(zs.getD (j+(n:Int).toNat*1) 0):Int)*4294967296)) (u64.wrap (↑(zs.getD (j+(i64.wrap ((n:Int)-1)).toNat*1) 0):Int))).tdiv (u64.wrap (↑(ys.getD ((i64.wrap ((n:Int)-1)).toNat*1) 0):Int))))))),(8,.cv (.lit (.int .u64 ((V6 BinOp.or u64 (u64.wrap (u64.wrap (↑(zs.getD (j+(n:Int).toNat*1) 0):Int)*4294967296)) (u64.wrap (↑(zs.getD (j+(i64.wrap ((n:Int)-1)).toNat*1) 0):Int))).tmod (u64.wrap (↑(ys.getD ((i64.wrap ((n:Int)-1)).toNat*1) 0):Int))))))],[some (own (j7 zs))]⟩ (.lent [some (own (j7 zs))].length Q)):z4n P 264 [some (own (j7 zs))] [.sl 0 j (n+1) 1,.cv (.lst n (j7 ys))] Q:=
 z8R (keep:=[0,1,5,7,8]) (σ:=[0]) (ors:=[(7,.e (.cv (.lit (.int .u32 ↑(zs.getD (j+(n:Int).toNat*1) 0))))),(14,.e (.cv (.lit (.int .u32 (↑(zs.getD (j+(i64.wrap ((n:Int)-1)).toNat*1) 0):Int))))),(23,.r (.lit (.int .u32 (↑(ys.getD ((i64.wrap ((n:Int)-1)).toNat*1) 0):Int)))),(31,.r (.lit (.int .u32 (↑(ys.getD ((i64.wrap ((n:Int)-1)).toNat*1) 0):Int)))),(36,.stop)]) (by kernel_rfl) rfl (.cons o0 (.cons o1 (.cons (eqn 1) (.cons (nn 32) (.cons o4 (.cons o5 (.cons (eqn 1) (.cons o7 (.cons o8 (.cons (eqn 1) (.cons o10 (.cons o11 (.cons o12 (.cons (eqn 1) (.cons o14 (.cons o15 .nil)))))))))))))))) rfl hR
end Go.Fw
