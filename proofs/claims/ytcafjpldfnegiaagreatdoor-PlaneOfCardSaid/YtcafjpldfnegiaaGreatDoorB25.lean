/- A part of the proof that the law returns true for every input: an executor for the model's code, and what functions of the program compute. -/
import Derived.Test.YtcafjpldfnegiaaGreatDoorB11
import Derived.Test.YtcafjpldfnegiaaGreatDoorB15
import Derived.Test.YtcafjpldfnegiaaGreatDoorB17
import Derived.Test.YtcafjpldfnegiaaGreatDoorB19
import Derived.Test.YtcafjpldfnegiaaGreatDoorB24
import Derived.KernelRfl
open Go
namespace Go.Fw
set_option maxRecDepth 100000
theorem zbh {R : Goal} (hn : J0 R.n [0] = true) (hF : R.Fresh) (xs : List Nat) (k : Nat) (hk : k ≤ 31) (hlen : xs.length < 2 ^ 40) (hx : Dig B32 xs)
    (hR:R.m (.sl 0 0 (xs.length+1) 1) [some (own (j7 (Q9 B32 (xs.length+1) (val B32 xs*2^k))))]):
    ∀(q i:Nat),xs.length-i=q→i≤xs.length→
     Ok P 263 (loopHead P 263 0) ⟨J3 40 [(1,.cv (.lit (.int .i64 k))),(5,.sl 0 0 (xs.length+1) 1),(12,.cv (.lst xs.length (j7 xs))),(13,.cv (.lit (.int .i64 xs.length))),(14,.cv (.lit (.int .i64 i)))],
      [some (own (j7 (Q9 B32 (xs.length+1) (val B32 (xs.take i)*2^k))))]⟩ R:=by
 intro q
 induction q with
 |zero=>
  intro i hq hi
  have:i=xs.length:=by omega
  subst this
  rw[List.take_length]
  exact zob _ _ _ _ _ _ (by simp) (j8 _) hF hR
 |succ q ih=>
  intro i hq hi
  have hlt:i<xs.length:=by omega
  have hl:=j9 B32 (xs.length+1) (val B32 (xs.take i)*2^k)
  have dx:=hx.get (by decide) i
  have htk:=U1 (b:=B32) hlt
  have hvlt:val B32 (xs.take i)<B32^i:=by
   have:=z0Q (by decide:0<B32) _ (hx.take i)
   rw[List.length_take,Nat.min_eq_left (by omega)]at this
   exact this
  have hgx:=Y8 hlt
  have hdg:=X6 B32 (xs.length+1) (val B32 (xs.take i)*2^k) i (by omega)
  have e1:(i:Int).toNat*1=i:=by omega
  have e2:(0:Nat)+(i:Int).toNat*1=i:=by omega
  have e3:IntKind.i64.wrap ((i:Int)+1)=((i+1:Nat):Int):=by rw[w64 (by omega)];omega
  have e4:(0:Nat)+((i+1:Nat):Int).toNat*1=i+1:=by omega
  have e5:min ((k:Nat):Int).toNat 32=k:=by omega
  have e6:min ((k:Nat):Int).toNat 64=k:=by omega
  have hK:(2:Nat)^k*2^(32-k)=B32:=by rw[←Nat.pow_add,show k+(32-k)=32 by omega]
  have hKp:0<(2:Nat)^k:=Nat.pow_pos (by decide)
  have hK31:(2:Nat)^k≤2147483648:=by rw[show(2147483648:Nat)=2^31 from rfl];exact Nat.pow_le_pow_right (by decide) hk
  generalize hx0:xs.getD i 0=x at*
  generalize hv0:val B32 (xs.take i)=v at*
  have hlo:x*2^k%B32=(x%2^(32-k))*2^k:=by rw[←hK,Nat.mul_comm x,Nat.mul_mod_mul_left,Nat.mul_comm]
  have hdlt:v*2^k/B32^i<2^k:=by
   rw[Nat.div_lt_iff_lt_mul (Nat.pow_pos (by decide)),Nat.mul_comm (2^k)]
   exact Nat.mul_lt_mul_of_pos_right hvlt hKp
  have hdm:v*2^k/B32^i%B32=v*2^k/B32^i:=Nat.mod_eq_of_lt (by simp only[B32]at*;omega)
  have hsum:v*2^k/B32^i%B32+x*2^k%B32<B32:=by
   rw[hdm,hlo]
   have h1:x%2^(32-k)<2^(32-k):=Nat.mod_lt _ (Nat.pow_pos (by decide))
   have h2:(x%2^(32-k)+1)*2^k≤2^(32-k)*2^k:=Nat.mul_le_mul_right _ h1
   rw[Nat.add_mul,Nat.one_mul,Nat.mul_comm (2^(32-k)),hK]at h2
   omega
  have a1:IntKind.u32.wrap ((x:Int)*2^k)=((x*2^k%B32:Nat):Int):=by
   rw[show(x:Int)*2^k=((x*2^k:Nat):Int) by norm_cast,z7S];simp only[B32];omega
  have hxk:x*2^k<18446744073709551616:=by
   have:x*2^k≤4294967295*2147483648:=Nat.mul_le_mul (by simp only[B32]at dx;omega) hK31
   omega
  have a2:IntKind.u32.wrap ((IntKind.u64.wrap (IntKind.u64.wrap (x:Int)*2^k)).fdiv 4294967296)=((x*2^k/B32:Nat):Int):=by
   have:IntKind.u64.wrap (x:Int)=x:=by rw[z1H];simp only[B32]at dx;omega
   rw[this,show(x:Int)*2^k=((x*2^k:Nat):Int) by norm_cast,z1H,fdp _ (by decide),z7S];simp only[B32];omega
  have hhi:x*2^k/B32<B32:=by
   have:x*2^k≤4294967295*2147483648:=Nat.mul_le_mul (by simp only[B32]at dx;omega) hK31
   simp only[B32];omega
  have a3:V6 BinOp.or IntKind.u32 (((Q9 B32 (xs.length+1) (v*2^k)).getD i 0:Nat):Int) ((x*2^k%B32:Nat):Int)=((v*2^k/B32^i%B32+x*2^k%B32:Nat):Int):=by
   rw[hdg,zdY (Nat.mod_lt _ (by decide)) (Nat.mod_lt _ (by decide)),hdm,hlo,Nat.or_comm,z1T k hdlt,Nat.add_comm]
  have s1:=z1l (by decide:0<B32) (xs.length+1) (v*2^k) i (x*2^k%B32) (by omega) hsum
  have hz:(v*2^k+x*2^k%B32*B32^i)/B32^(i+1)=0:=by
   rw[Nat.pow_succ,←Nat.div_div_eq_div_mul,Nat.add_mul_div_right _ _ (Nat.pow_pos (by decide)),←hdm]
   exact Nat.div_eq_of_lt hsum
  have s2:=z1l (by decide:0<B32) (xs.length+1) (v*2^k+x*2^k%B32*B32^i) (i+1) (x*2^k/B32) (by omega) (by rw[hz];simpa using hhi)
  rw[hz,Nat.zero_mod,Nat.zero_add]at s2
  have hfin:v*2^k+x*2^k%B32*B32^i+x*2^k/B32*B32^(i+1)=(v+B32^i*x)*2^k:=by
   have hm:=Nat.mod_add_div (x*2^k) B32
   rw[Nat.add_mul,show B32^i*x*2^k=x*2^k*B32^i by rw[Nat.mul_assoc,Nat.mul_comm]]
   conv=>rhs;rw[←hm]
   rw[Nat.pow_succ,Nat.add_mul,show B32*(x*2^k/B32)*B32^i=x*2^k/B32*(B32^i*B32) by rw[Nat.mul_comm B32,Nat.mul_assoc,Nat.mul_comm B32]]
   omega
  have c1:j6 (own (j7 (Q9 B32 (xs.length+1) (v*2^k)))) i [MV.cv (CV.lit (.int .u32 ((v*2^k/B32^i%B32+x*2^k%B32:Nat):Int)))]=own (j7 (Q9 B32 (xs.length+1) (v*2^k+x*2^k%B32*B32^i))):=by
   rw[Q5 (by omega),s1]
  have c2:j6 (own (j7 (Q9 B32 (xs.length+1) (v*2^k+x*2^k%B32*B32^i)))) (i+1) [MV.cv (CV.lit (.int .u32 ((x*2^k/B32:Nat):Int)))]=own (j7 (Q9 B32 (xs.length+1) ((v+B32^i*x)*2^k))):=by
   rw[Q5 (by rw[j9];omega),s2,hfin]
  refine znm _ _ _ _ _ _ (by simpa using hlt) (by omega) (by rw[e1,hx0];exact hgx) (by omega) (by rw[e2];exact X3 (Y8 (by omega))) (by omega) (by omega) (by rw[e2,J2,Q2];omega) (by omega) (by rw[e3];omega) ?_ ?_ hn ?_
  · rw[e3,e4,e2,e1,e5,hx0,a1,a3,c1,J2,Q2,j9];omega
  · rw[e3,e4,e2,e1,e5,e6,hx0,a1,a2,a3,c1,c2];exact j8 _
  · rw[e3,e4,e2,e1,e5,e6,hx0,a1,a2,a3,c1,c2,←htk]
    exact ih (i+1) (by omega) (by omega)
theorem shift_own(a k:Nat)(hk:k≤31)(ha:(dig B32 a).length<2^40):FCall P 263 [z0B a,j4 k] (.sl 0 0 ((dig B32 a).length+1) 1) (j7 (Q9 B32 ((dig B32 a).length+1) (a*2^k))):=by
 have e1:IntKind.i64.wrap (((dig B32 a).length:Int)+1)=(((dig B32 a).length+1:Nat):Int):=by rw[w64 (by omega)];omega
 refine zps _ _ _ (by rw[e1];omega) (by rw[z05];exact j8 _) ?_
 rw[e1,show((((dig B32 a).length+1:Nat):Int)).toNat=(dig B32 a).length+1 by omega,z05,Nat.mul_one]
 have:=zbh (R:= .fresh (z4h (fun x y=>x= .sl 0 0 ((dig B32 a).length+1) 1∧y=j7 (Q9 B32 ((dig B32 a).length+1) (a*2^k))))) rfl ⟨rfl,rfl⟩ (dig B32 a) k hk ha (X1 (by decide) _) (by rw[Q8 (by decide)];exact⟨_,rfl,rfl,rfl⟩) _ 0 rfl (Nat.zero_le _)
 rw[List.take_zero,show val B32 []=0 from rfl,Nat.zero_mul,z1E]at this
 exact this
end Go.Fw
namespace Go.Fw
def len8tab:ByteArray:=⟨(show List UInt8 from([0,1]:List UInt8)++List.replicate 2 2++List.replicate 4 3++List.replicate 8 4++List.replicate 16 5++List.replicate 32 6++List.replicate 64 7++List.replicate 128 8).toArray⟩
end Go.Fw
open Go IntKind
namespace Go.Fw
set_option maxRecDepth 100000
theorem zd8(x:Int)(h1:decide (x≥65536)=true)(h2:decide (x.fdiv ((2:Int)^min (Int.toNat (16:Int)) u32.bits)≥256)=true)(o4:(0:Int)≤u8.wrap ((x.fdiv 65536).fdiv 256)∧u8.wrap ((x.fdiv 65536).fdiv 256)<256):PCall P 270 [.lit (.int .u32 x)] (.lit (.int .i64 (i64.wrap ((24:Int)+i64.wrap (↑(len8tab.data.getD (u8.wrap ((x.fdiv 65536).fdiv 256)).toNat (OfNat.ofNat 0)).toNat:Int))))):=
 j3 (.b 3 h1 (.c (nn 16) (.b 10 h2 (.c (nn 8) (.c o4 .nil))))) (by kernel_rfl)
theorem zcZ(x:Int)(h1:decide (x≥65536)=true)(h2:decide (x.fdiv ((2:Int)^min (Int.toNat (16:Int)) u32.bits)≥256)=false)(o3:(0:Int)≤u8.wrap (x.fdiv 65536)∧u8.wrap (x.fdiv 65536)<256):PCall P 270 [.lit (.int .u32 x)] (.lit (.int .i64 (i64.wrap ((16:Int)+i64.wrap (↑(len8tab.data.getD (u8.wrap (x.fdiv 65536)).toNat (OfNat.ofNat 0)).toNat:Int))))):=
 j3 (.b 3 h1 (.c (nn 16) (.b 10 h2 (.c o3 .nil)))) (by kernel_rfl)
theorem zcF(x:Int)(h1:decide (x≥65536)=false)(h2:decide (x≥256)=true)(o3:(0:Int)≤u8.wrap (x.fdiv 256)∧u8.wrap (x.fdiv 256)<256):PCall P 270 [.lit (.int .u32 x)] (.lit (.int .i64 (i64.wrap ((8:Int)+i64.wrap (↑(len8tab.data.getD (u8.wrap (x.fdiv 256)).toNat (OfNat.ofNat 0)).toNat:Int))))):=
 j3 (.b 3 h1 (.b 6 h2 (.c (nn 8) (.c o3 .nil)))) (by kernel_rfl)
theorem zel(x:Int)(h1:decide (x≥65536)=false)(h2:decide (x≥256)=false)(o2:(0:Int)≤u8.wrap x∧u8.wrap x<256):PCall P 270 [.lit (.int .u32 x)] (.lit (.int .i64 (i64.wrap ((0:Int)+i64.wrap (↑(len8tab.data.getD (u8.wrap x).toNat (OfNat.ofNat 0)).toNat:Int))))):=
 j3 (.b 3 h1 (.b 6 h2 (.c o2 .nil))) (by kernel_rfl)
end Go.Fw
open Go
namespace Go.Fw
set_option maxRecDepth 100000
def z0X(n:Nat):Nat:=if n=0 then 0 else Nat.log2 n+1
theorem z5y{n k:Nat}(h:n≠0):z0X n=k+1↔2^k≤n∧n<2^(k+1):=by
 rw[z0X,if_neg h,←Nat.log2_eq_iff h];omega
theorem zlK: ∀n,n<256→(len8tab.data.getD n 0).toNat=z0X n:=by decide
theorem z4U(n k:Nat)(h:2^k≤n):z0X n=k+z0X (n/2^k):=by
 have hp:0<(2:Nat)^k:=Nat.pow_pos (by decide)
 have hn:n≠0:=by omega
 have hd:n/2^k≠0:=by have:=Nat.div_pos h hp;omega
 have h2:z0X (n/2^k)≠0:=by rw[z0X,if_neg hd];omega
 obtain⟨j,hj⟩: ∃j,z0X (n/2^k)=j+1:=⟨z0X (n/2^k)-1,by omega⟩
 obtain⟨a,b⟩:=(z5y hd).1 hj
 rw[hj,show k+(j+1)=(k+j)+1 by omega,z5y hn]
 constructor
 · rw[Nat.pow_add,Nat.mul_comm];exact(Nat.le_div_iff_mul_le hp).1 a
 · rw[show k+j+1=(j+1)+k by omega,Nat.pow_add];exact(Nat.div_lt_iff_lt_mul hp).1 b
theorem z64: ∀n,n<256→z0X n≤8:=by decide
theorem z7q{y:Nat}{z:Int}(hy:y<256)(hz:z=y):IntKind.i64.wrap (((len8tab.data.getD (IntKind.u8.wrap z).toNat (OfNat.ofNat 0)).toNat:Nat):Int)=(z0X y:Nat):=by
 subst hz
 have h9:IntKind.u8.wrap (y:Int)=y:=by rw[wr8];omega
 have h3:=z64 y hy
 rw[h9,show(OfNat.ofNat 0:UInt8)=0 from rfl,Int.toNat_natCast,zlK _ hy,w64 (by omega)]
theorem zhb(z:Int):0≤IntKind.u8.wrap z∧IntKind.u8.wrap z<256:=by rw[wr8];omega
theorem zbN(x:Nat)(hx:x<B32):PCall P 270 [z4x x] (j4 (z0X x)):=by
 simp only[B32]at hx
 have e16':(x:Int).fdiv 65536=((x/65536:Nat):Int):=by rw[fdp _ (by decide)];omega
 have e16:(x:Int).fdiv ((2:Int)^min (Int.toNat 16) IntKind.u32.bits)=((x/65536:Nat):Int):=by
  rw[show(2:Int)^min (Int.toNat 16) IntKind.u32.bits=65536 from rfl,e16']
 by_cases h1:65536≤x
 · have hs:=z4U x 16 (by simpa using h1)
   rw[show(2:Nat)^16=65536 from rfl]at hs
   by_cases h2:256≤x/65536
   · have hs2:=z4U (x/65536) 8 (by simpa using h2)
     rw[show(2:Nat)^8=256 from rfl]at hs2
     have hl:=z64 (x/65536/256) (by omega)
     refine(zd8 x (by simp;omega) (by rw[e16];simp;omega) (zhb _)).eq (z5K ?_)
     rw[z7q (y:=x/65536/256) (by omega) (by rw[e16',fdp _ (by decide)];omega),w64 (by omega)]
     omega
   · have hl:=z64 (x/65536) (by omega)
     refine(zcZ x (by simp;omega) (by rw[e16];simp;omega) (zhb _)).eq (z5K ?_)
     rw[z7q (y:=x/65536) (by omega) e16',w64 (by omega)]
     omega
 · by_cases h2:256≤x
   · have hs2:=z4U x 8 (by simpa using h2)
     rw[show(2:Nat)^8=256 from rfl]at hs2
     have hl:=z64 (x/256) (by omega)
     refine(zcF x (by simp;omega) (by simp;omega) (zhb _)).eq (z5K ?_)
     rw[z7q (y:=x/256) (by omega) (by rw[fdp _ (by decide)];omega),w64 (by omega)]
     omega
   · have hl:=z64 x (by omega)
     refine(zel x (by simp;omega) (by simp;omega) (zhb _)).eq (z5K ?_)
     rw[z7q (y:=x) (by omega) rfl,w64 (by omega)]
     omega
end Go.Fw
open Go IntKind
namespace Go.Fw
set_option maxRecDepth 100000
theorem zff(x:Nat)(s2_0:x<4294967296):PCall P 262 [.lit (.int .u32 (x:Int))] (.lit (.int .i64 (i64.wrap ((32:Int)-(↑(z0X x):Int))))):=
 j3 (.r 2 (zbN (x) s2_0) .nil) (by kernel_rfl)
end Go.Fw
open Go
namespace Go.Fw
theorem z8q{x:Nat}(hx:x<B32):z0X x≤32:=by
 rcases Nat.eq_zero_or_pos x with h|h
 · subst h;decide
 · have hne:x≠0:=by omega
   have:z0X x≠0:=by rw[z0X,if_neg hne];omega
   obtain⟨j,hj⟩: ∃j,z0X x=j+1:=⟨z0X x-1,by omega⟩
   have h2:=((z5y hne).1 hj).1
   rcases Nat.lt_or_ge 31 j with h3|h3
   · have:2^32≤2^j:=Nat.pow_le_pow_right (by decide) h3
     simp only[B32]at hx;omega
   · omega
theorem lz_spec(x:Nat)(hx:x<B32):PCall P 262 [z4x x] (j4 (32-z0X x:Nat)):=by
 have:=z8q hx
 refine(zff x hx).eq (z5K ?_)
 rw[w64 (by omega)];omega
end Go.Fw
namespace Go.Fw
theorem trim_digN(n V:Nat)(hV:V<B32^n)(hn:n<2^62):PCall P 254 [.lst n (j7 (Q9 B32 n V))] (z0B V):=by
 have:=z0E n (Q9 B32 n V) (j9 _ _ _).symm (z04 (by decide) _ _) (by rw[j9];exact hn)
 rwa[z0p,Nat.mod_eq_of_lt hV]at this
end Go.Fw
open Go
namespace Go.Fw
theorem zbK (m W jj L n : Nat) (ys : List Nat) (hL : L = n + 1) (hyl : ys.length = n) (hn2 : 2 ≤ n) (hy : Dig B32 ys) (hjm : jj + n + 1 ≤ m) (hm : m < 2 ^ 40) (htop : B32 ≤ 2 * ys.getD (n - 1) 0) (hlt : W / B32 ^ jj < val B32 ys * B32) :
    z5L P 264 [some (own (j7 (Q9 B32 m W)))] [.sl 0 jj L 1,.cv (.lst n (j7 ys))] (.cv (.lit (.int .u32 ((W/B32^jj/val B32 ys:Nat):Int)))) [some (own (j7 (Q9 B32 m (W-W/B32^jj/val B32 ys*val B32 ys*B32^jj))))]:=by
 subst hL;exact zbQ m W jj n ys hyl hn2 hy hjm hm htop hlt
end Go.Fw
open Go
namespace Go.Fw
set_option maxRecDepth 100000
theorem zlp(a:Nat)(b:Nat)(h1:decide (zbt a b (dig 4294967296 a).length (dig 4294967296 b).length<(0:Int))=true)(s4_0:(dig 4294967296 a).length<2^62)(s4_1:(dig 4294967296 b).length<2^62):PCall P (250:FuncId) [z0B a,z0B b] (CV.tup [CV.lit (Value.slice none 0 0),CV.lst (dig 4294967296 a).length (j7 (dig 4294967296 a))]):=
 j3 (.r 4 (Go.Fw.cmp_spec (a) (b) s4_0 s4_1) (.b 6 h1 .nil)) (by kernel_rfl)
theorem zkJ(a:Nat)(b:Nat)(h1:decide (zbt a b (dig 4294967296 a).length (dig 4294967296 b).length<(0:Int))=false)(h2:((↑(dig 4294967296 b).length:Int)==(1:Int))=true)(s4_0:(dig 4294967296 a).length<2^62)(s4_1:(dig 4294967296 b).length<2^62)(s15_0:(dig 4294967296 a).length<2^40)(s15_1:0<(dig 4294967296 b).getD 0 0)(s15_2:(dig 4294967296 b).getD 0 0<4294967296)(s24_0:(0:Int)≤(↑(a%(dig 4294967296 b).getD 0 0):Int))(s24_1:(↑(a%(dig 4294967296 b).getD 0 0):Int)<(4294967296:Int))(o3:(0:Int)≤(0:Int)∧(0:Int)<(↑(dig 4294967296 b).length:Int))(o4:(j7 (dig 4294967296 b))[0]?=some (CV.lit (Value.int IntKind.u32 (↑((dig 4294967296 b).getD 0 0):Int))))(o8:[MV.cv (CV.lit (Value.int IntKind.u32 (↑(a%(dig 4294967296 b).getD 0 0):Int)))]=[MV.cv (CV.lit (Value.int IntKind.u32 (↑(a%(dig 4294967296 b).getD 0 0):Int)))]):PCall P (250:FuncId) [z0B a,z0B b] (CV.tup [CV.lst (dig 4294967296 (a/(dig 4294967296 b).getD 0 0)).length (j7 (dig 4294967296 (a/(dig 4294967296 b).getD 0 0))),CV.lst (dig 4294967296 (↑(a%(dig 4294967296 b).getD 0 0):Int).toNat).length (j7 (dig 4294967296 (↑(a%(dig 4294967296 b).getD 0 0):Int).toNat))]):=
 j3 (.c (Go.Fw.cmp_spec (a) (b) s4_0 s4_1) (.o 4 (Or.r (CV.lit (Value.int IntKind.i64 (zbt a b (dig 4294967296 a).length (dig 4294967296 b).length)))) (.b 6 h1 (.b 10 h2 (.c o3 (.c o4 (.c (show 1=1 from(by decide)) (.c (Go.Fw.small_spec (a) ((dig 4294967296 b).getD 0 0) s15_0 s15_1 s15_2) (.c (Go.Fw.trim1_spec ((↑(a%(dig 4294967296 b).getD 0 0):Int)) s24_0 s24_1) (.c o8 (.o 14 (Or.r (CV.lit (Value.int IntKind.u32 (↑((dig 4294967296 b).getD 0 0):Int)))) (.o 15 (Or.r (CV.tup [CV.lst (dig 4294967296 (a/(dig 4294967296 b).getD 0 0)).length (j7 (dig 4294967296 (a/(dig 4294967296 b).getD 0 0))),CV.lit (Value.int IntKind.u32 (↑(a%(dig 4294967296 b).getD 0 0):Int))])) (.o 24 (Or.r (CV.lst (dig 4294967296 (↑(a%(dig 4294967296 b).getD 0 0):Int).toNat).length (j7 (dig 4294967296 (↑(a%(dig 4294967296 b).getD 0 0):Int).toNat))) [[CV.lit (Value.int IntKind.u32 (↑(a%(dig 4294967296 b).getD 0 0):Int))]]) .nil))))))))))))) (by kernel_rfl)
theorem zlU(a:Nat)(b:Nat)(h1:decide (zbt a b (dig 4294967296 a).length (dig 4294967296 b).length<(0:Int))=false)(h2:((↑(dig 4294967296 b).length:Int)==(1:Int))=false)(s4_0:(dig 4294967296 a).length<2^62)(s4_1:(dig 4294967296 b).length<2^62)(s17_0:(dig 4294967296 b).getD ((IntKind.i64.wrap ((↑(dig 4294967296 b).length:Int)-(1:Int))).toNat*1) 0<4294967296)(s21_0:32-z0X ((dig 4294967296 b).getD ((IntKind.i64.wrap ((↑(dig 4294967296 b).length:Int)-(1:Int))).toNat*1) 0)≤31)(s21_1:(dig 4294967296 b).length<2^40)(s22_0:b*2^(32-z0X ((dig 4294967296 b).getD ((IntKind.i64.wrap ((↑(dig 4294967296 b).length:Int)-(1:Int))).toNat*1) 0))<4294967296^((dig 4294967296 b).length+1))(s22_1:(dig 4294967296 b).length+1<2^62)(s26_0:32-z0X ((dig 4294967296 b).getD ((IntKind.i64.wrap ((↑(dig 4294967296 b).length:Int)-(1:Int))).toNat*1) 0)≤31)(s26_1:(dig 4294967296 a).length<2^40)(o3:(0:Int)≤IntKind.i64.wrap ((↑(dig 4294967296 b).length:Int)-(1:Int))∧IntKind.i64.wrap ((↑(dig 4294967296 b).length:Int)-(1:Int))<(↑(dig 4294967296 b).length:Int))(o4:(j7 (dig 4294967296 b))[(IntKind.i64.wrap ((↑(dig 4294967296 b).length:Int)-(1:Int))).toNat*1]?=some (CV.lit (Value.int IntKind.u32 (↑((dig 4294967296 b).getD ((IntKind.i64.wrap ((↑(dig 4294967296 b).length:Int)-(1:Int))).toNat*1) 0):Int))))(o9:List.take (((dig 4294967296 b).length+1)*1) (List.drop 0 (own (j7 (Q9 4294967296 ((dig 4294967296 b).length+1) (b*2^(32-z0X ((dig 4294967296 b).getD ((IntKind.i64.wrap ((↑(dig 4294967296 b).length:Int)-(1:Int))).toNat*1) 0)))))))=List.map MV.cv (j7 (Q9 4294967296 ((dig 4294967296 b).length+1) (b*2^(32-z0X ((dig 4294967296 b).getD ((IntKind.i64.wrap ((↑(dig 4294967296 b).length:Int)-(1:Int))).toNat*1) 0))))))(o11:(0:Int)≤IntKind.i64.wrap ((↑((dig 4294967296 a).length+1):Int)-(↑(dig 4294967296 (b*2^(32-z0X ((dig 4294967296 b).getD ((IntKind.i64.wrap ((↑(dig 4294967296 b).length:Int)-(1:Int))).toNat*1) 0)))).length:Int))∧IntKind.i64.wrap ((↑((dig 4294967296 a).length+1):Int)-(↑(dig 4294967296 (b*2^(32-z0X ((dig 4294967296 b).getD ((IntKind.i64.wrap ((↑(dig 4294967296 b).length:Int)-(1:Int))).toNat*1) 0)))).length:Int))≤IntKind.i64.wrap ((↑((dig 4294967296 a).length+1):Int)-(↑(dig 4294967296 (b*2^(32-z0X ((dig 4294967296 b).getD ((IntKind.i64.wrap ((↑(dig 4294967296 b).length:Int)-(1:Int))).toNat*1) 0)))).length:Int))∧(4:Int)*IntKind.i64.wrap ((↑((dig 4294967296 a).length+1):Int)-(↑(dig 4294967296 (b*2^(32-z0X ((dig 4294967296 b).getD ((IntKind.i64.wrap ((↑(dig 4294967296 b).length:Int)-(1:Int))).toNat*1) 0)))).length:Int))≤(140737488355328:Int)∧IntKind.i64.wrap ((↑((dig 4294967296 a).length+1):Int)-(↑(dig 4294967296 (b*2^(32-z0X ((dig 4294967296 b).getD ((IntKind.i64.wrap ((↑(dig 4294967296 b).length:Int)-(1:Int))).toNat*1) 0)))).length:Int))≤(4611686018427387904:Int)∧1=1)(o12:CvL (own (j7 (Q9 4294967296 ((dig 4294967296 a).length+1) (a*2^(32-z0X ((dig 4294967296 b).getD ((IntKind.i64.wrap ((↑(dig 4294967296 b).length:Int)-(1:Int))).toNat*1) 0)))))))(o13:CvL (List.replicate ((IntKind.i64.wrap ((↑((dig 4294967296 a).length+1):Int)-(↑(dig 4294967296 (b*2^(32-z0X ((dig 4294967296 b).getD ((IntKind.i64.wrap ((↑(dig 4294967296 b).length:Int)-(1:Int))).toNat*1) 0)))).length:Int))).toNat*1) (MV.cv (CV.lit (Value.int IntKind.u32 (0:Int)))))){R:CV→Prop}(hR:Ok P (250:FuncId) (loopHead P (250:FuncId) 0) ⟨J3 110 [(8,MV.cv (CV.lit (Value.int IntKind.i64 (↑(32-z0X ((dig 4294967296 b).getD ((IntKind.i64.wrap ((↑(dig 4294967296 b).length:Int)-(1:Int))).toNat*1) 0)):Int)))),(9,MV.cv (CV.lst (dig 4294967296 (b*2^(32-z0X ((dig 4294967296 b).getD ((IntKind.i64.wrap ((↑(dig 4294967296 b).length:Int)-(1:Int))).toNat*1) 0)))).length (j7 (dig 4294967296 (b*2^(32-z0X ((dig 4294967296 b).getD ((IntKind.i64.wrap ((↑(dig 4294967296 b).length:Int)-(1:Int))).toNat*1) 0))))))),(10,MV.sl 0 0 ((dig 4294967296 a).length+1) 1),(11,MV.cv (CV.lit (Value.int IntKind.i64 (↑(dig 4294967296 (b*2^(32-z0X ((dig 4294967296 b).getD ((IntKind.i64.wrap ((↑(dig 4294967296 b).length:Int)-(1:Int))).toNat*1) 0)))).length:Int)))),(12,MV.sl (0+1) 0 (IntKind.i64.wrap ((↑((dig 4294967296 a).length+1):Int)-(↑(dig 4294967296 (b*2^(32-z0X ((dig 4294967296 b).getD ((IntKind.i64.wrap ((↑(dig 4294967296 b).length:Int)-(1:Int))).toNat*1) 0)))).length:Int))).toNat 1),(13,MV.cv (CV.lit (Value.int IntKind.i64 (IntKind.i64.wrap (IntKind.i64.wrap ((↑((dig 4294967296 a).length+1):Int)-(↑(dig 4294967296 (b*2^(32-z0X ((dig 4294967296 b).getD ((IntKind.i64.wrap ((↑(dig 4294967296 b).length:Int)-(1:Int))).toNat*1) 0)))).length:Int))-(1:Int))))))],[some (own (j7 (Q9 4294967296 ((dig 4294967296 a).length+1) (a*2^(32-z0X ((dig 4294967296 b).getD ((IntKind.i64.wrap ((↑(dig 4294967296 b).length:Int)-(1:Int))).toNat*1) 0)))))),some (List.replicate ((IntKind.i64.wrap ((↑((dig 4294967296 a).length+1):Int)-(↑(dig 4294967296 (b*2^(32-z0X ((dig 4294967296 b).getD ((IntKind.i64.wrap ((↑(dig 4294967296 b).length:Int)-(1:Int))).toNat*1) 0)))).length:Int))).toNat*1) (MV.cv (CV.lit (Value.int IntKind.u32 (0:Int)))))]⟩ (.of R)):X5 P (250:FuncId) [z0B a,z0B b] R:=
 Y9 (keep:=[8,9,10,11,12,13]) (σ:=[4,5]) (.c (Go.Fw.cmp_spec (a) (b) s4_0 s4_1) (.o 4 (Or.r (CV.lit (Value.int IntKind.i64 (zbt a b (dig 4294967296 a).length (dig 4294967296 b).length)))) (.b 6 h1 (.b 10 h2 (.c o3 (.c o4 (.c (show 1=1 from(by decide)) (.c (Go.Fw.lz_spec ((dig 4294967296 b).getD ((IntKind.i64.wrap ((↑(dig 4294967296 b).length:Int)-(1:Int))).toNat*1) 0) s17_0) (.c (Go.Fw.shift_own (b) (32-z0X ((dig 4294967296 b).getD ((IntKind.i64.wrap ((↑(dig 4294967296 b).length:Int)-(1:Int))).toNat*1) 0)) s21_0 s21_1) (.c (Go.Fw.trim_digN ((dig 4294967296 b).length+1) (b*2^(32-z0X ((dig 4294967296 b).getD ((IntKind.i64.wrap ((↑(dig 4294967296 b).length:Int)-(1:Int))).toNat*1) 0))) s22_0 s22_1) (.c o9 (.c (Go.Fw.shift_own (a) (32-z0X ((dig 4294967296 b).getD ((IntKind.i64.wrap ((↑(dig 4294967296 b).length:Int)-(1:Int))).toNat*1) 0)) s26_0 s26_1) (.c o11 (.o 16 (Or.r (CV.lit (Value.int IntKind.u32 (↑((dig 4294967296 b).getD ((IntKind.i64.wrap ((↑(dig 4294967296 b).length:Int)-(1:Int))).toNat*1) 0):Int)))) (.o 17 (Or.r (CV.lit (Value.int IntKind.i64 (↑(32-z0X ((dig 4294967296 b).getD ((IntKind.i64.wrap ((↑(dig 4294967296 b).length:Int)-(1:Int))).toNat*1) 0)):Int)))) (.o 21 (Or.f (MV.sl 0 0 ((dig 4294967296 b).length+1) 1) (j7 (Q9 B32 ((dig B32 b).length+1) (b*2^(32-z0X ((dig 4294967296 b).getD ((IntKind.i64.wrap ((↑(dig 4294967296 b).length:Int)-(1:Int))).toNat*1) 0)))))) (.o 22 (Or.r (CV.lst (dig 4294967296 (b*2^(32-z0X ((dig 4294967296 b).getD ((IntKind.i64.wrap ((↑(dig 4294967296 b).length:Int)-(1:Int))).toNat*1) 0)))).length (j7 (dig 4294967296 (b*2^(32-z0X ((dig 4294967296 b).getD ((IntKind.i64.wrap ((↑(dig 4294967296 b).length:Int)-(1:Int))).toNat*1) 0)))))) [j7 (Q9 4294967296 ((dig 4294967296 b).length+1) (b*2^(32-z0X ((dig 4294967296 b).getD ((IntKind.i64.wrap ((↑(dig 4294967296 b).length:Int)-(1:Int))).toNat*1) 0))))]) (.o 26 (Or.f (MV.sl 0 0 ((dig 4294967296 a).length+1) 1) (j7 (Q9 B32 ((dig B32 a).length+1) (a*2^(32-z0X ((dig 4294967296 b).getD ((IntKind.i64.wrap ((↑(dig 4294967296 b).length:Int)-(1:Int))).toNat*1) 0)))))) (.o 43 .stop .nil))))))))))))))))))) (by kernel_rfl) rfl hR (.cons o12 (.cons o13 .nil))
end Go.Fw
open Go IntKind
namespace Go.Fw
set_option maxRecDepth 100000
theorem zj1(k nv o m:Nat)(j:Int)(W:Nat)(ys qs:List Nat)(h1:decide (j≥0)=true)(s14_0:(i64.wrap (i64.wrap (j+(nv:Int))+1)-j).toNat=nv+1)(s14_1:ys.length=nv)(s14_2:2≤nv)(s14_3:Dig 4294967296 ys)(s14_4:0+j.toNat*1+nv+1≤o)(s14_5:o<2^40)(s14_6:4294967296≤2*ys.getD (nv-1) 0)(s14_7:W/4294967296^(0+j.toNat*1)<val 4294967296 ys*4294967296)(o1:(0:Int)≤j∧j≤i64.wrap (i64.wrap (j+(nv:Int))+1)∧i64.wrap (i64.wrap (j+(nv:Int))+1)≤(o:Int)∧(j=0∨j<i64.wrap (i64.wrap (j+(nv:Int))+1)))(o3:BlksCv [some (own (j7 (Q9 4294967296 o W))),some (own (j7 (Q9 4294967296 o (W-W/4294967296^(0+j.toNat*1)/val 4294967296 ys*val 4294967296 ys*4294967296^(0+j.toNat*1)))))])(o4:(0:Int)≤j∧j<(m:Int))(o5:0+j.toNat*1+1≤(own (j7 qs)).length)(o6:CvL (own (j7 (Q9 4294967296 o (W-W/4294967296^(0+j.toNat*1)/val 4294967296 ys*val 4294967296 ys*4294967296^(0+j.toNat*1))))))(o7:CvL (j6 (own (j7 qs)) (0+j.toNat*1) [.cv (.lit (.int .u32 ↑(W/4294967296^(0+j.toNat*1)/val 4294967296 ys)))])){R:Goal}(hn:J0 R.n [0,1]=true)(hR:Ok P 250 (loopHead P 250 0) ⟨J3 110 [(8,.cv (.lit (.int .i64 (k:Int)))),(9,.cv (.lst nv (j7 ys))),(10,.sl 0 0 o 1),(11,.cv (.lit (.int .i64 (nv:Int)))),(12,.sl (0+1) 0 m 1),(13,.cv (.lit (.int .i64 (i64.wrap (j-1)))))],[some (own (j7 (Q9 4294967296 o (W-W/4294967296^(0+j.toNat*1)/val 4294967296 ys*val 4294967296 ys*4294967296^(0+j.toNat*1))))),some (j6 (own (j7 qs)) (0+j.toNat*1) [.cv (.lit (.int .u32 ↑(W/4294967296^(0+j.toNat*1)/val 4294967296 ys)))])]⟩ R):Ok P 250 (loopHead P 250 0) ⟨J3 110 [(8,.cv (.lit (.int .i64 (k:Int)))),(9,.cv (.lst nv (j7 ys))),(10,.sl 0 0 o 1),(11,.cv (.lit (.int .i64 (nv:Int)))),(12,.sl 1 0 m 1),(13,.cv (.lit (.int .i64 j)))],[some (own (j7 (Q9 B32 o W))),some (own (j7 qs))]⟩ R:=
 z0W (keep:=[8,9,10,11,12,13]) (σ:=[0,1]) (.b 3 h1 (.c o1 (.c (zbK (o) (W) (0+j.toNat*1) ((i64.wrap (i64.wrap (j+(nv:Int))+1)-j).toNat) (nv) (ys) s14_0 s14_1 s14_2 s14_3 s14_4 s14_5 s14_6 s14_7) (.c o3 (.c o4 (.c o5 (.o 14 (.m [0] (.cv (.lit (.int .u32 ↑(W/4294967296^(0+j.toNat*1)/val 4294967296 ys)))) [some (own (j7 (Q9 B32 o (W-W/B32^(0+j.toNat*1)/val B32 ys*val B32 ys*B32^(0+j.toNat*1)))))]) (.o 20 .stop .nil)))))))) (by kernel_rfl) rfl hn hR (.cons o6 (.cons o7 .nil))
theorem ziE(k nv o m:Nat)(j:Int)(W:Nat)(ys qs:List Nat)(h1:decide (j≥0)=false)(o1:(0:Int)≤0∧(0:Int)≤nv∧(nv:Int)≤o∧((0:Int)=0∨(0:Int)<nv))(o2:CvL (own (j7 (Q9 4294967296 o W))))(o3:CvL (own (j7 qs))){R:Goal}(hn:J0 R.n [0,1]=true)(hR:Ok P 250 (loopHead P 250 1) ⟨J3 110 [(8,.cv (.lit (.int .i64 (k:Int)))),(10,.sl 0 0 o 1),(12,.sl (0+1) 0 m 1),(14,.sl 0 0 ((nv:Int)-0).toNat 1),(82,.cv (.lit (.int .i64 (↑((nv:Int)-0).toNat:Int)))),(83,.cv (.lit (.int .i64 0)))],[some (own (j7 (Q9 4294967296 o W))),some (own (j7 qs))]⟩ R):Ok P 250 (loopHead P 250 0) ⟨J3 110 [(8,.cv (.lit (.int .i64 (k:Int)))),(9,.cv (.lst nv (j7 ys))),(10,.sl 0 0 o 1),(11,.cv (.lit (.int .i64 (nv:Int)))),(12,.sl 1 0 m 1),(13,.cv (.lit (.int .i64 j)))],[some (own (j7 (Q9 B32 o W))),some (own (j7 qs))]⟩ R:=
 z0W (keep:=[8,10,12,14,82,83]) (σ:=[0,1]) (.b 3 h1 (.c o1 (.o 11 .stop .nil))) (by kernel_rfl) rfl hn hR (.cons o2 (.cons o3 .nil))
theorem zlc(k nv o m i:Nat)(zs qs:List Nat)(h1:decide ((i:Int)<nv)=true)(o1:(0:Int)≤i64.wrap ((i:Int)+1)∧i64.wrap ((i:Int)+1)<(o:Int))(o2:(own (j7 zs))[0+(i64.wrap ((i:Int)+1)).toNat*1]?=some (.cv (.lit (.int .u32 (↑(zs.getD (0+(i64.wrap ((i:Int)+1)).toNat*1) 0):Int)))))(o5:(0:Int)≤i∧(i:Int)<o)(o6:(own (j7 zs))[0+(i:Int).toNat*1]?=some (.cv (.lit (.int .u32 ↑(zs.getD (0+(i:Int).toNat*1) 0)))))(o8:(0:Int)≤k)(o9:(0:Int)≤i∧(i:Int)<nv)(o10:0+(i:Int).toNat*1+1≤(own (j7 zs)).length)(o11:CvL (j6 (own (j7 zs)) (0+(i:Int).toNat*1) [.cv (.lit (.int .u32 (u32.wrap ((V6 BinOp.or u64 (u64.wrap (u64.wrap (↑(zs.getD (0+(i64.wrap ((i:Int)+1)).toNat*1) 0):Int)*4294967296)) (u64.wrap (↑(zs.getD (0+(i:Int).toNat*1) 0):Int))).fdiv ((2:Int)^min (k:Int).toNat 64)))))]))(o12:CvL (own (j7 qs))){R:Goal}(hn:J0 R.n [0,1]=true)(hR:Ok P 250 (loopHead P 250 1) ⟨J3 110 [(8,.cv (.lit (.int .i64 (k:Int)))),(10,.sl 0 0 o 1),(12,.sl (0+1) 0 m 1),(14,.sl 0 0 nv 1),(82,.cv (.lit (.int .i64 (nv:Int)))),(83,.cv (.lit (.int .i64 (i64.wrap ((i:Int)+1)))))],[some (j6 (own (j7 zs)) (0+(i:Int).toNat*1) [.cv (.lit (.int .u32 (u32.wrap ((V6 BinOp.or u64 (u64.wrap (u64.wrap (↑(zs.getD (0+(i64.wrap ((i:Int)+1)).toNat*1) 0):Int)*4294967296)) (u64.wrap (↑(zs.getD (0+(i:Int).toNat*1) 0):Int))).fdiv ((2:Int)^min (k:Int).toNat 64)))))]),some (own (j7 qs))]⟩ R):Ok P 250 (loopHead P 250 1) ⟨J3 110 [(8,.cv (.lit (.int .i64 (k:Int)))),(10,.sl 0 0 o 1),(12,.sl 1 0 m 1),(14,.sl 0 0 nv 1),(82,.cv (.lit (.int .i64 (nv:Int)))),(83,.cv (.lit (.int .i64 (i:Int))))],[some (own (j7 zs)),some (own (j7 qs))]⟩ R:=
 z0W (keep:=[8,10,12,14,82,83]) (σ:=[0,1]) (.b 2 h1 (.c o1 (.e 11 o2 (.c (eqn 1) (.c (nn 32) (.c o5 (.e 17 o6 (.c (eqn 1) (.c o8 (.c o9 (.c o10 (.o 27 .stop .nil)))))))))))) (by kernel_rfl) rfl hn hR (.cons o11 (.cons o12 .nil))
theorem zl8(k nv o m i:Nat)(zs qs:List Nat)(h1:decide ((i:Int)<nv)=false)(s4_0:m=(List.take m qs).length)(s4_1:Dig 4294967296 (List.take m qs))(s4_2:(List.take m qs).length<2^62)(s6_0:nv=(List.take nv zs).length)(s6_1:Dig 4294967296 (List.take nv zs))(s6_2:(List.take nv zs).length<2^62)(o2:List.take (m*1) (List.drop 0 (own (j7 qs)))=List.map MV.cv (j7 (List.take m qs)))(o4:List.take (nv*1) (List.drop 0 (own (j7 zs)))=List.map MV.cv (j7 (List.take nv zs))){R:Goal}(hR:R.c (.tup [.lst (dig 4294967296 (val 4294967296 (List.take m qs))).length (j7 (dig 4294967296 (val 4294967296 (List.take m qs)))),.lst (dig 4294967296 (val 4294967296 (List.take nv zs))).length (j7 (dig 4294967296 (val 4294967296 (List.take nv zs))))])):Ok P 250 (loopHead P 250 1) ⟨J3 110 [(8,.cv (.lit (.int .i64 (k:Int)))),(10,.sl 0 0 o 1),(12,.sl 1 0 m 1),(14,.sl 0 0 nv 1),(82,.cv (.lit (.int .i64 (nv:Int)))),(83,.cv (.lit (.int .i64 (i:Int))))],[some (own (j7 zs)),some (own (j7 qs))]⟩ R:=
 okT (.b 2 h1 (.rs 4 [j7 (List.take m qs)] (z0E (m) (List.take m qs) s4_0 s4_1 s4_2) (.c o2 (.rs 6 [j7 (List.take nv zs)] (z0E (nv) (List.take nv zs) s6_0 s6_1 s6_2) (.c o4 .nil))))) (by kernel_rfl) hR
end Go.Fw
