/- A part of the proof that the law returns true for every input: an executor for the model's code, and what functions of the program compute. -/
import Derived.Test.YtcafjpldfnegiaaDoorB11
import Derived.Test.YtcafjpldfnegiaaDoorB15
import Derived.Test.YtcafjpldfnegiaaDoorB16
import Derived.Test.YtcafjpldfnegiaaDoorB17
import Derived.Test.YtcafjpldfnegiaaDoorB18
import Derived.Test.YtcafjpldfnegiaaDoorB20
import Derived.KernelRfl
open Go IntKind
namespace Go.Fw
set_option maxRecDepth 100000
theorem z7H {R : Goal} (hn : j7 R.n [0] = true) (hF : R.Fresh) (xs : List Nat) (k : Nat) (hk : k ≤ 31) (hlen : xs.length < 2 ^ 40) (hx : Dig B32 xs)
    (hR:R.m (.sl 0 0 (xs.length+1) 1) [some (own (j0 (Q7 B32 (xs.length+1) (val B32 xs*2^k))))]):
    ∀(q i:Nat),xs.length-i=q→i≤xs.length→
     Ok P 84 (loopHead P 84 0) ⟨J6 40 [(1,.cv (.lit (.int .i64 k))),(5,.sl 0 0 (xs.length+1) 1),(12,.cv (.lst xs.length (j0 xs))),(13,.cv (.lit (.int .i64 xs.length))),(14,.cv (.lit (.int .i64 i)))],
      [some (own (j0 (Q7 B32 (xs.length+1) (val B32 (xs.take i)*2^k))))]⟩ R:=by
 intro q
 induction q with
 |zero=>
  intro i hq hi
  have:i=xs.length:=by omega
  subst this
  rw[List.take_length]
  exact zfD _ _ _ _ _ _ (by simp) (J8 _) hF hR
 |succ q ih=>
  intro i hq hi
  have hlt:i<xs.length:=by omega
  have hl:=j5 B32 (xs.length+1) (val B32 (xs.take i)*2^k)
  have dx:=hx.get (by decide) i
  have htk:=Y0 (b:=B32) hlt
  have hvlt:val B32 (xs.take i)<B32^i:=by
   have:=z0u (by decide:0<B32) _ (hx.take i)
   rw[List.length_take,Nat.min_eq_left (by omega)]at this
   exact this
  have hgx:=J9 hlt
  have hdg:=X0 B32 (xs.length+1) (val B32 (xs.take i)*2^k) i (by omega)
  have e1:(i:Int).toNat*1=i:=by omega
  have e2:(0:Nat)+(i:Int).toNat*1=i:=by omega
  have e3:i64.wrap ((i:Int)+1)=((i+1:Nat):Int):=by rw[w64 (by omega)];omega
  have e4:(0:Nat)+((i+1:Nat):Int).toNat*1=i+1:=by omega
  have e5:min ((k:Nat):Int).toNat 32=k:=by omega
  have e6:min ((k:Nat):Int).toNat 64=k:=by omega
  have hK:(2:Nat)^k*2^(32-k)=B32:=by rw[←Nat.pow_add,show k+(32-k)=32 by omega]
  have hKp:0<(2:Nat)^k:=Nat.pow_pos (by decide)
  have hK31:(2:Nat)^k≤2147483648:=by rw[show(2147483648:Nat)=2^31 from rfl];exact Nat.pow_le_pow_right (by decide) hk
  generalize hx0:xs.getD i 0=x at*
  generalize hv0:val B32 (xs.take i)=v at*
  have hlo:x*2^k%B32=(x%2^(32-k))*2^k:=by rw[←hK,Nat.mul_comm x,Nat.mul_mod_mul_left,Nat.mul_comm]
  have hdlt:v*2^k/B32^i<2^k:=by
   rw[Nat.div_lt_iff_lt_mul (Nat.pow_pos (by decide)),Nat.mul_comm (2^k)]
   exact Nat.mul_lt_mul_of_pos_right hvlt hKp
  have hdm:v*2^k/B32^i%B32=v*2^k/B32^i:=Nat.mod_eq_of_lt (by simp only[B32]at*;omega)
  have hsum:v*2^k/B32^i%B32+x*2^k%B32<B32:=by
   rw[hdm,hlo]
   have h1:x%2^(32-k)<2^(32-k):=Nat.mod_lt _ (Nat.pow_pos (by decide))
   have h2:(x%2^(32-k)+1)*2^k≤2^(32-k)*2^k:=Nat.mul_le_mul_right _ h1
   rw[Nat.add_mul,Nat.one_mul,Nat.mul_comm (2^(32-k)),hK]at h2
   omega
  have a1:u32.wrap ((x:Int)*2^k)=((x*2^k%B32:Nat):Int):=by
   rw[show(x:Int)*2^k=((x*2^k:Nat):Int) by norm_cast,z5o];simp only[B32];omega
  have hxk:x*2^k<18446744073709551616:=by
   have:x*2^k≤4294967295*2147483648:=Nat.mul_le_mul (by simp only[B32]at dx;omega) hK31
   omega
  have a2:u32.wrap ((u64.wrap (u64.wrap (x:Int)*2^k)).fdiv 4294967296)=((x*2^k/B32:Nat):Int):=by
   have:u64.wrap (x:Int)=x:=by rw[z12];simp only[B32]at dx;omega
   rw[this,show(x:Int)*2^k=((x*2^k:Nat):Int) by norm_cast,z12,fdp _ (by decide),z5o];simp only[B32];omega
  have hhi:x*2^k/B32<B32:=by
   have:x*2^k≤4294967295*2147483648:=Nat.mul_le_mul (by simp only[B32]at dx;omega) hK31
   simp only[B32];omega
  have a3:Y2 BinOp.or u32 (((Q7 B32 (xs.length+1) (v*2^k)).getD i 0:Nat):Int) ((x*2^k%B32:Nat):Int)=((v*2^k/B32^i%B32+x*2^k%B32:Nat):Int):=by
   rw[hdg,z9I (Nat.mod_lt _ (by decide)) (Nat.mod_lt _ (by decide)),hdm,hlo,Nat.or_comm,z0R k hdlt,Nat.add_comm]
  have s1:=z0Y (by decide:0<B32) (xs.length+1) (v*2^k) i (x*2^k%B32) (by omega) hsum
  have hz:(v*2^k+x*2^k%B32*B32^i)/B32^(i+1)=0:=by
   rw[Nat.pow_succ,←Nat.div_div_eq_div_mul,Nat.add_mul_div_right _ _ (Nat.pow_pos (by decide)),←hdm]
   exact Nat.div_eq_of_lt hsum
  have s2:=z0Y (by decide:0<B32) (xs.length+1) (v*2^k+x*2^k%B32*B32^i) (i+1) (x*2^k/B32) (by omega) (by rw[hz];simpa using hhi)
  rw[hz,Nat.zero_mod,Nat.zero_add]at s2
  have hfin:v*2^k+x*2^k%B32*B32^i+x*2^k/B32*B32^(i+1)=(v+B32^i*x)*2^k:=by
   have hm:=Nat.mod_add_div (x*2^k) B32
   rw[Nat.add_mul,show B32^i*x*2^k=x*2^k*B32^i by rw[Nat.mul_assoc,Nat.mul_comm]]
   conv=>rhs;rw[←hm]
   rw[Nat.pow_succ,Nat.add_mul,show B32*(x*2^k/B32)*B32^i=x*2^k/B32*(B32^i*B32) by rw[Nat.mul_comm B32,Nat.mul_assoc,Nat.mul_comm B32]]
   omega
  have c1:j4 (own (j0 (Q7 B32 (xs.length+1) (v*2^k)))) i [MV.cv (CV.lit (.int .u32 ((v*2^k/B32^i%B32+x*2^k%B32:Nat):Int)))]=own (j0 (Q7 B32 (xs.length+1) (v*2^k+x*2^k%B32*B32^i))):=by
   rw[J0 (by omega),s1]
  have c2:j4 (own (j0 (Q7 B32 (xs.length+1) (v*2^k+x*2^k%B32*B32^i)))) (i+1) [MV.cv (CV.lit (.int .u32 ((x*2^k/B32:Nat):Int)))]=own (j0 (Q7 B32 (xs.length+1) ((v+B32^i*x)*2^k))):=by
   rw[J0 (by rw[j5];omega),s2,hfin]
  refine zex _ _ _ _ _ _ (by simpa using hlt) (by omega) (by rw[e1,hx0];exact hgx) (by omega) (by rw[e2];exact U1 (J9 (by omega))) (by omega) (by omega) (by rw[e2,J4,j9];omega) (by omega) (by rw[e3];omega) ?_ ?_ hn ?_
  · rw[e3,e4,e2,e1,e5,hx0,a1,a3,c1,J4,j9,j5];omega
  · rw[e3,e4,e2,e1,e5,e6,hx0,a1,a2,a3,c1,c2];exact J8 _
  · rw[e3,e4,e2,e1,e5,e6,hx0,a1,a2,a3,c1,c2,←htk]
    exact ih (i+1) (by omega) (by omega)
theorem z5t(a k:Nat)(hk:k≤31)(ha:(dig B32 a).length<2^40):z50 P 84 [X5 a,J1 k] (.sl 0 0 ((dig B32 a).length+1) 1) (j0 (Q7 B32 ((dig B32 a).length+1) (a*2^k))):=by
 have e1:i64.wrap (((dig B32 a).length:Int)+1)=(((dig B32 a).length+1:Nat):Int):=by rw[w64 (by omega)];omega
 refine zeh _ _ _ (by rw[e1];omega) (by rw[Y6];exact J8 _) ?_
 rw[e1,show((((dig B32 a).length+1:Nat):Int)).toNat=(dig B32 a).length+1 by omega,Y6,Nat.mul_one]
 have:=z7H (R:= .fresh (z3F (fun x y=>x= .sl 0 0 ((dig B32 a).length+1) 1∧y=j0 (Q7 B32 ((dig B32 a).length+1) (a*2^k))))) rfl ⟨rfl,rfl⟩ (dig B32 a) k hk ha (V7 (by decide) _) (by rw[Z9 (by decide)];exact⟨_,rfl,rfl,rfl⟩) _ 0 rfl (Nat.zero_le _)
 rw[List.take_zero,show val B32 []=0 from rfl,Nat.zero_mul,z19]at this
 exact this
def len8tab:ByteArray:=⟨(show List UInt8 from([0,1]:List UInt8)++List.replicate 2 2++List.replicate 4 3++List.replicate 8 4++List.replicate 16 5++List.replicate 32 6++List.replicate 64 7++List.replicate 128 8).toArray⟩
theorem z9z(x:Int)(h1:decide (x≥65536)=true)(h2:decide (x.fdiv ((2:Int)^min (Int.toNat (16:Int)) u32.bits)≥256)=true)(o4:(0:Int)≤u8.wrap ((x.fdiv 65536).fdiv 256)∧u8.wrap ((x.fdiv 65536).fdiv 256)<256):PCall P 90 [.lit (.int .u32 x)] (.lit (.int .i64 (i64.wrap ((24:Int)+i64.wrap (↑(len8tab.data.getD (u8.wrap ((x.fdiv 65536).fdiv 256)).toNat (OfNat.ofNat 0)).toNat:Int))))):=
 j3 (.b 3 h1 (.c (nn 16) (.b 10 h2 (.c (nn 8) (.c o4 .nil))))) (by kernel_rfl)
theorem z8p(x:Int)(h1:decide (x≥65536)=true)(h2:decide (x.fdiv ((2:Int)^min (Int.toNat (16:Int)) u32.bits)≥256)=false)(o3:(0:Int)≤u8.wrap (x.fdiv 65536)∧u8.wrap (x.fdiv 65536)<256):PCall P 90 [.lit (.int .u32 x)] (.lit (.int .i64 (i64.wrap ((16:Int)+i64.wrap (↑(len8tab.data.getD (u8.wrap (x.fdiv 65536)).toNat (OfNat.ofNat 0)).toNat:Int))))):=
 j3 (.b 3 h1 (.c (nn 16) (.b 10 h2 (.c o3 .nil)))) (by kernel_rfl)
theorem z8Q(x:Int)(h1:decide (x≥65536)=false)(h2:decide (x≥256)=true)(o3:(0:Int)≤u8.wrap (x.fdiv 256)∧u8.wrap (x.fdiv 256)<256):PCall P 90 [.lit (.int .u32 x)] (.lit (.int .i64 (i64.wrap ((8:Int)+i64.wrap (↑(len8tab.data.getD (u8.wrap (x.fdiv 256)).toNat (OfNat.ofNat 0)).toNat:Int))))):=
 j3 (.b 3 h1 (.b 6 h2 (.c (nn 8) (.c o3 .nil)))) (by kernel_rfl)
theorem z96(x:Int)(h1:decide (x≥65536)=false)(h2:decide (x≥256)=false)(o2:(0:Int)≤u8.wrap x∧u8.wrap x<256):PCall P 90 [.lit (.int .u32 x)] (.lit (.int .i64 (i64.wrap ((0:Int)+i64.wrap (↑(len8tab.data.getD (u8.wrap x).toNat (OfNat.ofNat 0)).toNat:Int))))):=
 j3 (.b 3 h1 (.b 6 h2 (.c o2 .nil))) (by kernel_rfl)
def U6(n:Nat):Nat:=if n=0 then 0 else Nat.log2 n+1
theorem z3p{n k:Nat}(h:n≠0):U6 n=k+1↔2^k≤n∧n<2^(k+1):=by
 rw[U6,if_neg h,←Nat.log2_eq_iff h];omega
theorem zcM: ∀n,n<256→(len8tab.data.getD n 0).toNat=U6 n:=by decide
theorem z2P(n k:Nat)(h:2^k≤n):U6 n=k+U6 (n/2^k):=by
 have hp:0<(2:Nat)^k:=Nat.pow_pos (by decide)
 have hn:n≠0:=by omega
 have hd:n/2^k≠0:=by have:=Nat.div_pos h hp;omega
 have h2:U6 (n/2^k)≠0:=by rw[U6,if_neg hd];omega
 obtain⟨j,hj⟩: ∃j,U6 (n/2^k)=j+1:=⟨U6 (n/2^k)-1,by omega⟩
 obtain⟨a,b⟩:=(z3p hd).1 hj
 rw[hj,show k+(j+1)=(k+j)+1 by omega,z3p hn]
 constructor
 · rw[Nat.pow_add,Nat.mul_comm];exact(Nat.le_div_iff_mul_le hp).1 a
 · rw[show k+j+1=(j+1)+k by omega,Nat.pow_add];exact(Nat.div_lt_iff_lt_mul hp).1 b
theorem z41: ∀n,n<256→U6 n≤8:=by decide
theorem z4V{y:Nat}{z:Int}(hy:y<256)(hz:z=y):i64.wrap (((len8tab.data.getD (u8.wrap z).toNat (OfNat.ofNat 0)).toNat:Nat):Int)=(U6 y:Nat):=by
 subst hz
 have h9:u8.wrap (y:Int)=y:=by rw[wr8];omega
 have h3:=z41 y hy
 rw[h9,show(OfNat.ofNat 0:UInt8)=0 from rfl,Int.toNat_natCast,zcM _ hy,w64 (by omega)]
theorem za4(z:Int):0≤u8.wrap z∧u8.wrap z<256:=by rw[wr8];omega
theorem z7s(x:Nat)(hx:x<B32):PCall P 90 [z2v x] (J1 (U6 x)):=by
 simp only[B32]at hx
 have e16':(x:Int).fdiv 65536=((x/65536:Nat):Int):=by rw[fdp _ (by decide)];omega
 have e16:(x:Int).fdiv ((2:Int)^min (Int.toNat 16) u32.bits)=((x/65536:Nat):Int):=by
  rw[show(2:Int)^min (Int.toNat 16) u32.bits=65536 from rfl,e16']
 by_cases h1:65536≤x
 · have hs:=z2P x 16 (by simpa using h1)
   rw[show(2:Nat)^16=65536 from rfl]at hs
   by_cases h2:256≤x/65536
   · have hs2:=z2P (x/65536) 8 (by simpa using h2)
     rw[show(2:Nat)^8=256 from rfl]at hs2
     have hl:=z41 (x/65536/256) (by omega)
     refine(z9z x (by simp;omega) (by rw[e16];simp;omega) (za4 _)).eq (z4d ?_)
     rw[z4V (y:=x/65536/256) (by omega) (by rw[e16',fdp _ (by decide)];omega),w64 (by omega)]
     omega
   · have hl:=z41 (x/65536) (by omega)
     refine(z8p x (by simp;omega) (by rw[e16];simp;omega) (za4 _)).eq (z4d ?_)
     rw[z4V (y:=x/65536) (by omega) e16',w64 (by omega)]
     omega
 · by_cases h2:256≤x
   · have hs2:=z2P x 8 (by simpa using h2)
     rw[show(2:Nat)^8=256 from rfl]at hs2
     have hl:=z41 (x/256) (by omega)
     refine(z8Q x (by simp;omega) (by simp;omega) (za4 _)).eq (z4d ?_)
     rw[z4V (y:=x/256) (by omega) (by rw[fdp _ (by decide)];omega),w64 (by omega)]
     omega
   · have hl:=z41 x (by omega)
     refine(z96 x (by simp;omega) (by simp;omega) (za4 _)).eq (z4d ?_)
     rw[z4V (y:=x) (by omega) rfl,w64 (by omega)]
     omega
theorem zaN(x:Nat)(a:x<4294967296):PCall P 83 [.lit (.int .u32 (x:Int))] (.lit (.int .i64 (i64.wrap ((32:Int)-(↑(U6 x):Int))))):=
 j3 (.r 2 (z7s x a) .nil) (by kernel_rfl)
theorem z5z{x:Nat}(hx:x<B32):U6 x≤32:=by
 rcases Nat.eq_zero_or_pos x with h|h
 · subst h;decide
 · have hne:x≠0:=by omega
   have:U6 x≠0:=by rw[U6,if_neg hne];omega
   obtain⟨j,hj⟩: ∃j,U6 x=j+1:=⟨U6 x-1,by omega⟩
   have h2:=((z3p hne).1 hj).1
   rcases Nat.lt_or_ge 31 j with h3|h3
   · have:2^32≤2^j:=Nat.pow_le_pow_right (by decide) h3
     simp only[B32]at hx;omega
   · omega
theorem zcT(x:Nat)(hx:x<B32):PCall P 83 [z2v x] (J1 (32-U6 x:Nat)):=by
 have:=z5z hx
 refine(zaN x hx).eq (z4d ?_)
 rw[w64 (by omega)];omega
theorem z9c(n V:Nat)(hV:V<B32^n)(hn:n<2^62):PCall P 62 [.lst n (j0 (Q7 B32 n V))] (X5 V):=by
 have:=X6 n (Q7 B32 n V) (j5 _ _ _).symm (z0p (by decide) _ _) (by rw[j5];exact hn)
 rwa[z0w,Nat.mod_eq_of_lt hV]at this
theorem z7u (m W jj L n : Nat) (ys : List Nat) (hL : L = n + 1) (hyl : ys.length = n) (hn2 : 2 ≤ n) (hy : Dig B32 ys) (hjm : jj + n + 1 ≤ m) (hm : m < 2 ^ 40) (htop : B32 ≤ 2 * ys.getD (n - 1) 0) (hlt : W / B32 ^ jj < val B32 ys * B32) :
    z2j P 85 [some (own (j0 (Q7 B32 m W)))] [.sl 0 jj L 1,.cv (.lst n (j0 ys))] (.cv (.lit (.int .u32 ((W/B32^jj/val B32 ys:Nat):Int)))) [some (own (j0 (Q7 B32 m (W-W/B32^jj/val B32 ys*val B32 ys*B32^jj))))]:=by
 subst hL;exact z7Z m W jj n ys hyl hn2 hy hjm hm htop hlt
theorem zdN(n l:Nat)(i:Int)(xs bs:List Nat)(h1:decide (i≥0)=true)(o1:(0:Int)≤i∧i<(n:Int))(o2:(j0 xs)[i.toNat*1]?=some (.lit (.int .u32 ↑(xs.getD (i.toNat*1) 0))))(o5:(0:Int)≤i∧i<(n:Int))(o6:(j0 xs)[i.toNat*1]?=some (.lit (.int .u32 ↑(xs.getD (i.toNat*1) 0))))(o9:(0:Int)≤i∧i<(n:Int))(o10:(j0 xs)[i.toNat*1]?=some (.lit (.int .u32 ↑(xs.getD (i.toNat*1) 0))))(o13:(0:Int)≤i∧i<(n:Int))(o14:(j0 xs)[i.toNat*1]?=some (.lit (.int .u32 ↑(xs.getD (i.toNat*1) 0))))(o16:(l+4)*1≤1099511627776)(o17:l+4≤1099511627776)(o18:(own (u8s bs)).length=l*1)(o19:zdi [.cv (.lit (.int .u8 (u8.wrap ((↑(xs.getD (i.toNat*1) 0):Int).fdiv 16777216)))),.cv (.lit (.int .u8 (u8.wrap ((↑(xs.getD (i.toNat*1) 0):Int).fdiv 65536)))),.cv (.lit (.int .u8 (u8.wrap ((↑(xs.getD (i.toNat*1) 0):Int).fdiv 256)))),.cv (.lit (.int .u8 (u8.wrap (↑(xs.getD (i.toNat*1) 0):Int))))])(o21:CvL (own (u8s bs)++[.cv (.lit (.int .u8 (u8.wrap ((↑(xs.getD (i.toNat*1) 0):Int).fdiv 16777216)))),.cv (.lit (.int .u8 (u8.wrap ((↑(xs.getD (i.toNat*1) 0):Int).fdiv 65536)))),.cv (.lit (.int .u8 (u8.wrap ((↑(xs.getD (i.toNat*1) 0):Int).fdiv 256)))),.cv (.lit (.int .u8 (u8.wrap (↑(xs.getD (i.toNat*1) 0):Int))))])){R:Goal}(hn:j7 R.n [2]=true)(hR:Ok P 63 (loopHead P 63 0) ⟨J6 45 [(0,.cv (.lst n (j0 xs))),(3,.sl 0 0 (l+4) 1),(4,.cv (.lit (.int .i64 (i64.wrap (i-1)))))],[some (own (u8s bs)++[.cv (.lit (.int .u8 (u8.wrap ((↑(xs.getD (i.toNat*1) 0):Int).fdiv 16777216)))),.cv (.lit (.int .u8 (u8.wrap ((↑(xs.getD (i.toNat*1) 0):Int).fdiv 65536)))),.cv (.lit (.int .u8 (u8.wrap ((↑(xs.getD (i.toNat*1) 0):Int).fdiv 256)))),.cv (.lit (.int .u8 (u8.wrap (↑(xs.getD (i.toNat*1) 0):Int))))])]⟩ R):Ok P 63 (loopHead P 63 0) ⟨J6 45 [(0,.cv (.lst n (j0 xs))),(3,.sl 0 0 l 1),(4,.cv (.lit (.int .i64 i)))],[some (own (u8s bs))]⟩ R:=
 z39 (keep:=[0,3,4]) (σ:=[2]) (.b 3 h1 (.c o1 (.c o2 (.c (eqn 1) (.c (nn 24) (.c o5 (.c o6 (.c (eqn 1) (.c (nn 16) (.c o9 (.c o10 (.c (eqn 1) (.c (nn 8) (.c o13 (.l 8 o14 (.c (eqn 1) (.c o16 (.c o17 (.c o18 (.c o19 (.c (eqn 4) (.o 14 (.r (.lit (.int .u32 ↑(xs.getD (i.toNat*1) 0)))) (.o 20 (.r (.lit (.int .u32 ↑(xs.getD (i.toNat*1) 0)))) (.o 26 (.r (.lit (.int .u32 ↑(xs.getD (i.toNat*1) 0)))) (.o 34 .stop .nil))))))))))))))))))))))))) (by kernel_rfl) rfl hn hR (.cons o21 .nil)
theorem zdn(n l:Nat)(i:Int)(xs bs:List Nat)(h1:decide (i≥0)=false)(o1:List.take l (List.drop 0 (own (u8s bs)))=List.map (fun b=>z14 u8 (↑b.toNat:Int)) (List.map UInt8.ofNat bs))(o2:(z0M bs).size=l){R:Goal}(hR:R.c (.lit (.string (bytesOf (Y5 (z0M bs)))))):Ok P 63 (loopHead P 63 0) ⟨J6 45 [(0,.cv (.lst n (j0 xs))),(3,.sl 0 0 l 1),(4,.cv (.lit (.int .i64 i)))],[some (own (u8s bs))]⟩ R:=
 okT (.b 3 h1 (.c o1 (.c o2 (.c (zcB (z0M bs)) (.o 5 (.r (.lit (.string (z0M bs)))) (.o 6 (.r (.lit (.string (bytesOf (Y5 (z0M bs)))))) .nil)))))) (by kernel_rfl) hR
theorem z7b(bs:List Nat):z0M bs=z0z bs.reverse:=by simp[z0M,z0z]
theorem z5N{bs:List Nat}(h:Dig 256 bs):Y5 (z0M bs)=val 256 bs.reverse:=by
 rw[z7b,z2T (fun x hx=>h x (by simpa using hx))]
theorem zaa {R : Goal} (_hn : j7 R.n [0] = true) (hn2 : j7 R.n [2] = true) (xs : List Nat) (hl : xs.length < 2 ^ 36) (hx : Dig B32 xs) (hR : R.c (z08 (bytesOf (val B32 xs)))) :
    ∀(k:Nat) (bs:List Nat),k≤xs.length→bs.length=4*(xs.length-k)→Dig 256 bs→val 256 bs.reverse=val B32 (xs.drop k)→
     Ok P 63 (loopHead P 63 0) ⟨J6 45 [(0,.cv (.lst xs.length (j0 xs))),(3,.sl 0 0 (4*(xs.length-k)) 1),(4,.cv (.lit (.int .i64 ((k:Int)-1))))],[some (own (u8s bs))]⟩ R:=by
 intro k
 induction k with
 |zero=>
  intro bs _ hb hd hv
  refine zdn _ _ _ _ _ (by simp) ?_ (by rw[z2F,hb]) ?_
  · rw[List.drop_zero,List.take_of_length_le (by rw[J4,z4D,hb];exact Nat.le_refl _)]
    have:=z47 hd
    simpa[z0M]using this
  · rw[z5N hd,hv,List.drop_zero];exact hR
 |succ k ih=>
  intro bs hk hb hd hv
  have e0:((k+1:Nat):Int)-1=(k:Int):=by omega
  have e1:(k:Int).toNat*1=k:=by omega
  have gx:=J9 (xs:=xs) (i:=k) (by omega)
  have dx:=hx.get (by decide) k
  have hdr:=z3Q (b:=B32) xs k
  rw[e0]
  have q1: ∀d:Nat,u8.wrap ((d:Int).fdiv 16777216)=((d/16777216%256:Nat):Int):=by intro d;rw[fdp _ (by decide),wr8];omega
  have q2: ∀d:Nat,u8.wrap ((d:Int).fdiv 65536)=((d/65536%256:Nat):Int):=by intro d;rw[fdp _ (by decide),wr8];omega
  have q3: ∀d:Nat,u8.wrap ((d:Int).fdiv 256)=((d/256%256:Nat):Int):=by intro d;rw[fdp _ (by decide),wr8];omega
  have q4: ∀d:Nat,u8.wrap (d:Int)=((d%256:Nat):Int):=by intro d;rw[wr8];omega
  have hcells: ∀a b c d:Nat,own (u8s bs)++[MV.cv (CV.lit (.int .u8 (a:Int))),MV.cv (CV.lit (.int .u8 (b:Int))),MV.cv (CV.lit (.int .u8 (c:Int))),MV.cv (CV.lit (.int .u8 (d:Int)))]=own (u8s (bs++[a,b,c,d])):=by
   intro a b c d;simp[own,u8s]
  have hone : zdi [MV.cv (CV.lit (.int .u8 (u8.wrap (((xs.getD ((k : Int).toNat * 1) 0 : Nat) : Int).fdiv 16777216)))), MV.cv (CV.lit (.int .u8 (u8.wrap (((xs.getD ((k : Int).toNat * 1) 0 : Nat) : Int).fdiv 65536)))),
      MV.cv (CV.lit (.int .u8 (u8.wrap (((xs.getD ((k:Int).toNat*1) 0:Nat):Int).fdiv 256)))),MV.cv (CV.lit (.int .u8 (u8.wrap ((xs.getD ((k:Int).toNat*1) 0:Nat):Int))))]:=by
   intro m hm
   simp only[List.mem_cons,List.not_mem_nil,or_false]at hm
   rcases hm with rfl|rfl|rfl|rfl<;>rfl
  refine zdN _ _ _ _ _ (by simp) (by omega) (by rw[e1];exact gx) (by omega) (by rw[e1];exact gx) (by omega) (by rw[e1];exact gx) (by omega) (by rw[e1];exact gx) (by omega) (by omega) (by rw[J4,z4D,hb];omega) hone ?_ hn2 ?_
  · rw[e1,q1,q2,q3,q4,hcells];exact J8 _
  · rw[e1,q1,q2,q3,q4,hcells,w64 (by omega)]
    have hb':(bs++[xs.getD k 0/16777216%256,xs.getD k 0/65536%256,xs.getD k 0/256%256,xs.getD k 0%256]).length=4*(xs.length-k):=by simp[hb];omega
    have:=ih (bs++[xs.getD k 0/16777216%256,xs.getD k 0/65536%256,xs.getD k 0/256%256,xs.getD k 0%256]) (by omega) hb' ?_ ?_
    · rw[show 4*(xs.length-(k+1))+4=4*(xs.length-k) by omega];exact this
    · refine hd.append ?_
      intro x hx'
      simp only[List.mem_cons,List.not_mem_nil,or_false]at hx'
      omega
    · rw[hdr,←hv]
      simp only[List.reverse_append,List.reverse_cons,List.reverse_nil,List.nil_append,List.cons_append,val]
      generalize val 256 bs.reverse=t at*
      simp only[B32]at*
      omega
theorem z78(a:Nat)(ha:(dig B32 a).length<2^36):PCall P 63 [X5 a] (z08 (bytesOf a)):=by
 have e1:i64.wrap (4*((dig B32 a).length:Int))=((4*(dig B32 a).length:Nat):Int):=by rw[w64 (by omega)];omega
 refine zc2 _ _ (by rw[e1];omega) (by rw[z5d];exact J8 _) ?_
 rw[z5d,w64 (n:=((dig B32 a).length:Int)-1) (by omega)]
 have:=zaa (R:= .of (fun x=>x=z08 (bytesOf a))) rfl rfl (dig B32 a) ha (V7 (by decide) _) (by rw[Z9 (by decide)];rfl) _ [] (Nat.le_refl _) (by simp) (by intro x hx;simp at hx) (by rw[List.drop_length];rfl)
 rw[Nat.sub_self]at this
 refine Ok.shorten 0 0 rfl ?_
 exact this
theorem za1(a:Nat)(b:Bool)(h1:(b)=true)(d:(dig 4294967296 a).length<2^36):PCall P (45:FuncId) [X5 a,CV.lit (Value.bool b)] (CV.agg [CV.lit (Value.bool !(bytesOf a).toList==[]),CV.lit (Value.string (bytesOf a))]):=
 j3 (.r 2 (z78 a d) (.b 5 h1 (.c (show 2≤2 from(by decide)) .nil))) (by kernel_rfl)
theorem zaS(a:Nat)(b:Bool)(h1:(b)=false)(d:(dig 4294967296 a).length<2^36):PCall P (45:FuncId) [X5 a,CV.lit (Value.bool b)] (CV.agg [CV.lit (Value.bool false),CV.lit (Value.string (bytesOf a))]):=
 j3 (.r 2 (z78 a d) (.b 5 h1 (.c (show 2≤2 from(by decide)) .nil))) (by kernel_rfl)
theorem zbt(n:Int)(a:(0:Int)≤u32.wrap n)(d:u32.wrap n<(4294967296:Int))(e:(0:Int)≤u32.wrap (n.fdiv (4294967296:Int)))(f:u32.wrap (n.fdiv (4294967296:Int))<(4294967296:Int))(o2:[MV.cv (CV.lit (Value.int u32 (u32.wrap n))),MV.cv (CV.lit (Value.int u32 (u32.wrap (n.fdiv (4294967296:Int)))))]=[MV.cv (CV.lit (Value.int u32 (u32.wrap n))),MV.cv (CV.lit (Value.int u32 (u32.wrap (n.fdiv (4294967296:Int)))))]):PCall P (44:FuncId) [CV.lit (Value.int u64 n)] (CV.lst (dig 4294967296 (u32.wrap n+(4294967296:Int)*u32.wrap (n.fdiv (4294967296:Int))).toNat).length (j0 (dig 4294967296 (u32.wrap n+(4294967296:Int)*u32.wrap (n.fdiv (4294967296:Int))).toNat))):=
 j3 (.c (show(0:Int)≤(32:Int)from(by decide)) (.rs 7 [[CV.lit (Value.int u32 (u32.wrap n)),CV.lit (Value.int u32 (u32.wrap (n.fdiv (4294967296:Int))))]] (z7k (u32.wrap n) (u32.wrap (n.fdiv (4294967296:Int))) a d e f) (.c o2 .nil))) (by kernel_rfl)
def Q2(z:Int):CV:= .agg [.lit (.bool (decide (z<0))),.lit (.string (bytesOf z.natAbs))]
def sgn(b:Bool)(n:Nat):Int:=if b then-(n:Int)else n
theorem Y4(n:Nat):((bytesOf n).toList==[])=decide (n=0):=by
 rw[W5]
 simp only[X4]
theorem z99(a:Nat)(b:Bool)(ha:(dig B32 a).length<2^36):PCall P 45 [X5 a,.lit (.bool b)] (Q2 (sgn b a)):=by
 cases b with
 |true=>
  refine(za1 a true rfl ha).eq ?_
  rw[Y4,Q2,sgn]
  simp only[if_true,Int.natAbs_neg,Int.natAbs_natCast]
  congr 4
  by_cases h:a=0
  · subst h;rfl
  · simp[h];omega
 |false=>
  refine(zaS a false rfl ha).eq ?_
  rw[Q2,sgn]
  simp
theorem z9J(n:Nat)(hn:n<18446744073709551616):PCall P 44 [.lit (.int .u64 (n:Int))] (X5 n):=by
 have e1:u32.wrap (n:Int)=((n%4294967296:Nat):Int):=by rw[z5o];omega
 have e2:u32.wrap ((n:Int).fdiv 4294967296)=((n/4294967296:Nat):Int):=by rw[fdp _ (by decide),z5o];omega
 have:=zbt n (by rw[e1];omega) (by rw[e1];omega) (by rw[e2];omega) (by rw[e2];omega) rfl
 rw[e1,e2,show(((n%4294967296:Nat):Int)+4294967296*((n/4294967296:Nat):Int)).toNat=n by omega]at this
 exact this
def Sml(n:Nat):Prop:=(dig 256 n).length<1073741824
theorem Sml.of_lt{n k:Nat}(h:n<256^k)(hk:k<1073741824):Sml n:=Nat.lt_of_le_of_lt (Z0 (by decide) h) hk
theorem Sml.lt{n:Nat}(h:Sml n): ∃k,k<1073741824∧n<256^k:=⟨_,h,J7 (by decide) n⟩
theorem Sml.mono{m n:Nat}(h:Sml n)(hm:m≤n):Sml m:=Nat.lt_of_le_of_lt (dig_length_mono' hm) h
 where dig_length_mono' {m n:Nat} (h:m≤n):(dig 256 m).length≤(dig 256 n).length:=Z0 (by decide) (Nat.lt_of_le_of_lt h (J7 (by decide) n))
theorem Sml.dig32{n:Nat}(h:Sml n):(dig B32 n).length<2^30:=by
 have:n<B32^(dig 256 n).length:=Nat.lt_of_lt_of_le (J7 (by decide:2≤256) n) (Nat.pow_le_pow_left (by decide) _)
 exact Nat.lt_of_le_of_lt (Z0 (by decide) this) h
theorem Sml.size{n:Nat}(h:Sml n):(bytesOf n).size<2^30:=by rw[z18];exact h
theorem z2g{n:Nat}(h:n≠0):((bytesOf n).data.getD 0 0).toNat≠0:=by
 have hne:dig 256 n≠[]:=by rw[Ne,z2x (by decide)];exact h
 have hc:=W4 hne
 have ht:=zbx (by decide:2≤256) n
 have hlt:=(V7 (by decide:2≤256) n).get (by decide) ((dig 256 n).length-1)
 rw[bytesOf,hc,z1V]
 intro e
 have e0:(dig 256 n).getD ((dig 256 n).length-1) 0=0:=by
  simp only[UInt8.toNat_ofNat']at e;omega
 rw[e0]at hc
 rw[hc,Y3]at ht
 have h1:=congrArg List.length ht
 have: ∀l:List Nat,(tz l).length≤l.length:=by
  intro l
  induction l with
  |nil=>simp[tz]
  |cons x l ih=>rw[z1K];split<;>(try split)<;>simp;omega
 have h2:=this ((dig 256 n).take ((dig 256 n).length-1))
 simp at h1 h2
 omega
theorem J3(z:Int):PCall P 48 [Q2 z] (.lit (.bool true)):=by
 refine(Q5 _ _).eq ?_
 rw[Q0]
 by_cases h:z=0
 · subst h;rfl
 · have:(bytesOf z.natAbs).size≠0:=by rw[Ne,X4];omega
   rw[if_neg this]
   have:=z2g (n:=z.natAbs) (by omega)
   rw[decide_eq_true this]
theorem V0(n:Nat)(h:Sml n):PCall P 53 [z08 (bytesOf n)] (X5 n):=by
 have:=z09 (bytesOf n) (by have:=h.size;omega)
 rw[z02]at this
 exact this
theorem U0(a:Nat)(b:Bool)(ha:Sml a):PCall P 45 [X5 a,.lit (.bool b)] (Q2 (sgn b a)):=z99 a b (by have:=ha.dig32;omega)
theorem z5k(n:Int)(h0:0≤n)(h1:n<18446744073709551616):PCall P 44 [.lit (.int .u64 n)] (X5 n.toNat):=by
 have:=z9J n.toNat (by omega)
 rw[show((n.toNat:Nat):Int)=n by omega]at this
 exact this
theorem zcJ(a:Nat)(b:Nat)(h1:decide (z7C a b (dig 4294967296 a).length (dig 4294967296 b).length<(0:Int))=true)(c:(dig 4294967296 a).length<2^62)(d:(dig 4294967296 b).length<2^62):PCall P (75:FuncId) [X5 a,X5 b] (CV.tup [CV.lit (Value.slice none 0 0),CV.lst (dig 4294967296 a).length (j0 (dig 4294967296 a))]):=
 j3 (.r 4 (z1W a b c d) (.b 6 h1 .nil)) (by kernel_rfl)
theorem zdT(a:Nat)(b:Nat)(h1:decide (z7C a b (dig 4294967296 a).length (dig 4294967296 b).length<(0:Int))=false)(h2:((↑(dig 4294967296 b).length:Int)==(1:Int))=true)(d:(dig 4294967296 a).length<2^62)(e:(dig 4294967296 b).length<2^62)(f:(dig 4294967296 a).length<2^40)(g:0<(dig 4294967296 b).getD 0 0)(i:(dig 4294967296 b).getD 0 0<4294967296)(j:(0:Int)≤(↑(a%(dig 4294967296 b).getD 0 0):Int))(k:(↑(a%(dig 4294967296 b).getD 0 0):Int)<(4294967296:Int))(o3:(0:Int)≤(0:Int)∧(0:Int)<(↑(dig 4294967296 b).length:Int))(o4:(j0 (dig 4294967296 b))[0]?=some (CV.lit (Value.int u32 (↑((dig 4294967296 b).getD 0 0):Int))))(o8:[MV.cv (CV.lit (Value.int u32 (↑(a%(dig 4294967296 b).getD 0 0):Int)))]=[MV.cv (CV.lit (Value.int u32 (↑(a%(dig 4294967296 b).getD 0 0):Int)))]):PCall P (75:FuncId) [X5 a,X5 b] (CV.tup [CV.lst (dig 4294967296 (a/(dig 4294967296 b).getD 0 0)).length (j0 (dig 4294967296 (a/(dig 4294967296 b).getD 0 0))),CV.lst (dig 4294967296 (↑(a%(dig 4294967296 b).getD 0 0):Int).toNat).length (j0 (dig 4294967296 (↑(a%(dig 4294967296 b).getD 0 0):Int).toNat))]):=
 j3 (.c (z1W a b d e) (.o 4 (Or.r (CV.lit (Value.int i64 (z7C a b (dig 4294967296 a).length (dig 4294967296 b).length)))) (.b 6 h1 (.b 10 h2 (.c o3 (.c o4 (.c (show 1=1 from(by decide)) (.c (z7T a ((dig 4294967296 b).getD 0 0) f g i) (.c (z7E ((↑(a%(dig 4294967296 b).getD 0 0):Int)) j k) (.c o8 (.o 14 (Or.r (CV.lit (Value.int u32 (↑((dig 4294967296 b).getD 0 0):Int)))) (.o 15 (Or.r (CV.tup [CV.lst (dig 4294967296 (a/(dig 4294967296 b).getD 0 0)).length (j0 (dig 4294967296 (a/(dig 4294967296 b).getD 0 0))),CV.lit (Value.int u32 (↑(a%(dig 4294967296 b).getD 0 0):Int))])) (.o 24 (Or.r (CV.lst (dig 4294967296 (↑(a%(dig 4294967296 b).getD 0 0):Int).toNat).length (j0 (dig 4294967296 (↑(a%(dig 4294967296 b).getD 0 0):Int).toNat))) [[CV.lit (Value.int u32 (↑(a%(dig 4294967296 b).getD 0 0):Int))]]) .nil))))))))))))) (by kernel_rfl)
theorem zdS(a:Nat)(b:Nat)(h1:decide (z7C a b (dig 4294967296 a).length (dig 4294967296 b).length<(0:Int))=false)(h2:((↑(dig 4294967296 b).length:Int)==(1:Int))=false)(d:(dig 4294967296 a).length<2^62)(e:(dig 4294967296 b).length<2^62)(g:(dig 4294967296 b).getD ((i64.wrap ((↑(dig 4294967296 b).length:Int)-(1:Int))).toNat*1) 0<4294967296)(i:32-U6 ((dig 4294967296 b).getD ((i64.wrap ((↑(dig 4294967296 b).length:Int)-(1:Int))).toNat*1) 0)≤31)(j:(dig 4294967296 b).length<2^40)(k:b*2^(32-U6 ((dig 4294967296 b).getD ((i64.wrap ((↑(dig 4294967296 b).length:Int)-(1:Int))).toNat*1) 0))<4294967296^((dig 4294967296 b).length+1))(l:(dig 4294967296 b).length+1<2^62)(m:32-U6 ((dig 4294967296 b).getD ((i64.wrap ((↑(dig 4294967296 b).length:Int)-(1:Int))).toNat*1) 0)≤31)(n:(dig 4294967296 a).length<2^40)(o3:(0:Int)≤i64.wrap ((↑(dig 4294967296 b).length:Int)-(1:Int))∧i64.wrap ((↑(dig 4294967296 b).length:Int)-(1:Int))<(↑(dig 4294967296 b).length:Int))(o4:(j0 (dig 4294967296 b))[(i64.wrap ((↑(dig 4294967296 b).length:Int)-(1:Int))).toNat*1]?=some (CV.lit (Value.int u32 (↑((dig 4294967296 b).getD ((i64.wrap ((↑(dig 4294967296 b).length:Int)-(1:Int))).toNat*1) 0):Int))))(o9:List.take (((dig 4294967296 b).length+1)*1) (List.drop 0 (own (j0 (Q7 4294967296 ((dig 4294967296 b).length+1) (b*2^(32-U6 ((dig 4294967296 b).getD ((i64.wrap ((↑(dig 4294967296 b).length:Int)-(1:Int))).toNat*1) 0)))))))=List.map MV.cv (j0 (Q7 4294967296 ((dig 4294967296 b).length+1) (b*2^(32-U6 ((dig 4294967296 b).getD ((i64.wrap ((↑(dig 4294967296 b).length:Int)-(1:Int))).toNat*1) 0))))))(o11:(0:Int)≤i64.wrap ((↑((dig 4294967296 a).length+1):Int)-(↑(dig 4294967296 (b*2^(32-U6 ((dig 4294967296 b).getD ((i64.wrap ((↑(dig 4294967296 b).length:Int)-(1:Int))).toNat*1) 0)))).length:Int))∧i64.wrap ((↑((dig 4294967296 a).length+1):Int)-(↑(dig 4294967296 (b*2^(32-U6 ((dig 4294967296 b).getD ((i64.wrap ((↑(dig 4294967296 b).length:Int)-(1:Int))).toNat*1) 0)))).length:Int))≤i64.wrap ((↑((dig 4294967296 a).length+1):Int)-(↑(dig 4294967296 (b*2^(32-U6 ((dig 4294967296 b).getD ((i64.wrap ((↑(dig 4294967296 b).length:Int)-(1:Int))).toNat*1) 0)))).length:Int))∧(4:Int)*i64.wrap ((↑((dig 4294967296 a).length+1):Int)-(↑(dig 4294967296 (b*2^(32-U6 ((dig 4294967296 b).getD ((i64.wrap ((↑(dig 4294967296 b).length:Int)-(1:Int))).toNat*1) 0)))).length:Int))≤(140737488355328:Int)∧i64.wrap ((↑((dig 4294967296 a).length+1):Int)-(↑(dig 4294967296 (b*2^(32-U6 ((dig 4294967296 b).getD ((i64.wrap ((↑(dig 4294967296 b).length:Int)-(1:Int))).toNat*1) 0)))).length:Int))≤(4611686018427387904:Int)∧1=1)(o12:CvL (own (j0 (Q7 4294967296 ((dig 4294967296 a).length+1) (a*2^(32-U6 ((dig 4294967296 b).getD ((i64.wrap ((↑(dig 4294967296 b).length:Int)-(1:Int))).toNat*1) 0)))))))(o13:CvL (List.replicate ((i64.wrap ((↑((dig 4294967296 a).length+1):Int)-(↑(dig 4294967296 (b*2^(32-U6 ((dig 4294967296 b).getD ((i64.wrap ((↑(dig 4294967296 b).length:Int)-(1:Int))).toNat*1) 0)))).length:Int))).toNat*1) (MV.cv (CV.lit (Value.int u32 (0:Int)))))){R:CV→Prop}(hR:Ok P (75:FuncId) (loopHead P (75:FuncId) 0) ⟨J6 110 [(8,MV.cv (CV.lit (Value.int i64 (↑(32-U6 ((dig 4294967296 b).getD ((i64.wrap ((↑(dig 4294967296 b).length:Int)-(1:Int))).toNat*1) 0)):Int)))),(9,MV.cv (CV.lst (dig 4294967296 (b*2^(32-U6 ((dig 4294967296 b).getD ((i64.wrap ((↑(dig 4294967296 b).length:Int)-(1:Int))).toNat*1) 0)))).length (j0 (dig 4294967296 (b*2^(32-U6 ((dig 4294967296 b).getD ((i64.wrap ((↑(dig 4294967296 b).length:Int)-(1:Int))).toNat*1) 0))))))),(10,MV.sl 0 0 ((dig 4294967296 a).length+1) 1),(11,MV.cv (CV.lit (Value.int i64 (↑(dig 4294967296 (b*2^(32-U6 ((dig 4294967296 b).getD ((i64.wrap ((↑(dig 4294967296 b).length:Int)-(1:Int))).toNat*1) 0)))).length:Int)))),(12,MV.sl (0+1) 0 (i64.wrap ((↑((dig 4294967296 a).length+1):Int)-(↑(dig 4294967296 (b*2^(32-U6 ((dig 4294967296 b).getD ((i64.wrap ((↑(dig 4294967296 b).length:Int)-(1:Int))).toNat*1) 0)))).length:Int))).toNat 1),(13,MV.cv (CV.lit (Value.int i64 (i64.wrap (i64.wrap ((↑((dig 4294967296 a).length+1):Int)-(↑(dig 4294967296 (b*2^(32-U6 ((dig 4294967296 b).getD ((i64.wrap ((↑(dig 4294967296 b).length:Int)-(1:Int))).toNat*1) 0)))).length:Int))-(1:Int))))))],[some (own (j0 (Q7 4294967296 ((dig 4294967296 a).length+1) (a*2^(32-U6 ((dig 4294967296 b).getD ((i64.wrap ((↑(dig 4294967296 b).length:Int)-(1:Int))).toNat*1) 0)))))),some (List.replicate ((i64.wrap ((↑((dig 4294967296 a).length+1):Int)-(↑(dig 4294967296 (b*2^(32-U6 ((dig 4294967296 b).getD ((i64.wrap ((↑(dig 4294967296 b).length:Int)-(1:Int))).toNat*1) 0)))).length:Int))).toNat*1) (MV.cv (CV.lit (Value.int u32 (0:Int)))))]⟩ (.of R)):W9 P (75:FuncId) [X5 a,X5 b] R:=
 W7 (keep:=[8,9,10,11,12,13]) (σ:=[4,5]) (.c (z1W a b d e) (.o 4 (Or.r (CV.lit (Value.int i64 (z7C a b (dig 4294967296 a).length (dig 4294967296 b).length)))) (.b 6 h1 (.b 10 h2 (.c o3 (.c o4 (.c (show 1=1 from(by decide)) (.c (zcT ((dig 4294967296 b).getD ((i64.wrap ((↑(dig 4294967296 b).length:Int)-(1:Int))).toNat*1) 0) g) (.c (z5t b (32-U6 ((dig 4294967296 b).getD ((i64.wrap ((↑(dig 4294967296 b).length:Int)-(1:Int))).toNat*1) 0)) i j) (.c (z9c ((dig 4294967296 b).length+1) (b*2^(32-U6 ((dig 4294967296 b).getD ((i64.wrap ((↑(dig 4294967296 b).length:Int)-(1:Int))).toNat*1) 0))) k l) (.c o9 (.c (z5t a (32-U6 ((dig 4294967296 b).getD ((i64.wrap ((↑(dig 4294967296 b).length:Int)-(1:Int))).toNat*1) 0)) m n) (.c o11 (.o 16 (Or.r (CV.lit (Value.int u32 (↑((dig 4294967296 b).getD ((i64.wrap ((↑(dig 4294967296 b).length:Int)-(1:Int))).toNat*1) 0):Int)))) (.o 17 (Or.r (CV.lit (Value.int i64 (↑(32-U6 ((dig 4294967296 b).getD ((i64.wrap ((↑(dig 4294967296 b).length:Int)-(1:Int))).toNat*1) 0)):Int)))) (.o 21 (Or.f (MV.sl 0 0 ((dig 4294967296 b).length+1) 1) (j0 (Q7 B32 ((dig B32 b).length+1) (b*2^(32-U6 ((dig 4294967296 b).getD ((i64.wrap ((↑(dig 4294967296 b).length:Int)-(1:Int))).toNat*1) 0)))))) (.o 22 (Or.r (CV.lst (dig 4294967296 (b*2^(32-U6 ((dig 4294967296 b).getD ((i64.wrap ((↑(dig 4294967296 b).length:Int)-(1:Int))).toNat*1) 0)))).length (j0 (dig 4294967296 (b*2^(32-U6 ((dig 4294967296 b).getD ((i64.wrap ((↑(dig 4294967296 b).length:Int)-(1:Int))).toNat*1) 0)))))) [j0 (Q7 4294967296 ((dig 4294967296 b).length+1) (b*2^(32-U6 ((dig 4294967296 b).getD ((i64.wrap ((↑(dig 4294967296 b).length:Int)-(1:Int))).toNat*1) 0))))]) (.o 26 (Or.f (MV.sl 0 0 ((dig 4294967296 a).length+1) 1) (j0 (Q7 B32 ((dig B32 a).length+1) (a*2^(32-U6 ((dig 4294967296 b).getD ((i64.wrap ((↑(dig 4294967296 b).length:Int)-(1:Int))).toNat*1) 0)))))) (.o 43 .stop .nil))))))))))))))))))) (by kernel_rfl) rfl hR (.cons o12 (.cons o13 .nil))
end Go.Fw
