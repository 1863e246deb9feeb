/- A part of the proof that the law returns true for every input: an executor for the model's code, and what functions of the program compute. -/
import Derived.Test.YtcafjpldfnegiaaGreatDoorB11
import Derived.Test.YtcafjpldfnegiaaGreatDoorB15
import Derived.Test.YtcafjpldfnegiaaGreatDoorB16
import Derived.Laws.Strings
import Derived.KernelRfl
open Go IntKind
namespace Go.Fw
set_option maxRecDepth 10000
theorem zbF {B : Nat} {zs vs : List Nat} {i k c x A : Nat} (hk : i + k < zs.length) (hinv : val B zs + c * B ^ (i + k) = A + x * val B (vs.take k) * B ^ i) :
    val B (zs.set (i+k) ((c+zs.getD (i+k) 0+x*vs.getD k 0)%B))+(c+zs.getD (i+k) 0+x*vs.getD k 0)/B*B^(i+(k+1))=A+x*val B (vs.take (k+1))*B^i:=by
 have h:=za2 B zs (i+k) hk c (x*vs.getD k 0)
 rw[Y0,←Nat.add_assoc,h,hinv]
 have e:x*(val B (vs.take k)+B^k*vs.getD k 0)*B^i=x*val B (vs.take k)*B^i+x*vs.getD k 0*B^(i+k):=by
  rw[Nat.mul_add,Nat.add_mul,Nat.pow_add,Nat.mul_comm (B^k) (vs.getD k 0),←Nat.mul_assoc x,Nat.mul_assoc (x*vs.getD k 0),Nat.mul_comm (B^k)]
 rw[e];omega
theorem zhz{B c z x v:Nat}(hc:c<B)(hz:z<B)(hx:x<B)(hv:v<B):(c+z+x*v)/B<B:=by
 rw[Nat.div_lt_iff_lt_mul (by omega)]
 obtain⟨b,rfl⟩: ∃b,B=b+1:=⟨B-1,by omega⟩
 have h1:x*v≤b*b:=Nat.mul_le_mul (by omega) (by omega)
 have h2:(b+1)*(b+1)=b*b+b+b+1:=by rw[Nat.add_mul,Nat.mul_add,Nat.one_mul,Nat.mul_one];omega
 omega
theorem zfm {B : Nat} {zs us : List Nat} {i m c V : Nat} (hk : i + m < zs.length) (h0 : zs.getD (i + m) 0 = 0) (hinv : val B zs + c * B ^ (i + m) = val B (us.take i) * V + us.getD i 0 * V * B ^ i) :
    val B (zs.set (i+m) c)=val B (us.take (i+1))*V:=by
 rw[zl0 _ _ _ _ hk h0,hinv,Y0,Nat.add_mul]
 congr 1
 rw[Nat.mul_comm (B^i),Nat.mul_assoc,Nat.mul_assoc,Nat.mul_comm V]
def z1U(ls:List Nat):ByteArray:=⟨(ls.reverse.map UInt8.ofNat).toArray⟩
def z2B(s:ByteArray):List Nat:=(s.data.toList.map UInt8.toNat).reverse
def bytesOf(n:Nat):ByteArray:=z1U (dig 256 n)
def J9(s:ByteArray):Nat:=val 256 (z2B s)
theorem z1K(s:ByteArray):Dig 256 (z2B s):=by
 intro x hx
 simp only[z2B,List.mem_reverse,List.mem_map]at hx
 obtain⟨y,_,rfl⟩:=hx
 exact y.toNat_lt
theorem V8(s:ByteArray):(z2B s).length=s.size:=by simp[z2B]
theorem z4R(s:ByteArray):z1U (z2B s)=s:=by
 cases s with
 |mk d=>
  simp only[z1U,z2B,List.reverse_reverse,List.map_map]
  congr
  have:(UInt8.ofNat∘UInt8.toNat)=id:=by funext x;simp
  rw[this,List.map_id]
theorem zc4{ls:List Nat}(h:Dig 256 ls):z2B (z1U ls)=ls:=by
 simp only[z2B,z1U]
 rw[List.map_map,←List.map_reverse,List.reverse_reverse]
 conv=>rhs;rw[←List.map_id ls]
 refine List.map_congr_left fun x hx=>?_
 have:=h x hx
 simp only[Function.comp_apply,id,UInt8.toNat_ofNat']
 omega
theorem z71(ls:List Nat):(z1U ls).size=ls.length:=by simp[z1U,ByteArray.size]
theorem zgp{a b:ByteArray}(h:a.data.toList=b.data.toList):a=b:=by
 cases a;cases b;congr;exact Array.ext' h
theorem z7q(ls:List Nat)(x:Nat):(z1U (ls++[x])).extract 1 (ls.length+1)=z1U ls:=by
 apply zgp
 simp only[z1U,ByteArray.data_extract,Array.toList_extract,List.reverse_append,List.reverse_cons,List.reverse_nil,List.nil_append,List.singleton_append,List.map_cons,List.extract_eq_take_drop,List.drop_succ_cons,List.drop_zero,Nat.add_sub_cancel]
 rw[List.take_of_length_le (by simp)]
theorem z3K(ls:List Nat)(x:Nat):(z1U (ls++[x])).data.getD 0 0=UInt8.ofNat x:=by simp[z1U]
theorem Y9(s:ByteArray):(s.toList==[])=decide (s.size=0):=by
 rw[ByteArray.toList_eq]
 have:s.size=s.data.toList.length:=by simp
 rw[this]
 cases s.data.toList<;>simp
theorem z53{ls:List Nat}(h:Dig 256 ls):J9 (z1U ls)=val 256 ls:=by rw[J9,zc4 h]
theorem z0d(n:Nat):J9 (bytesOf n)=n:=by rw[bytesOf,z53 (Y8 (by decide) n),Q8 (by decide)]
theorem z0p(n:Nat):(bytesOf n).size=(dig 256 n).length:=z71 _
theorem z6i{m n:Nat}(h:bytesOf m=bytesOf n):m=n:=by rw[←z0d m,h,z0d]
theorem Z9{n:Nat}:(bytesOf n).size=0↔n=0:=by rw[z0p];exact Y1 (by decide)
theorem z0L(s:ByteArray):J9 s<256^s.size:=by rw[J9,←V8];exact z0I (by decide) _ (z1K s)
theorem zea(s:ByteArray):z1U (tz (z2B s))=bytesOf (J9 s):=by rw[z0M (by decide) _ (z1K s)];rfl
theorem z7k(s:ByteArray){i:Nat}(h:i<s.size):(z2B s).getD i 0=(s.data.getD (s.size-1-i) 0).toNat:=by
 have hs:s.size=s.data.size:=rfl
 simp only[z2B,List.getD_eq_getElem?_getD]
 rw[List.getElem?_reverse (by simp;omega)]
 simp only[List.length_map,Array.length_toList,List.getElem?_map,Array.getElem?_toList]
 rw[Array.getElem?_eq_getElem (by omega)]
 simp[Array.getD,show s.size-1-i<s.size by omega]
set_option maxRecDepth 100000
theorem zho(x y z:Int):PCall P 255 [.lit (.int .u32 x),.lit (.int .u32 y),.lit (.int .u32 z)] (.tup [.lit (.int .u32 (u32.wrap (u64.wrap (u64.wrap (u64.wrap x+u64.wrap y)+u64.wrap z)))),.lit (.int .u32 (u32.wrap ((u64.wrap (u64.wrap (u64.wrap x+u64.wrap y)+u64.wrap z)).fdiv 4294967296)))]):=
 j3 (.c (nn 32) .nil) (by kernel_rfl)
theorem zgg(x y z:Int):PCall P 257 [.lit (.int .u32 x),.lit (.int .u32 y),.lit (.int .u32 z)] (.tup [.lit (.int .u32 (u32.wrap (u32.wrap (x-y)-z))),.lit (.int .u32 ((X9 BinOp.or u32 (X9 BinOp.and u32 (X9 BinOp.xor u32 (4294967295:Int) x) y) (X9 BinOp.and u32 (X9 BinOp.xor u32 (4294967295:Int) (X9 BinOp.xor u32 x y)) (u32.wrap (u32.wrap (x-y)-z)))).fdiv 2147483648))]):=
 j3 (.c (nn 31) .nil) (by kernel_rfl)
theorem zgU(x y z:Int)(hz:(z != 0)=true)(hx:decide (z≤x)=false)(o3 o4:u64.wrap z≠0):PCall P 269 [.lit (.int .u32 x),.lit (.int .u32 y),.lit (.int .u32 z)] (.tup [.lit (.int .u32 (u32.wrap (u64.wrap ((X9 BinOp.or u64 (u64.wrap (u64.wrap x*4294967296)) (u64.wrap y)).tdiv (u64.wrap z))))),.lit (.int .u32 (u32.wrap ((X9 BinOp.or u64 (u64.wrap (u64.wrap x*4294967296)) (u64.wrap y)).tmod (u64.wrap z))))]):=
 j3 (.b 4 hz (.b 9 hx (.c (nn 32) (.c o3 (.c o4 .nil))))) (by kernel_rfl)
theorem zha(x y:Int):PCall P 267 [.lit (.int .u32 x),.lit (.int .u32 y)] (.tup [.lit (.int .u32 (u32.wrap ((u64.wrap (u64.wrap x*u64.wrap y)).fdiv 4294967296))),.lit (.int .u32 (u32.wrap (u64.wrap (u64.wrap x*u64.wrap y))))]):=
 j3 (.c (nn 32) .nil) (by kernel_rfl)
abbrev z4p(n:Nat):CV:= .lit (.int .u32 (n:Int))
abbrev j5(n:Int):CV:= .lit (.int .i64 n)
theorem z5T{k k':IntKind}{a a' b b':Int}(h:a=a')(h':b=b'):CV.tup [.lit (.int k a),.lit (.int k' b)]= .tup [.lit (.int k a'),.lit (.int k' b')]:=by rw[h,h']
theorem z3H{k:IntKind}{a a':Int}(h:a=a'):CV.lit (.int k a)= .lit (.int k a'):=by rw[h]
theorem z87(n:Int):u32.wrap n=n%4294967296:=IntKind.wrap_u32 n
theorem z1Y(n:Int):u64.wrap n=n%18446744073709551616:=IntKind.wrap_u64 n
theorem wr8(n:Int):u8.wrap n=n%256:=IntKind.wrap_u8 n
theorem fdp(n:Int){d:Int}(h:0≤d):n.fdiv d=n/d:=Int.fdiv_eq_ediv_of_nonneg n h
theorem zd9(k:Nat)(a:Nat):BitVec.ofInt k (a:Int)=BitVec.ofNat k a:=by
 apply BitVec.eq_of_toNat_eq
 simp
theorem z44 (op : BinOp) (k : IntKind) (hk : k.signed = false) (a b : Nat) (ha : a < 2 ^ k.bits) (hb : b < 2 ^ k.bits) (hop : op = .and ∨ op = .or ∨ op = .xor) :
    X9 op k a b=((match op with| .and=>a&&&b| .or=>a|||b|_=>a^^^b:Nat):Int):=by
 have hw: ∀n:Nat,n<2^k.bits→k.wrap (n:Int)=n:=by
  intro n hn
  unfold IntKind.wrap
  simp only[hk,Bool.false_and,Bool.false_eq_true,if_false]
  norm_cast
  rw[Nat.mod_eq_of_lt hn]
 unfold X9
 simp only[zd9]
 rcases hop with rfl|rfl|rfl
 · dsimp only
   rw[BitVec.toNat_and,BitVec.toNat_ofNat,BitVec.toNat_ofNat,Nat.mod_eq_of_lt ha,Nat.mod_eq_of_lt hb]
   exact hw _ (Nat.and_lt_two_pow _ hb)
 · dsimp only
   rw[BitVec.toNat_or,BitVec.toNat_ofNat,BitVec.toNat_ofNat,Nat.mod_eq_of_lt ha,Nat.mod_eq_of_lt hb]
   exact hw _ (Nat.or_lt_two_pow ha hb)
 · dsimp only
   rw[BitVec.toNat_xor,BitVec.toNat_ofNat,BitVec.toNat_ofNat,Nat.mod_eq_of_lt ha,Nat.mod_eq_of_lt hb]
   exact hw _ (Nat.xor_lt_two_pow ha hb)
theorem zeW{a b:Nat}(ha:a<4294967296)(hb:b<4294967296):X9 .or .u32 (a:Int) (b:Int)=((a|||b:Nat):Int):=z44 .or .u32 rfl a b ha hb (by simp)
theorem zdi{a b:Nat}(ha:a<4294967296)(hb:b<4294967296):X9 .and .u32 (a:Int) (b:Int)=((a&&&b:Nat):Int):=z44 .and .u32 rfl a b ha hb (by simp)
theorem z9X{a b:Nat}(ha:a<4294967296)(hb:b<4294967296):X9 .xor .u32 (a:Int) (b:Int)=((a^^^b:Nat):Int):=z44 .xor .u32 rfl a b ha hb (by simp)
theorem z8P{a b:Nat}(ha:a<18446744073709551616)(hb:b<18446744073709551616):X9 .or .u64 (a:Int) (b:Int)=((a|||b:Nat):Int):=z44 .or .u64 rfl a b ha hb (by simp)
theorem z2p{a b:Nat}(i:Nat)(hb:b<2^i):a*2^i|||b=a*2^i+b:=by
 rw[←Nat.shiftLeft_eq,Nat.shiftLeft_add_eq_or_of_lt hb]
theorem z1k(x y c:Nat)(hx:x<B32)(hy:y<B32)(hc:c≤1):PCall P 255 [z4p x,z4p y,z4p c] (.tup [z4p ((x+y+c)%B32),z4p ((x+y+c)/B32)]):=by
 refine(zho x y c).eq ?_
 simp only[z87,z1Y,fdp _ (by decide:(0:Int)≤4294967296),B32]at*
 exact z5T (by omega) (by omega)
theorem zbI(x y:Nat)(hx:x<B32)(hy:y<B32):PCall P 267 [z4p x,z4p y] (.tup [z4p (x*y/B32),z4p (x*y%B32)]):=by
 refine(zha x y).eq ?_
 have h:x*y≤4294967295*4294967295:=Nat.mul_le_mul (by simp only[B32]at hx;omega) (by simp only[B32]at hy;omega)
 simp only[z87,z1Y,fdp _ (by decide:(0:Int)≤4294967296),B32]at*
 have h1:(x:Int)%18446744073709551616*((y:Int)%18446744073709551616)=((x*y:Nat):Int):=by
  rw[Int.emod_eq_of_lt (by omega) (by omega),Int.emod_eq_of_lt (by omega) (by omega)];simp
 rw[h1]
 exact z5T (by omega) (by omega)
theorem zbM(x y z:Nat)(hx:x<z)(hy:y<B32)(hz:z<B32):PCall P 269 [z4p x,z4p y,z4p z] (.tup [z4p ((x*B32+y)/z),z4p ((x*B32+y)%z)]):=by
 have h0:0<z:=by omega
 have hzw:u64.wrap (z:Int)=z:=by rw[z1Y];simp only[B32]at hz;omega
 have hne:(z:Int)≠0:=by omega
 refine(zgU x y z (by simpa using hne) (by simp;omega) (by rw[hzw];exact hne) (by rw[hzw];exact hne)).eq ?_
 rw[hzw]
 simp only[B32]at*
 have h1:u64.wrap (u64.wrap (x:Int)*4294967296)=((x*2^32:Nat):Int):=by rw[z1Y,z1Y];omega
 have h2:u64.wrap (y:Int)=(y:Nat):=by rw[z1Y];omega
 rw[h1,h2,z8P (by omega) (by omega),z2p 32 (by omega),show(2:Nat)^32=4294967296 by decide,z87,z1Y,z87,Int.tdiv_eq_ediv_of_nonneg (by omega),Int.tmod_eq_emod_of_nonneg (by omega)]
 have h3:(x*4294967296+y)/z<4294967296:=by
  rw[Nat.div_lt_iff_lt_mul h0]
  have:(x+1)*4294967296≤z*4294967296:=Nat.mul_le_mul_right _ hx
  rw[Nat.mul_comm 4294967296 z];omega
 have h4:(x*4294967296+y)%z<4294967296:=by have:=Nat.mod_lt (x*4294967296+y) h0;omega
 rw[show((x*4294967296+y:Nat):Int)/(z:Int)=(((x*4294967296+y)/z:Nat):Int)from(Int.natCast_ediv _ _).symm,
  show((x*4294967296+y:Nat):Int)%(z:Int)=(((x*4294967296+y)%z:Nat):Int)from(Int.natCast_emod _ _).symm]
 generalize (x*4294967296+y)/z=q at*
 generalize (x*4294967296+y)%z=r at*
 exact z5T (by omega) (by omega)
theorem z4u(x y c:Nat)(hx:x<B32)(hy:y<B32)(hc:c≤1):PCall P 257 [z4p x,z4p y,z4p c] (.tup [z4p ((x+2*B32-y-c)%B32),z4p (if x<y+c then 1 else 0)]):=by
 refine(zgg x y c).eq ?_
 simp only[B32]at*
 have hd:u32.wrap (u32.wrap ((x:Int)-y)-c)=((x+2*4294967296-y-c)%4294967296:Nat):=by rw[z87,z87];omega
 rw[hd]
 have hd':(x+2*4294967296-y-c)%4294967296<4294967296:=Nat.mod_lt _ (by decide)
 generalize hdd:(x+2*4294967296-y-c)%4294967296=d at*
 have hm:(4294967295:Int)=((4294967295:Nat):Int):=rfl
 have hxy:x^^^y<4294967296:=Nat.xor_lt_two_pow (n:=32) hx hy
 have hnx:4294967295^^^x<4294967296:=Nat.xor_lt_two_pow (n:=32) (by decide) hx
 have hnxy:4294967295^^^(x^^^y)<4294967296:=Nat.xor_lt_two_pow (n:=32) (by decide) hxy
 have ha1:(4294967295^^^x)&&&y<4294967296:=Nat.and_lt_two_pow (n:=32) _ hy
 have ha2:(4294967295^^^(x^^^y))&&&d<4294967296:=Nat.and_lt_two_pow (n:=32) _ hd'
 rw[hm,z9X (by decide) hx,zdi hnx hy,z9X hx hy,z9X (by decide) hxy,zdi hnxy hd',zeW ha1 ha2,fdp _ (by decide),show(2147483648:Int)=((2147483648:Nat):Int)from rfl,←Int.natCast_ediv]
 have key:((4294967295^^^x)&&&y|||(4294967295^^^(x^^^y))&&&d)/2147483648=if x<y+c then 1 else 0:=by
  rw[show(2147483648:Nat)=2^31 from rfl,←Nat.shiftRight_eq_div_pow]
  simp only[Nat.shiftRight_or_distrib,Nat.shiftRight_and_distrib,Nat.shiftRight_xor_distrib]
  rw[show(4294967295:Nat)>>>31=1 from rfl]
  simp only[Nat.shiftRight_eq_div_pow]
  rw[show(2:Nat)^31=2147483648 from rfl]
  have e1:x/2147483648=0∨x/2147483648=1:=by omega
  have e2:y/2147483648=0∨y/2147483648=1:=by omega
  have e3:d/2147483648=0∨d/2147483648=1:=by omega
  rcases e1 with e1|e1<;>rcases e2 with e2|e2<;>rcases e3 with e3|e3<;>rw[e1,e2,e3]
  all_goals first
   |(rw[if_pos (by omega)];rfl)
   |(rw[if_neg (by omega)];rfl)
 rw[key]
theorem zhn(n:Nat)(xs:List Nat){R:CV→Prop}(hR:Ok P 254 (loopHead P 254 0) ⟨J1 21 [(0,.cv (.lst n (j8 xs)))],[]⟩ (.of R)):Y3 P 254 [.lst n (j8 xs)] R:=
 Z6 (keep:=[0]) (σ:=[]) (.o 1 .stop .nil) (by kernel_rfl) rfl hR .nil
theorem zgt(n:Nat)(xs:List Nat)(h1:decide ((n:Int)>0)=true)(h2:((↑(xs.getD ((i64.wrap ((n:Int)-1)).toNat*1) 0):Int)==0)=true)(o1:(0:Int)≤i64.wrap ((n:Int)-1)∧i64.wrap ((n:Int)-1)<(n:Int))(o2:(j8 xs)[(i64.wrap ((n:Int)-1)).toNat*1]?=some (.lit (.int .u32 (↑(xs.getD ((i64.wrap ((n:Int)-1)).toNat*1) 0):Int))))(o5:(0:Int)≤0∧(0:Int)≤i64.wrap ((n:Int)-1)∧i64.wrap ((n:Int)-1)≤(n:Int))(o6:(j8 xs).length=n*1){R:Goal}(hn:j7 R.n []=true)(hR:Ok P 254 (loopHead P 254 0) ⟨J1 21 [(0,.cv (.lst (i64.wrap ((n:Int)-1)-0).toNat (List.take ((i64.wrap ((n:Int)-1)-0).toNat*1) (List.drop 0 (j8 xs)))))],[]⟩ R):Ok P 254 (loopHead P 254 0) ⟨.cv (.lst n (j8 xs))::zar 20,[]⟩ R:=
 z07 (keep:=[0]) (σ:=[]) (.b 4 h1 (.c o1 (.l 10 o2 (.c (eqn 1) (.b 13 h2 (.c o5 (.c o6 (.o 20 .stop .nil)))))))) (by kernel_rfl) rfl hn hR .nil
theorem zga(n:Nat)(xs:List Nat)(h1:decide ((n:Int)>0)=true)(h2:((↑(xs.getD ((i64.wrap ((n:Int)-1)).toNat*1) 0):Int)==0)=false)(o1:(0:Int)≤i64.wrap ((n:Int)-1)∧i64.wrap ((n:Int)-1)<(n:Int))(o2:(j8 xs)[(i64.wrap ((n:Int)-1)).toNat*1]?=some (.lit (.int .u32 (↑(xs.getD ((i64.wrap ((n:Int)-1)).toNat*1) 0):Int)))){R:Goal}(hR:R.c (.lst n (j8 xs))):Ok P 254 (loopHead P 254 0) ⟨.cv (.lst n (j8 xs))::zar 20,[]⟩ R:=
 okT (.b 4 h1 (.c o1 (.l 10 o2 (.c (eqn 1) (.b 13 h2 .nil))))) (by kernel_rfl) hR
theorem zg8(n:Nat)(xs:List Nat)(h1:decide ((n:Int)>0)=false){R:Goal}(hR:R.c (.lst n (j8 xs))):Ok P 254 (loopHead P 254 0) ⟨.cv (.lst n (j8 xs))::zar 20,[]⟩ R:=
 okT (.b 4 h1 .nil) (by kernel_rfl) hR
theorem zfb(xs:List Nat)(k:Nat):(j8 xs).take k=j8 (xs.take k):=by simp[j8]
theorem zeD {R : Goal} (hn : j7 R.n [] = true) : ∀ (k : Nat) (xs : List Nat), xs.length = k → k < 2 ^ 62 → R.c (.lst (tz xs).length (j8 (tz xs))) →
    Ok P 254 (loopHead P 254 0) ⟨.cv (.lst xs.length (j8 xs))::zar 20,[]⟩ R:=by
 intro k
 induction k with
 |zero=>
  intro xs hl _ hR
  have:xs=[]:=List.length_eq_zero_iff.1 hl
  subst this
  exact zg8 0 [] (by decide) hR
 |succ k ih=>
  intro xs hl hk hR
  have hw:i64.wrap ((xs.length:Int)-1)=(k:Int):=by rw[hl,w64 (by omega)];omega
  have hne:xs≠[]:=by intro e;subst e;simp at hl
  have hcon:=U2 hne
  rw[hl,Nat.add_sub_cancel]at hcon
  have hget:(j8 xs)[k]?=some (z5M xs k):=z7V (by omega)
  by_cases hx:xs.getD k 0=0
  · refine zgt xs.length xs (by simp;omega) (by rw[hw];simpa using hx) (by rw[hw];omega) (by rw[hw];simpa[z5M]using hget) (by rw[hw];omega) (by simp[j8]) hn ?_
    rw[hw]
    have h1:((k:Int)-0).toNat=k:=by omega
    rw[h1,Nat.mul_one,List.drop_zero,zfb]
    have h2:(xs.take k).length=k:=by simp;omega
    have:=ih (xs.take k) h2 (by omega) (by rw[hcon,hx,W6]at hR;exact hR)
    rw[h2]at this
    exact this
  · refine zga xs.length xs (by simp;omega) (by rw[hw];simpa using hx) (by rw[hw];omega) (by rw[hw];simpa[z5M]using hget) ?_
    rw[hcon,z0P hx,←hcon]at hR
    exact hR
theorem z0x(n:Nat)(xs:List Nat)(hn:n=xs.length)(hd:Dig B32 xs)(hl:xs.length<2^62):PCall P 254 [.lst n (j8 xs)] (z0c (val B32 xs)):=by
 subst hn
 refine zhn xs.length xs (zeD rfl _ xs rfl hl ?_)
 exact zji hd
theorem zce(a:Int)(h0:0≤a)(h1:a<4294967296):PCall P 254 [.lst 1 [.lit (.int .u32 a)]] (z0c a.toNat):=by
 have:=z0x 1 [a.toNat] rfl (by intro x hx;simp only[List.mem_singleton]at hx;simp only[B32];omega) (by simp)
 rw[show j8 [a.toNat]=[.lit (.int .u32 a)] by simp[j8];omega,show val B32 [a.toNat]=a.toNat by simp[val]]at this
 exact this
theorem zby(a b:Int)(h0:0≤a)(h1:a<4294967296)(g0:0≤b)(g1:b<4294967296):PCall P 254 [.lst 2 [.lit (.int .u32 a),.lit (.int .u32 b)]] (z0c (a+4294967296*b).toNat):=by
 have:=z0x 2 [a.toNat,b.toNat] rfl (by intro x hx;simp only[List.mem_cons,List.not_mem_nil,or_false]at hx;simp only[B32];omega) (by simp)
 rw[show j8 [a.toNat,b.toNat]=[.lit (.int .u32 a),.lit (.int .u32 b)] by simp[j8];omega,show val B32 [a.toNat,b.toNat]=(a+4294967296*b).toNat by simp only[val,B32];omega]at this
 exact this
theorem zj1(s:ByteArray)(c:Int){R:CV→Prop}(hR:Ok P 271 (loopHead P 271 0) ⟨J1 17 [(0,.cv (.lit (.string s))),(1,.cv (.lit (.int .u8 c)))],[]⟩ (.of R)):Y3 P 271 [.lit (.string s),.lit (.int .u8 c)] R:=
 Z6 (keep:=[0,1]) (σ:=[]) (.o 1 .stop .nil) (by kernel_rfl) rfl hR .nil
theorem zmb(s:ByteArray)(c:Int)(h1:decide ((↑s.size:Int)>0)=true)(h2:((↑(s.data.getD 0 (OfNat.ofNat 0)).toNat:Int)==c)=true)(o1:(0:Int)≤0∧(0:Int)<(↑s.size:Int))(o3:(0:Int)≤1∧(1:Int)≤(↑s.size:Int)∧(↑s.size:Int)≤(↑s.size:Int)){R:Goal}(hn:j7 R.n []=true)(hR:Ok P 271 (loopHead P 271 0) ⟨J1 17 [(0,.cv (.lit (.string (s.extract 1 (↑s.size:Int).toNat)))),(1,.cv (.lit (.int .u8 c)))],[]⟩ R):Ok P 271 (loopHead P 271 0) ⟨.cv (.lit (.string s)):: .cv (.lit (.int .u8 c))::zar 15,[]⟩ R:=
 z07 (keep:=[0,1]) (σ:=[]) (.b 4 h1 (.c o1 (.b 10 h2 (.c o3 (.o 14 .stop .nil))))) (by kernel_rfl) rfl hn hR .nil
theorem zlN(s:ByteArray)(c:Int)(h1:decide ((↑s.size:Int)>0)=true)(h2:((↑(s.data.getD 0 (OfNat.ofNat 0)).toNat:Int)==c)=false)(o1:(0:Int)≤0∧(0:Int)<(↑s.size:Int)){R:Goal}(hR:R.c (.lit (.string s))):Ok P 271 (loopHead P 271 0) ⟨.cv (.lit (.string s)):: .cv (.lit (.int .u8 c))::zar 15,[]⟩ R:=
 okT (.b 4 h1 (.c o1 (.b 10 h2 .nil))) (by kernel_rfl) hR
theorem zmf(s:ByteArray)(c:Int)(h1:decide ((↑s.size:Int)>0)=false){R:Goal}(hR:R.c (.lit (.string s))):Ok P 271 (loopHead P 271 0) ⟨.cv (.lit (.string s)):: .cv (.lit (.int .u8 c))::zar 15,[]⟩ R:=
 okT (.b 4 h1 .nil) (by kernel_rfl) hR
abbrev X1(s:ByteArray):CV:= .lit (.string s)
theorem zgn {R : Goal} (hn : j7 R.n [] = true) : ∀ (k : Nat) (ls : List Nat), ls.length = k → Dig 256 ls → R.c (X1 (z1U (tz ls))) →
    Ok P 271 (loopHead P 271 0) ⟨.cv (X1 (z1U ls)):: .cv (.lit (.int .u8 0))::zar 15,[]⟩ R:=by
 intro k
 induction k with
 |zero=>
  intro ls hl _ hR
  have:ls=[]:=List.length_eq_zero_iff.1 hl
  subst this
  exact zmf _ 0 (by decide) hR
 |succ k ih=>
  intro ls hl hd hR
  have hne:ls≠[]:=by intro e;subst e;simp at hl
  have hcon:=U2 hne
  rw[hl,Nat.add_sub_cancel]at hcon
  have hsz:(z1U ls).size=k+1:=by rw[z71,hl]
  have hx:=hd.get (by decide) k
  have hd':=hd.take k
  have hlt:(ls.take k).length=k:=by simp;omega
  generalize ls.take k=ms at*
  generalize ls.getD k 0=x at*
  subst hcon
  have hfirst:((z1U (ms++[x])).data.getD 0 0).toNat=x:=by rw[z3K];simp;omega
  by_cases h0:x=0
  · refine zmb _ 0 (by rw[hsz];simp) (by rw[show(OfNat.ofNat 0:UInt8)=0 from rfl,hfirst,h0];rfl) (by omega) (by omega) hn ?_
    have:=ih ms hlt hd' (by rw[h0,W6]at hR;exact hR)
    rw[hsz,show((k+1:Nat):Int).toNat=ms.length+1 by omega,z7q]
    exact this
  · refine zlN _ 0 (by rw[hsz];simp) (by rw[show(OfNat.ofNat 0:UInt8)=0 from rfl,hfirst];simpa using h0) (by omega) ?_
    rw[z0P h0]at hR
    exact hR
theorem zhw(s:ByteArray):PCall P 271 [X1 s,.lit (.int .u8 0)] (X1 (bytesOf (J9 s))):=by
 refine zj1 s 0 ?_
 have:=zgn (R:= .of (fun x=>x=X1 (bytesOf (J9 s)))) rfl _ (z2B s) rfl (z1K s) (by rw[zea];rfl)
 rw[z4R]at this
 exact this
theorem zts(s:ByteArray)(h1:(s.toList==[])=true):PCall P 266 [.lit (.string s),.lit (.string {data:= #[(0:UInt8)]})] (.lit (.string s)):=
 j3 (.b 3 h1 .nil) (by kernel_rfl)
theorem ztg(s:ByteArray)(h1:(s.toList==[])=false):PCall P 266 [.lit (.string s),.lit (.string {data:= #[(0:UInt8)]})] (.lit (.string (bytesOf (J9 s)))):=
 j3 (.b 3 h1 (.c (bq 0 1) (.c (bq 0 1) (.r 20 (zhw s) .nil)))) (by kernel_rfl)
theorem zfF(b:Bool)(s:ByteArray)(h1:(s.toList==[])=true):PCall P 214 [.agg [.lit (.bool b),.lit (.string s)]] (.lit (.bool !b)):=
 j3 (.b 5 h1 .nil) (by kernel_rfl)
theorem zgw(b:Bool)(s:ByteArray)(h1:(s.toList==[])=false)(o1:(0:Int)≤0∧(0:Int)<(↑s.size:Int)):PCall P 214 [.agg [.lit (.bool b),.lit (.string s)]] (.lit (.bool ((↑(s.data.getD 0 (OfNat.ofNat 0)).toNat:Int) != 0))):=
 j3 (.b 5 h1 (.c o1 .nil)) (by kernel_rfl)
theorem znN(s:ByteArray)(o1:(0:Int)≤i64.wrap ((i64.wrap ((↑s.size:Int)+3)).tdiv 4)∧i64.wrap ((i64.wrap ((↑s.size:Int)+3)).tdiv 4)≤i64.wrap ((i64.wrap ((↑s.size:Int)+3)).tdiv 4)∧(4:Int)*i64.wrap ((i64.wrap ((↑s.size:Int)+3)).tdiv 4)≤140737488355328∧i64.wrap ((i64.wrap ((↑s.size:Int)+3)).tdiv 4)≤4611686018427387904∧1=1)(o2:CvL (List.replicate ((i64.wrap ((i64.wrap ((↑s.size:Int)+3)).tdiv 4)).toNat*1) (.cv (.lit (.int .u32 0))))){R:CV→Prop}(hR:Ok P 238 (loopHead P 238 0) ⟨J1 39 [(0,.cv (.lit (.string s))),(3,.sl 0 0 (i64.wrap ((i64.wrap ((↑s.size:Int)+3)).tdiv 4)).toNat 1),(12,.cv (.lit (.int .i64 (↑s.size:Int)))),(13,.cv (.lit (.int .i64 0)))],[some (List.replicate ((i64.wrap ((i64.wrap ((↑s.size:Int)+3)).tdiv 4)).toNat*1) (.cv (.lit (.int .u32 0))))]⟩ (.of R)):Y3 P 238 [.lit (.string s)] R:=
 Z6 (keep:=[0,3,12,13]) (σ:=[0]) (.c (nz 4) (.c o1 (.o 10 .stop .nil))) (by kernel_rfl) rfl hR (.cons o2 .nil)
theorem znT(s:ByteArray)(m i:Nat)(xs:List Nat)(h1:(decide ((i:Int)<(↑s.size:Int)))=true)(o2:(0:Int)≤i64.wrap ((i:Int).tdiv 4)∧i64.wrap ((i:Int).tdiv 4)<(m:Int))(o3:(own (j8 xs))[0+(i64.wrap ((i:Int).tdiv 4)).toNat*1]?=some (.cv (.lit (.int .u32 (↑(xs.getD (0+(i64.wrap ((i:Int).tdiv 4)).toNat*1) 0):Int)))))(o5:(0:Int)≤i64.wrap (i64.wrap ((↑s.size:Int)-1)-(i:Int))∧i64.wrap (i64.wrap ((↑s.size:Int)-1)-(i:Int))<(↑s.size:Int))(o7:(0:Int)≤i64.wrap ((8:Int)*(i:Int).tmod 4))(o8:(0:Int)≤i64.wrap ((i:Int).tdiv 4)∧i64.wrap ((i:Int).tdiv 4)<(m:Int))(o9:0+(i64.wrap ((i:Int).tdiv 4)).toNat*1+1≤(own (j8 xs)).length)(o10:CvL (j6 (own (j8 xs)) (0+(i64.wrap ((i:Int).tdiv 4)).toNat*1) [.cv (.lit (.int .u32 (X9 BinOp.or u32 (↑(xs.getD (0+(i64.wrap ((i:Int).tdiv 4)).toNat*1) 0):Int) (u32.wrap (u32.wrap (↑(s.data.getD (i64.wrap (i64.wrap ((↑s.size:Int)-1)-(i:Int))).toNat (OfNat.ofNat 0)).toNat:Int)*2^min (i64.wrap ((8:Int)*(i:Int).tmod 4)).toNat 32)))))])){R:Goal}(hn:j7 R.n [0]=true)(hR:Ok P 238 (loopHead P 238 0) ⟨J1 39 [(0,.cv (.lit (.string s))),(3,.sl 0 0 m 1),(12,.cv (.lit (.int .i64 (↑s.size:Int)))),(13,.cv (.lit (.int .i64 (i64.wrap ((i:Int)+1)))))],[some (j6 (own (j8 xs)) (0+(i64.wrap ((i:Int).tdiv 4)).toNat*1) [.cv (.lit (.int .u32 (X9 BinOp.or u32 (↑(xs.getD (0+(i64.wrap ((i:Int).tdiv 4)).toNat*1) 0):Int) (u32.wrap (u32.wrap (↑(s.data.getD (i64.wrap (i64.wrap ((↑s.size:Int)-1)-(i:Int))).toNat (OfNat.ofNat 0)).toNat:Int)*2^min (i64.wrap ((8:Int)*(i:Int).tmod 4)).toNat 32)))))])]⟩ R):Ok P 238 (loopHead P 238 0) ⟨.cv (.lit (.string s))::MV.unk::MV.unk:: .sl 0 0 m 1::(zar 8++ .cv (.lit (.int .i64 (↑s.size:Int))):: .cv (.lit (.int .i64 (i:Int)))::zar 25),[some (own (j8 xs))]⟩ R:=
 z07 (keep:=[0,3,12,13]) (σ:=[0]) (.b 2 h1 (.c (nz 4) (.c o2 (.e 15 o3 (.c (eqn 1) (.c o5 (.c (nz 4) (.c o7 (.c o8 (.c o9 (.o 29 .stop .nil))))))))))) (by kernel_rfl) rfl hn hR (.cons o10 .nil)
theorem zqg(s:ByteArray)(m i:Nat)(xs:List Nat)(h1:(decide ((i:Int)<(↑s.size:Int)))=false)(a:m=xs.length)(d:Dig 4294967296 xs)(e:xs.length<2^62)(o2:List.take (m*1) (List.drop 0 (own (j8 xs)))=List.map MV.cv (j8 xs)){R:Goal}(hR:R.c (.lst (dig 4294967296 (val 4294967296 xs)).length (j8 (dig 4294967296 (val 4294967296 xs))))):Ok P 238 (loopHead P 238 0) ⟨.cv (.lit (.string s))::MV.unk::MV.unk:: .sl 0 0 m 1::(zar 8++ .cv (.lit (.int .i64 (↑s.size:Int))):: .cv (.lit (.int .i64 (i:Int)))::zar 25),[some (own (j8 xs))]⟩ R:=
 okT (.b 2 h1 (.rs 4 [j8 xs] (z0x m xs a d e) (.c o2 .nil))) (by kernel_rfl) hR
theorem zjo(s:ByteArray):PCall P 266 [X1 s,X1 ⟨#[0]⟩] (X1 (bytesOf (J9 s))):=by
 by_cases h:s.size=0
 · have h1:z2B s=[]:=List.length_eq_zero_iff.1 (by rw[V8,h])
   have h2:s=⟨#[]⟩:=by rw[←z4R s,h1];rfl
   refine(zts s (by rw[Y9];simpa using h)).eq ?_
   rw[J9,h1,h2];rfl
 · exact ztg s (by rw[Y9];simpa using h)
def J5(neg:Bool)(mag:ByteArray):Bool:=if mag.size=0 then !neg else decide ((mag.data.getD 0 0).toNat≠0)
theorem W9(b:Bool)(s:ByteArray):PCall P 214 [.agg [.lit (.bool b),X1 s]] (.lit (.bool (J5 b s))):=by
 by_cases h:s.size=0
 · refine(zfF b s (by rw[Y9];simpa using h)).eq ?_
   simp[J5,h]
 · refine(zgw b s (by rw[Y9];simpa using h) (by omega)).eq ?_
   rw[J5,if_neg h]
   congr 2
   rw[show(OfNat.ofNat 0:UInt8)=0 from rfl]
   generalize (s.data.getD 0 0).toNat=n
   by_cases hn:n=0
   · subst hn;rfl
   · have:(n:Int)≠0:=by omega
     simp[hn]
theorem zkZ {R : Goal} (hn : j7 R.n [0] = true) (s : ByteArray) (hs : s.size < 2 ^ 40) (hR : R.c (z0c (J9 s))) :
    ∀(k i:Nat),s.size-i=k→i≤s.size→
    Ok P 238 (loopHead P 238 0) ⟨.cv (.lit (.string s)):: .unk:: .unk:: .sl 0 0 ((s.size+3)/4) 1::(zar 8++ .cv (.lit (.int .i64 s.size)):: .cv (.lit (.int .i64 i))::zar 25),
     [some (own (j8 (Z1 B32 ((s.size+3)/4) (val 256 ((z2B s).take i)))))]⟩ R:=by
 intro k
 induction k with
 |zero=>
  intro i hk hi
  have:i=s.size:=by omega
  subst this
  have hv:val 256 ((z2B s).take s.size)=J9 s:=by rw[←V8,List.take_length];rfl
  rw[hv]
  have hlen:=j9 B32 ((s.size+3)/4) (J9 s)
  refine zqg s _ s.size _ (by simp) hlen.symm (U8 (by decide) _ _) (by rw[hlen];omega) (z17 (by rw[Q7,hlen])) ?_
  have:val 4294967296 (Z1 B32 ((s.size+3)/4) (J9 s))=J9 s:=by
   rw[show(4294967296:Nat)=B32 from rfl,z0h,Nat.mod_eq_of_lt]
   refine Nat.lt_of_lt_of_le (z0L s) ?_
   rw[show B32=256^4 from rfl,←Nat.pow_mul]
   exact Nat.pow_le_pow_right (by decide) (by omega)
  rw[this]
  exact hR
 |succ k ih=>
  intro i hk hi
  have hlt:i<s.size:=by omega
  have hlen:=j9 B32 ((s.size+3)/4) (val 256 ((z2B s).take i))
  have hbyte:=(z1K s).get (by decide) i
  have hget:=z7k s hlt
  have hv:=V5 (b:=256) (xs:=z2B s) (i:=i) (by rw[V8];exact hlt)
  have hvlt:val 256 ((z2B s).take i)<256^i:=by
   have:=z0I (by decide:0<256) _ ((z1K s).take i)
   rw[List.length_take,V8,Nat.min_eq_left (Nat.le_of_lt hlt)]at this
   exact this
  generalize (z2B s).getD i 0=d at*
  generalize val 256 ((z2B s).take i)=v at*
  generalize hm:(s.size+3)/4=m at*
  have hjm:i/4<m:=by omega
  have hdg:=W4 B32 m v (i/4) hjm
  have hpow:(256:Nat)^i=B32^(i/4)*256^(i%4):=by
   rw[show B32=256^4 from rfl,←Nat.pow_mul,←Nat.pow_add,Nat.div_add_mod]
  have hq:v/B32^(i/4)<256^(i%4):=by
   rw[Nat.div_lt_iff_lt_mul (Nat.pow_pos (by decide)),Nat.mul_comm,←hpow];exact hvlt
  have hp3:(256:Nat)^(i%4)≤16777216:=by
   rw[show(16777216:Nat)=256^3 from rfl];exact Nat.pow_le_pow_right (by decide) (by omega)
  have hqm:v/B32^(i/4)%B32=v/B32^(i/4):=Nat.mod_eq_of_lt (by simp only[B32]at*;omega)
  have hr:(256:Nat)^(i%4)=2^(8*(i%4)):=by rw[show(256:Nat)=2^8 from rfl,←Nat.pow_mul]
  have hdr:d*256^(i%4)+v/B32^(i/4)<B32:=by
   have:(d+1)*256^(i%4)≤256*256^(i%4):=Nat.mul_le_mul_right _ hbyte
   have h4:256*256^(i%4)≤B32:=by simp only[B32];omega
   rw[Nat.add_mul,Nat.one_mul]at this
   omega
  have e1:i64.wrap ((i:Int).tdiv 4)=((i/4:Nat):Int):=by rw[Int.tdiv_eq_ediv_of_nonneg (by omega),w64 (by omega)];omega
  have e2:i64.wrap (i64.wrap ((s.size:Int)-1)-(i:Int))=((s.size-1-i:Nat):Int):=by rw[w64 (n:=(s.size:Int)-1) (by omega),w64 (by omega)];omega
  have e3:i64.wrap (8*(i:Int).tmod 4)=((8*(i%4):Nat):Int):=by rw[Int.tmod_eq_emod_of_nonneg (by omega),w64 (by omega)];omega
  have e4:i64.wrap ((i:Int)+1)=((i+1:Nat):Int):=by rw[w64 (by omega)];omega
  have e5:(0:Nat)+((i/4:Nat):Int).toNat*1=i/4:=by omega
  have e6:min (((8*(i%4):Nat):Int)).toNat 32=8*(i%4):=by omega
  have e7:X9 BinOp.or u32 (((Z1 B32 m v).getD (i/4) 0:Nat):Int) (u32.wrap (u32.wrap (((s.data.getD (((s.size-1-i:Nat):Int)).toNat (OfNat.ofNat 0)).toNat:Nat):Int)*2^min (((8*(i%4):Nat):Int)).toNat 32))=((v/B32^(i/4)%B32+d*256^(i%4):Nat):Int):=by
   rw[e6,hdg,hqm,show(((s.size-1-i:Nat):Int)).toNat=s.size-1-i by omega,show(OfNat.ofNat 0:UInt8)=0 from rfl,←hget]
   have e8:u32.wrap (u32.wrap (d:Int)*2^(8*(i%4)))=((d*2^(8*(i%4)):Nat):Int):=by
    have h5:u32.wrap (d:Int)=d:=by rw[z87];omega
    rw[h5]
    have h6:(d:Int)*2^(8*(i%4))=((d*2^(8*(i%4)):Nat):Int):=by norm_cast
    rw[h6,z87]
    rw[←hr]at*
    simp only[B32]at*;omega
   have hq2:v/B32^(i/4)<2^(8*(i%4)):=by rw[←hr];exact hq
   rw[e8,←hr,zeW (by simp only[B32]at*;omega) (by simp only[B32]at*;omega),Nat.or_comm,hr,z2p _ hq2,Nat.add_comm]
  refine znT s m i _ (by simp;omega) (by rw[e1];omega) ?_ (by rw[e2];omega) (by rw[e3];omega) (by rw[e1];omega) (by rw[e1,e5,J4,Q7,hlen];omega) ?_ hn ?_
  · rw[e1,e5];exact W5 (z7V (by rw[hlen];exact hjm))
  · rw[e1,e2,e3,e5,e7,Q6 (by rw[hlen];exact hjm)];exact J0 _
  · rw[e1,e2,e3,e4,e5,e7,Q6 (by rw[hlen];exact hjm),z1g (by decide) m v _ _ hjm (by rw[hqm];omega)]
    have h7:v+d*256^(i%4)*B32^(i/4)=v+256^i*d:=by rw[hpow,Nat.mul_assoc,Nat.mul_comm,Nat.mul_comm (256^(i%4))]
    rw[h7,←hv]
    exact ih (i+1) (by omega) (by omega)
theorem of_spec(s:ByteArray)(hs:s.size<2^40):PCall P 238 [X1 s] (z0c (J9 s)):=by
 have e1:i64.wrap ((i64.wrap ((s.size:Int)+3)).tdiv 4)=(((s.size+3)/4:Nat):Int):=by
  rw[w64 (n:=(s.size:Int)+3) (by omega),Int.tdiv_eq_ediv_of_nonneg (by omega),w64 (by omega)];omega
 refine znN s (by rw[e1];omega) (by rw[e1,U4];exact J0 _) ?_
 rw[e1,U4]
 have:=zkZ (R:= .of (fun x=>x=z0c (J9 s))) rfl s hs rfl _ 0 rfl (Nat.zero_le _)
 rw[List.take_zero,show val 256 []=0 from rfl,z1x]at this
 rw[show(((s.size+3)/4:Nat):Int).toNat=(s.size+3)/4 by omega,Nat.mul_one]
 exact this
end Go.Fw
