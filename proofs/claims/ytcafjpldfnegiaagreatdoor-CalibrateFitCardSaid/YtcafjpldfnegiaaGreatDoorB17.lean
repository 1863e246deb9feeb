/- A part of the proof that the law returns true for every input: an executor for the model's code, and what functions of the program compute. -/
import Derived.Test.YtcafjpldfnegiaaGreatDoorB11
import Derived.Test.YtcafjpldfnegiaaGreatDoorB15
import Derived.Test.YtcafjpldfnegiaaGreatDoorB16
import Derived.Laws.Strings
import Derived.KernelRfl
open Go
namespace Go.Fw
set_option maxRecDepth 10000
theorem zbs {B : Nat} {zs vs : List Nat} {i k c x A : Nat} (hk : i + k < zs.length) (hinv : val B zs + c * B ^ (i + k) = A + x * val B (vs.take k) * B ^ i) :
    val B (zs.set (i+k) ((c+zs.getD (i+k) 0+x*vs.getD k 0)%B))+(c+zs.getD (i+k) 0+x*vs.getD k 0)/B*B^(i+(k+1))=A+x*val B (vs.take (k+1))*B^i:=by
 have h:=za5 B zs (i+k) hk c (x*vs.getD k 0)
 rw[Y2,←Nat.add_assoc,h,hinv]
 have e:x*(val B (vs.take k)+B^k*vs.getD k 0)*B^i=x*val B (vs.take k)*B^i+x*vs.getD k 0*B^(i+k):=by
  rw[Nat.mul_add,Nat.add_mul,Nat.pow_add,Nat.mul_comm (B^k) (vs.getD k 0),←Nat.mul_assoc x,Nat.mul_assoc (x*vs.getD k 0),Nat.mul_comm (B^k)]
 rw[e];omega
theorem zgY{B c z x v:Nat}(hc:c<B)(hz:z<B)(hx:x<B)(hv:v<B):(c+z+x*v)/B<B:=by
 rw[Nat.div_lt_iff_lt_mul (by omega)]
 obtain⟨b,rfl⟩: ∃b,B=b+1:=⟨B-1,by omega⟩
 have h1:x*v≤b*b:=Nat.mul_le_mul (by omega) (by omega)
 have h2:(b+1)*(b+1)=b*b+b+b+1:=by rw[Nat.add_mul,Nat.mul_add,Nat.one_mul,Nat.mul_one];omega
 omega
theorem ze6 {B : Nat} {zs us : List Nat} {i m c V : Nat} (hk : i + m < zs.length) (h0 : zs.getD (i + m) 0 = 0) (hinv : val B zs + c * B ^ (i + m) = val B (us.take i) * V + us.getD i 0 * V * B ^ i) :
    val B (zs.set (i+m) c)=val B (us.take (i+1))*V:=by
 rw[zjT _ _ _ _ hk h0,hinv,Y2,Nat.add_mul]
 congr 1
 rw[Nat.mul_comm (B^i),Nat.mul_assoc,Nat.mul_assoc,Nat.mul_comm V]
end Go.Fw
namespace Go.Fw
def z1N(ls:List Nat):ByteArray:=⟨(ls.reverse.map UInt8.ofNat).toArray⟩
def z2v(s:ByteArray):List Nat:=(s.data.toList.map UInt8.toNat).reverse
def bytesOf(n:Nat):ByteArray:=z1N (dig 256 n)
def J8(s:ByteArray):Nat:=val 256 (z2v s)
theorem z1G(s:ByteArray):Dig 256 (z2v s):=by
 intro x hx
 simp only[z2v,List.mem_reverse,List.mem_map]at hx
 obtain⟨y,_,rfl⟩:=hx
 exact y.toNat_lt
theorem V6(s:ByteArray):(z2v s).length=s.size:=by simp[z2v]
theorem z4l(s:ByteArray):z1N (z2v s)=s:=by
 cases s with
 |mk d=>
  simp only[z1N,z2v,List.reverse_reverse,List.map_map]
  congr
  have:(UInt8.ofNat∘UInt8.toNat)=id:=by funext x;simp
  rw[this,List.map_id]
theorem zbW{ls:List Nat}(h:Dig 256 ls):z2v (z1N ls)=ls:=by
 simp only[z2v,z1N]
 rw[List.map_map,←List.map_reverse,List.reverse_reverse]
 conv=>rhs;rw[←List.map_id ls]
 refine List.map_congr_left fun x hx=>?_
 have:=h x hx
 simp only[Function.comp_apply,id,UInt8.toNat_ofNat']
 omega
theorem z6N(ls:List Nat):(z1N ls).size=ls.length:=by simp[z1N,ByteArray.size]
theorem zfh{a b:ByteArray}(h:a.data.toList=b.data.toList):a=b:=by
 cases a;cases b;congr;exact Array.ext' h
theorem z7N(ls:List Nat)(x:Nat):(z1N (ls++[x])).extract 1 (ls.length+1)=z1N ls:=by
 apply zfh
 simp only[z1N,ByteArray.data_extract,Array.toList_extract,List.reverse_append,List.reverse_cons,List.reverse_nil,List.nil_append,List.singleton_append,List.map_cons,List.extract_eq_take_drop,List.drop_succ_cons,List.drop_zero,Nat.add_sub_cancel]
 rw[List.take_of_length_le (by simp)]
theorem z3r(ls:List Nat)(x:Nat):(z1N (ls++[x])).data.getD 0 0=UInt8.ofNat x:=by simp[z1N]
theorem V4(s:ByteArray):(s.toList==[])=decide (s.size=0):=by
 rw[ByteArray.toList_eq]
 have:s.size=s.data.toList.length:=by simp
 rw[this]
 cases s.data.toList<;>simp
theorem z4Q{ls:List Nat}(h:Dig 256 ls):J8 (z1N ls)=val 256 ls:=by rw[J8,zbW h]
theorem z08(n:Nat):J8 (bytesOf n)=n:=by rw[bytesOf,z4Q (W1 (by decide) n),Q7 (by decide)]
theorem z1B(n:Nat):(bytesOf n).size=(dig 256 n).length:=z6N _
theorem z60{m n:Nat}(h:bytesOf m=bytesOf n):m=n:=by rw[←z08 m,h,z08]
theorem U9{n:Nat}:(bytesOf n).size=0↔n=0:=by rw[z1B];exact Y8 (by decide)
theorem z0K(s:ByteArray):J8 s<256^s.size:=by rw[J8,←V6];exact z0L (by decide) _ (z1G s)
theorem zcp(s:ByteArray):z1N (tz (z2v s))=bytesOf (J8 s):=by rw[z11 (by decide) _ (z1G s)];rfl
theorem z7g(s:ByteArray){i:Nat}(h:i<s.size):(z2v s).getD i 0=(s.data.getD (s.size-1-i) 0).toNat:=by
 have hs:s.size=s.data.size:=rfl
 simp only[z2v,List.getD_eq_getElem?_getD]
 rw[List.getElem?_reverse (by simp;omega)]
 simp only[List.length_map,Array.length_toList,List.getElem?_map,Array.getElem?_toList]
 rw[Array.getElem?_eq_getElem (by omega)]
 simp[Array.getD,show s.size-1-i<s.size by omega]
end Go.Fw
open Go IntKind
namespace Go.Fw
set_option maxRecDepth 100000
theorem zgM(x y z:Int):PCall P 255 [.lit (.int .u32 x),.lit (.int .u32 y),.lit (.int .u32 z)] (.tup [.lit (.int .u32 (u32.wrap (u64.wrap (u64.wrap (u64.wrap x+u64.wrap y)+u64.wrap z)))),.lit (.int .u32 (u32.wrap ((u64.wrap (u64.wrap (u64.wrap x+u64.wrap y)+u64.wrap z)).fdiv 4294967296)))]):=
 j3 (.c (nn 32) .nil) (by kernel_rfl)
theorem zg8(x y z:Int):PCall P 257 [.lit (.int .u32 x),.lit (.int .u32 y),.lit (.int .u32 z)] (.tup [.lit (.int .u32 (u32.wrap (u32.wrap (x-y)-z))),.lit (.int .u32 ((X6 BinOp.or u32 (X6 BinOp.and u32 (X6 BinOp.xor u32 (4294967295:Int) x) y) (X6 BinOp.and u32 (X6 BinOp.xor u32 (4294967295:Int) (X6 BinOp.xor u32 x y)) (u32.wrap (u32.wrap (x-y)-z)))).fdiv 2147483648))]):=
 j3 (.c (nn 31) .nil) (by kernel_rfl)
theorem zg3(x y z:Int)(hz:(z != 0)=true)(hx:decide (z≤x)=false)(o3 o4:u64.wrap z≠0):PCall P 269 [.lit (.int .u32 x),.lit (.int .u32 y),.lit (.int .u32 z)] (.tup [.lit (.int .u32 (u32.wrap (u64.wrap ((X6 BinOp.or u64 (u64.wrap (u64.wrap x*4294967296)) (u64.wrap y)).tdiv (u64.wrap z))))),.lit (.int .u32 (u32.wrap ((X6 BinOp.or u64 (u64.wrap (u64.wrap x*4294967296)) (u64.wrap y)).tmod (u64.wrap z))))]):=
 j3 (.b 4 hz (.b 9 hx (.c (nn 32) (.c o3 (.c o4 .nil))))) (by kernel_rfl)
theorem zfb(x y:Int):PCall P 267 [.lit (.int .u32 x),.lit (.int .u32 y)] (.tup [.lit (.int .u32 (u32.wrap ((u64.wrap (u64.wrap x*u64.wrap y)).fdiv 4294967296))),.lit (.int .u32 (u32.wrap (u64.wrap (u64.wrap x*u64.wrap y))))]):=
 j3 (.c (nn 32) .nil) (by kernel_rfl)
end Go.Fw
open Go
namespace Go.Fw
set_option maxRecDepth 100000
abbrev z4i(n:Nat):CV:= .lit (.int .u32 (n:Int))
abbrev j5(n:Int):CV:= .lit (.int .i64 n)
theorem z5Q{k k':IntKind}{a a' b b':Int}(h:a=a')(h':b=b'):CV.tup [.lit (.int k a),.lit (.int k' b)]= .tup [.lit (.int k a'),.lit (.int k' b')]:=by rw[h,h']
theorem z5P{k:IntKind}{a a':Int}(h:a=a'):CV.lit (.int k a)= .lit (.int k a'):=by rw[h]
theorem z87(n:Int):IntKind.u32.wrap n=n%4294967296:=IntKind.wrap_u32 n
theorem z1U(n:Int):IntKind.u64.wrap n=n%18446744073709551616:=IntKind.wrap_u64 n
theorem wr8(n:Int):IntKind.u8.wrap n=n%256:=IntKind.wrap_u8 n
theorem fdp(n:Int){d:Int}(h:0≤d):n.fdiv d=n/d:=Int.fdiv_eq_ediv_of_nonneg n h
theorem zdh(k:Nat)(a:Nat):BitVec.ofInt k (a:Int)=BitVec.ofNat k a:=by
 apply BitVec.eq_of_toNat_eq
 simp
theorem z44 (op : BinOp) (k : IntKind) (hk : k.signed = false) (a b : Nat) (ha : a < 2 ^ k.bits) (hb : b < 2 ^ k.bits) (hop : op = .and ∨ op = .or ∨ op = .xor) :
    X6 op k a b=((match op with| .and=>a&&&b| .or=>a|||b|_=>a^^^b:Nat):Int):=by
 have hw: ∀n:Nat,n<2^k.bits→k.wrap (n:Int)=n:=by
  intro n hn
  unfold IntKind.wrap
  simp only[hk,Bool.false_and,Bool.false_eq_true,if_false]
  norm_cast
  rw[Nat.mod_eq_of_lt hn]
 unfold X6
 simp only[zdh]
 rcases hop with rfl|rfl|rfl
 · dsimp only
   rw[BitVec.toNat_and,BitVec.toNat_ofNat,BitVec.toNat_ofNat,Nat.mod_eq_of_lt ha,Nat.mod_eq_of_lt hb]
   exact hw _ (Nat.and_lt_two_pow _ hb)
 · dsimp only
   rw[BitVec.toNat_or,BitVec.toNat_ofNat,BitVec.toNat_ofNat,Nat.mod_eq_of_lt ha,Nat.mod_eq_of_lt hb]
   exact hw _ (Nat.or_lt_two_pow ha hb)
 · dsimp only
   rw[BitVec.toNat_xor,BitVec.toNat_ofNat,BitVec.toNat_ofNat,Nat.mod_eq_of_lt ha,Nat.mod_eq_of_lt hb]
   exact hw _ (Nat.xor_lt_two_pow ha hb)
theorem zdr{a b:Nat}(ha:a<4294967296)(hb:b<4294967296):X6 .or .u32 (a:Int) (b:Int)=((a|||b:Nat):Int):=z44 .or .u32 rfl a b ha hb (by simp)
theorem ze7{a b:Nat}(ha:a<4294967296)(hb:b<4294967296):X6 .and .u32 (a:Int) (b:Int)=((a&&&b:Nat):Int):=z44 .and .u32 rfl a b ha hb (by simp)
theorem z9w{a b:Nat}(ha:a<4294967296)(hb:b<4294967296):X6 .xor .u32 (a:Int) (b:Int)=((a^^^b:Nat):Int):=z44 .xor .u32 rfl a b ha hb (by simp)
theorem z8L{a b:Nat}(ha:a<18446744073709551616)(hb:b<18446744073709551616):X6 .or .u64 (a:Int) (b:Int)=((a|||b:Nat):Int):=z44 .or .u64 rfl a b ha hb (by simp)
theorem z2g{a b:Nat}(i:Nat)(hb:b<2^i):a*2^i|||b=a*2^i+b:=by
 rw[←Nat.shiftLeft_eq,Nat.shiftLeft_add_eq_or_of_lt hb]
theorem z1j(x y c:Nat)(hx:x<B32)(hy:y<B32)(hc:c≤1):PCall P 255 [z4i x,z4i y,z4i c] (.tup [z4i ((x+y+c)%B32),z4i ((x+y+c)/B32)]):=by
 refine(zgM x y c).eq ?_
 simp only[z87,z1U,fdp _ (by decide:(0:Int)≤4294967296),B32]at*
 exact z5Q (by omega) (by omega)
theorem zbd(x y:Nat)(hx:x<B32)(hy:y<B32):PCall P 267 [z4i x,z4i y] (.tup [z4i (x*y/B32),z4i (x*y%B32)]):=by
 refine(zfb x y).eq ?_
 have h:x*y≤4294967295*4294967295:=Nat.mul_le_mul (by simp only[B32]at hx;omega) (by simp only[B32]at hy;omega)
 simp only[z87,z1U,fdp _ (by decide:(0:Int)≤4294967296),B32]at*
 have h1:(x:Int)%18446744073709551616*((y:Int)%18446744073709551616)=((x*y:Nat):Int):=by
  rw[Int.emod_eq_of_lt (by omega) (by omega),Int.emod_eq_of_lt (by omega) (by omega)];simp
 rw[h1]
 exact z5Q (by omega) (by omega)
theorem zbR(x y z:Nat)(hx:x<z)(hy:y<B32)(hz:z<B32):PCall P 269 [z4i x,z4i y,z4i z] (.tup [z4i ((x*B32+y)/z),z4i ((x*B32+y)%z)]):=by
 have h0:0<z:=by omega
 have hzw:IntKind.u64.wrap (z:Int)=z:=by rw[z1U];simp only[B32]at hz;omega
 have hne:(z:Int)≠0:=by omega
 refine(zg3 x y z (by simpa using hne) (by simp;omega) (by rw[hzw];exact hne) (by rw[hzw];exact hne)).eq ?_
 rw[hzw]
 simp only[B32]at*
 have h1:IntKind.u64.wrap (IntKind.u64.wrap (x:Int)*4294967296)=((x*2^32:Nat):Int):=by rw[z1U,z1U];omega
 have h2:IntKind.u64.wrap (y:Int)=(y:Nat):=by rw[z1U];omega
 rw[h1,h2,z8L (by omega) (by omega),z2g 32 (by omega),show(2:Nat)^32=4294967296 by decide,z87,z1U,z87,Int.tdiv_eq_ediv_of_nonneg (by omega),Int.tmod_eq_emod_of_nonneg (by omega)]
 have h3:(x*4294967296+y)/z<4294967296:=by
  rw[Nat.div_lt_iff_lt_mul h0]
  have:(x+1)*4294967296≤z*4294967296:=Nat.mul_le_mul_right _ hx
  rw[Nat.mul_comm 4294967296 z];omega
 have h4:(x*4294967296+y)%z<4294967296:=by have:=Nat.mod_lt (x*4294967296+y) h0;omega
 rw[show((x*4294967296+y:Nat):Int)/(z:Int)=(((x*4294967296+y)/z:Nat):Int)from(Int.natCast_ediv _ _).symm,
  show((x*4294967296+y:Nat):Int)%(z:Int)=(((x*4294967296+y)%z:Nat):Int)from(Int.natCast_emod _ _).symm]
 generalize (x*4294967296+y)/z=q at*
 generalize (x*4294967296+y)%z=r at*
 exact z5Q (by omega) (by omega)
theorem z4z(x y c:Nat)(hx:x<B32)(hy:y<B32)(hc:c≤1):PCall P 257 [z4i x,z4i y,z4i c] (.tup [z4i ((x+2*B32-y-c)%B32),z4i (if x<y+c then 1 else 0)]):=by
 refine(zg8 x y c).eq ?_
 simp only[B32]at*
 have hd:IntKind.u32.wrap (IntKind.u32.wrap ((x:Int)-y)-c)=((x+2*4294967296-y-c)%4294967296:Nat):=by rw[z87,z87];omega
 rw[hd]
 have hd':(x+2*4294967296-y-c)%4294967296<4294967296:=Nat.mod_lt _ (by decide)
 generalize hdd:(x+2*4294967296-y-c)%4294967296=d at*
 have hm:(4294967295:Int)=((4294967295:Nat):Int):=rfl
 have hxy:x^^^y<4294967296:=Nat.xor_lt_two_pow (n:=32) hx hy
 have hnx:4294967295^^^x<4294967296:=Nat.xor_lt_two_pow (n:=32) (by decide) hx
 have hnxy:4294967295^^^(x^^^y)<4294967296:=Nat.xor_lt_two_pow (n:=32) (by decide) hxy
 have ha1:(4294967295^^^x)&&&y<4294967296:=Nat.and_lt_two_pow (n:=32) _ hy
 have ha2:(4294967295^^^(x^^^y))&&&d<4294967296:=Nat.and_lt_two_pow (n:=32) _ hd'
 rw[hm,z9w (by decide) hx,ze7 hnx hy,z9w hx hy,z9w (by decide) hxy,ze7 hnxy hd',zdr ha1 ha2,fdp _ (by decide),show(2147483648:Int)=((2147483648:Nat):Int)from rfl,←Int.natCast_ediv]
 have key:((4294967295^^^x)&&&y|||(4294967295^^^(x^^^y))&&&d)/2147483648=if x<y+c then 1 else 0:=by
  rw[show(2147483648:Nat)=2^31 from rfl,←Nat.shiftRight_eq_div_pow]
  simp only[Nat.shiftRight_or_distrib,Nat.shiftRight_and_distrib,Nat.shiftRight_xor_distrib]
  rw[show(4294967295:Nat)>>>31=1 from rfl]
  simp only[Nat.shiftRight_eq_div_pow]
  rw[show(2:Nat)^31=2147483648 from rfl]
  have e1:x/2147483648=0∨x/2147483648=1:=by omega
  have e2:y/2147483648=0∨y/2147483648=1:=by omega
  have e3:d/2147483648=0∨d/2147483648=1:=by omega
  rcases e1 with e1|e1<;>rcases e2 with e2|e2<;>rcases e3 with e3|e3<;>rw[e1,e2,e3]
  all_goals first
   |(rw[if_pos (by omega)];rfl)
   |(rw[if_neg (by omega)];rfl)
 rw[key]
end Go.Fw
open Go IntKind
namespace Go.Fw
set_option maxRecDepth 100000
theorem zf5(n:Nat)(xs:List Nat){R:CV→Prop}(hR:Ok P 254 (loopHead P 254 0) ⟨J1 21 [(0,.cv (.lst n (j7 xs)))],[]⟩ (.of R)):Y6 P 254 [.lst n (j7 xs)] R:=
 Y0 (keep:=[0]) (σ:=[]) (.o 1 .stop .nil) (by kernel_rfl) rfl hR .nil
theorem zgD(n:Nat)(xs:List Nat)(h1:decide ((n:Int)>0)=true)(h2:((↑(xs.getD ((i64.wrap ((n:Int)-1)).toNat*1) 0):Int)==0)=true)(o1:(0:Int)≤i64.wrap ((n:Int)-1)∧i64.wrap ((n:Int)-1)<(n:Int))(o2:(j7 xs)[(i64.wrap ((n:Int)-1)).toNat*1]?=some (.lit (.int .u32 (↑(xs.getD ((i64.wrap ((n:Int)-1)).toNat*1) 0):Int))))(o5:(0:Int)≤0∧(0:Int)≤i64.wrap ((n:Int)-1)∧i64.wrap ((n:Int)-1)≤(n:Int))(o6:(j7 xs).length=n*1){R:Goal}(hn:j8 R.n []=true)(hR:Ok P 254 (loopHead P 254 0) ⟨J1 21 [(0,.cv (.lst (i64.wrap ((n:Int)-1)-0).toNat (List.take ((i64.wrap ((n:Int)-1)-0).toNat*1) (List.drop 0 (j7 xs)))))],[]⟩ R):Ok P 254 (loopHead P 254 0) ⟨.cv (.lst n (j7 xs))::zav 20,[]⟩ R:=
 z0n (keep:=[0]) (σ:=[]) (.b 4 h1 (.c o1 (.l 10 o2 (.c (eqn 1) (.b 13 h2 (.c o5 (.c o6 (.o 20 .stop .nil)))))))) (by kernel_rfl) rfl hn hR .nil
theorem zfQ(n:Nat)(xs:List Nat)(h1:decide ((n:Int)>0)=true)(h2:((↑(xs.getD ((i64.wrap ((n:Int)-1)).toNat*1) 0):Int)==0)=false)(o1:(0:Int)≤i64.wrap ((n:Int)-1)∧i64.wrap ((n:Int)-1)<(n:Int))(o2:(j7 xs)[(i64.wrap ((n:Int)-1)).toNat*1]?=some (.lit (.int .u32 (↑(xs.getD ((i64.wrap ((n:Int)-1)).toNat*1) 0):Int)))){R:Goal}(hR:R.c (.lst n (j7 xs))):Ok P 254 (loopHead P 254 0) ⟨.cv (.lst n (j7 xs))::zav 20,[]⟩ R:=
 okT (.b 4 h1 (.c o1 (.l 10 o2 (.c (eqn 1) (.b 13 h2 .nil))))) (by kernel_rfl) hR
theorem zfS(n:Nat)(xs:List Nat)(h1:decide ((n:Int)>0)=false){R:Goal}(hR:R.c (.lst n (j7 xs))):Ok P 254 (loopHead P 254 0) ⟨.cv (.lst n (j7 xs))::zav 20,[]⟩ R:=
 okT (.b 4 h1 .nil) (by kernel_rfl) hR
end Go.Fw
open Go
namespace Go.Fw
set_option maxRecDepth 100000
theorem zet(xs:List Nat)(k:Nat):(j7 xs).take k=j7 (xs.take k):=by simp[j7]
theorem zey {R : Goal} (hn : j8 R.n [] = true) : ∀ (k : Nat) (xs : List Nat), xs.length = k → k < 2 ^ 62 → R.c (.lst (tz xs).length (j7 (tz xs))) →
    Ok P 254 (loopHead P 254 0) ⟨.cv (.lst xs.length (j7 xs))::zav 20,[]⟩ R:=by
 intro k
 induction k with
 |zero=>
  intro xs hl _ hR
  have:xs=[]:=List.length_eq_zero_iff.1 hl
  subst this
  exact zfS 0 [] (by decide) hR
 |succ k ih=>
  intro xs hl hk hR
  have hw:IntKind.i64.wrap ((xs.length:Int)-1)=(k:Int):=by rw[hl,w64 (by omega)];omega
  have hne:xs≠[]:=by intro e;subst e;simp at hl
  have hcon:=U2 hne
  rw[hl,Nat.add_sub_cancel]at hcon
  have hget:(j7 xs)[k]?=some (z6w xs k):=z7s (by omega)
  by_cases hx:xs.getD k 0=0
  · refine zgD xs.length xs (by simp;omega) (by rw[hw];simpa using hx) (by rw[hw];omega) (by rw[hw];simpa[z6w]using hget) (by rw[hw];omega) (by simp[j7]) hn ?_
    rw[hw]
    have h1:((k:Int)-0).toNat=k:=by omega
    rw[h1,Nat.mul_one,List.drop_zero,zet]
    have h2:(xs.take k).length=k:=by simp;omega
    have:=ih (xs.take k) h2 (by omega) (by rw[hcon,hx,W6]at hR;exact hR)
    rw[h2]at this
    exact this
  · refine zfQ xs.length xs (by simp;omega) (by rw[hw];simpa using hx) (by rw[hw];omega) (by rw[hw];simpa[z6w]using hget) ?_
    rw[hcon,z13 hx,←hcon]at hR
    exact hR
theorem z0A(n:Nat)(xs:List Nat)(hn:n=xs.length)(hd:Dig B32 xs)(hl:xs.length<2^62):PCall P 254 [.lst n (j7 xs)] (z0v (val B32 xs)):=by
 subst hn
 refine zf5 xs.length xs (zey rfl _ xs rfl hl ?_)
 exact zlx hd
end Go.Fw
namespace Go.Fw
theorem trim1_spec(a:Int)(h0:0≤a)(h1:a<4294967296):PCall P 254 [.lst 1 [.lit (.int .u32 a)]] (z0v a.toNat):=by
 have:=z0A 1 [a.toNat] rfl (by intro x hx;simp only[List.mem_singleton]at hx;simp only[B32];omega) (by simp)
 rw[show j7 [a.toNat]=[.lit (.int .u32 a)] by simp[j7];omega,show val B32 [a.toNat]=a.toNat by simp[val]]at this
 exact this
theorem trim2_spec(a b:Int)(h0:0≤a)(h1:a<4294967296)(g0:0≤b)(g1:b<4294967296):PCall P 254 [.lst 2 [.lit (.int .u32 a),.lit (.int .u32 b)]] (z0v (a+4294967296*b).toNat):=by
 have:=z0A 2 [a.toNat,b.toNat] rfl (by intro x hx;simp only[List.mem_cons,List.not_mem_nil,or_false]at hx;simp only[B32];omega) (by simp)
 rw[show j7 [a.toNat,b.toNat]=[.lit (.int .u32 a),.lit (.int .u32 b)] by simp[j7];omega,show val B32 [a.toNat,b.toNat]=(a+4294967296*b).toNat by simp only[val,B32];omega]at this
 exact this
end Go.Fw
open Go IntKind
namespace Go.Fw
set_option maxRecDepth 100000
theorem zkw(s:ByteArray)(c:Int){R:CV→Prop}(hR:Ok P 271 (loopHead P 271 0) ⟨J1 17 [(0,.cv (.lit (.string s))),(1,.cv (.lit (.int .u8 c)))],[]⟩ (.of R)):Y6 P 271 [.lit (.string s),.lit (.int .u8 c)] R:=
 Y0 (keep:=[0,1]) (σ:=[]) (.o 1 .stop .nil) (by kernel_rfl) rfl hR .nil
theorem zjP(s:ByteArray)(c:Int)(h1:decide ((↑s.size:Int)>0)=true)(h2:((↑(s.data.getD 0 (OfNat.ofNat 0)).toNat:Int)==c)=true)(o1:(0:Int)≤0∧(0:Int)<(↑s.size:Int))(o3:(0:Int)≤1∧(1:Int)≤(↑s.size:Int)∧(↑s.size:Int)≤(↑s.size:Int)){R:Goal}(hn:j8 R.n []=true)(hR:Ok P 271 (loopHead P 271 0) ⟨J1 17 [(0,.cv (.lit (.string (s.extract 1 (↑s.size:Int).toNat)))),(1,.cv (.lit (.int .u8 c)))],[]⟩ R):Ok P 271 (loopHead P 271 0) ⟨.cv (.lit (.string s)):: .cv (.lit (.int .u8 c))::zav 15,[]⟩ R:=
 z0n (keep:=[0,1]) (σ:=[]) (.b 4 h1 (.c o1 (.b 10 h2 (.c o3 (.o 14 .stop .nil))))) (by kernel_rfl) rfl hn hR .nil
theorem zjp(s:ByteArray)(c:Int)(h1:decide ((↑s.size:Int)>0)=true)(h2:((↑(s.data.getD 0 (OfNat.ofNat 0)).toNat:Int)==c)=false)(o1:(0:Int)≤0∧(0:Int)<(↑s.size:Int)){R:Goal}(hR:R.c (.lit (.string s))):Ok P 271 (loopHead P 271 0) ⟨.cv (.lit (.string s)):: .cv (.lit (.int .u8 c))::zav 15,[]⟩ R:=
 okT (.b 4 h1 (.c o1 (.b 10 h2 .nil))) (by kernel_rfl) hR
theorem zm8(s:ByteArray)(c:Int)(h1:decide ((↑s.size:Int)>0)=false){R:Goal}(hR:R.c (.lit (.string s))):Ok P 271 (loopHead P 271 0) ⟨.cv (.lit (.string s)):: .cv (.lit (.int .u8 c))::zav 15,[]⟩ R:=
 okT (.b 4 h1 .nil) (by kernel_rfl) hR
end Go.Fw
open Go
namespace Go.Fw
set_option maxRecDepth 100000
abbrev X9(s:ByteArray):CV:= .lit (.string s)
theorem zfs {R : Goal} (hn : j8 R.n [] = true) : ∀ (k : Nat) (ls : List Nat), ls.length = k → Dig 256 ls → R.c (X9 (z1N (tz ls))) →
    Ok P 271 (loopHead P 271 0) ⟨.cv (X9 (z1N ls)):: .cv (.lit (.int .u8 0))::zav 15,[]⟩ R:=by
 intro k
 induction k with
 |zero=>
  intro ls hl _ hR
  have:ls=[]:=List.length_eq_zero_iff.1 hl
  subst this
  exact zm8 _ 0 (by decide) hR
 |succ k ih=>
  intro ls hl hd hR
  have hne:ls≠[]:=by intro e;subst e;simp at hl
  have hcon:=U2 hne
  rw[hl,Nat.add_sub_cancel]at hcon
  have hsz:(z1N ls).size=k+1:=by rw[z6N,hl]
  have hx:=hd.get (by decide) k
  have hd':=hd.take k
  have hlt:(ls.take k).length=k:=by simp;omega
  generalize ls.take k=ms at*
  generalize ls.getD k 0=x at*
  subst hcon
  have hfirst:((z1N (ms++[x])).data.getD 0 0).toNat=x:=by rw[z3r];simp;omega
  by_cases h0:x=0
  · refine zjP _ 0 (by rw[hsz];simp) (by rw[show(OfNat.ofNat 0:UInt8)=0 from rfl,hfirst,h0];rfl) (by omega) (by omega) hn ?_
    have:=ih ms hlt hd' (by rw[h0,W6]at hR;exact hR)
    rw[hsz,show((k+1:Nat):Int).toNat=ms.length+1 by omega,z7N]
    exact this
  · refine zjp _ 0 (by rw[hsz];simp) (by rw[show(OfNat.ofNat 0:UInt8)=0 from rfl,hfirst];simpa using h0) (by omega) ?_
    rw[z13 h0]at hR
    exact hR
theorem zfu(s:ByteArray):PCall P 271 [X9 s,.lit (.int .u8 0)] (X9 (bytesOf (J8 s))):=by
 refine zkw s 0 ?_
 have:=zfs (R:= .of (fun x=>x=X9 (bytesOf (J8 s)))) rfl _ (z2v s) rfl (z1G s) (by rw[zcp];rfl)
 rw[z4l]at this
 exact this
end Go.Fw
open Go IntKind
namespace Go.Fw
set_option maxRecDepth 100000
theorem zri(s:ByteArray)(h1:(s.toList==[])=true):PCall P 266 [.lit (.string s),.lit (.string {data:= #[(0:UInt8)]})] (.lit (.string s)):=
 j3 (.b 3 h1 .nil) (by kernel_rfl)
theorem zrg(s:ByteArray)(h1:(s.toList==[])=false):PCall P 266 [.lit (.string s),.lit (.string {data:= #[(0:UInt8)]})] (.lit (.string (bytesOf (J8 s)))):=
 j3 (.b 3 h1 (.c (bq 0 1) (.c (bq 0 1) (.r 20 (zfu (s)) .nil)))) (by kernel_rfl)
theorem zfK(b:Bool)(s:ByteArray)(h1:(s.toList==[])=true):PCall P 214 [.agg [.lit (.bool b),.lit (.string s)]] (.lit (.bool !b)):=
 j3 (.b 5 h1 .nil) (by kernel_rfl)
theorem zeT(b:Bool)(s:ByteArray)(h1:(s.toList==[])=false)(o1:(0:Int)≤0∧(0:Int)<(↑s.size:Int)):PCall P 214 [.agg [.lit (.bool b),.lit (.string s)]] (.lit (.bool ((↑(s.data.getD 0 (OfNat.ofNat 0)).toNat:Int) != 0))):=
 j3 (.b 5 h1 (.c o1 .nil)) (by kernel_rfl)
theorem zq9(s:ByteArray)(o1:(0:Int)≤i64.wrap ((i64.wrap ((↑s.size:Int)+3)).tdiv 4)∧i64.wrap ((i64.wrap ((↑s.size:Int)+3)).tdiv 4)≤i64.wrap ((i64.wrap ((↑s.size:Int)+3)).tdiv 4)∧(4:Int)*i64.wrap ((i64.wrap ((↑s.size:Int)+3)).tdiv 4)≤140737488355328∧i64.wrap ((i64.wrap ((↑s.size:Int)+3)).tdiv 4)≤4611686018427387904∧1=1)(o2:CvL (List.replicate ((i64.wrap ((i64.wrap ((↑s.size:Int)+3)).tdiv 4)).toNat*1) (.cv (.lit (.int .u32 0))))){R:CV→Prop}(hR:Ok P 238 (loopHead P 238 0) ⟨J1 39 [(0,.cv (.lit (.string s))),(3,.sl 0 0 (i64.wrap ((i64.wrap ((↑s.size:Int)+3)).tdiv 4)).toNat 1),(12,.cv (.lit (.int .i64 (↑s.size:Int)))),(13,.cv (.lit (.int .i64 0)))],[some (List.replicate ((i64.wrap ((i64.wrap ((↑s.size:Int)+3)).tdiv 4)).toNat*1) (.cv (.lit (.int .u32 0))))]⟩ (.of R)):Y6 P 238 [.lit (.string s)] R:=
 Y0 (keep:=[0,3,12,13]) (σ:=[0]) (.c (nz 4) (.c o1 (.o 10 .stop .nil))) (by kernel_rfl) rfl hR (.cons o2 .nil)
theorem znk(s:ByteArray)(m i:Nat)(xs:List Nat)(h1:(decide ((i:Int)<(↑s.size:Int)))=true)(o2:(0:Int)≤i64.wrap ((i:Int).tdiv 4)∧i64.wrap ((i:Int).tdiv 4)<(m:Int))(o3:(own (j7 xs))[0+(i64.wrap ((i:Int).tdiv 4)).toNat*1]?=some (.cv (.lit (.int .u32 (↑(xs.getD (0+(i64.wrap ((i:Int).tdiv 4)).toNat*1) 0):Int)))))(o5:(0:Int)≤i64.wrap (i64.wrap ((↑s.size:Int)-1)-(i:Int))∧i64.wrap (i64.wrap ((↑s.size:Int)-1)-(i:Int))<(↑s.size:Int))(o7:(0:Int)≤i64.wrap ((8:Int)*(i:Int).tmod 4))(o8:(0:Int)≤i64.wrap ((i:Int).tdiv 4)∧i64.wrap ((i:Int).tdiv 4)<(m:Int))(o9:0+(i64.wrap ((i:Int).tdiv 4)).toNat*1+1≤(own (j7 xs)).length)(o10:CvL (j6 (own (j7 xs)) (0+(i64.wrap ((i:Int).tdiv 4)).toNat*1) [.cv (.lit (.int .u32 (X6 BinOp.or u32 (↑(xs.getD (0+(i64.wrap ((i:Int).tdiv 4)).toNat*1) 0):Int) (u32.wrap (u32.wrap (↑(s.data.getD (i64.wrap (i64.wrap ((↑s.size:Int)-1)-(i:Int))).toNat (OfNat.ofNat 0)).toNat:Int)*2^min (i64.wrap ((8:Int)*(i:Int).tmod 4)).toNat 32)))))])){R:Goal}(hn:j8 R.n [0]=true)(hR:Ok P 238 (loopHead P 238 0) ⟨J1 39 [(0,.cv (.lit (.string s))),(3,.sl 0 0 m 1),(12,.cv (.lit (.int .i64 (↑s.size:Int)))),(13,.cv (.lit (.int .i64 (i64.wrap ((i:Int)+1)))))],[some (j6 (own (j7 xs)) (0+(i64.wrap ((i:Int).tdiv 4)).toNat*1) [.cv (.lit (.int .u32 (X6 BinOp.or u32 (↑(xs.getD (0+(i64.wrap ((i:Int).tdiv 4)).toNat*1) 0):Int) (u32.wrap (u32.wrap (↑(s.data.getD (i64.wrap (i64.wrap ((↑s.size:Int)-1)-(i:Int))).toNat (OfNat.ofNat 0)).toNat:Int)*2^min (i64.wrap ((8:Int)*(i:Int).tmod 4)).toNat 32)))))])]⟩ R):Ok P 238 (loopHead P 238 0) ⟨.cv (.lit (.string s))::MV.unk::MV.unk:: .sl 0 0 m 1::(zav 8++ .cv (.lit (.int .i64 (↑s.size:Int))):: .cv (.lit (.int .i64 (i:Int)))::zav 25),[some (own (j7 xs))]⟩ R:=
 z0n (keep:=[0,3,12,13]) (σ:=[0]) (.b 2 h1 (.c (nz 4) (.c o2 (.e 15 o3 (.c (eqn 1) (.c o5 (.c (nz 4) (.c o7 (.c o8 (.c o9 (.o 29 .stop .nil))))))))))) (by kernel_rfl) rfl hn hR (.cons o10 .nil)
theorem zmy(s:ByteArray)(m i:Nat)(xs:List Nat)(h1:(decide ((i:Int)<(↑s.size:Int)))=false)(s4_0:m=xs.length)(s4_1:Dig 4294967296 xs)(s4_2:xs.length<2^62)(o2:List.take (m*1) (List.drop 0 (own (j7 xs)))=List.map MV.cv (j7 xs)){R:Goal}(hR:R.c (.lst (dig 4294967296 (val 4294967296 xs)).length (j7 (dig 4294967296 (val 4294967296 xs))))):Ok P 238 (loopHead P 238 0) ⟨.cv (.lit (.string s))::MV.unk::MV.unk:: .sl 0 0 m 1::(zav 8++ .cv (.lit (.int .i64 (↑s.size:Int))):: .cv (.lit (.int .i64 (i:Int)))::zav 25),[some (own (j7 xs))]⟩ R:=
 okT (.b 2 h1 (.rs 4 [j7 xs] (z0A (m) (xs) s4_0 s4_1 s4_2) (.c o2 .nil))) (by kernel_rfl) hR
end Go.Fw
open Go
namespace Go.Fw
set_option maxRecDepth 100000
theorem ziF(s:ByteArray):PCall P 266 [X9 s,X9 ⟨#[0]⟩] (X9 (bytesOf (J8 s))):=by
 by_cases h:s.size=0
 · have h1:z2v s=[]:=List.length_eq_zero_iff.1 (by rw[V6,h])
   have h2:s=⟨#[]⟩:=by rw[←z4l s,h1];rfl
   refine(zri s (by rw[V4];simpa using h)).eq ?_
   rw[J8,h1,h2];rfl
 · exact zrg s (by rw[V4];simpa using h)
def J5(neg:Bool)(mag:ByteArray):Bool:=if mag.size=0 then !neg else decide ((mag.data.getD 0 0).toNat≠0)
theorem W8(b:Bool)(s:ByteArray):PCall P 214 [.agg [.lit (.bool b),X9 s]] (.lit (.bool (J5 b s))):=by
 by_cases h:s.size=0
 · refine(zfK b s (by rw[V4];simpa using h)).eq ?_
   simp[J5,h]
 · refine(zeT b s (by rw[V4];simpa using h) (by omega)).eq ?_
   rw[J5,if_neg h]
   congr 2
   rw[show(OfNat.ofNat 0:UInt8)=0 from rfl]
   generalize (s.data.getD 0 0).toNat=n
   by_cases hn:n=0
   · subst hn;rfl
   · have:(n:Int)≠0:=by omega
     simp[hn]
theorem zlD {R : Goal} (hn : j8 R.n [0] = true) (s : ByteArray) (hs : s.size < 2 ^ 40) (hR : R.c (z0v (J8 s))) :
    ∀(k i:Nat),s.size-i=k→i≤s.size→
    Ok P 238 (loopHead P 238 0) ⟨.cv (.lit (.string s)):: .unk:: .unk:: .sl 0 0 ((s.size+3)/4) 1::(zav 8++ .cv (.lit (.int .i64 s.size)):: .cv (.lit (.int .i64 i))::zav 25),
     [some (own (j7 (Q8 B32 ((s.size+3)/4) (val 256 ((z2v s).take i)))))]⟩ R:=by
 intro k
 induction k with
 |zero=>
  intro i hk hi
  have:i=s.size:=by omega
  subst this
  have hv:val 256 ((z2v s).take s.size)=J8 s:=by rw[←V6,List.take_length];rfl
  rw[hv]
  have hlen:=j9 B32 ((s.size+3)/4) (J8 s)
  refine zmy s _ s.size _ (by simp) hlen.symm (U5 (by decide) _ _) (by rw[hlen];omega) (z16 (by rw[Q2,hlen])) ?_
  have:val 4294967296 (Q8 B32 ((s.size+3)/4) (J8 s))=J8 s:=by
   rw[show(4294967296:Nat)=B32 from rfl,z0e,Nat.mod_eq_of_lt]
   refine Nat.lt_of_lt_of_le (z0K s) ?_
   rw[show B32=256^4 from rfl,←Nat.pow_mul]
   exact Nat.pow_le_pow_right (by decide) (by omega)
  rw[this]
  exact hR
 |succ k ih=>
  intro i hk hi
  have hlt:i<s.size:=by omega
  have hlen:=j9 B32 ((s.size+3)/4) (val 256 ((z2v s).take i))
  have hbyte:=(z1G s).get (by decide) i
  have hget:=z7g s hlt
  have hv:=V0 (b:=256) (xs:=z2v s) (i:=i) (by rw[V6];exact hlt)
  have hvlt:val 256 ((z2v s).take i)<256^i:=by
   have:=z0L (by decide:0<256) _ ((z1G s).take i)
   rw[List.length_take,V6,Nat.min_eq_left (Nat.le_of_lt hlt)]at this
   exact this
  generalize (z2v s).getD i 0=d at*
  generalize val 256 ((z2v s).take i)=v at*
  generalize hm:(s.size+3)/4=m at*
  have hjm:i/4<m:=by omega
  have hdg:=W7 B32 m v (i/4) hjm
  have hpow:(256:Nat)^i=B32^(i/4)*256^(i%4):=by
   rw[show B32=256^4 from rfl,←Nat.pow_mul,←Nat.pow_add,Nat.div_add_mod]
  have hq:v/B32^(i/4)<256^(i%4):=by
   rw[Nat.div_lt_iff_lt_mul (Nat.pow_pos (by decide)),Nat.mul_comm,←hpow];exact hvlt
  have hp3:(256:Nat)^(i%4)≤16777216:=by
   rw[show(16777216:Nat)=256^3 from rfl];exact Nat.pow_le_pow_right (by decide) (by omega)
  have hqm:v/B32^(i/4)%B32=v/B32^(i/4):=Nat.mod_eq_of_lt (by simp only[B32]at*;omega)
  have hr:(256:Nat)^(i%4)=2^(8*(i%4)):=by rw[show(256:Nat)=2^8 from rfl,←Nat.pow_mul]
  have hdr:d*256^(i%4)+v/B32^(i/4)<B32:=by
   have:(d+1)*256^(i%4)≤256*256^(i%4):=Nat.mul_le_mul_right _ hbyte
   have h4:256*256^(i%4)≤B32:=by simp only[B32];omega
   rw[Nat.add_mul,Nat.one_mul]at this
   omega
  have e1:IntKind.i64.wrap ((i:Int).tdiv 4)=((i/4:Nat):Int):=by rw[Int.tdiv_eq_ediv_of_nonneg (by omega),w64 (by omega)];omega
  have e2:IntKind.i64.wrap (IntKind.i64.wrap ((s.size:Int)-1)-(i:Int))=((s.size-1-i:Nat):Int):=by rw[w64 (n:=(s.size:Int)-1) (by omega),w64 (by omega)];omega
  have e3:IntKind.i64.wrap (8*(i:Int).tmod 4)=((8*(i%4):Nat):Int):=by rw[Int.tmod_eq_emod_of_nonneg (by omega),w64 (by omega)];omega
  have e4:IntKind.i64.wrap ((i:Int)+1)=((i+1:Nat):Int):=by rw[w64 (by omega)];omega
  have e5:(0:Nat)+((i/4:Nat):Int).toNat*1=i/4:=by omega
  have e6:min (((8*(i%4):Nat):Int)).toNat 32=8*(i%4):=by omega
  have e7:X6 BinOp.or IntKind.u32 (((Q8 B32 m v).getD (i/4) 0:Nat):Int) (IntKind.u32.wrap (IntKind.u32.wrap (((s.data.getD (((s.size-1-i:Nat):Int)).toNat (OfNat.ofNat 0)).toNat:Nat):Int)*2^min (((8*(i%4):Nat):Int)).toNat 32))=((v/B32^(i/4)%B32+d*256^(i%4):Nat):Int):=by
   rw[e6,hdg,hqm,show(((s.size-1-i:Nat):Int)).toNat=s.size-1-i by omega,show(OfNat.ofNat 0:UInt8)=0 from rfl,←hget]
   have e8:IntKind.u32.wrap (IntKind.u32.wrap (d:Int)*2^(8*(i%4)))=((d*2^(8*(i%4)):Nat):Int):=by
    have h5:IntKind.u32.wrap (d:Int)=d:=by rw[z87];omega
    rw[h5]
    have h6:(d:Int)*2^(8*(i%4))=((d*2^(8*(i%4)):Nat):Int):=by norm_cast
    rw[h6,z87]
    rw[←hr]at*
    simp only[B32]at*;omega
   have hq2:v/B32^(i/4)<2^(8*(i%4)):=by rw[←hr];exact hq
   rw[e8,←hr,zdr (by simp only[B32]at*;omega) (by simp only[B32]at*;omega),Nat.or_comm,hr,z2g _ hq2,Nat.add_comm]
  refine znk s m i _ (by simp;omega) (by rw[e1];omega) ?_ (by rw[e2];omega) (by rw[e3];omega) (by rw[e1];omega) (by rw[e1,e5,J3,Q2,hlen];omega) ?_ hn ?_
  · rw[e1,e5];exact W5 (z7s (by rw[hlen];exact hjm))
  · rw[e1,e2,e3,e5,e7,Q5 (by rw[hlen];exact hjm)];exact J0 _
  · rw[e1,e2,e3,e4,e5,e7,Q5 (by rw[hlen];exact hjm),z1e (by decide) m v _ _ hjm (by rw[hqm];omega)]
    have h7:v+d*256^(i%4)*B32^(i/4)=v+256^i*d:=by rw[hpow,Nat.mul_assoc,Nat.mul_comm,Nat.mul_comm (256^(i%4))]
    rw[h7,←hv]
    exact ih (i+1) (by omega) (by omega)
theorem of_spec(s:ByteArray)(hs:s.size<2^40):PCall P 238 [X9 s] (z0v (J8 s)):=by
 have e1:IntKind.i64.wrap ((IntKind.i64.wrap ((s.size:Int)+3)).tdiv 4)=(((s.size+3)/4:Nat):Int):=by
  rw[w64 (n:=(s.size:Int)+3) (by omega),Int.tdiv_eq_ediv_of_nonneg (by omega),w64 (by omega)];omega
 refine zq9 s (by rw[e1];omega) (by rw[e1,U4];exact J0 _) ?_
 rw[e1,U4]
 have:=zlD (R:= .of (fun x=>x=z0v (J8 s))) rfl s hs rfl _ 0 rfl (Nat.zero_le _)
 rw[List.take_zero,show val 256 []=0 from rfl,z1u]at this
 rw[show(((s.size+3)/4:Nat):Int).toNat=(s.size+3)/4 by omega,Nat.mul_one]
 exact this
end Go.Fw
