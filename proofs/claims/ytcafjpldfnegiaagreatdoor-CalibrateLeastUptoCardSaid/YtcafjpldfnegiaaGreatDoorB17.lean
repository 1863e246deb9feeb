/- A part of the proof that the law returns true for every input: an executor for the model's code, and what functions of the program compute. -/
import Derived.Test.YtcafjpldfnegiaaGreatDoorB11
import Derived.Test.YtcafjpldfnegiaaGreatDoorB15
import Derived.Test.YtcafjpldfnegiaaGreatDoorB16
import Derived.KernelRfl
open Go
namespace Go.Fw
set_option maxRecDepth 100000
abbrev z3X(n:Nat):CV:= .lit (.int .u32 (n:Int))
abbrev j6(n:Int):CV:= .lit (.int .i64 n)
theorem z5i{k k':IntKind}{a a' b b':Int}(h:a=a')(h':b=b'):CV.tup [.lit (.int k a),.lit (.int k' b)]= .tup [.lit (.int k a'),.lit (.int k' b')]:=by rw[h,h']
theorem z5X{k:IntKind}{a a':Int}(h:a=a'):CV.lit (.int k a)= .lit (.int k a'):=by rw[h]
theorem z7z(n:Int):IntKind.u32.wrap n=n%4294967296:=IntKind.wrap_u32 n
theorem z1F(n:Int):IntKind.u64.wrap n=n%18446744073709551616:=IntKind.wrap_u64 n
theorem wr8(n:Int):IntKind.u8.wrap n=n%256:=IntKind.wrap_u8 n
theorem fdp(n:Int){d:Int}(h:0≤d):n.fdiv d=n/d:=Int.fdiv_eq_ediv_of_nonneg n h
theorem zd3(k:Nat)(a:Nat):BitVec.ofInt k (a:Int)=BitVec.ofNat k a:=by
 apply BitVec.eq_of_toNat_eq
 simp
theorem z3N (op : BinOp) (k : IntKind) (hk : k.signed = false) (a b : Nat) (ha : a < 2 ^ k.bits) (hb : b < 2 ^ k.bits) (hop : op = .and ∨ op = .or ∨ op = .xor) :
    X2 op k a b=((match op with| .and=>a&&&b| .or=>a|||b|_=>a^^^b:Nat):Int):=by
 have hw: ∀n:Nat,n<2^k.bits→k.wrap (n:Int)=n:=by
  intro n hn
  unfold IntKind.wrap
  simp only[hk,Bool.false_and,Bool.false_eq_true,if_false]
  norm_cast
  rw[Nat.mod_eq_of_lt hn]
 unfold X2
 simp only[zd3]
 rcases hop with rfl|rfl|rfl
 · dsimp only
   rw[BitVec.toNat_and,BitVec.toNat_ofNat,BitVec.toNat_ofNat,Nat.mod_eq_of_lt ha,Nat.mod_eq_of_lt hb]
   exact hw _ (Nat.and_lt_two_pow _ hb)
 · dsimp only
   rw[BitVec.toNat_or,BitVec.toNat_ofNat,BitVec.toNat_ofNat,Nat.mod_eq_of_lt ha,Nat.mod_eq_of_lt hb]
   exact hw _ (Nat.or_lt_two_pow ha hb)
 · dsimp only
   rw[BitVec.toNat_xor,BitVec.toNat_ofNat,BitVec.toNat_ofNat,Nat.mod_eq_of_lt ha,Nat.mod_eq_of_lt hb]
   exact hw _ (Nat.xor_lt_two_pow ha hb)
theorem zdw{a b:Nat}(ha:a<4294967296)(hb:b<4294967296):X2 .or .u32 (a:Int) (b:Int)=((a|||b:Nat):Int):=z3N .or .u32 rfl a b ha hb (by simp)
theorem zc8{a b:Nat}(ha:a<4294967296)(hb:b<4294967296):X2 .and .u32 (a:Int) (b:Int)=((a&&&b:Nat):Int):=z3N .and .u32 rfl a b ha hb (by simp)
theorem z8S{a b:Nat}(ha:a<4294967296)(hb:b<4294967296):X2 .xor .u32 (a:Int) (b:Int)=((a^^^b:Nat):Int):=z3N .xor .u32 rfl a b ha hb (by simp)
theorem z89{a b:Nat}(ha:a<18446744073709551616)(hb:b<18446744073709551616):X2 .or .u64 (a:Int) (b:Int)=((a|||b:Nat):Int):=z3N .or .u64 rfl a b ha hb (by simp)
theorem z28{a b:Nat}(i:Nat)(hb:b<2^i):a*2^i|||b=a*2^i+b:=by
 rw[←Nat.shiftLeft_eq,Nat.shiftLeft_add_eq_or_of_lt hb]
theorem z14(x y c:Nat)(hx:x<B32)(hy:y<B32)(hc:c≤1):PCall P 255 [z3X x,z3X y,z3X c] (.tup [z3X ((x+y+c)%B32),z3X ((x+y+c)/B32)]):=by
 refine(zfj x y c).eq ?_
 simp only[z7z,z1F,fdp _ (by decide:(0:Int)≤4294967296),B32]at*
 exact z5i (by omega) (by omega)
theorem zaN(x y:Nat)(hx:x<B32)(hy:y<B32):PCall P 267 [z3X x,z3X y] (.tup [z3X (x*y/B32),z3X (x*y%B32)]):=by
 refine(zfW x y).eq ?_
 have h:x*y≤4294967295*4294967295:=Nat.mul_le_mul (by simp only[B32]at hx;omega) (by simp only[B32]at hy;omega)
 simp only[z7z,z1F,fdp _ (by decide:(0:Int)≤4294967296),B32]at*
 have h1:(x:Int)%18446744073709551616*((y:Int)%18446744073709551616)=((x*y:Nat):Int):=by
  rw[Int.emod_eq_of_lt (by omega) (by omega),Int.emod_eq_of_lt (by omega) (by omega)];simp
 rw[h1]
 exact z5i (by omega) (by omega)
theorem zby(x y z:Nat)(hx:x<z)(hy:y<B32)(hz:z<B32):PCall P 269 [z3X x,z3X y,z3X z] (.tup [z3X ((x*B32+y)/z),z3X ((x*B32+y)%z)]):=by
 have h0:0<z:=by omega
 have hzw:IntKind.u64.wrap (z:Int)=z:=by rw[z1F];simp only[B32]at hz;omega
 have hne:(z:Int)≠0:=by omega
 refine(zf0 x y z (by simpa using hne) (by simp;omega) (by rw[hzw];exact hne) (by rw[hzw];exact hne)).eq ?_
 rw[hzw]
 simp only[B32]at*
 have h1:IntKind.u64.wrap (IntKind.u64.wrap (x:Int)*4294967296)=((x*2^32:Nat):Int):=by rw[z1F,z1F];omega
 have h2:IntKind.u64.wrap (y:Int)=(y:Nat):=by rw[z1F];omega
 rw[h1,h2,z89 (by omega) (by omega),z28 32 (by omega),show(2:Nat)^32=4294967296 by decide,z7z,z1F,z7z,Int.tdiv_eq_ediv_of_nonneg (by omega),Int.tmod_eq_emod_of_nonneg (by omega)]
 have h3:(x*4294967296+y)/z<4294967296:=by
  rw[Nat.div_lt_iff_lt_mul h0]
  have:(x+1)*4294967296≤z*4294967296:=Nat.mul_le_mul_right _ hx
  rw[Nat.mul_comm 4294967296 z];omega
 have h4:(x*4294967296+y)%z<4294967296:=by have:=Nat.mod_lt (x*4294967296+y) h0;omega
 rw[show((x*4294967296+y:Nat):Int)/(z:Int)=(((x*4294967296+y)/z:Nat):Int)from(Int.natCast_ediv _ _).symm,
  show((x*4294967296+y:Nat):Int)%(z:Int)=(((x*4294967296+y)%z:Nat):Int)from(Int.natCast_emod _ _).symm]
 generalize (x*4294967296+y)/z=q at*
 generalize (x*4294967296+y)%z=r at*
 exact z5i (by omega) (by omega)
theorem z4n(x y c:Nat)(hx:x<B32)(hy:y<B32)(hc:c≤1):PCall P 257 [z3X x,z3X y,z3X c] (.tup [z3X ((x+2*B32-y-c)%B32),z3X (if x<y+c then 1 else 0)]):=by
 refine(zfx x y c).eq ?_
 simp only[B32]at*
 have hd:IntKind.u32.wrap (IntKind.u32.wrap ((x:Int)-y)-c)=((x+2*4294967296-y-c)%4294967296:Nat):=by rw[z7z,z7z];omega
 rw[hd]
 have hd':(x+2*4294967296-y-c)%4294967296<4294967296:=Nat.mod_lt _ (by decide)
 generalize hdd:(x+2*4294967296-y-c)%4294967296=d at*
 have hm:(4294967295:Int)=((4294967295:Nat):Int):=rfl
 have hxy:x^^^y<4294967296:=Nat.xor_lt_two_pow (n:=32) hx hy
 have hnx:4294967295^^^x<4294967296:=Nat.xor_lt_two_pow (n:=32) (by decide) hx
 have hnxy:4294967295^^^(x^^^y)<4294967296:=Nat.xor_lt_two_pow (n:=32) (by decide) hxy
 have ha1:(4294967295^^^x)&&&y<4294967296:=Nat.and_lt_two_pow (n:=32) _ hy
 have ha2:(4294967295^^^(x^^^y))&&&d<4294967296:=Nat.and_lt_two_pow (n:=32) _ hd'
 rw[hm,z8S (by decide) hx,zc8 hnx hy,z8S hx hy,z8S (by decide) hxy,zc8 hnxy hd',zdw ha1 ha2,fdp _ (by decide),show(2147483648:Int)=((2147483648:Nat):Int)from rfl,←Int.natCast_ediv]
 have key:((4294967295^^^x)&&&y|||(4294967295^^^(x^^^y))&&&d)/2147483648=if x<y+c then 1 else 0:=by
  rw[show(2147483648:Nat)=2^31 from rfl,←Nat.shiftRight_eq_div_pow]
  simp only[Nat.shiftRight_or_distrib,Nat.shiftRight_and_distrib,Nat.shiftRight_xor_distrib]
  rw[show(4294967295:Nat)>>>31=1 from rfl]
  simp only[Nat.shiftRight_eq_div_pow]
  rw[show(2:Nat)^31=2147483648 from rfl]
  have e1:x/2147483648=0∨x/2147483648=1:=by omega
  have e2:y/2147483648=0∨y/2147483648=1:=by omega
  have e3:d/2147483648=0∨d/2147483648=1:=by omega
  rcases e1 with e1|e1<;>rcases e2 with e2|e2<;>rcases e3 with e3|e3<;>rw[e1,e2,e3]
  all_goals first
   |(rw[if_pos (by omega)];rfl)
   |(rw[if_neg (by omega)];rfl)
 rw[key]
end Go.Fw
open Go IntKind
namespace Go.Fw
set_option maxRecDepth 100000
theorem zeC(n:Nat)(xs:List Nat){R:CV→Prop}(hR:Ok P 254 (loopHead P 254 0) ⟨J3 21 [(0,.cv (.lst n (j7 xs)))],[]⟩ (.of R)):W6 P 254 [.lst n (j7 xs)] R:=
 Y4 (keep:=[0]) (σ:=[]) (.o 1 .stop .nil) (by kernel_rfl) rfl hR .nil
theorem zgj(n:Nat)(xs:List Nat)(h1:decide ((n:Int)>0)=true)(h2:((↑(xs.getD ((i64.wrap ((n:Int)-1)).toNat*1) 0):Int)==0)=true)(o1:(0:Int)≤i64.wrap ((n:Int)-1)∧i64.wrap ((n:Int)-1)<(n:Int))(o2:(j7 xs)[(i64.wrap ((n:Int)-1)).toNat*1]?=some (.lit (.int .u32 (↑(xs.getD ((i64.wrap ((n:Int)-1)).toNat*1) 0):Int))))(o5:(0:Int)≤0∧(0:Int)≤i64.wrap ((n:Int)-1)∧i64.wrap ((n:Int)-1)≤(n:Int))(o6:(j7 xs).length=n*1){R:Goal}(hn:J0 R.n []=true)(hR:Ok P 254 (loopHead P 254 0) ⟨J3 21 [(0,.cv (.lst (i64.wrap ((n:Int)-1)-0).toNat (List.take ((i64.wrap ((n:Int)-1)-0).toNat*1) (List.drop 0 (j7 xs)))))],[]⟩ R):Ok P 254 (loopHead P 254 0) ⟨.cv (.lst n (j7 xs))::zav 20,[]⟩ R:=
 z0D (keep:=[0]) (σ:=[]) (.b 4 h1 (.c o1 (.l 10 o2 (.c (eqn 1) (.b 13 h2 (.c o5 (.c o6 (.o 20 .stop .nil)))))))) (by kernel_rfl) rfl hn hR .nil
theorem zgm(n:Nat)(xs:List Nat)(h1:decide ((n:Int)>0)=true)(h2:((↑(xs.getD ((i64.wrap ((n:Int)-1)).toNat*1) 0):Int)==0)=false)(o1:(0:Int)≤i64.wrap ((n:Int)-1)∧i64.wrap ((n:Int)-1)<(n:Int))(o2:(j7 xs)[(i64.wrap ((n:Int)-1)).toNat*1]?=some (.lit (.int .u32 (↑(xs.getD ((i64.wrap ((n:Int)-1)).toNat*1) 0):Int)))){R:Goal}(hR:R.c (.lst n (j7 xs))):Ok P 254 (loopHead P 254 0) ⟨.cv (.lst n (j7 xs))::zav 20,[]⟩ R:=
 okT (.b 4 h1 (.c o1 (.l 10 o2 (.c (eqn 1) (.b 13 h2 .nil))))) (by kernel_rfl) hR
theorem zeQ(n:Nat)(xs:List Nat)(h1:decide ((n:Int)>0)=false){R:Goal}(hR:R.c (.lst n (j7 xs))):Ok P 254 (loopHead P 254 0) ⟨.cv (.lst n (j7 xs))::zav 20,[]⟩ R:=
 okT (.b 4 h1 .nil) (by kernel_rfl) hR
end Go.Fw
open Go
namespace Go.Fw
set_option maxRecDepth 100000
theorem zdF(xs:List Nat)(k:Nat):(j7 xs).take k=j7 (xs.take k):=by simp[j7]
theorem zdY {R : Goal} (hn : J0 R.n [] = true) : ∀ (k : Nat) (xs : List Nat), xs.length = k → k < 2 ^ 62 → R.c (.lst (tz xs).length (j7 (tz xs))) →
    Ok P 254 (loopHead P 254 0) ⟨.cv (.lst xs.length (j7 xs))::zav 20,[]⟩ R:=by
 intro k
 induction k with
 |zero=>
  intro xs hl _ hR
  have:xs=[]:=List.length_eq_zero_iff.1 hl
  subst this
  exact zeQ 0 [] (by decide) hR
 |succ k ih=>
  intro xs hl hk hR
  have hw:IntKind.i64.wrap ((xs.length:Int)-1)=(k:Int):=by rw[hl,w64 (by omega)];omega
  have hne:xs≠[]:=by intro e;subst e;simp at hl
  have hcon:=U0 hne
  rw[hl,Nat.add_sub_cancel]at hcon
  have hget:(j7 xs)[k]?=some (z62 xs k):=z7l (by omega)
  by_cases hx:xs.getD k 0=0
  · refine zgj xs.length xs (by simp;omega) (by rw[hw];simpa using hx) (by rw[hw];omega) (by rw[hw];simpa[z62]using hget) (by rw[hw];omega) (by simp[j7]) hn ?_
    rw[hw]
    have h1:((k:Int)-0).toNat=k:=by omega
    rw[h1,Nat.mul_one,List.drop_zero,zdF]
    have h2:(xs.take k).length=k:=by simp;omega
    have:=ih (xs.take k) h2 (by omega) (by rw[hcon,hx,Y8]at hR;exact hR)
    rw[h2]at this
    exact this
  · refine zgm xs.length xs (by simp;omega) (by rw[hw];simpa using hx) (by rw[hw];omega) (by rw[hw];simpa[z62]using hget) ?_
    rw[hcon,z0P hx,←hcon]at hR
    exact hR
theorem z0l(n:Nat)(xs:List Nat)(hn:n=xs.length)(hd:Dig B32 xs)(hl:xs.length<2^62):PCall P 254 [.lst n (j7 xs)] (z0j (val B32 xs)):=by
 subst hn
 refine zeC xs.length xs (zdY rfl _ xs rfl hl ?_)
 exact zkJ hd
end Go.Fw
namespace Go.Fw
theorem trim1_spec(a:Int)(h0:0≤a)(h1:a<4294967296):PCall P 254 [.lst 1 [.lit (.int .u32 a)]] (z0j a.toNat):=by
 have:=z0l 1 [a.toNat] rfl (by intro x hx;simp only[List.mem_singleton]at hx;simp only[B32];omega) (by simp)
 rw[show j7 [a.toNat]=[.lit (.int .u32 a)] by simp[j7];omega,show val B32 [a.toNat]=a.toNat by simp[val]]at this
 exact this
theorem trim2_spec(a b:Int)(h0:0≤a)(h1:a<4294967296)(g0:0≤b)(g1:b<4294967296):PCall P 254 [.lst 2 [.lit (.int .u32 a),.lit (.int .u32 b)]] (z0j (a+4294967296*b).toNat):=by
 have:=z0l 2 [a.toNat,b.toNat] rfl (by intro x hx;simp only[List.mem_cons,List.not_mem_nil,or_false]at hx;simp only[B32];omega) (by simp)
 rw[show j7 [a.toNat,b.toNat]=[.lit (.int .u32 a),.lit (.int .u32 b)] by simp[j7];omega,show val B32 [a.toNat,b.toNat]=(a+4294967296*b).toNat by simp only[val,B32];omega]at this
 exact this
end Go.Fw
open Go IntKind
namespace Go.Fw
set_option maxRecDepth 100000
theorem zim(s:ByteArray)(c:Int){R:CV→Prop}(hR:Ok P 271 (loopHead P 271 0) ⟨J3 17 [(0,.cv (.lit (.string s))),(1,.cv (.lit (.int .u8 c)))],[]⟩ (.of R)):W6 P 271 [.lit (.string s),.lit (.int .u8 c)] R:=
 Y4 (keep:=[0,1]) (σ:=[]) (.o 1 .stop .nil) (by kernel_rfl) rfl hR .nil
theorem zkG(s:ByteArray)(c:Int)(h1:decide ((↑s.size:Int)>0)=true)(h2:((↑(s.data.getD 0 (OfNat.ofNat 0)).toNat:Int)==c)=true)(o1:(0:Int)≤0∧(0:Int)<(↑s.size:Int))(o3:(0:Int)≤1∧(1:Int)≤(↑s.size:Int)∧(↑s.size:Int)≤(↑s.size:Int)){R:Goal}(hn:J0 R.n []=true)(hR:Ok P 271 (loopHead P 271 0) ⟨J3 17 [(0,.cv (.lit (.string (s.extract 1 (↑s.size:Int).toNat)))),(1,.cv (.lit (.int .u8 c)))],[]⟩ R):Ok P 271 (loopHead P 271 0) ⟨.cv (.lit (.string s)):: .cv (.lit (.int .u8 c))::zav 15,[]⟩ R:=
 z0D (keep:=[0,1]) (σ:=[]) (.b 4 h1 (.c o1 (.b 10 h2 (.c o3 (.o 14 .stop .nil))))) (by kernel_rfl) rfl hn hR .nil
theorem zjp(s:ByteArray)(c:Int)(h1:decide ((↑s.size:Int)>0)=true)(h2:((↑(s.data.getD 0 (OfNat.ofNat 0)).toNat:Int)==c)=false)(o1:(0:Int)≤0∧(0:Int)<(↑s.size:Int)){R:Goal}(hR:R.c (.lit (.string s))):Ok P 271 (loopHead P 271 0) ⟨.cv (.lit (.string s)):: .cv (.lit (.int .u8 c))::zav 15,[]⟩ R:=
 okT (.b 4 h1 (.c o1 (.b 10 h2 .nil))) (by kernel_rfl) hR
theorem zkc(s:ByteArray)(c:Int)(h1:decide ((↑s.size:Int)>0)=false){R:Goal}(hR:R.c (.lit (.string s))):Ok P 271 (loopHead P 271 0) ⟨.cv (.lit (.string s)):: .cv (.lit (.int .u8 c))::zav 15,[]⟩ R:=
 okT (.b 4 h1 .nil) (by kernel_rfl) hR
end Go.Fw
open Go
namespace Go.Fw
set_option maxRecDepth 100000
abbrev X3(s:ByteArray):CV:= .lit (.string s)
theorem zff {R : Goal} (hn : J0 R.n [] = true) : ∀ (k : Nat) (ls : List Nat), ls.length = k → Dig 256 ls → R.c (X3 (z1z (tz ls))) →
    Ok P 271 (loopHead P 271 0) ⟨.cv (X3 (z1z ls)):: .cv (.lit (.int .u8 0))::zav 15,[]⟩ R:=by
 intro k
 induction k with
 |zero=>
  intro ls hl _ hR
  have:ls=[]:=List.length_eq_zero_iff.1 hl
  subst this
  exact zkc _ 0 (by decide) hR
 |succ k ih=>
  intro ls hl hd hR
  have hne:ls≠[]:=by intro e;subst e;simp at hl
  have hcon:=U0 hne
  rw[hl,Nat.add_sub_cancel]at hcon
  have hsz:(z1z ls).size=k+1:=by rw[z6m,hl]
  have hx:=hd.get (by decide) k
  have hd':=hd.take k
  have hlt:(ls.take k).length=k:=by simp;omega
  generalize ls.take k=ms at*
  generalize ls.getD k 0=x at*
  subst hcon
  have hfirst:((z1z (ms++[x])).data.getD 0 0).toNat=x:=by rw[z3f];simp;omega
  by_cases h0:x=0
  · refine zkG _ 0 (by rw[hsz];simp) (by rw[show(OfNat.ofNat 0:UInt8)=0 from rfl,hfirst,h0];rfl) (by omega) (by omega) hn ?_
    have:=ih ms hlt hd' (by rw[h0,Y8]at hR;exact hR)
    rw[hsz,show((k+1:Nat):Int).toNat=ms.length+1 by omega,z7b]
    exact this
  · refine zjp _ 0 (by rw[hsz];simp) (by rw[show(OfNat.ofNat 0:UInt8)=0 from rfl,hfirst];simpa using h0) (by omega) ?_
    rw[z0P h0]at hR
    exact hR
theorem zeD(s:ByteArray):PCall P 271 [X3 s,.lit (.int .u8 0)] (X3 (bytesOf (J7 s))):=by
 refine zim s 0 ?_
 have:=zff (R:= .of (fun x=>x=X3 (bytesOf (J7 s)))) rfl _ (z2h s) rfl (z1n s) (by rw[zcU];rfl)
 rw[z4b]at this
 exact this
end Go.Fw
open Go IntKind
namespace Go.Fw
set_option maxRecDepth 100000
theorem zpw(s:ByteArray)(h1:(s.toList==[])=true):PCall P 266 [.lit (.string s),.lit (.string {data:= #[(0:UInt8)]})] (.lit (.string s)):=
 j5 (.b 3 h1 .nil) (by kernel_rfl)
theorem zpC(s:ByteArray)(h1:(s.toList==[])=false):PCall P 266 [.lit (.string s),.lit (.string {data:= #[(0:UInt8)]})] (.lit (.string (bytesOf (J7 s)))):=
 j5 (.b 3 h1 (.c (bq 0 1) (.c (bq 0 1) (.r 20 (zeD (s)) .nil)))) (by kernel_rfl)
theorem zfc(b:Bool)(s:ByteArray)(h1:(s.toList==[])=true):PCall P 214 [.agg [.lit (.bool b),.lit (.string s)]] (.lit (.bool !b)):=
 j5 (.b 5 h1 .nil) (by kernel_rfl)
theorem zfk(b:Bool)(s:ByteArray)(h1:(s.toList==[])=false)(o1:(0:Int)≤0∧(0:Int)<(↑s.size:Int)):PCall P 214 [.agg [.lit (.bool b),.lit (.string s)]] (.lit (.bool ((↑(s.data.getD 0 (OfNat.ofNat 0)).toNat:Int) != 0))):=
 j5 (.b 5 h1 (.c o1 .nil)) (by kernel_rfl)
theorem zon(s:ByteArray)(o1:(0:Int)≤i64.wrap ((i64.wrap ((↑s.size:Int)+3)).tdiv 4)∧i64.wrap ((i64.wrap ((↑s.size:Int)+3)).tdiv 4)≤i64.wrap ((i64.wrap ((↑s.size:Int)+3)).tdiv 4)∧(4:Int)*i64.wrap ((i64.wrap ((↑s.size:Int)+3)).tdiv 4)≤140737488355328∧i64.wrap ((i64.wrap ((↑s.size:Int)+3)).tdiv 4)≤4611686018427387904∧1=1)(o2:CvL (List.replicate ((i64.wrap ((i64.wrap ((↑s.size:Int)+3)).tdiv 4)).toNat*1) (.cv (.lit (.int .u32 0))))){R:CV→Prop}(hR:Ok P 238 (loopHead P 238 0) ⟨J3 39 [(0,.cv (.lit (.string s))),(3,.sl 0 0 (i64.wrap ((i64.wrap ((↑s.size:Int)+3)).tdiv 4)).toNat 1),(12,.cv (.lit (.int .i64 (↑s.size:Int)))),(13,.cv (.lit (.int .i64 0)))],[some (List.replicate ((i64.wrap ((i64.wrap ((↑s.size:Int)+3)).tdiv 4)).toNat*1) (.cv (.lit (.int .u32 0))))]⟩ (.of R)):W6 P 238 [.lit (.string s)] R:=
 Y4 (keep:=[0,3,12,13]) (σ:=[0]) (.c (nz 4) (.c o1 (.o 10 .stop .nil))) (by kernel_rfl) rfl hR (.cons o2 .nil)
theorem zmE(s:ByteArray)(m i:Nat)(xs:List Nat)(h1:(decide ((i:Int)<(↑s.size:Int)))=true)(o2:(0:Int)≤i64.wrap ((i:Int).tdiv 4)∧i64.wrap ((i:Int).tdiv 4)<(m:Int))(o3:(own (j7 xs))[0+(i64.wrap ((i:Int).tdiv 4)).toNat*1]?=some (.cv (.lit (.int .u32 (↑(xs.getD (0+(i64.wrap ((i:Int).tdiv 4)).toNat*1) 0):Int)))))(o5:(0:Int)≤i64.wrap (i64.wrap ((↑s.size:Int)-1)-(i:Int))∧i64.wrap (i64.wrap ((↑s.size:Int)-1)-(i:Int))<(↑s.size:Int))(o7:(0:Int)≤i64.wrap ((8:Int)*(i:Int).tmod 4))(o8:(0:Int)≤i64.wrap ((i:Int).tdiv 4)∧i64.wrap ((i:Int).tdiv 4)<(m:Int))(o9:0+(i64.wrap ((i:Int).tdiv 4)).toNat*1+1≤(own (j7 xs)).length)(o10:CvL (j4 (own (j7 xs)) (0+(i64.wrap ((i:Int).tdiv 4)).toNat*1) [.cv (.lit (.int .u32 (X2 BinOp.or u32 (↑(xs.getD (0+(i64.wrap ((i:Int).tdiv 4)).toNat*1) 0):Int) (u32.wrap (u32.wrap (↑(s.data.getD (i64.wrap (i64.wrap ((↑s.size:Int)-1)-(i:Int))).toNat (OfNat.ofNat 0)).toNat:Int)*2^min (i64.wrap ((8:Int)*(i:Int).tmod 4)).toNat 32)))))])){R:Goal}(hn:J0 R.n [0]=true)(hR:Ok P 238 (loopHead P 238 0) ⟨J3 39 [(0,.cv (.lit (.string s))),(3,.sl 0 0 m 1),(12,.cv (.lit (.int .i64 (↑s.size:Int)))),(13,.cv (.lit (.int .i64 (i64.wrap ((i:Int)+1)))))],[some (j4 (own (j7 xs)) (0+(i64.wrap ((i:Int).tdiv 4)).toNat*1) [.cv (.lit (.int .u32 (X2 BinOp.or u32 (↑(xs.getD (0+(i64.wrap ((i:Int).tdiv 4)).toNat*1) 0):Int) (u32.wrap (u32.wrap (↑(s.data.getD (i64.wrap (i64.wrap ((↑s.size:Int)-1)-(i:Int))).toNat (OfNat.ofNat 0)).toNat:Int)*2^min (i64.wrap ((8:Int)*(i:Int).tmod 4)).toNat 32)))))])]⟩ R):Ok P 238 (loopHead P 238 0) ⟨.cv (.lit (.string s))::MV.unk::MV.unk:: .sl 0 0 m 1::(zav 8++ .cv (.lit (.int .i64 (↑s.size:Int))):: .cv (.lit (.int .i64 (i:Int)))::zav 25),[some (own (j7 xs))]⟩ R:=
 z0D (keep:=[0,3,12,13]) (σ:=[0]) (.b 2 h1 (.c (nz 4) (.c o2 (.e 15 o3 (.c (eqn 1) (.c o5 (.c (nz 4) (.c o7 (.c o8 (.c o9 (.o 29 .stop .nil))))))))))) (by kernel_rfl) rfl hn hR (.cons o10 .nil)
theorem zno(s:ByteArray)(m i:Nat)(xs:List Nat)(h1:(decide ((i:Int)<(↑s.size:Int)))=false)(s4_0:m=xs.length)(s4_1:Dig 4294967296 xs)(s4_2:xs.length<2^62)(o2:List.take (m*1) (List.drop 0 (own (j7 xs)))=List.map MV.cv (j7 xs)){R:Goal}(hR:R.c (.lst (dig 4294967296 (val 4294967296 xs)).length (j7 (dig 4294967296 (val 4294967296 xs))))):Ok P 238 (loopHead P 238 0) ⟨.cv (.lit (.string s))::MV.unk::MV.unk:: .sl 0 0 m 1::(zav 8++ .cv (.lit (.int .i64 (↑s.size:Int))):: .cv (.lit (.int .i64 (i:Int)))::zav 25),[some (own (j7 xs))]⟩ R:=
 okT (.b 2 h1 (.rs 4 [j7 xs] (z0l (m) (xs) s4_0 s4_1 s4_2) (.c o2 .nil))) (by kernel_rfl) hR
end Go.Fw
open Go
namespace Go.Fw
set_option maxRecDepth 100000
theorem ziC(s:ByteArray):PCall P 266 [X3 s,X3 ⟨#[0]⟩] (X3 (bytesOf (J7 s))):=by
 by_cases h:s.size=0
 · have h1:z2h s=[]:=List.length_eq_zero_iff.1 (by rw[V5,h])
   have h2:s=⟨#[]⟩:=by rw[←z4b s,h1];rfl
   refine(zpw s (by rw[V4];simpa using h)).eq ?_
   rw[J7,h1,h2];rfl
 · exact zpC s (by rw[V4];simpa using h)
def J2(neg:Bool)(mag:ByteArray):Bool:=if mag.size=0 then !neg else decide ((mag.data.getD 0 0).toNat≠0)
theorem W4(b:Bool)(s:ByteArray):PCall P 214 [.agg [.lit (.bool b),X3 s]] (.lit (.bool (J2 b s))):=by
 by_cases h:s.size=0
 · refine(zfc b s (by rw[V4];simpa using h)).eq ?_
   simp[J2,h]
 · refine(zfk b s (by rw[V4];simpa using h) (by omega)).eq ?_
   rw[J2,if_neg h]
   congr 2
   rw[show(OfNat.ofNat 0:UInt8)=0 from rfl]
   generalize (s.data.getD 0 0).toNat=n
   by_cases hn:n=0
   · subst hn;rfl
   · have:(n:Int)≠0:=by omega
     simp[hn]
theorem zix {R : Goal} (hn : J0 R.n [0] = true) (s : ByteArray) (hs : s.size < 2 ^ 40) (hR : R.c (z0j (J7 s))) :
    ∀(k i:Nat),s.size-i=k→i≤s.size→
    Ok P 238 (loopHead P 238 0) ⟨.cv (.lit (.string s)):: .unk:: .unk:: .sl 0 0 ((s.size+3)/4) 1::(zav 8++ .cv (.lit (.int .i64 s.size)):: .cv (.lit (.int .i64 i))::zav 25),
     [some (own (j7 (Q7 B32 ((s.size+3)/4) (val 256 ((z2h s).take i)))))]⟩ R:=by
 intro k
 induction k with
 |zero=>
  intro i hk hi
  have:i=s.size:=by omega
  subst this
  have hv:val 256 ((z2h s).take s.size)=J7 s:=by rw[←V5,List.take_length];rfl
  rw[hv]
  have hlen:=j8 B32 ((s.size+3)/4) (J7 s)
  refine zno s _ s.size _ (by simp) hlen.symm (U1 (by decide) _ _) (by rw[hlen];omega) (z0R (by rw[Q2,hlen])) ?_
  have:val 4294967296 (Q7 B32 ((s.size+3)/4) (J7 s))=J7 s:=by
   rw[show(4294967296:Nat)=B32 from rfl,z06,Nat.mod_eq_of_lt]
   refine Nat.lt_of_lt_of_le (z0u s) ?_
   rw[show B32=256^4 from rfl,←Nat.pow_mul]
   exact Nat.pow_le_pow_right (by decide) (by omega)
  rw[this]
  exact hR
 |succ k ih=>
  intro i hk hi
  have hlt:i<s.size:=by omega
  have hlen:=j8 B32 ((s.size+3)/4) (val 256 ((z2h s).take i))
  have hbyte:=(z1n s).get (by decide) i
  have hget:=z6K s hlt
  have hv:=X9 (b:=256) (xs:=z2h s) (i:=i) (by rw[V5];exact hlt)
  have hvlt:val 256 ((z2h s).take i)<256^i:=by
   have:=z0z (by decide:0<256) _ ((z1n s).take i)
   rw[List.length_take,V5,Nat.min_eq_left (Nat.le_of_lt hlt)]at this
   exact this
  generalize (z2h s).getD i 0=d at*
  generalize val 256 ((z2h s).take i)=v at*
  generalize hm:(s.size+3)/4=m at*
  have hjm:i/4<m:=by omega
  have hdg:=Y9 B32 m v (i/4) hjm
  have hpow:(256:Nat)^i=B32^(i/4)*256^(i%4):=by
   rw[show B32=256^4 from rfl,←Nat.pow_mul,←Nat.pow_add,Nat.div_add_mod]
  have hq:v/B32^(i/4)<256^(i%4):=by
   rw[Nat.div_lt_iff_lt_mul (Nat.pow_pos (by decide)),Nat.mul_comm,←hpow];exact hvlt
  have hp3:(256:Nat)^(i%4)≤16777216:=by
   rw[show(16777216:Nat)=256^3 from rfl];exact Nat.pow_le_pow_right (by decide) (by omega)
  have hqm:v/B32^(i/4)%B32=v/B32^(i/4):=Nat.mod_eq_of_lt (by simp only[B32]at*;omega)
  have hr:(256:Nat)^(i%4)=2^(8*(i%4)):=by rw[show(256:Nat)=2^8 from rfl,←Nat.pow_mul]
  have hdr:d*256^(i%4)+v/B32^(i/4)<B32:=by
   have:(d+1)*256^(i%4)≤256*256^(i%4):=Nat.mul_le_mul_right _ hbyte
   have h4:256*256^(i%4)≤B32:=by simp only[B32];omega
   rw[Nat.add_mul,Nat.one_mul]at this
   omega
  have e1:IntKind.i64.wrap ((i:Int).tdiv 4)=((i/4:Nat):Int):=by rw[Int.tdiv_eq_ediv_of_nonneg (by omega),w64 (by omega)];omega
  have e2:IntKind.i64.wrap (IntKind.i64.wrap ((s.size:Int)-1)-(i:Int))=((s.size-1-i:Nat):Int):=by rw[w64 (n:=(s.size:Int)-1) (by omega),w64 (by omega)];omega
  have e3:IntKind.i64.wrap (8*(i:Int).tmod 4)=((8*(i%4):Nat):Int):=by rw[Int.tmod_eq_emod_of_nonneg (by omega),w64 (by omega)];omega
  have e4:IntKind.i64.wrap ((i:Int)+1)=((i+1:Nat):Int):=by rw[w64 (by omega)];omega
  have e5:(0:Nat)+((i/4:Nat):Int).toNat*1=i/4:=by omega
  have e6:min (((8*(i%4):Nat):Int)).toNat 32=8*(i%4):=by omega
  have e7:X2 BinOp.or IntKind.u32 (((Q7 B32 m v).getD (i/4) 0:Nat):Int) (IntKind.u32.wrap (IntKind.u32.wrap (((s.data.getD (((s.size-1-i:Nat):Int)).toNat (OfNat.ofNat 0)).toNat:Nat):Int)*2^min (((8*(i%4):Nat):Int)).toNat 32))=((v/B32^(i/4)%B32+d*256^(i%4):Nat):Int):=by
   rw[e6,hdg,hqm,show(((s.size-1-i:Nat):Int)).toNat=s.size-1-i by omega,show(OfNat.ofNat 0:UInt8)=0 from rfl,←hget]
   have e8:IntKind.u32.wrap (IntKind.u32.wrap (d:Int)*2^(8*(i%4)))=((d*2^(8*(i%4)):Nat):Int):=by
    have h5:IntKind.u32.wrap (d:Int)=d:=by rw[z7z];omega
    rw[h5]
    have h6:(d:Int)*2^(8*(i%4))=((d*2^(8*(i%4)):Nat):Int):=by norm_cast
    rw[h6,z7z]
    rw[←hr]at*
    simp only[B32]at*;omega
   have hq2:v/B32^(i/4)<2^(8*(i%4)):=by rw[←hr];exact hq
   rw[e8,←hr,zdw (by simp only[B32]at*;omega) (by simp only[B32]at*;omega),Nat.or_comm,hr,z28 _ hq2,Nat.add_comm]
  refine zmE s m i _ (by simp;omega) (by rw[e1];omega) ?_ (by rw[e2];omega) (by rw[e3];omega) (by rw[e1];omega) (by rw[e1,e5,J1,Q2,hlen];omega) ?_ hn ?_
  · rw[e1,e5];exact Y7 (z7l (by rw[hlen];exact hjm))
  · rw[e1,e2,e3,e5,e7,Q3 (by rw[hlen];exact hjm)];exact j9 _
  · rw[e1,e2,e3,e4,e5,e7,Q3 (by rw[hlen];exact hjm),z0W (by decide) m v _ _ hjm (by rw[hqm];omega)]
    have h7:v+d*256^(i%4)*B32^(i/4)=v+256^i*d:=by rw[hpow,Nat.mul_assoc,Nat.mul_comm,Nat.mul_comm (256^(i%4))]
    rw[h7,←hv]
    exact ih (i+1) (by omega) (by omega)
theorem z0T(s:ByteArray)(hs:s.size<2^40):PCall P 238 [X3 s] (z0j (J7 s)):=by
 have e1:IntKind.i64.wrap ((IntKind.i64.wrap ((s.size:Int)+3)).tdiv 4)=(((s.size+3)/4:Nat):Int):=by
  rw[w64 (n:=(s.size:Int)+3) (by omega),Int.tdiv_eq_ediv_of_nonneg (by omega),w64 (by omega)];omega
 refine zon s (by rw[e1];omega) (by rw[e1,U2];exact j9 _) ?_
 rw[e1,U2]
 have:=zix (R:= .of (fun x=>x=z0j (J7 s))) rfl s hs rfl _ 0 rfl (Nat.zero_le _)
 rw[List.take_zero,show val 256 []=0 from rfl,z1i]at this
 rw[show(((s.size+3)/4:Nat):Int).toNat=(s.size+3)/4 by omega,Nat.mul_one]
 exact this
end Go.Fw
open Go IntKind
namespace Go.Fw
set_option maxRecDepth 100000
theorem ziq(n:Nat)(xs:List Nat)(o0:(0:Int)≤0∧(0:Int)≤i64.wrap ((4:Int)*n)∧(1:Int)*i64.wrap ((4:Int)*n)≤140737488355328∧i64.wrap ((4:Int)*n)≤4611686018427387904∧1=1)(o1:CvL (List.replicate ((i64.wrap ((4:Int)*n)).toNat*1) (.cv (.lit (.int .u8 0))))){R:CV→Prop}(hR:Ok P 256 (loopHead P 256 0) ⟨J3 45 [(0,.cv (.lst n (j7 xs))),(3,.sl 0 0 0 1),(4,.cv (.lit (.int .i64 (i64.wrap ((n:Int)-1)))))],[some (List.replicate ((i64.wrap ((4:Int)*n)).toNat*1) (.cv (.lit (.int .u8 0))))]⟩ (.of R)):W6 P 256 [.lst n (j7 xs)] R:=
 Y4 (keep:=[0,3,4]) (σ:=[0]) (.c o0 (.o 10 .stop .nil)) (by kernel_rfl) rfl hR (.cons o1 .nil)
theorem zkA(n m:Nat)(xs ys:List Nat)(h1:((n:Int) != (m:Int))=true):PCall P 241 [.lst n (j7 xs),.lst m (j7 ys)] (.lit (.int .i64 (i64.wrap ((n:Int)-m)))):=
 j5 (.b 6 h1 .nil) (by kernel_rfl)
theorem zhf(n m:Nat)(xs ys:List Nat)(h1:((n:Int) != (m:Int))=false){R:CV→Prop}(hR:Ok P 241 (loopHead P 241 0) ⟨J3 43 [(0,.cv (.lst n (j7 xs))),(1,.cv (.lst m (j7 ys))),(5,.cv (.lit (.int .i64 (i64.wrap ((n:Int)-1)))))],[]⟩ (.of R)):W6 P 241 [.lst n (j7 xs),.lst m (j7 ys)] R:=
 Y4 (keep:=[0,1,5]) (σ:=[]) (.b 6 h1 (.o 11 .stop .nil)) (by kernel_rfl) rfl hR .nil
theorem ziK(n m:Nat)(xs ys:List Nat)(h1:decide ((n:Int)<m)=true)(o1:(0:Int)≤i64.wrap ((m:Int)+1)∧i64.wrap ((m:Int)+1)≤i64.wrap ((m:Int)+1)∧(4:Int)*i64.wrap ((m:Int)+1)≤140737488355328∧i64.wrap ((m:Int)+1)≤4611686018427387904∧1=1)(o2:CvL (List.replicate ((i64.wrap ((m:Int)+1)).toNat*1) (.cv (.lit (.int .u32 0))))){R:CV→Prop}(hR:Ok P 239 (loopHead P 239 0) ⟨J3 54 [(0,.cv (.lst m (j7 ys))),(1,.cv (.lst n (j7 xs))),(5,.sl 0 0 (i64.wrap ((m:Int)+1)).toNat 1),(6,.cv (.lit (.int .u32 0))),(21,.cv (.lst m (j7 ys))),(22,.cv (.lit (.int .i64 (m:Int)))),(23,.cv (.lit (.int .i64 0)))],[some (List.replicate ((i64.wrap ((m:Int)+1)).toNat*1) (.cv (.lit (.int .u32 0))))]⟩ (.of R)):W6 P 239 [.lst n (j7 xs),.lst m (j7 ys)] R:=
 Y4 (keep:=[0,1,5,6,21,22,23]) (σ:=[0]) (.b 6 h1 (.c o1 (.o 20 .stop .nil))) (by kernel_rfl) rfl hR (.cons o2 .nil)
theorem zjY(n m:Nat)(xs ys:List Nat)(h1:decide ((n:Int)<m)=false)(o1:(0:Int)≤i64.wrap ((n:Int)+1)∧i64.wrap ((n:Int)+1)≤i64.wrap ((n:Int)+1)∧(4:Int)*i64.wrap ((n:Int)+1)≤140737488355328∧i64.wrap ((n:Int)+1)≤4611686018427387904∧1=1)(o2:CvL (List.replicate ((i64.wrap ((n:Int)+1)).toNat*1) (.cv (.lit (.int .u32 0))))){R:CV→Prop}(hR:Ok P 239 (loopHead P 239 0) ⟨J3 54 [(0,.cv (.lst n (j7 xs))),(1,.cv (.lst m (j7 ys))),(5,.sl 0 0 (i64.wrap ((n:Int)+1)).toNat 1),(6,.cv (.lit (.int .u32 0))),(21,.cv (.lst n (j7 xs))),(22,.cv (.lit (.int .i64 (n:Int)))),(23,.cv (.lit (.int .i64 0)))],[some (List.replicate ((i64.wrap ((n:Int)+1)).toNat*1) (.cv (.lit (.int .u32 0))))]⟩ (.of R)):W6 P 239 [.lst n (j7 xs),.lst m (j7 ys)] R:=
 Y4 (keep:=[0,1,5,6,21,22,23]) (σ:=[0]) (.b 6 h1 (.c o1 (.o 16 .stop .nil))) (by kernel_rfl) rfl hR (.cons o2 .nil)
theorem zfy(n m:Nat)(xs ys:List Nat)(o0:(0:Int)≤n∧(n:Int)≤n∧(4:Int)*n≤140737488355328∧(n:Int)≤4611686018427387904∧1=1)(o1:CvL (List.replicate ((n:Int).toNat*1) (.cv (.lit (.int .u32 0))))){R:CV→Prop}(hR:Ok P 242 (loopHead P 242 0) ⟨J3 41 [(1,.cv (.lst m (j7 ys))),(5,.sl 0 0 (n:Int).toNat 1),(6,.cv (.lit (.int .u32 0))),(13,.cv (.lst n (j7 xs))),(14,.cv (.lit (.int .i64 (n:Int)))),(15,.cv (.lit (.int .i64 0)))],[some (List.replicate ((n:Int).toNat*1) (.cv (.lit (.int .u32 0))))]⟩ (.of R)):W6 P 242 [.lst n (j7 xs),.lst m (j7 ys)] R:=
 Y4 (keep:=[1,5,6,13,14,15]) (σ:=[0]) (.c o0 (.o 9 .stop .nil)) (by kernel_rfl) rfl hR (.cons o1 .nil)
theorem zdL(n:Nat)(d:Int)(xs:List Nat)(o0:(0:Int)≤n∧(n:Int)≤n∧(4:Int)*n≤140737488355328∧(n:Int)≤4611686018427387904∧1=1)(o1:CvL (List.replicate ((n:Int).toNat*1) (.cv (.lit (.int .u32 0))))){R:CV→Prop}(hR:Ok P 261 (loopHead P 261 0) ⟨J3 35 [(0,.cv (.lst n (j7 xs))),(1,.cv (.lit (.int .u32 d))),(6,.sl 0 0 (n:Int).toNat 1),(7,.cv (.lit (.int .u32 0))),(8,.cv (.lit (.int .i64 (i64.wrap ((n:Int)-1)))))],[some (List.replicate ((n:Int).toNat*1) (.cv (.lit (.int .u32 0))))]⟩ (.of R)):W6 P 261 [.lst n (j7 xs),.lit (.int .u32 d)] R:=
 Y4 (keep:=[0,1,6,7,8]) (σ:=[0]) (.c o0 (.o 11 .stop .nil)) (by kernel_rfl) rfl hR (.cons o1 .nil)
theorem zb9(n:Nat)(xs:List Nat){R:CV→Prop}(hR:Ok P 259 (loopHead P 259 0) ⟨J3 21 [(0,.cv (.lst n (j7 xs))),(3,.cv (.lit (.int .u64 0))),(4,.cv (.lit (.int .i64 (i64.wrap ((n:Int)-1)))))],[]⟩ (.of R)):W6 P 259 [.lst n (j7 xs)] R:=
 Y4 (keep:=[0,3,4]) (σ:=[]) (.o 6 .stop .nil) (by kernel_rfl) rfl hR .nil
theorem zhU(n m:Nat)(xs ys:List Nat)(o0:(0:Int)≤i64.wrap (i64.wrap ((n:Int)+m)+1)∧i64.wrap (i64.wrap ((n:Int)+m)+1)≤i64.wrap (i64.wrap ((n:Int)+m)+1)∧(4:Int)*i64.wrap (i64.wrap ((n:Int)+m)+1)≤140737488355328∧i64.wrap (i64.wrap ((n:Int)+m)+1)≤4611686018427387904∧1=1)(o1:CvL (List.replicate ((i64.wrap (i64.wrap ((n:Int)+m)+1)).toNat*1) (.cv (.lit (.int .u32 0))))){R:CV→Prop}(hR:Ok P 243 (loopHead P 243 0) ⟨J3 45 [(1,.cv (.lst m (j7 ys))),(5,.sl 0 0 (i64.wrap (i64.wrap ((n:Int)+m)+1)).toNat 1),(6,MV.fn 258 [.sl 0 0 (i64.wrap (i64.wrap ((n:Int)+m)+1)).toNat 1] []),(20,.cv (.lst n (j7 xs))),(21,.cv (.lit (.int .i64 (n:Int)))),(22,.cv (.lit (.int .i64 0)))],[some (List.replicate ((i64.wrap (i64.wrap ((n:Int)+m)+1)).toNat*1) (.cv (.lit (.int .u32 0))))]⟩ (.of R)):W6 P 243 [.lst n (j7 xs),.lst m (j7 ys)] R:=
 Y4 (keep:=[1,5,6,20,21,22]) (σ:=[0]) (.c o0 (.o 15 .stop .nil)) (by kernel_rfl) rfl hR (.cons o1 .nil)
end Go.Fw
open Go IntKind
namespace Go.Fw
set_option maxRecDepth 100000
theorem zjA(n l:Nat)(i:Int)(xs bs:List Nat)(h1:decide (i≥0)=true)(o1:(0:Int)≤i∧i<(n:Int))(o2:(j7 xs)[i.toNat*1]?=some (.lit (.int .u32 ↑(xs.getD (i.toNat*1) 0))))(o5:(0:Int)≤i∧i<(n:Int))(o6:(j7 xs)[i.toNat*1]?=some (.lit (.int .u32 ↑(xs.getD (i.toNat*1) 0))))(o9:(0:Int)≤i∧i<(n:Int))(o10:(j7 xs)[i.toNat*1]?=some (.lit (.int .u32 ↑(xs.getD (i.toNat*1) 0))))(o13:(0:Int)≤i∧i<(n:Int))(o14:(j7 xs)[i.toNat*1]?=some (.lit (.int .u32 ↑(xs.getD (i.toNat*1) 0))))(o16:(l+4)*1≤1099511627776)(o17:l+4≤1099511627776)(o18:(own (u8s bs)).length=l*1)(o19:zbI [.cv (.lit (.int .u8 (u8.wrap ((↑(xs.getD (i.toNat*1) 0):Int).fdiv 16777216)))),.cv (.lit (.int .u8 (u8.wrap ((↑(xs.getD (i.toNat*1) 0):Int).fdiv 65536)))),.cv (.lit (.int .u8 (u8.wrap ((↑(xs.getD (i.toNat*1) 0):Int).fdiv 256)))),.cv (.lit (.int .u8 (u8.wrap (↑(xs.getD (i.toNat*1) 0):Int))))])(o21:CvL (own (u8s bs)++[.cv (.lit (.int .u8 (u8.wrap ((↑(xs.getD (i.toNat*1) 0):Int).fdiv 16777216)))),.cv (.lit (.int .u8 (u8.wrap ((↑(xs.getD (i.toNat*1) 0):Int).fdiv 65536)))),.cv (.lit (.int .u8 (u8.wrap ((↑(xs.getD (i.toNat*1) 0):Int).fdiv 256)))),.cv (.lit (.int .u8 (u8.wrap (↑(xs.getD (i.toNat*1) 0):Int))))])){R:Goal}(hn:J0 R.n [2]=true)(hR:Ok P 256 (loopHead P 256 0) ⟨J3 45 [(0,.cv (.lst n (j7 xs))),(3,.sl 0 0 (l+4) 1),(4,.cv (.lit (.int .i64 (i64.wrap (i-1)))))],[some (own (u8s bs)++[.cv (.lit (.int .u8 (u8.wrap ((↑(xs.getD (i.toNat*1) 0):Int).fdiv 16777216)))),.cv (.lit (.int .u8 (u8.wrap ((↑(xs.getD (i.toNat*1) 0):Int).fdiv 65536)))),.cv (.lit (.int .u8 (u8.wrap ((↑(xs.getD (i.toNat*1) 0):Int).fdiv 256)))),.cv (.lit (.int .u8 (u8.wrap (↑(xs.getD (i.toNat*1) 0):Int))))])]⟩ R):Ok P 256 (loopHead P 256 0) ⟨J3 45 [(0,.cv (.lst n (j7 xs))),(3,.sl 0 0 l 1),(4,.cv (.lit (.int .i64 i)))],[some (own (u8s bs))]⟩ R:=
 z0D (keep:=[0,3,4]) (σ:=[2]) (.b 3 h1 (.c o1 (.c o2 (.c (eqn 1) (.c (nn 24) (.c o5 (.c o6 (.c (eqn 1) (.c (nn 16) (.c o9 (.c o10 (.c (eqn 1) (.c (nn 8) (.c o13 (.l 8 o14 (.c (eqn 1) (.c o16 (.c o17 (.c o18 (.c o19 (.c (eqn 4) (.o 14 (.r (.lit (.int .u32 ↑(xs.getD (i.toNat*1) 0)))) (.o 20 (.r (.lit (.int .u32 ↑(xs.getD (i.toNat*1) 0)))) (.o 26 (.r (.lit (.int .u32 ↑(xs.getD (i.toNat*1) 0)))) (.o 34 .stop .nil))))))))))))))))))))))))) (by kernel_rfl) rfl hn hR (.cons o21 .nil)
theorem zjL(n l:Nat)(i:Int)(xs bs:List Nat)(h1:decide (i≥0)=false)(o1:List.take l (List.drop 0 (own (u8s bs)))=List.map (fun b=>z2j u8 (↑b.toNat:Int)) (List.map UInt8.ofNat bs))(o2:(z1K bs).size=l){R:Goal}(hR:R.c (.lit (.string (bytesOf (J7 (z1K bs)))))):Ok P 256 (loopHead P 256 0) ⟨J3 45 [(0,.cv (.lst n (j7 xs))),(3,.sl 0 0 l 1),(4,.cv (.lit (.int .i64 i)))],[some (own (u8s bs))]⟩ R:=
 okT (.b 3 h1 (.c o1 (.c o2 (.c (ziC (z1K bs)) (.o 5 (.r (.lit (.string (z1K bs)))) (.o 6 (.r (.lit (.string (bytesOf (J7 (z1K bs)))))) .nil)))))) (by kernel_rfl) hR
end Go.Fw
