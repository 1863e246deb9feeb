/- A part of the proof that the law returns true for every input: an executor for the model's code, and what functions of the program compute. -/
import Derived.Test.YtcafjpldfnegiaaGreatDoorB11
import Derived.Test.YtcafjpldfnegiaaGreatDoorB15
import Derived.KernelRfl
set_option maxRecDepth 10000
namespace Go.Fw
theorem U6(n:Nat):0<B32^n:=Nat.pow_pos (by decide)
theorem zgA{b:Nat}(hb:0<b)(m n j x:Nat)(hj:j<m)(hx:x<b):(Q9 b m n).set j x=Q9 b m (n-n/b^j%b*b^j+x*b^j):=by
 have hp:0<b^j:=Nat.pow_pos hb
 have hle:n/b^j%b*b^j≤n:=Nat.le_trans (Nat.mul_le_mul_right _ (Nat.mod_le _ _)) (Nat.div_mul_le_self _ _)
 have key:(Q9 b m n)=(Q9 b m (n-n/b^j%b*b^j)).set j (n/b^j%b):=by
  have h0:(n-n/b^j%b*b^j)/b^j%b=0:=by
   have e:n-n/b^j%b*b^j=n%b^j+b*(n/b^j/b)*b^j:=by
    have h1:=Nat.mod_add_div n (b^j)
    have h2:=Nat.mod_add_div (n/b^j) b
    have h3:b^j*(n/b^j)=(n/b^j%b)*b^j+b*(n/b^j/b)*b^j:=by rw[←Nat.add_mul,h2,Nat.mul_comm]
    omega
   rw[e,Nat.add_mul_div_right _ _ hp,Nat.div_eq_of_lt (Nat.mod_lt _ hp),Nat.zero_add,Nat.mul_mod_right]
  have:=z1l hb m (n-n/b^j%b*b^j) j (n/b^j%b) hj (by rw[h0,Nat.zero_add];exact Nat.mod_lt _ hb)
  rw[h0,Nat.zero_add]at this
  rw[this]
  congr 1;omega
 have h0:(n-n/b^j%b*b^j)/b^j%b=0:=by
  have e:n-n/b^j%b*b^j=n%b^j+b*(n/b^j/b)*b^j:=by
   have h1:=Nat.mod_add_div n (b^j)
   have h2:=Nat.mod_add_div (n/b^j) b
   have h3:b^j*(n/b^j)=(n/b^j%b)*b^j+b*(n/b^j/b)*b^j:=by rw[←Nat.add_mul,h2,Nat.mul_comm]
   omega
  rw[e,Nat.add_mul_div_right _ _ hp,Nat.div_eq_of_lt (Nat.mod_lt _ hp),Nat.zero_add,Nat.mul_mod_right]
 have hs:=z1l hb m (n-n/b^j%b*b^j) j x hj (by rw[h0,Nat.zero_add];exact hx)
 rw[h0,Nat.zero_add]at hs
 rw[key,List.set_set,hs]
structure Guess(U V v1 v2 top u2 p:Nat):Prop where
 hp:0<p
 hU: ∃ul,ul<p∧U=(top*B32+u2)*p+ul
 hV: ∃vl,vl<p∧V=(v1*B32+v2)*p+vl
 hv1:2147483648≤v1
 hv1':v1<B32
 hv2:v2<B32
 hu2:u2<B32
 hlt:U<V*B32
namespace Guess
variable{U V v1 v2 top u2 p:Nat}(g:Guess U V v1 v2 top u2 p)
include g
theorem vpos:0<V:=by
 obtain⟨vl,_,e⟩:=g.hV
 have h1:=g.hv1
 have hp:=g.hp
 have:0<(v1*B32+v2)*p:=Nat.mul_pos (by simp only[B32];omega) hp
 omega
theorem top_le:top≤v1*B32+(B32-1):=by
 obtain⟨ul,hul,eU⟩:=g.hU
 obtain⟨vl,hvl,eV⟩:=g.hV
 have hlt:=g.hlt
 have hp:=g.hp
 have hv2:=g.hv2
 have h1:top*B32*p≤U:=by rw[eU,Nat.add_mul];omega
 have h2:V<(v1+1)*B32*p:=by
  rw[eV]
  calc (v1*B32+v2)*p+vl<(v1*B32+v2)*p+p:=by omega
   _=(v1*B32+v2+1)*p:=by rw[Nat.add_mul _ 1,Nat.one_mul]
   _≤(v1+1)*B32*p:=Nat.mul_le_mul_right _ (by rw[Nat.add_mul];omega)
 have h3:top*(B32*p)<(v1+1)*B32*(B32*p):=by
  calc top*(B32*p)=top*B32*p:=(Nat.mul_assoc _ _ _).symm
   _≤U:=h1
   _<V*B32:=hlt
   _≤(v1+1)*B32*p*B32:=Nat.mul_le_mul_right _ (by omega)
   _=(v1+1)*B32*(B32*p):=by rw[Nat.mul_assoc ((v1+1)*B32),Nat.mul_comm p]
 have h4:=Nat.lt_of_mul_lt_mul_right h3
 rw[Nat.add_mul]at h4
 simp only[B32]at*;omega
theorem quot_lt:U/V<B32:=by rw[Nat.div_lt_iff_lt_mul g.vpos,Nat.mul_comm];exact g.hlt
theorem quot_le:U/V*(v1*B32+v2)≤top*B32+u2:=by
 obtain⟨ul,hul,eU⟩:=g.hU
 obtain⟨vl,hvl,eV⟩:=g.hV
 have h1:U/V*V≤U:=Nat.div_mul_le_self _ _
 have h2:U/V*(v1*B32+v2)*p<(top*B32+u2+1)*p:=by
  calc U/V*(v1*B32+v2)*p=U/V*((v1*B32+v2)*p):=Nat.mul_assoc _ _ _
   _≤U/V*V:=Nat.mul_le_mul_left _ (by omega)
   _≤U:=h1
   _<(top*B32+u2)*p+p:=by omega
   _=(top*B32+u2+1)*p:=by rw[Nat.add_mul _ 1,Nat.one_mul]
 have:=Nat.lt_of_mul_lt_mul_right h2
 exact Nat.lt_succ_iff.1 this
theorem le_succ{q:Nat}(hq:q<B32)(h:q*(v1*B32+v2)≤top*B32+u2):q≤U/V+1:=by
 obtain⟨ul,hul,eU⟩:=g.hU
 obtain⟨vl,hvl,eV⟩:=g.hV
 have hv1:=g.hv1
 have hqp:q*p≤V:=by
  calc q*p≤(v1*B32+v2)*p:=Nat.mul_le_mul_right _ (by simp only[B32]at*;omega)
   _≤V:=by omega
 have h1:q*V≤U+V:=by
  calc q*V≤q*((v1*B32+v2)*p+p):=Nat.mul_le_mul_left _ (by omega)
   _=q*(v1*B32+v2)*p+q*p:=by rw[Nat.mul_add,Nat.mul_assoc]
   _≤(top*B32+u2)*p+V:=Nat.add_le_add (Nat.mul_le_mul_right _ h) hqp
   _≤U+V:=by omega
 cases q with
 |zero=>exact Nat.zero_le _
 |succ q=>
  have h2:q*V≤U:=by rw[Nat.succ_mul]at h1;omega
  exact Nat.succ_le_succ ((Nat.le_div_iff_mul_le g.vpos).2 h2)
end Guess
structure Corr(U V v1 v2 top u2 q r:Nat):Prop where
 eq:q*v1+r=top
 le:U/V≤q
 up:q≤B32+1
 rest:r<B32
namespace Corr
variable{U V v1 v2 top u2 p q r:Nat}
theorem start(g:Guess U V v1 v2 top u2 p):Corr U V v1 v2 top u2 (top/v1) (top%v1):=by
 have h1:=g.hv1
 have ht:=g.top_le
 have hle:U/V≤top/v1:=by
  rw[Nat.le_div_iff_mul_le (by omega)]
  have:=g.quot_le
  have h2:U/V*v1*B32<(top+1)*B32:=by
   calc U/V*v1*B32=U/V*(v1*B32):=Nat.mul_assoc _ _ _
    _≤U/V*(v1*B32+v2):=Nat.mul_le_mul_left _ (by omega)
    _≤top*B32+u2:=this
    _<(top+1)*B32:=by rw[Nat.add_mul];have:=g.hu2;omega
  have:=Nat.lt_of_mul_lt_mul_right h2
  exact Nat.lt_succ_iff.1 this
 refine⟨?_,hle,?_,?_⟩
 · rw[Nat.mul_comm];exact Nat.div_add_mod _ _
 · rw[←Nat.lt_succ_iff,Nat.div_lt_iff_lt_mul (by omega)]
   simp only[B32]at*;omega
 · have:=Nat.mod_lt top (by omega:0<v1)
   have:=g.hv1'
   omega
theorem done(g:Guess U V v1 v2 top u2 p)(c:Corr U V v1 v2 top u2 q r)(h1:q<B32)(h2:q*v2≤r*B32+u2):q=U/V∨q=U/V+1:=by
 have h3:q*(v1*B32+v2)≤top*B32+u2:=by
  have e1:top*B32=q*v1*B32+r*B32:=by rw[←c.eq,Nat.add_mul]
  rw[e1,Nat.mul_add,←Nat.mul_assoc];omega
 have k1:=g.le_succ h1 h3
 have k2:=c.le
 generalize U/V=Q at*
 omega
theorem pred_le(g:Guess U V v1 v2 top u2 p)(c:Corr U V v1 v2 top u2 q r)(h:B32≤q∨r*B32+u2<q*v2):U/V<q:=by
 rcases h with h|h
 · exact Nat.lt_of_lt_of_le g.quot_lt h
 · have hq:=g.quot_le
   have h3:top*B32+u2<q*(v1*B32+v2):=by
    have e1:top*B32=q*v1*B32+r*B32:=by rw[←c.eq,Nat.add_mul]
    rw[e1,Nat.mul_add,←Nat.mul_assoc]
    rw[Nat.add_assoc]
    exact Nat.add_lt_add_left h _
   have h4: ∀k:Nat,U/V*k≤top*B32+u2→top*B32+u2<q*k→U/V<q:=fun k a b=>Nat.lt_of_mul_lt_mul_right (Nat.lt_of_le_of_lt a b)
   exact h4 _ hq h3
theorem step(g:Guess U V v1 v2 top u2 p)(c:Corr U V v1 v2 top u2 q r)(h:B32≤q∨r*B32+u2<q*v2)(hr:r+v1<B32):Corr U V v1 v2 top u2 (q-1) (r+v1):=by
 have hq:=c.pred_le g h
 have e:=c.eq
 have up:=c.up
 refine⟨?_,Nat.le_sub_one_of_lt hq,by omega,hr⟩
 have hq1:1≤q:=Nat.lt_of_le_of_lt (Nat.zero_le _) hq
 obtain⟨q',rfl⟩: ∃q',q=q'+1:=⟨q-1,by omega⟩
 rw[Nat.add_mul,Nat.one_mul]at e
 simp only[Nat.add_sub_cancel]
 omega
theorem last(g:Guess U V v1 v2 top u2 p)(c:Corr U V v1 v2 top u2 q r)(h:B32≤q∨r*B32+u2<q*v2)(hr:B32≤r+v1):q-1<B32∧(q-1=U/V∨q-1=U/V+1):=by
 have hq:=c.pred_le g h
 have e:=c.eq
 have ht:=g.top_le
 have hu:=c.up
 have hv2:=g.hv2
 have hlt:q≤B32:=by
  rcases Nat.lt_or_ge q (B32+1)with h|h
  · omega
  · have:q=B32+1:=by omega
    subst this
    rw[Nat.add_mul,Nat.one_mul,Nat.mul_comm B32]at e
    omega
 have hls: ∀q,q<B32→q*(v1*B32+v2)≤top*B32+u2→q≤U/V+1:=fun q a b=>g.le_succ a b
 clear g c
 generalize U/V=Q at*
 obtain⟨q',rfl⟩: ∃q',q=q'+1:=⟨q-1,by omega⟩
 refine⟨by omega,?_⟩
 simp only[Nat.add_sub_cancel]
 have hq':q'<B32:=by omega
 have h2:q'*v2≤(r+v1)*B32+u2:=by
  calc q'*v2≤B32*B32:=Nat.mul_le_mul (by omega) (by omega)
   _≤(r+v1)*B32:=Nat.mul_le_mul_right _ hr
   _≤_:=Nat.le_add_right _ _
 have h3:q'*(v1*B32+v2)≤top*B32+u2:=by
  rw[Nat.add_mul,Nat.one_mul]at e
  rw[←e,Nat.mul_add,←Nat.mul_assoc]
  have:(q'*v1+v1+r)*B32=q'*v1*B32+(r+v1)*B32:=by
   rw[←Nat.add_mul];congr 1;omega
  omega
 have:=hls q' hq' h3
 omega
end Corr
theorem zal (W Wi q vi x P Pj c b d s c2 b2 new : Nat) (hinv : Wi + q * vi * Pj = W + (c + b) * P)
    (hP: ∃Pi,P=Pj*Pi) (hs:c+q*x=s+B32*c2) (hn:new+s+b=d+b2*B32) (hd:d*P≤Wi) (Pi:Nat) (hPi:P=Pj*Pi):
    (Wi-d*P+new*P)+q*(vi+Pi*x)*Pj=W+(c2+b2)*(P*B32):=by
 have e1:q*(vi+Pi*x)*Pj=q*vi*Pj+q*x*P:=by
  rw[Nat.mul_add,Nat.add_mul,hPi]
  congr 1
  rw[←Nat.mul_assoc q,Nat.mul_assoc _ _ Pj,Nat.mul_assoc q Pi,Nat.mul_comm Pi (x*Pj),Nat.mul_assoc x,←Nat.mul_assoc q]
 have e2:(c2+b2)*(P*B32)=B32*c2*P+b2*B32*P:=by
  rw[Nat.add_mul];congr 1<;>(rw[Nat.mul_comm P,←Nat.mul_assoc];try rw[Nat.mul_comm c2])
 have e3:(c+q*x)*P=(s+B32*c2)*P:=by rw[hs]
 have e4:(new+s+b)*P=(d+b2*B32)*P:=by rw[hn]
 rw[e1,e2]
 simp only[Nat.add_mul]at*
 omega
end Go.Fw
open Go IntKind
namespace Go.Fw
set_option maxRecDepth 100000
theorem zgH(x y z:Int):PCall P 255 [.lit (.int .u32 x),.lit (.int .u32 y),.lit (.int .u32 z)] (.tup [.lit (.int .u32 (u32.wrap (u64.wrap (u64.wrap (u64.wrap x+u64.wrap y)+u64.wrap z)))),.lit (.int .u32 (u32.wrap ((u64.wrap (u64.wrap (u64.wrap x+u64.wrap y)+u64.wrap z)).fdiv 4294967296)))]):=
 j3 (.c (nn 32) .nil) (by kernel_rfl)
theorem zgh(x y z:Int):PCall P 257 [.lit (.int .u32 x),.lit (.int .u32 y),.lit (.int .u32 z)] (.tup [.lit (.int .u32 (u32.wrap (u32.wrap (x-y)-z))),.lit (.int .u32 ((V6 BinOp.or u32 (V6 BinOp.and u32 (V6 BinOp.xor u32 (4294967295:Int) x) y) (V6 BinOp.and u32 (V6 BinOp.xor u32 (4294967295:Int) (V6 BinOp.xor u32 x y)) (u32.wrap (u32.wrap (x-y)-z)))).fdiv 2147483648))]):=
 j3 (.c (nn 31) .nil) (by kernel_rfl)
theorem zfR(x y z:Int)(hz:(z != 0)=true)(hx:decide (z≤x)=false)(o3 o4:u64.wrap z≠0):PCall P 269 [.lit (.int .u32 x),.lit (.int .u32 y),.lit (.int .u32 z)] (.tup [.lit (.int .u32 (u32.wrap (u64.wrap ((V6 BinOp.or u64 (u64.wrap (u64.wrap x*4294967296)) (u64.wrap y)).tdiv (u64.wrap z))))),.lit (.int .u32 (u32.wrap ((V6 BinOp.or u64 (u64.wrap (u64.wrap x*4294967296)) (u64.wrap y)).tmod (u64.wrap z))))]):=
 j3 (.b 4 hz (.b 9 hx (.c (nn 32) (.c o3 (.c o4 .nil))))) (by kernel_rfl)
theorem zfn(x y:Int):PCall P 267 [.lit (.int .u32 x),.lit (.int .u32 y)] (.tup [.lit (.int .u32 (u32.wrap ((u64.wrap (u64.wrap x*u64.wrap y)).fdiv 4294967296))),.lit (.int .u32 (u32.wrap (u64.wrap (u64.wrap x*u64.wrap y))))]):=
 j3 (.c (nn 32) .nil) (by kernel_rfl)
end Go.Fw
open Go
namespace Go.Fw
set_option maxRecDepth 100000
abbrev z4x(n:Nat):CV:= .lit (.int .u32 (n:Int))
abbrev j4(n:Int):CV:= .lit (.int .i64 n)
theorem z68{k k':IntKind}{a a' b b':Int}(h:a=a')(h':b=b'):CV.tup [.lit (.int k a),.lit (.int k' b)]= .tup [.lit (.int k a'),.lit (.int k' b')]:=by rw[h,h']
theorem z5K{k:IntKind}{a a':Int}(h:a=a'):CV.lit (.int k a)= .lit (.int k a'):=by rw[h]
theorem z7S(n:Int):IntKind.u32.wrap n=n%4294967296:=IntKind.wrap_u32 n
theorem z1H(n:Int):IntKind.u64.wrap n=n%18446744073709551616:=IntKind.wrap_u64 n
theorem wr8(n:Int):IntKind.u8.wrap n=n%256:=IntKind.wrap_u8 n
theorem fdp(n:Int){d:Int}(h:0≤d):n.fdiv d=n/d:=Int.fdiv_eq_ediv_of_nonneg n h
theorem zev(k:Nat)(a:Nat):BitVec.ofInt k (a:Int)=BitVec.ofNat k a:=by
 apply BitVec.eq_of_toNat_eq
 simp
theorem z4t (op : BinOp) (k : IntKind) (hk : k.signed = false) (a b : Nat) (ha : a < 2 ^ k.bits) (hb : b < 2 ^ k.bits) (hop : op = .and ∨ op = .or ∨ op = .xor) :
    V6 op k a b=((match op with| .and=>a&&&b| .or=>a|||b|_=>a^^^b:Nat):Int):=by
 have hw: ∀n:Nat,n<2^k.bits→k.wrap (n:Int)=n:=by
  intro n hn
  unfold IntKind.wrap
  simp only[hk,Bool.false_and,Bool.false_eq_true,if_false]
  norm_cast
  rw[Nat.mod_eq_of_lt hn]
 unfold V6
 simp only[zev]
 rcases hop with rfl|rfl|rfl
 · dsimp only
   rw[BitVec.toNat_and,BitVec.toNat_ofNat,BitVec.toNat_ofNat,Nat.mod_eq_of_lt ha,Nat.mod_eq_of_lt hb]
   exact hw _ (Nat.and_lt_two_pow _ hb)
 · dsimp only
   rw[BitVec.toNat_or,BitVec.toNat_ofNat,BitVec.toNat_ofNat,Nat.mod_eq_of_lt ha,Nat.mod_eq_of_lt hb]
   exact hw _ (Nat.or_lt_two_pow ha hb)
 · dsimp only
   rw[BitVec.toNat_xor,BitVec.toNat_ofNat,BitVec.toNat_ofNat,Nat.mod_eq_of_lt ha,Nat.mod_eq_of_lt hb]
   exact hw _ (Nat.xor_lt_two_pow ha hb)
theorem zdY{a b:Nat}(ha:a<4294967296)(hb:b<4294967296):V6 .or .u32 (a:Int) (b:Int)=((a|||b:Nat):Int):=z4t .or .u32 rfl a b ha hb (by simp)
theorem zew{a b:Nat}(ha:a<4294967296)(hb:b<4294967296):V6 .and .u32 (a:Int) (b:Int)=((a&&&b:Nat):Int):=z4t .and .u32 rfl a b ha hb (by simp)
theorem z9v{a b:Nat}(ha:a<4294967296)(hb:b<4294967296):V6 .xor .u32 (a:Int) (b:Int)=((a^^^b:Nat):Int):=z4t .xor .u32 rfl a b ha hb (by simp)
theorem z6G{a b:Nat}(ha:a<18446744073709551616)(hb:b<18446744073709551616):V6 .or .u64 (a:Int) (b:Int)=((a|||b:Nat):Int):=z4t .or .u64 rfl a b ha hb (by simp)
theorem z1T{a b:Nat}(i:Nat)(hb:b<2^i):a*2^i|||b=a*2^i+b:=by
 rw[←Nat.shiftLeft_eq,Nat.shiftLeft_add_eq_or_of_lt hb]
theorem z1r(x y c:Nat)(hx:x<B32)(hy:y<B32)(hc:c≤1):PCall P 255 [z4x x,z4x y,z4x c] (.tup [z4x ((x+y+c)%B32),z4x ((x+y+c)/B32)]):=by
 refine(zgH x y c).eq ?_
 simp only[z7S,z1H,fdp _ (by decide:(0:Int)≤4294967296),B32]at*
 exact z68 (by omega) (by omega)
theorem zb2(x y:Nat)(hx:x<B32)(hy:y<B32):PCall P 267 [z4x x,z4x y] (.tup [z4x (x*y/B32),z4x (x*y%B32)]):=by
 refine(zfn x y).eq ?_
 have h:x*y≤4294967295*4294967295:=Nat.mul_le_mul (by simp only[B32]at hx;omega) (by simp only[B32]at hy;omega)
 simp only[z7S,z1H,fdp _ (by decide:(0:Int)≤4294967296),B32]at*
 have h1:(x:Int)%18446744073709551616*((y:Int)%18446744073709551616)=((x*y:Nat):Int):=by
  rw[Int.emod_eq_of_lt (by omega) (by omega),Int.emod_eq_of_lt (by omega) (by omega)];simp
 rw[h1]
 exact z68 (by omega) (by omega)
theorem zbW(x y z:Nat)(hx:x<z)(hy:y<B32)(hz:z<B32):PCall P 269 [z4x x,z4x y,z4x z] (.tup [z4x ((x*B32+y)/z),z4x ((x*B32+y)%z)]):=by
 have h0:0<z:=by omega
 have hzw:IntKind.u64.wrap (z:Int)=z:=by rw[z1H];simp only[B32]at hz;omega
 have hne:(z:Int)≠0:=by omega
 refine(zfR x y z (by simpa using hne) (by simp;omega) (by rw[hzw];exact hne) (by rw[hzw];exact hne)).eq ?_
 rw[hzw]
 simp only[B32]at*
 have h1:IntKind.u64.wrap (IntKind.u64.wrap (x:Int)*4294967296)=((x*2^32:Nat):Int):=by rw[z1H,z1H];omega
 have h2:IntKind.u64.wrap (y:Int)=(y:Nat):=by rw[z1H];omega
 rw[h1,h2,z6G (by omega) (by omega),z1T 32 (by omega),show(2:Nat)^32=4294967296 by decide,z7S,z1H,z7S,Int.tdiv_eq_ediv_of_nonneg (by omega),Int.tmod_eq_emod_of_nonneg (by omega)]
 have h3:(x*4294967296+y)/z<4294967296:=by
  rw[Nat.div_lt_iff_lt_mul h0]
  have:(x+1)*4294967296≤z*4294967296:=Nat.mul_le_mul_right _ hx
  rw[Nat.mul_comm 4294967296 z];omega
 have h4:(x*4294967296+y)%z<4294967296:=by have:=Nat.mod_lt (x*4294967296+y) h0;omega
 rw[show((x*4294967296+y:Nat):Int)/(z:Int)=(((x*4294967296+y)/z:Nat):Int)from(Int.natCast_ediv _ _).symm,
  show((x*4294967296+y:Nat):Int)%(z:Int)=(((x*4294967296+y)%z:Nat):Int)from(Int.natCast_emod _ _).symm]
 generalize (x*4294967296+y)/z=q at*
 generalize (x*4294967296+y)%z=r at*
 exact z68 (by omega) (by omega)
theorem z4W(x y c:Nat)(hx:x<B32)(hy:y<B32)(hc:c≤1):PCall P 257 [z4x x,z4x y,z4x c] (.tup [z4x ((x+2*B32-y-c)%B32),z4x (if x<y+c then 1 else 0)]):=by
 refine(zgh x y c).eq ?_
 simp only[B32]at*
 have hd:IntKind.u32.wrap (IntKind.u32.wrap ((x:Int)-y)-c)=((x+2*4294967296-y-c)%4294967296:Nat):=by rw[z7S,z7S];omega
 rw[hd]
 have hd':(x+2*4294967296-y-c)%4294967296<4294967296:=Nat.mod_lt _ (by decide)
 generalize hdd:(x+2*4294967296-y-c)%4294967296=d at*
 have hm:(4294967295:Int)=((4294967295:Nat):Int):=rfl
 have hxy:x^^^y<4294967296:=Nat.xor_lt_two_pow (n:=32) hx hy
 have hnx:4294967295^^^x<4294967296:=Nat.xor_lt_two_pow (n:=32) (by decide) hx
 have hnxy:4294967295^^^(x^^^y)<4294967296:=Nat.xor_lt_two_pow (n:=32) (by decide) hxy
 have ha1:(4294967295^^^x)&&&y<4294967296:=Nat.and_lt_two_pow (n:=32) _ hy
 have ha2:(4294967295^^^(x^^^y))&&&d<4294967296:=Nat.and_lt_two_pow (n:=32) _ hd'
 rw[hm,z9v (by decide) hx,zew hnx hy,z9v hx hy,z9v (by decide) hxy,zew hnxy hd',zdY ha1 ha2,fdp _ (by decide),show(2147483648:Int)=((2147483648:Nat):Int)from rfl,←Int.natCast_ediv]
 have key:((4294967295^^^x)&&&y|||(4294967295^^^(x^^^y))&&&d)/2147483648=if x<y+c then 1 else 0:=by
  rw[show(2147483648:Nat)=2^31 from rfl,←Nat.shiftRight_eq_div_pow]
  simp only[Nat.shiftRight_or_distrib,Nat.shiftRight_and_distrib,Nat.shiftRight_xor_distrib]
  rw[show(4294967295:Nat)>>>31=1 from rfl]
  simp only[Nat.shiftRight_eq_div_pow]
  rw[show(2:Nat)^31=2147483648 from rfl]
  have e1:x/2147483648=0∨x/2147483648=1:=by omega
  have e2:y/2147483648=0∨y/2147483648=1:=by omega
  have e3:d/2147483648=0∨d/2147483648=1:=by omega
  rcases e1 with e1|e1<;>rcases e2 with e2|e2<;>rcases e3 with e3|e3<;>rw[e1,e2,e3]
  all_goals first
   |(rw[if_pos (by omega)];rfl)
   |(rw[if_neg (by omega)];rfl)
 rw[key]
end Go.Fw
open Go IntKind
namespace Go.Fw
set_option maxRecDepth 100000
theorem zgR(n:Nat)(xs:List Nat){R:CV→Prop}(hR:Ok P 254 (loopHead P 254 0) ⟨J3 21 [(0,.cv (.lst n (j7 xs)))],[]⟩ (.of R)):X5 P 254 [.lst n (j7 xs)] R:=
 Y9 (keep:=[0]) (σ:=[]) (.o 1 .stop .nil) (by kernel_rfl) rfl hR .nil
theorem zfQ(n:Nat)(xs:List Nat)(h1:decide ((n:Int)>0)=true)(h2:((↑(xs.getD ((i64.wrap ((n:Int)-1)).toNat*1) 0):Int)==0)=true)(o1:(0:Int)≤i64.wrap ((n:Int)-1)∧i64.wrap ((n:Int)-1)<(n:Int))(o2:(j7 xs)[(i64.wrap ((n:Int)-1)).toNat*1]?=some (.lit (.int .u32 (↑(xs.getD ((i64.wrap ((n:Int)-1)).toNat*1) 0):Int))))(o5:(0:Int)≤0∧(0:Int)≤i64.wrap ((n:Int)-1)∧i64.wrap ((n:Int)-1)≤(n:Int))(o6:(j7 xs).length=n*1){R:Goal}(hn:J0 R.n []=true)(hR:Ok P 254 (loopHead P 254 0) ⟨J3 21 [(0,.cv (.lst (i64.wrap ((n:Int)-1)-0).toNat (List.take ((i64.wrap ((n:Int)-1)-0).toNat*1) (List.drop 0 (j7 xs)))))],[]⟩ R):Ok P 254 (loopHead P 254 0) ⟨.cv (.lst n (j7 xs))::za9 20,[]⟩ R:=
 z0W (keep:=[0]) (σ:=[]) (.b 4 h1 (.c o1 (.l 10 o2 (.c (eqn 1) (.b 13 h2 (.c o5 (.c o6 (.o 20 .stop .nil)))))))) (by kernel_rfl) rfl hn hR .nil
theorem zgT(n:Nat)(xs:List Nat)(h1:decide ((n:Int)>0)=true)(h2:((↑(xs.getD ((i64.wrap ((n:Int)-1)).toNat*1) 0):Int)==0)=false)(o1:(0:Int)≤i64.wrap ((n:Int)-1)∧i64.wrap ((n:Int)-1)<(n:Int))(o2:(j7 xs)[(i64.wrap ((n:Int)-1)).toNat*1]?=some (.lit (.int .u32 (↑(xs.getD ((i64.wrap ((n:Int)-1)).toNat*1) 0):Int)))){R:Goal}(hR:R.c (.lst n (j7 xs))):Ok P 254 (loopHead P 254 0) ⟨.cv (.lst n (j7 xs))::za9 20,[]⟩ R:=
 okT (.b 4 h1 (.c o1 (.l 10 o2 (.c (eqn 1) (.b 13 h2 .nil))))) (by kernel_rfl) hR
theorem zh6(n:Nat)(xs:List Nat)(h1:decide ((n:Int)>0)=false){R:Goal}(hR:R.c (.lst n (j7 xs))):Ok P 254 (loopHead P 254 0) ⟨.cv (.lst n (j7 xs))::za9 20,[]⟩ R:=
 okT (.b 4 h1 .nil) (by kernel_rfl) hR
end Go.Fw
open Go
namespace Go.Fw
set_option maxRecDepth 100000
theorem zeH(xs:List Nat)(k:Nat):(j7 xs).take k=j7 (xs.take k):=by simp[j7]
theorem zed {R : Goal} (hn : J0 R.n [] = true) : ∀ (k : Nat) (xs : List Nat), xs.length = k → k < 2 ^ 62 → R.c (.lst (tz xs).length (j7 (tz xs))) →
    Ok P 254 (loopHead P 254 0) ⟨.cv (.lst xs.length (j7 xs))::za9 20,[]⟩ R:=by
 intro k
 induction k with
 |zero=>
  intro xs hl _ hR
  have:xs=[]:=List.length_eq_zero_iff.1 hl
  subst this
  exact zh6 0 [] (by decide) hR
 |succ k ih=>
  intro xs hl hk hR
  have hw:IntKind.i64.wrap ((xs.length:Int)-1)=(k:Int):=by rw[hl,w64 (by omega)];omega
  have hne:xs≠[]:=by intro e;subst e;simp at hl
  have hcon:=z00 hne
  rw[hl,Nat.add_sub_cancel]at hcon
  have hget:(j7 xs)[k]?=some (z5S xs k):=z7r (by omega)
  by_cases hx:xs.getD k 0=0
  · refine zfQ xs.length xs (by simp;omega) (by rw[hw];simpa using hx) (by rw[hw];omega) (by rw[hw];simpa[z5S]using hget) (by rw[hw];omega) (by simp[j7]) hn ?_
    rw[hw]
    have h1:((k:Int)-0).toNat=k:=by omega
    rw[h1,Nat.mul_one,List.drop_zero,zeH]
    have h2:(xs.take k).length=k:=by simp;omega
    have:=ih (xs.take k) h2 (by omega) (by rw[hcon,hx,X4]at hR;exact hR)
    rw[h2]at this
    exact this
  · refine zgT xs.length xs (by simp;omega) (by rw[hw];simpa using hx) (by rw[hw];omega) (by rw[hw];simpa[z5S]using hget) ?_
    rw[hcon,z19 hx,←hcon]at hR
    exact hR
theorem z0E(n:Nat)(xs:List Nat)(hn:n=xs.length)(hd:Dig B32 xs)(hl:xs.length<2^62):PCall P 254 [.lst n (j7 xs)] (z0B (val B32 xs)):=by
 subst hn
 refine zgR xs.length xs (zed rfl _ xs rfl hl ?_)
 exact zlg hd
end Go.Fw
namespace Go.Fw
theorem trim1_spec(a:Int)(h0:0≤a)(h1:a<4294967296):PCall P 254 [.lst 1 [.lit (.int .u32 a)]] (z0B a.toNat):=by
 have:=z0E 1 [a.toNat] rfl (by intro x hx;simp only[List.mem_singleton]at hx;simp only[B32];omega) (by simp)
 rw[show j7 [a.toNat]=[.lit (.int .u32 a)] by simp[j7];omega,show val B32 [a.toNat]=a.toNat by simp[val]]at this
 exact this
theorem trim2_spec(a b:Int)(h0:0≤a)(h1:a<4294967296)(g0:0≤b)(g1:b<4294967296):PCall P 254 [.lst 2 [.lit (.int .u32 a),.lit (.int .u32 b)]] (z0B (a+4294967296*b).toNat):=by
 have:=z0E 2 [a.toNat,b.toNat] rfl (by intro x hx;simp only[List.mem_cons,List.not_mem_nil,or_false]at hx;simp only[B32];omega) (by simp)
 rw[show j7 [a.toNat,b.toNat]=[.lit (.int .u32 a),.lit (.int .u32 b)] by simp[j7];omega,show val B32 [a.toNat,b.toNat]=(a+4294967296*b).toNat by simp only[val,B32];omega]at this
 exact this
end Go.Fw
open Go IntKind
namespace Go.Fw
set_option maxRecDepth 100000
theorem zlI(s:ByteArray)(c:Int){R:CV→Prop}(hR:Ok P 271 (loopHead P 271 0) ⟨J3 17 [(0,.cv (.lit (.string s))),(1,.cv (.lit (.int .u8 c)))],[]⟩ (.of R)):X5 P 271 [.lit (.string s),.lit (.int .u8 c)] R:=
 Y9 (keep:=[0,1]) (σ:=[]) (.o 1 .stop .nil) (by kernel_rfl) rfl hR .nil
theorem ziM(s:ByteArray)(c:Int)(h1:decide ((↑s.size:Int)>0)=true)(h2:((↑(s.data.getD 0 (OfNat.ofNat 0)).toNat:Int)==c)=true)(o1:(0:Int)≤0∧(0:Int)<(↑s.size:Int))(o3:(0:Int)≤1∧(1:Int)≤(↑s.size:Int)∧(↑s.size:Int)≤(↑s.size:Int)){R:Goal}(hn:J0 R.n []=true)(hR:Ok P 271 (loopHead P 271 0) ⟨J3 17 [(0,.cv (.lit (.string (s.extract 1 (↑s.size:Int).toNat)))),(1,.cv (.lit (.int .u8 c)))],[]⟩ R):Ok P 271 (loopHead P 271 0) ⟨.cv (.lit (.string s)):: .cv (.lit (.int .u8 c))::za9 15,[]⟩ R:=
 z0W (keep:=[0,1]) (σ:=[]) (.b 4 h1 (.c o1 (.b 10 h2 (.c o3 (.o 14 .stop .nil))))) (by kernel_rfl) rfl hn hR .nil
theorem zl4(s:ByteArray)(c:Int)(h1:decide ((↑s.size:Int)>0)=true)(h2:((↑(s.data.getD 0 (OfNat.ofNat 0)).toNat:Int)==c)=false)(o1:(0:Int)≤0∧(0:Int)<(↑s.size:Int)){R:Goal}(hR:R.c (.lit (.string s))):Ok P 271 (loopHead P 271 0) ⟨.cv (.lit (.string s)):: .cv (.lit (.int .u8 c))::za9 15,[]⟩ R:=
 okT (.b 4 h1 (.c o1 (.b 10 h2 .nil))) (by kernel_rfl) hR
theorem zjc(s:ByteArray)(c:Int)(h1:decide ((↑s.size:Int)>0)=false){R:Goal}(hR:R.c (.lit (.string s))):Ok P 271 (loopHead P 271 0) ⟨.cv (.lit (.string s)):: .cv (.lit (.int .u8 c))::za9 15,[]⟩ R:=
 okT (.b 4 h1 .nil) (by kernel_rfl) hR
end Go.Fw
open Go
namespace Go.Fw
set_option maxRecDepth 100000
abbrev Y7(s:ByteArray):CV:= .lit (.string s)
theorem zh5 {R : Goal} (hn : J0 R.n [] = true) : ∀ (k : Nat) (ls : List Nat), ls.length = k → Dig 256 ls → R.c (Y7 (z22 (tz ls))) →
    Ok P 271 (loopHead P 271 0) ⟨.cv (Y7 (z22 ls)):: .cv (.lit (.int .u8 0))::za9 15,[]⟩ R:=by
 intro k
 induction k with
 |zero=>
  intro ls hl _ hR
  have:ls=[]:=List.length_eq_zero_iff.1 hl
  subst this
  exact zjc _ 0 (by decide) hR
 |succ k ih=>
  intro ls hl hd hR
  have hne:ls≠[]:=by intro e;subst e;simp at hl
  have hcon:=z00 hne
  rw[hl,Nat.add_sub_cancel]at hcon
  have hsz:(z22 ls).size=k+1:=by rw[z6T,hl]
  have hx:=hd.get (by decide) k
  have hd':=hd.take k
  have hlt:(ls.take k).length=k:=by simp;omega
  generalize ls.take k=ms at*
  generalize ls.getD k 0=x at*
  subst hcon
  have hfirst:((z22 (ms++[x])).data.getD 0 0).toNat=x:=by rw[z3F];simp;omega
  by_cases h0:x=0
  · refine ziM _ 0 (by rw[hsz];simp) (by rw[show(OfNat.ofNat 0:UInt8)=0 from rfl,hfirst,h0];rfl) (by omega) (by omega) hn ?_
    have:=ih ms hlt hd' (by rw[h0,X4]at hR;exact hR)
    rw[hsz,show((k+1:Nat):Int).toNat=ms.length+1 by omega,z7f]
    exact this
  · refine zl4 _ 0 (by rw[hsz];simp) (by rw[show(OfNat.ofNat 0:UInt8)=0 from rfl,hfirst];simpa using h0) (by omega) ?_
    rw[z19 h0]at hR
    exact hR
theorem zgi(s:ByteArray):PCall P 271 [Y7 s,.lit (.int .u8 0)] (Y7 (bytesOf (J7 s))):=by
 refine zlI s 0 ?_
 have:=zh5 (R:= .of (fun x=>x=Y7 (bytesOf (J7 s)))) rfl _ (z2z s) rfl (z1R s) (by rw[zcB];rfl)
 rw[z4H]at this
 exact this
end Go.Fw
open Go IntKind
namespace Go.Fw
set_option maxRecDepth 100000
theorem zsf(s:ByteArray)(h1:(s.toList==[])=true):PCall P 266 [.lit (.string s),.lit (.string {data:= #[(0:UInt8)]})] (.lit (.string s)):=
 j3 (.b 3 h1 .nil) (by kernel_rfl)
theorem zsp(s:ByteArray)(h1:(s.toList==[])=false):PCall P 266 [.lit (.string s),.lit (.string {data:= #[(0:UInt8)]})] (.lit (.string (bytesOf (J7 s)))):=
 j3 (.b 3 h1 (.c (bq 0 1) (.c (bq 0 1) (.r 20 (zgi (s)) .nil)))) (by kernel_rfl)
theorem zfT(b:Bool)(s:ByteArray)(h1:(s.toList==[])=true):PCall P 214 [.agg [.lit (.bool b),.lit (.string s)]] (.lit (.bool !b)):=
 j3 (.b 5 h1 .nil) (by kernel_rfl)
theorem zfN(b:Bool)(s:ByteArray)(h1:(s.toList==[])=false)(o1:(0:Int)≤0∧(0:Int)<(↑s.size:Int)):PCall P 214 [.agg [.lit (.bool b),.lit (.string s)]] (.lit (.bool ((↑(s.data.getD 0 (OfNat.ofNat 0)).toNat:Int) != 0))):=
 j3 (.b 5 h1 (.c o1 .nil)) (by kernel_rfl)
theorem zne(s:ByteArray)(o1:(0:Int)≤i64.wrap ((i64.wrap ((↑s.size:Int)+3)).tdiv 4)∧i64.wrap ((i64.wrap ((↑s.size:Int)+3)).tdiv 4)≤i64.wrap ((i64.wrap ((↑s.size:Int)+3)).tdiv 4)∧(4:Int)*i64.wrap ((i64.wrap ((↑s.size:Int)+3)).tdiv 4)≤140737488355328∧i64.wrap ((i64.wrap ((↑s.size:Int)+3)).tdiv 4)≤4611686018427387904∧1=1)(o2:CvL (List.replicate ((i64.wrap ((i64.wrap ((↑s.size:Int)+3)).tdiv 4)).toNat*1) (.cv (.lit (.int .u32 0))))){R:CV→Prop}(hR:Ok P 238 (loopHead P 238 0) ⟨J3 39 [(0,.cv (.lit (.string s))),(3,.sl 0 0 (i64.wrap ((i64.wrap ((↑s.size:Int)+3)).tdiv 4)).toNat 1),(12,.cv (.lit (.int .i64 (↑s.size:Int)))),(13,.cv (.lit (.int .i64 0)))],[some (List.replicate ((i64.wrap ((i64.wrap ((↑s.size:Int)+3)).tdiv 4)).toNat*1) (.cv (.lit (.int .u32 0))))]⟩ (.of R)):X5 P 238 [.lit (.string s)] R:=
 Y9 (keep:=[0,3,12,13]) (σ:=[0]) (.c (nz 4) (.c o1 (.o 10 .stop .nil))) (by kernel_rfl) rfl hR (.cons o2 .nil)
theorem zor(s:ByteArray)(m i:Nat)(xs:List Nat)(h1:(decide ((i:Int)<(↑s.size:Int)))=true)(o2:(0:Int)≤i64.wrap ((i:Int).tdiv 4)∧i64.wrap ((i:Int).tdiv 4)<(m:Int))(o3:(own (j7 xs))[0+(i64.wrap ((i:Int).tdiv 4)).toNat*1]?=some (.cv (.lit (.int .u32 (↑(xs.getD (0+(i64.wrap ((i:Int).tdiv 4)).toNat*1) 0):Int)))))(o5:(0:Int)≤i64.wrap (i64.wrap ((↑s.size:Int)-1)-(i:Int))∧i64.wrap (i64.wrap ((↑s.size:Int)-1)-(i:Int))<(↑s.size:Int))(o7:(0:Int)≤i64.wrap ((8:Int)*(i:Int).tmod 4))(o8:(0:Int)≤i64.wrap ((i:Int).tdiv 4)∧i64.wrap ((i:Int).tdiv 4)<(m:Int))(o9:0+(i64.wrap ((i:Int).tdiv 4)).toNat*1+1≤(own (j7 xs)).length)(o10:CvL (j6 (own (j7 xs)) (0+(i64.wrap ((i:Int).tdiv 4)).toNat*1) [.cv (.lit (.int .u32 (V6 BinOp.or u32 (↑(xs.getD (0+(i64.wrap ((i:Int).tdiv 4)).toNat*1) 0):Int) (u32.wrap (u32.wrap (↑(s.data.getD (i64.wrap (i64.wrap ((↑s.size:Int)-1)-(i:Int))).toNat (OfNat.ofNat 0)).toNat:Int)*2^min (i64.wrap ((8:Int)*(i:Int).tmod 4)).toNat 32)))))])){R:Goal}(hn:J0 R.n [0]=true)(hR:Ok P 238 (loopHead P 238 0) ⟨J3 39 [(0,.cv (.lit (.string s))),(3,.sl 0 0 m 1),(12,.cv (.lit (.int .i64 (↑s.size:Int)))),(13,.cv (.lit (.int .i64 (i64.wrap ((i:Int)+1)))))],[some (j6 (own (j7 xs)) (0+(i64.wrap ((i:Int).tdiv 4)).toNat*1) [.cv (.lit (.int .u32 (V6 BinOp.or u32 (↑(xs.getD (0+(i64.wrap ((i:Int).tdiv 4)).toNat*1) 0):Int) (u32.wrap (u32.wrap (↑(s.data.getD (i64.wrap (i64.wrap ((↑s.size:Int)-1)-(i:Int))).toNat (OfNat.ofNat 0)).toNat:Int)*2^min (i64.wrap ((8:Int)*(i:Int).tmod 4)).toNat 32)))))])]⟩ R):Ok P 238 (loopHead P 238 0) ⟨.cv (.lit (.string s))::MV.unk::MV.unk:: .sl 0 0 m 1::(za9 8++ .cv (.lit (.int .i64 (↑s.size:Int))):: .cv (.lit (.int .i64 (i:Int)))::za9 25),[some (own (j7 xs))]⟩ R:=
 z0W (keep:=[0,3,12,13]) (σ:=[0]) (.b 2 h1 (.c (nz 4) (.c o2 (.e 15 o3 (.c (eqn 1) (.c o5 (.c (nz 4) (.c o7 (.c o8 (.c o9 (.o 29 .stop .nil))))))))))) (by kernel_rfl) rfl hn hR (.cons o10 .nil)
theorem zqB(s:ByteArray)(m i:Nat)(xs:List Nat)(h1:(decide ((i:Int)<(↑s.size:Int)))=false)(s4_0:m=xs.length)(s4_1:Dig 4294967296 xs)(s4_2:xs.length<2^62)(o2:List.take (m*1) (List.drop 0 (own (j7 xs)))=List.map MV.cv (j7 xs)){R:Goal}(hR:R.c (.lst (dig 4294967296 (val 4294967296 xs)).length (j7 (dig 4294967296 (val 4294967296 xs))))):Ok P 238 (loopHead P 238 0) ⟨.cv (.lit (.string s))::MV.unk::MV.unk:: .sl 0 0 m 1::(za9 8++ .cv (.lit (.int .i64 (↑s.size:Int))):: .cv (.lit (.int .i64 (i:Int)))::za9 25),[some (own (j7 xs))]⟩ R:=
 okT (.b 2 h1 (.rs 4 [j7 xs] (z0E (m) (xs) s4_0 s4_1 s4_2) (.c o2 .nil))) (by kernel_rfl) hR
end Go.Fw
open Go
namespace Go.Fw
set_option maxRecDepth 100000
theorem zmf(s:ByteArray):PCall P 266 [Y7 s,Y7 ⟨#[0]⟩] (Y7 (bytesOf (J7 s))):=by
 by_cases h:s.size=0
 · have h1:z2z s=[]:=List.length_eq_zero_iff.1 (by rw[U5,h])
   have h2:s=⟨#[]⟩:=by rw[←z4H s,h1];rfl
   refine(zsf s (by rw[V7];simpa using h)).eq ?_
   rw[J7,h1,h2];rfl
 · exact zsp s (by rw[V7];simpa using h)
def J6(neg:Bool)(mag:ByteArray):Bool:=if mag.size=0 then !neg else decide ((mag.data.getD 0 0).toNat≠0)
theorem W8(b:Bool)(s:ByteArray):PCall P 214 [.agg [.lit (.bool b),Y7 s]] (.lit (.bool (J6 b s))):=by
 by_cases h:s.size=0
 · refine(zfT b s (by rw[V7];simpa using h)).eq ?_
   simp[J6,h]
 · refine(zfN b s (by rw[V7];simpa using h) (by omega)).eq ?_
   rw[J6,if_neg h]
   congr 2
   rw[show(OfNat.ofNat 0:UInt8)=0 from rfl]
   generalize (s.data.getD 0 0).toNat=n
   by_cases hn:n=0
   · subst hn;rfl
   · have:(n:Int)≠0:=by omega
     simp[hn]
theorem zkf {R : Goal} (hn : J0 R.n [0] = true) (s : ByteArray) (hs : s.size < 2 ^ 40) (hR : R.c (z0B (J7 s))) :
    ∀(k i:Nat),s.size-i=k→i≤s.size→
    Ok P 238 (loopHead P 238 0) ⟨.cv (.lit (.string s)):: .unk:: .unk:: .sl 0 0 ((s.size+3)/4) 1::(za9 8++ .cv (.lit (.int .i64 s.size)):: .cv (.lit (.int .i64 i))::za9 25),
     [some (own (j7 (Q9 B32 ((s.size+3)/4) (val 256 ((z2z s).take i)))))]⟩ R:=by
 intro k
 induction k with
 |zero=>
  intro i hk hi
  have:i=s.size:=by omega
  subst this
  have hv:val 256 ((z2z s).take s.size)=J7 s:=by rw[←U5,List.take_length];rfl
  rw[hv]
  have hlen:=j9 B32 ((s.size+3)/4) (J7 s)
  refine zqB s _ s.size _ (by simp) hlen.symm (z04 (by decide) _ _) (by rw[hlen];omega) (z1f (by rw[Q2,hlen])) ?_
  have:val 4294967296 (Q9 B32 ((s.size+3)/4) (J7 s))=J7 s:=by
   rw[show(4294967296:Nat)=B32 from rfl,z0p,Nat.mod_eq_of_lt]
   refine Nat.lt_of_lt_of_le (z0t s) ?_
   rw[show B32=256^4 from rfl,←Nat.pow_mul]
   exact Nat.pow_le_pow_right (by decide) (by omega)
  rw[this]
  exact hR
 |succ k ih=>
  intro i hk hi
  have hlt:i<s.size:=by omega
  have hlen:=j9 B32 ((s.size+3)/4) (val 256 ((z2z s).take i))
  have hbyte:=(z1R s).get (by decide) i
  have hget:=z74 s hlt
  have hv:=U1 (b:=256) (xs:=z2z s) (i:=i) (by rw[U5];exact hlt)
  have hvlt:val 256 ((z2z s).take i)<256^i:=by
   have:=z0Q (by decide:0<256) _ ((z1R s).take i)
   rw[List.length_take,U5,Nat.min_eq_left (Nat.le_of_lt hlt)]at this
   exact this
  generalize (z2z s).getD i 0=d at*
  generalize val 256 ((z2z s).take i)=v at*
  generalize hm:(s.size+3)/4=m at*
  have hjm:i/4<m:=by omega
  have hdg:=X6 B32 m v (i/4) hjm
  have hpow:(256:Nat)^i=B32^(i/4)*256^(i%4):=by
   rw[show B32=256^4 from rfl,←Nat.pow_mul,←Nat.pow_add,Nat.div_add_mod]
  have hq:v/B32^(i/4)<256^(i%4):=by
   rw[Nat.div_lt_iff_lt_mul (Nat.pow_pos (by decide)),Nat.mul_comm,←hpow];exact hvlt
  have hp3:(256:Nat)^(i%4)≤16777216:=by
   rw[show(16777216:Nat)=256^3 from rfl];exact Nat.pow_le_pow_right (by decide) (by omega)
  have hqm:v/B32^(i/4)%B32=v/B32^(i/4):=Nat.mod_eq_of_lt (by simp only[B32]at*;omega)
  have hr:(256:Nat)^(i%4)=2^(8*(i%4)):=by rw[show(256:Nat)=2^8 from rfl,←Nat.pow_mul]
  have hdr:d*256^(i%4)+v/B32^(i/4)<B32:=by
   have:(d+1)*256^(i%4)≤256*256^(i%4):=Nat.mul_le_mul_right _ hbyte
   have h4:256*256^(i%4)≤B32:=by simp only[B32];omega
   rw[Nat.add_mul,Nat.one_mul]at this
   omega
  have e1:IntKind.i64.wrap ((i:Int).tdiv 4)=((i/4:Nat):Int):=by rw[Int.tdiv_eq_ediv_of_nonneg (by omega),w64 (by omega)];omega
  have e2:IntKind.i64.wrap (IntKind.i64.wrap ((s.size:Int)-1)-(i:Int))=((s.size-1-i:Nat):Int):=by rw[w64 (n:=(s.size:Int)-1) (by omega),w64 (by omega)];omega
  have e3:IntKind.i64.wrap (8*(i:Int).tmod 4)=((8*(i%4):Nat):Int):=by rw[Int.tmod_eq_emod_of_nonneg (by omega),w64 (by omega)];omega
  have e4:IntKind.i64.wrap ((i:Int)+1)=((i+1:Nat):Int):=by rw[w64 (by omega)];omega
  have e5:(0:Nat)+((i/4:Nat):Int).toNat*1=i/4:=by omega
  have e6:min (((8*(i%4):Nat):Int)).toNat 32=8*(i%4):=by omega
  have e7:V6 BinOp.or IntKind.u32 (((Q9 B32 m v).getD (i/4) 0:Nat):Int) (IntKind.u32.wrap (IntKind.u32.wrap (((s.data.getD (((s.size-1-i:Nat):Int)).toNat (OfNat.ofNat 0)).toNat:Nat):Int)*2^min (((8*(i%4):Nat):Int)).toNat 32))=((v/B32^(i/4)%B32+d*256^(i%4):Nat):Int):=by
   rw[e6,hdg,hqm,show(((s.size-1-i:Nat):Int)).toNat=s.size-1-i by omega,show(OfNat.ofNat 0:UInt8)=0 from rfl,←hget]
   have e8:IntKind.u32.wrap (IntKind.u32.wrap (d:Int)*2^(8*(i%4)))=((d*2^(8*(i%4)):Nat):Int):=by
    have h5:IntKind.u32.wrap (d:Int)=d:=by rw[z7S];omega
    rw[h5]
    have h6:(d:Int)*2^(8*(i%4))=((d*2^(8*(i%4)):Nat):Int):=by norm_cast
    rw[h6,z7S]
    rw[←hr]at*
    simp only[B32]at*;omega
   have hq2:v/B32^(i/4)<2^(8*(i%4)):=by rw[←hr];exact hq
   rw[e8,←hr,zdY (by simp only[B32]at*;omega) (by simp only[B32]at*;omega),Nat.or_comm,hr,z1T _ hq2,Nat.add_comm]
  refine zor s m i _ (by simp;omega) (by rw[e1];omega) ?_ (by rw[e2];omega) (by rw[e3];omega) (by rw[e1];omega) (by rw[e1,e5,J2,Q2,hlen];omega) ?_ hn ?_
  · rw[e1,e5];exact X3 (z7r (by rw[hlen];exact hjm))
  · rw[e1,e2,e3,e5,e7,Q5 (by rw[hlen];exact hjm)];exact j8 _
  · rw[e1,e2,e3,e4,e5,e7,Q5 (by rw[hlen];exact hjm),z1l (by decide) m v _ _ hjm (by rw[hqm];omega)]
    have h7:v+d*256^(i%4)*B32^(i/4)=v+256^i*d:=by rw[hpow,Nat.mul_assoc,Nat.mul_comm,Nat.mul_comm (256^(i%4))]
    rw[h7,←hv]
    exact ih (i+1) (by omega) (by omega)
theorem of_spec(s:ByteArray)(hs:s.size<2^40):PCall P 238 [Y7 s] (z0B (J7 s)):=by
 have e1:IntKind.i64.wrap ((IntKind.i64.wrap ((s.size:Int)+3)).tdiv 4)=(((s.size+3)/4:Nat):Int):=by
  rw[w64 (n:=(s.size:Int)+3) (by omega),Int.tdiv_eq_ediv_of_nonneg (by omega),w64 (by omega)];omega
 refine zne s (by rw[e1];omega) (by rw[e1,z05];exact j8 _) ?_
 rw[e1,z05]
 have:=zkf (R:= .of (fun x=>x=z0B (J7 s))) rfl s hs rfl _ 0 rfl (Nat.zero_le _)
 rw[List.take_zero,show val 256 []=0 from rfl,z1E]at this
 rw[show(((s.size+3)/4:Nat):Int).toNat=(s.size+3)/4 by omega,Nat.mul_one]
 exact this
end Go.Fw
