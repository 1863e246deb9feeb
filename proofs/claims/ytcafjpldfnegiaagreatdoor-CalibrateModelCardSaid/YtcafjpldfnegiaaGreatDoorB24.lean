/- A part of the proof that the law returns true for every input: an executor for the model's code, and what functions of the program compute. -/
import Derived.Test.YtcafjpldfnegiaaGreatDoorB11
import Derived.Test.YtcafjpldfnegiaaGreatDoorB15
import Derived.Test.YtcafjpldfnegiaaGreatDoorB17
import Derived.Test.YtcafjpldfnegiaaGreatDoorB18
import Derived.Test.YtcafjpldfnegiaaGreatDoorB20
import Derived.Test.YtcafjpldfnegiaaGreatDoorB23
import Derived.KernelRfl
open Go IntKind
namespace Go.Fw
set_option maxRecDepth 100000
theorem z3A(W b j k:Nat):W/b^j/b^k=W/b^(j+k):=by rw[Nat.div_div_eq_div_mul,Nat.pow_add]
theorem zcm (m W j n : Nat) (ys : List Nat) (hyl : ys.length = n) (hn2 : 2 ≤ n) (hy : Dig B32 ys) (hjm : j + n + 1 ≤ m) (hm : m < 2 ^ 40) (htop : B32 ≤ 2 * ys.getD (n - 1) 0) (hlt : W / B32 ^ j < val B32 ys * B32) :
    z2l P 264 [some (own (j8 (Z1 B32 m W)))] [.sl 0 j (n+1) 1,.cv (.lst n (j8 ys))] (.cv (.lit (.int .u32 ((W/B32^j/val B32 ys:Nat):Int)))) [some (own (j8 (Z1 B32 m (W-W/B32^j/val B32 ys*val B32 ys*B32^j))))]:=by
 have hlen:=j9 B32 m W
 have en1:i64.wrap ((n:Int)-1)=((n-1:Nat):Int):=by rw[w64 (by omega)];omega
 have e1:(((n-1:Nat):Int)).toNat*1=n-1:=by omega
 have en:(n:Int).toNat*1=n:=by omega
 have hVn:val B32 ys<B32^n:=by have:=z0I (by decide:0<B32) ys hy;rwa[hyl]at this
 have hU:W/B32^j<B32^(n+1):=by
  rw[Nat.pow_succ]
  exact Nat.lt_trans hlt (Nat.mul_lt_mul_of_pos_right hVn (by decide))
 have hW0:W/B32^(j+n+1)=0:=by rw[Nat.add_assoc,←z3A];exact Nat.div_eq_of_lt hU
 have hdn:W/B32^(j+n)%B32=W/B32^(j+n):=by
  apply Nat.mod_eq_of_lt
  rw[←z3A,Nat.div_lt_iff_lt_mul (V9 _),Nat.mul_comm,←Nat.pow_succ];exact hU
 have hy1:=hy.get (by decide) (n-1)
 have hy2:=hy.get (by decide) (n-2)
 have hd1:W/B32^(j+(n-1))%B32<B32:=Nat.mod_lt _ (by decide)
 have hd2:W/B32^(j+(n-2))%B32<B32:=Nat.mod_lt _ (by decide)
 have hd0:W/B32^(j+n)<B32:=by rw[←hdn];exact Nat.mod_lt _ (by decide)
 have hT:W/B32^j/B32^(n-2)=(W/B32^(j+n)*B32+W/B32^(j+(n-1))%B32)*B32+W/B32^(j+(n-2))%B32:=by
  have h1:=Nat.mod_add_div (W/B32^(j+(n-2))) B32
  have h2:=Nat.mod_add_div (W/B32^(j+(n-1))) B32
  rw[Nat.div_div_eq_div_mul,←Nat.pow_succ,show(j+(n-2)).succ=j+(n-1) by omega]at h1
  rw[Nat.div_div_eq_div_mul,←Nat.pow_succ,show(j+(n-1)).succ=j+n by omega]at h2
  rw[z3A]
  conv=>lhs;rw[←h1,←h2]
  generalize W/B32^(j+n)=a
  generalize W/B32^(j+(n-1))%B32=b
  generalize W/B32^(j+(n-2))%B32=c
  simp only[B32];omega
 have hV:val B32 ys=(ys.getD (n-1) 0*B32+ys.getD (n-2) 0)*B32^(n-2)+val B32 (ys.take (n-2)):=by
  have h1:=z15 (b:=B32) ys (n-2) (by omega)
  have h2:=z1O (b:=B32) (xs:=ys) (i:=n-2) (by omega)
  have h3:=z1O (b:=B32) (xs:=ys) (i:=n-1) (by omega)
  rw[show n-2+1=n-1 by omega]at h2
  have h4:ys.drop n=[]:=List.drop_eq_nil_of_le (by omega)
  rw[show n-1+1=n by omega,h4]at h3
  rw[h1,h2,h3]
  simp only[val,Nat.mul_zero,Nat.add_zero]
  rw[Nat.mul_comm (B32^(n-2)),Nat.add_comm,Nat.add_comm (ys.getD (n-2) 0),Nat.mul_comm B32]
 have hvl:val B32 (ys.take (n-2))<B32^(n-2):=by
  have:=z0I (by decide:0<B32) _ (hy.take (n-2))
  rwa[List.length_take,Nat.min_eq_left (by omega)]at this
 have g:Guess (W/B32^j) (val B32 ys) (ys.getD (n-1) 0) (ys.getD (n-2) 0) (W/B32^(j+n)*B32+W/B32^(j+(n-1))%B32) (W/B32^(j+(n-2))%B32) (B32^(n-2)):=
  ⟨V9 _,⟨W/B32^j%B32^(n-2),Nat.mod_lt _ (V9 _),by rw[←hT,Nat.mul_comm];exact(Nat.div_add_mod _ _).symm⟩,⟨_,hvl,hV⟩,by simp only[B32]at htop;omega,hy1,hy2,hd2,hlt⟩
 have hdgn:=W4 B32 m W (j+n) (by omega)
 have hdg1:=W4 B32 m W (j+(n-1)) (by omega)
 rw[hdn]at hdgn
 have hv1:ys.getD (n-1) 0≠0:=by have:=g.hv1;omega
 generalize hdnn:W/B32^(j+n)=a at*
 generalize hbnn:W/B32^(j+(n-1))%B32=b at*
 have w1:u64.wrap ((ys.getD (n-1) 0:Nat):Int)=(ys.getD (n-1) 0:Nat):=by rw[z1Y];simp only[B32]at hy1;omega
 have w2:u64.wrap ((a:Nat):Int)=a:=by rw[z1Y];simp only[B32]at hd0;omega
 have w3:u64.wrap ((b:Nat):Int)=b:=by rw[z1Y];simp only[B32]at hd1;omega
 have w4:u64.wrap ((a:Int)*4294967296)=((a*2^32:Nat):Int):=by rw[z1Y];simp only[B32]at hd0;omega
 have w5:X9 BinOp.or u64 ((a*2^32:Nat):Int) (b:Int)=((a*B32+b:Nat):Int):=by
  rw[z8P (by simp only[B32]at hd0;omega) (by simp only[B32]at hd1;omega),z2p 32 (by simp only[B32]at hd1;omega)]
 have hq0:(a*B32+b)/ys.getD (n-1) 0≤B32+1:=(Corr.start g).up
 have w6:u64.wrap (((a*B32+b:Nat):Int).tdiv ((ys.getD (n-1) 0:Nat):Int))=(((a*B32+b)/ys.getD (n-1) 0:Nat):Int):=by
  rw[Int.tdiv_eq_ediv_of_nonneg (by omega),←Int.natCast_ediv,z1Y]
  generalize (a*B32+b)/ys.getD (n-1) 0=z at*
  simp only[B32]at hq0;omega
 have w7:((a*B32+b:Nat):Int).tmod ((ys.getD (n-1) 0:Nat):Int)=(((a*B32+b)%ys.getD (n-1) 0:Nat):Int):=by
  rw[Int.tmod_eq_emod_of_nonneg (by omega),←Int.natCast_emod]
 have w8:j+(n:Int).toNat*1=j+n:=by omega
 have w9:j+(((n-1:Nat):Int)).toNat*1=j+(n-1):=by omega
 refine zdQ j n _ ys (by omega) (by rw[w8];exact W5 (Y7 (by omega))) (by rw[en1];omega) (by rw[en1,w9];exact W5 (Y7 (by omega))) (by rw[en1];omega) (by rw[en1,e1];exact Y7 (by omega)) (by rw[en1,e1,w1];omega) (by rw[en1];omega) (by rw[en1,e1];exact Y7 (by omega)) (by rw[en1,e1,w1];omega) (J0 _) ?_
 rw[en1,e1,w8,hdgn,hdg1,w1,w2,w3,w4,w5,w6,w7]
 have hc:=Corr.start g
 refine zbN (R:= .lent 1 (fun a b=>a= .cv (.lit (.int .u32 ((W/B32^j/val B32 ys:Nat):Int)))∧b=[some (own (j8 (Z1 B32 m (W-W/B32^j/val B32 ys*val B32 ys*B32^j))))])) rfl m W j n ys hyl hn2 hy hjm hm _ _ _ _ _ rfl rfl rfl g ?_ _ _ hc
 intro q hq hq2
 have hvpos:=g.vpos
 have hdm:=Nat.mod_add_div (W/B32^j) (val B32 ys)
 have hsplit:W/B32^j*B32^j≤W:=Nat.div_mul_le_self _ _
 have hsplit2:W<(W/B32^j+1)*B32^j:=by
  have:=Nat.lt_mul_div_succ W (V9 j)
  rwa[Nat.mul_comm]at this
 have hmod:=Nat.mod_lt (W/B32^j) hvpos
 have hQle:W/B32^j/val B32 ys*val B32 ys*B32^j≤W:=Nat.le_trans (Nat.mul_le_mul_right _ (Nat.div_mul_le_self _ _)) hsplit
 have hQlt:W<(W/B32^j/val B32 ys+1)*val B32 ys*B32^j:=by
  refine Nat.lt_of_lt_of_le hsplit2 (Nat.mul_le_mul_right _ ?_)
  rw[Nat.add_mul,Nat.one_mul,Nat.mul_comm _ (val B32 ys)]
  omega
 refine zfQ rfl ⟨rfl,rfl⟩ m W j n q ys hyl hy hjm hm hq hW0 ?_ ?_ _ 0 W 0 0 rfl (Nat.zero_le _) (by decide) (by decide) rfl (by simp[val])
 · intro hle
   have:q=W/B32^j/val B32 ys:=by
    rcases hq2 with h|h
    · exact h
    · rw[h]at hle;omega
   subst this
   exact⟨rfl,rfl⟩
 · intro hgt Wf hWf hf0
   have hqq:q=W/B32^j/val B32 ys+1:=by
    rcases hq2 with h|h
    · rw[h]at hgt;omega
    · exact h
   have hq1:q-1=W/B32^j/val B32 ys:=by rw[hqq,Nat.add_sub_cancel]
   have hQ1:(W/B32^j/val B32 ys+1)*val B32 ys*B32^j=W/B32^j/val B32 ys*val B32 ys*B32^j+val B32 ys*B32^j:=by rw[Nat.add_mul,Nat.add_mul,Nat.one_mul]
   rw[hq1]
   refine zcA rfl ⟨rfl,rfl⟩ m (W-W/B32^j/val B32 ys*val B32 ys*B32^j) j n _ ys hyl hy hjm hm (g.quot_lt) ?_ Wf ?_ hf0 _ 0 Wf 0 rfl (Nat.zero_le _) (by decide) rfl (by simp[val])
   · exact⟨rfl,rfl⟩
   rw[hqq,hQ1]at hWf
   omega
theorem zps(n:Nat)(k:Int)(xs:List Nat)(o0:(0:Int)≤i64.wrap ((n:Int)+1)∧i64.wrap ((n:Int)+1)≤i64.wrap ((n:Int)+1)∧(4:Int)*i64.wrap ((n:Int)+1)≤140737488355328∧i64.wrap ((n:Int)+1)≤4611686018427387904∧1=1)(o1:CvL (List.replicate ((i64.wrap ((n:Int)+1)).toNat*1) (.cv (.lit (.int .u32 0))))){Q:MV→List CV→Prop}(hR:Ok P 263 (loopHead P 263 0) ⟨J1 40 [(1,.cv (.lit (.int .i64 k))),(5,.sl 0 0 (i64.wrap ((n:Int)+1)).toNat 1),(12,.cv (.lst n (j8 xs))),(13,.cv (.lit (.int .i64 (n:Int)))),(14,.cv (.lit (.int .i64 0)))],[some (List.replicate ((i64.wrap ((n:Int)+1)).toNat*1) (.cv (.lit (.int .u32 0))))]⟩ (.fresh (z46 Q))):z59 P 263 [.lst n (j8 xs),.lit (.int .i64 k)] Q:=
 zaA (keep:=[1,5,12,13,14]) (σ:=[0]) (ors:=[(9,.stop)]) (by kernel_rfl) rfl (.cons o0 (.cons o1 .nil)) hR
theorem zpK(n o i k:Nat)(xs zs:List Nat)(h1:decide ((i:Int)<n)=true)(o1:(0:Int)≤i∧(i:Int)<n)(o2:(j8 xs)[(i:Int).toNat*1]?=some (.lit (.int .u32 ↑(xs.getD ((i:Int).toNat*1) 0))))(o4:(0:Int)≤i∧(i:Int)<o)(o5:(own (j8 zs))[0+(i:Int).toNat*1]?=some (.cv (.lit (.int .u32 ↑(zs.getD (0+(i:Int).toNat*1) 0)))))(o7:(0:Int)≤k)(o8:(0:Int)≤i∧(i:Int)<o)(o9:0+(i:Int).toNat*1+1≤(own (j8 zs)).length)(o10:(0:Int)≤k)(o12:(0:Int)≤i64.wrap ((i:Int)+1)∧i64.wrap ((i:Int)+1)<(o:Int))(o13:0+(i64.wrap ((i:Int)+1)).toNat*1+1≤(j6 (own (j8 zs)) (0+(i:Int).toNat*1) [.cv (.lit (.int .u32 (X9 BinOp.or u32 (↑(zs.getD (0+(i:Int).toNat*1) 0):Int) (u32.wrap ((↑(xs.getD ((i:Int).toNat*1) 0):Int)*2^min (k:Int).toNat 32)))))]).length)(o14:CvL (j6 (j6 (own (j8 zs)) (0+(i:Int).toNat*1) [.cv (.lit (.int .u32 (X9 BinOp.or u32 (↑(zs.getD (0+(i:Int).toNat*1) 0):Int) (u32.wrap ((↑(xs.getD ((i:Int).toNat*1) 0):Int)*2^min (k:Int).toNat 32)))))]) (0+(i64.wrap ((i:Int)+1)).toNat*1) [.cv (.lit (.int .u32 (u32.wrap ((u64.wrap (u64.wrap (↑(xs.getD ((i:Int).toNat*1) 0):Int)*2^min (k:Int).toNat 64)).fdiv 4294967296))))])){R:Goal}(hn:j7 R.n [0]=true)(hR:Ok P 263 (loopHead P 263 0) ⟨J1 40 [(1,.cv (.lit (.int .i64 (k:Int)))),(5,.sl 0 0 o 1),(12,.cv (.lst n (j8 xs))),(13,.cv (.lit (.int .i64 (n:Int)))),(14,.cv (.lit (.int .i64 (i64.wrap ((i:Int)+1)))))],[some (j6 (j6 (own (j8 zs)) (0+(i:Int).toNat*1) [.cv (.lit (.int .u32 (X9 BinOp.or u32 (↑(zs.getD (0+(i:Int).toNat*1) 0):Int) (u32.wrap ((↑(xs.getD ((i:Int).toNat*1) 0):Int)*2^min (k:Int).toNat 32)))))]) (0+(i64.wrap ((i:Int)+1)).toNat*1) [.cv (.lit (.int .u32 (u32.wrap ((u64.wrap (u64.wrap (↑(xs.getD ((i:Int).toNat*1) 0):Int)*2^min (k:Int).toNat 64)).fdiv 4294967296))))])]⟩ R):Ok P 263 (loopHead P 263 0) ⟨J1 40 [(1,.cv (.lit (.int .i64 (k:Int)))),(5,.sl 0 0 o 1),(12,.cv (.lst n (j8 xs))),(13,.cv (.lit (.int .i64 (n:Int)))),(14,.cv (.lit (.int .i64 (i:Int))))],[some (own (j8 zs))]⟩ R:=
 z1z (m:=1) (keep:=[1,5,12,13,14]) (σ:=[0]) (.b 2 h1 (.c o1 (.l 5 o2 (.c (eqn 1) (.c o4 (.e 11 o5 (.c (eqn 1) (.c o7 (.c o8 (.c o9 (.c o10 (.c (nn 32) (.c o12 (.c o13 (.o 31 .stop .nil))))))))))))))) (by kernel_rfl) rfl hn hR (.cons o14 .nil)
theorem zqu(n o i k:Nat)(xs zs:List Nat)(h1:decide ((i:Int)<n)=false)(o1:CvL (own (j8 zs))){R:Goal}(hn:R.Fresh)(hR:R.m (.sl 0 0 o 1) [some (own (j8 zs))]):Ok P 263 (loopHead P 263 0) ⟨J1 40 [(1,.cv (.lit (.int .i64 (k:Int)))),(5,.sl 0 0 o 1),(12,.cv (.lst n (j8 xs))),(13,.cv (.lit (.int .i64 (n:Int)))),(14,.cv (.lit (.int .i64 (i:Int))))],[some (own (j8 zs))]⟩ R:=
 zsy 1 (ors:=[(2,.b false),(5,.m [0] MV.unk [])]) (by kernel_rfl) (.cons h1 (.cons o1 .nil)) hn hR
theorem zcd {R : Goal} (hn : j7 R.n [0] = true) (hF : R.Fresh) (xs : List Nat) (k : Nat) (hk : k ≤ 31) (hlen : xs.length < 2 ^ 40) (hx : Dig B32 xs)
    (hR:R.m (.sl 0 0 (xs.length+1) 1) [some (own (j8 (Z1 B32 (xs.length+1) (val B32 xs*2^k))))]):
    ∀(q i:Nat),xs.length-i=q→i≤xs.length→
     Ok P 263 (loopHead P 263 0) ⟨J1 40 [(1,.cv (.lit (.int .i64 k))),(5,.sl 0 0 (xs.length+1) 1),(12,.cv (.lst xs.length (j8 xs))),(13,.cv (.lit (.int .i64 xs.length))),(14,.cv (.lit (.int .i64 i)))],
      [some (own (j8 (Z1 B32 (xs.length+1) (val B32 (xs.take i)*2^k))))]⟩ R:=by
 intro q
 induction q with
 |zero=>
  intro i hq hi
  have:i=xs.length:=by omega
  subst this
  rw[List.take_length]
  exact zqu _ _ _ _ _ _ (by simp) (J0 _) hF hR
 |succ q ih=>
  intro i hq hi
  have hlt:i<xs.length:=by omega
  have hl:=j9 B32 (xs.length+1) (val B32 (xs.take i)*2^k)
  have dx:=hx.get (by decide) i
  have htk:=V5 (b:=B32) hlt
  have hvlt:val B32 (xs.take i)<B32^i:=by
   have:=z0I (by decide:0<B32) _ (hx.take i)
   rw[List.length_take,Nat.min_eq_left (by omega)]at this
   exact this
  have hgx:=Y7 hlt
  have hdg:=W4 B32 (xs.length+1) (val B32 (xs.take i)*2^k) i (by omega)
  have e1:(i:Int).toNat*1=i:=by omega
  have e2:(0:Nat)+(i:Int).toNat*1=i:=by omega
  have e3:i64.wrap ((i:Int)+1)=((i+1:Nat):Int):=by rw[w64 (by omega)];omega
  have e4:(0:Nat)+((i+1:Nat):Int).toNat*1=i+1:=by omega
  have e5:min ((k:Nat):Int).toNat 32=k:=by omega
  have e6:min ((k:Nat):Int).toNat 64=k:=by omega
  have hK:(2:Nat)^k*2^(32-k)=B32:=by rw[←Nat.pow_add,show k+(32-k)=32 by omega]
  have hKp:0<(2:Nat)^k:=Nat.pow_pos (by decide)
  have hK31:(2:Nat)^k≤2147483648:=by rw[show(2147483648:Nat)=2^31 from rfl];exact Nat.pow_le_pow_right (by decide) hk
  generalize hx0:xs.getD i 0=x at*
  generalize hv0:val B32 (xs.take i)=v at*
  have hlo:x*2^k%B32=(x%2^(32-k))*2^k:=by rw[←hK,Nat.mul_comm x,Nat.mul_mod_mul_left,Nat.mul_comm]
  have hdlt:v*2^k/B32^i<2^k:=by
   rw[Nat.div_lt_iff_lt_mul (Nat.pow_pos (by decide)),Nat.mul_comm (2^k)]
   exact Nat.mul_lt_mul_of_pos_right hvlt hKp
  have hdm:v*2^k/B32^i%B32=v*2^k/B32^i:=Nat.mod_eq_of_lt (by simp only[B32]at*;omega)
  have hsum:v*2^k/B32^i%B32+x*2^k%B32<B32:=by
   rw[hdm,hlo]
   have h1:x%2^(32-k)<2^(32-k):=Nat.mod_lt _ (Nat.pow_pos (by decide))
   have h2:(x%2^(32-k)+1)*2^k≤2^(32-k)*2^k:=Nat.mul_le_mul_right _ h1
   rw[Nat.add_mul,Nat.one_mul,Nat.mul_comm (2^(32-k)),hK]at h2
   omega
  have a1:u32.wrap ((x:Int)*2^k)=((x*2^k%B32:Nat):Int):=by
   rw[show(x:Int)*2^k=((x*2^k:Nat):Int) by norm_cast,z87];simp only[B32];omega
  have hxk:x*2^k<18446744073709551616:=by
   have:x*2^k≤4294967295*2147483648:=Nat.mul_le_mul (by simp only[B32]at dx;omega) hK31
   omega
  have a2:u32.wrap ((u64.wrap (u64.wrap (x:Int)*2^k)).fdiv 4294967296)=((x*2^k/B32:Nat):Int):=by
   have:u64.wrap (x:Int)=x:=by rw[z1Y];simp only[B32]at dx;omega
   rw[this,show(x:Int)*2^k=((x*2^k:Nat):Int) by norm_cast,z1Y,fdp _ (by decide),z87];simp only[B32];omega
  have hhi:x*2^k/B32<B32:=by
   have:x*2^k≤4294967295*2147483648:=Nat.mul_le_mul (by simp only[B32]at dx;omega) hK31
   simp only[B32];omega
  have a3:X9 BinOp.or u32 (((Z1 B32 (xs.length+1) (v*2^k)).getD i 0:Nat):Int) ((x*2^k%B32:Nat):Int)=((v*2^k/B32^i%B32+x*2^k%B32:Nat):Int):=by
   rw[hdg,zeW (Nat.mod_lt _ (by decide)) (Nat.mod_lt _ (by decide)),hdm,hlo,Nat.or_comm,z2p k hdlt,Nat.add_comm]
  have s1:=z1g (by decide:0<B32) (xs.length+1) (v*2^k) i (x*2^k%B32) (by omega) hsum
  have hz:(v*2^k+x*2^k%B32*B32^i)/B32^(i+1)=0:=by
   rw[Nat.pow_succ,←Nat.div_div_eq_div_mul,Nat.add_mul_div_right _ _ (Nat.pow_pos (by decide)),←hdm]
   exact Nat.div_eq_of_lt hsum
  have s2:=z1g (by decide:0<B32) (xs.length+1) (v*2^k+x*2^k%B32*B32^i) (i+1) (x*2^k/B32) (by omega) (by rw[hz];simpa using hhi)
  rw[hz,Nat.zero_mod,Nat.zero_add]at s2
  have hfin:v*2^k+x*2^k%B32*B32^i+x*2^k/B32*B32^(i+1)=(v+B32^i*x)*2^k:=by
   have hm:=Nat.mod_add_div (x*2^k) B32
   rw[Nat.add_mul,show B32^i*x*2^k=x*2^k*B32^i by rw[Nat.mul_assoc,Nat.mul_comm]]
   conv=>rhs;rw[←hm]
   rw[Nat.pow_succ,Nat.add_mul,show B32*(x*2^k/B32)*B32^i=x*2^k/B32*(B32^i*B32) by rw[Nat.mul_comm B32,Nat.mul_assoc,Nat.mul_comm B32]]
   omega
  have c1:j6 (own (j8 (Z1 B32 (xs.length+1) (v*2^k)))) i [MV.cv (CV.lit (.int .u32 ((v*2^k/B32^i%B32+x*2^k%B32:Nat):Int)))]=own (j8 (Z1 B32 (xs.length+1) (v*2^k+x*2^k%B32*B32^i))):=by
   rw[Q6 (by omega),s1]
  have c2:j6 (own (j8 (Z1 B32 (xs.length+1) (v*2^k+x*2^k%B32*B32^i)))) (i+1) [MV.cv (CV.lit (.int .u32 ((x*2^k/B32:Nat):Int)))]=own (j8 (Z1 B32 (xs.length+1) ((v+B32^i*x)*2^k))):=by
   rw[Q6 (by rw[j9];omega),s2,hfin]
  refine zpK _ _ _ _ _ _ (by simpa using hlt) (by omega) (by rw[e1,hx0];exact hgx) (by omega) (by rw[e2];exact W5 (Y7 (by omega))) (by omega) (by omega) (by rw[e2,J4,Q7];omega) (by omega) (by rw[e3];omega) ?_ ?_ hn ?_
  · rw[e3,e4,e2,e1,e5,hx0,a1,a3,c1,J4,Q7,j9];omega
  · rw[e3,e4,e2,e1,e5,e6,hx0,a1,a2,a3,c1,c2];exact J0 _
  · rw[e3,e4,e2,e1,e5,e6,hx0,a1,a2,a3,c1,c2,←htk]
    exact ih (i+1) (by omega) (by omega)
theorem z8Z(a k:Nat)(hk:k≤31)(ha:(dig B32 a).length<2^40):FCall P 263 [z0c a,j5 k] (.sl 0 0 ((dig B32 a).length+1) 1) (j8 (Z1 B32 ((dig B32 a).length+1) (a*2^k))):=by
 have e1:i64.wrap (((dig B32 a).length:Int)+1)=(((dig B32 a).length+1:Nat):Int):=by rw[w64 (by omega)];omega
 refine zps _ _ _ (by rw[e1];omega) (by rw[U4];exact J0 _) ?_
 rw[e1,show((((dig B32 a).length+1:Nat):Int)).toNat=(dig B32 a).length+1 by omega,U4,Nat.mul_one]
 have:=zcd (R:= .fresh (z46 (fun x y=>x= .sl 0 0 ((dig B32 a).length+1) 1∧y=j8 (Z1 B32 ((dig B32 a).length+1) (a*2^k))))) rfl ⟨rfl,rfl⟩ (dig B32 a) k hk ha (Y8 (by decide) _) (by rw[Q8 (by decide)];exact⟨_,rfl,rfl,rfl⟩) _ 0 rfl (Nat.zero_le _)
 rw[List.take_zero,show val B32 []=0 from rfl,Nat.zero_mul,z1x]at this
 exact this
def len8tab:ByteArray:=⟨(show List UInt8 from([0,1]:List UInt8)++List.replicate 2 2++List.replicate 4 3++List.replicate 8 4++List.replicate 16 5++List.replicate 32 6++List.replicate 64 7++List.replicate 128 8).toArray⟩
theorem zdR(x:Int)(h1:decide (x≥65536)=true)(h2:decide (x.fdiv ((2:Int)^min (Int.toNat (16:Int)) u32.bits)≥256)=true)(o4:(0:Int)≤u8.wrap ((x.fdiv 65536).fdiv 256)∧u8.wrap ((x.fdiv 65536).fdiv 256)<256):PCall P 270 [.lit (.int .u32 x)] (.lit (.int .i64 (i64.wrap ((24:Int)+i64.wrap (↑(len8tab.data.getD (u8.wrap ((x.fdiv 65536).fdiv 256)).toNat (OfNat.ofNat 0)).toNat:Int))))):=
 j3 (.b 3 h1 (.c (nn 16) (.b 10 h2 (.c (nn 8) (.c o4 .nil))))) (by kernel_rfl)
theorem zeJ(x:Int)(h1:decide (x≥65536)=true)(h2:decide (x.fdiv ((2:Int)^min (Int.toNat (16:Int)) u32.bits)≥256)=false)(o3:(0:Int)≤u8.wrap (x.fdiv 65536)∧u8.wrap (x.fdiv 65536)<256):PCall P 270 [.lit (.int .u32 x)] (.lit (.int .i64 (i64.wrap ((16:Int)+i64.wrap (↑(len8tab.data.getD (u8.wrap (x.fdiv 65536)).toNat (OfNat.ofNat 0)).toNat:Int))))):=
 j3 (.b 3 h1 (.c (nn 16) (.b 10 h2 (.c o3 .nil)))) (by kernel_rfl)
theorem zdG(x:Int)(h1:decide (x≥65536)=false)(h2:decide (x≥256)=true)(o3:(0:Int)≤u8.wrap (x.fdiv 256)∧u8.wrap (x.fdiv 256)<256):PCall P 270 [.lit (.int .u32 x)] (.lit (.int .i64 (i64.wrap ((8:Int)+i64.wrap (↑(len8tab.data.getD (u8.wrap (x.fdiv 256)).toNat (OfNat.ofNat 0)).toNat:Int))))):=
 j3 (.b 3 h1 (.b 6 h2 (.c (nn 8) (.c o3 .nil)))) (by kernel_rfl)
theorem zfh(x:Int)(h1:decide (x≥65536)=false)(h2:decide (x≥256)=false)(o2:(0:Int)≤u8.wrap x∧u8.wrap x<256):PCall P 270 [.lit (.int .u32 x)] (.lit (.int .i64 (i64.wrap ((0:Int)+i64.wrap (↑(len8tab.data.getD (u8.wrap x).toNat (OfNat.ofNat 0)).toNat:Int))))):=
 j3 (.b 3 h1 (.b 6 h2 (.c o2 .nil))) (by kernel_rfl)
def U7(n:Nat):Nat:=if n=0 then 0 else Nat.log2 n+1
theorem z3f{n k:Nat}(h:n≠0):U7 n=k+1↔2^k≤n∧n<2^(k+1):=by
 rw[U7,if_neg h,←Nat.log2_eq_iff h];omega
theorem zcI: ∀n,n<256→(len8tab.data.getD n 0).toNat=U7 n:=by decide
theorem z27(n k:Nat)(h:2^k≤n):U7 n=k+U7 (n/2^k):=by
 have hp:0<(2:Nat)^k:=Nat.pow_pos (by decide)
 have hn:n≠0:=by omega
 have hd:n/2^k≠0:=by have:=Nat.div_pos h hp;omega
 have h2:U7 (n/2^k)≠0:=by rw[U7,if_neg hd];omega
 obtain⟨j,hj⟩: ∃j,U7 (n/2^k)=j+1:=⟨U7 (n/2^k)-1,by omega⟩
 obtain⟨a,b⟩:=(z3f hd).1 hj
 rw[hj,show k+(j+1)=(k+j)+1 by omega,z3f hn]
 constructor
 · rw[Nat.pow_add,Nat.mul_comm];exact(Nat.le_div_iff_mul_le hp).1 a
 · rw[show k+j+1=(j+1)+k by omega,Nat.pow_add];exact(Nat.div_lt_iff_lt_mul hp).1 b
theorem z2r: ∀n,n<256→U7 n≤8:=by decide
theorem z89{y:Nat}{z:Int}(hy:y<256)(hz:z=y):i64.wrap (((len8tab.data.getD (u8.wrap z).toNat (OfNat.ofNat 0)).toNat:Nat):Int)=(U7 y:Nat):=by
 subst hz
 have h9:u8.wrap (y:Int)=y:=by rw[wr8];omega
 have h3:=z2r y hy
 rw[h9,show(OfNat.ofNat 0:UInt8)=0 from rfl,Int.toNat_natCast,zcI _ hy,w64 (by omega)]
theorem zgP(z:Int):0≤u8.wrap z∧u8.wrap z<256:=by rw[wr8];omega
theorem zbG(x:Nat)(hx:x<B32):PCall P 270 [z4p x] (j5 (U7 x)):=by
 simp only[B32]at hx
 have e16':(x:Int).fdiv 65536=((x/65536:Nat):Int):=by rw[fdp _ (by decide)];omega
 have e16:(x:Int).fdiv ((2:Int)^min (Int.toNat 16) u32.bits)=((x/65536:Nat):Int):=by
  rw[show(2:Int)^min (Int.toNat 16) u32.bits=65536 from rfl,e16']
 by_cases h1:65536≤x
 · have hs:=z27 x 16 (by simpa using h1)
   rw[show(2:Nat)^16=65536 from rfl]at hs
   by_cases h2:256≤x/65536
   · have hs2:=z27 (x/65536) 8 (by simpa using h2)
     rw[show(2:Nat)^8=256 from rfl]at hs2
     have hl:=z2r (x/65536/256) (by omega)
     refine(zdR x (by simp;omega) (by rw[e16];simp;omega) (zgP _)).eq (z3H ?_)
     rw[z89 (y:=x/65536/256) (by omega) (by rw[e16',fdp _ (by decide)];omega),w64 (by omega)]
     omega
   · have hl:=z2r (x/65536) (by omega)
     refine(zeJ x (by simp;omega) (by rw[e16];simp;omega) (zgP _)).eq (z3H ?_)
     rw[z89 (y:=x/65536) (by omega) e16',w64 (by omega)]
     omega
 · by_cases h2:256≤x
   · have hs2:=z27 x 8 (by simpa using h2)
     rw[show(2:Nat)^8=256 from rfl]at hs2
     have hl:=z2r (x/256) (by omega)
     refine(zdG x (by simp;omega) (by simp;omega) (zgP _)).eq (z3H ?_)
     rw[z89 (y:=x/256) (by omega) (by rw[fdp _ (by decide)];omega),w64 (by omega)]
     omega
   · have hl:=z2r x (by omega)
     refine(zfh x (by simp;omega) (by simp;omega) (zgP _)).eq (z3H ?_)
     rw[z89 (y:=x) (by omega) rfl,w64 (by omega)]
     omega
theorem zgZ(x:Nat)(a:x<4294967296):PCall P 262 [.lit (.int .u32 (x:Int))] (.lit (.int .i64 (i64.wrap ((32:Int)-(↑(U7 x):Int))))):=
 j3 (.r 2 (zbG x a) .nil) (by kernel_rfl)
theorem z8u{x:Nat}(hx:x<B32):U7 x≤32:=by
 rcases Nat.eq_zero_or_pos x with h|h
 · subst h;decide
 · have hne:x≠0:=by omega
   have:U7 x≠0:=by rw[U7,if_neg hne];omega
   obtain⟨j,hj⟩: ∃j,U7 x=j+1:=⟨U7 x-1,by omega⟩
   have h2:=((z3f hne).1 hj).1
   rcases Nat.lt_or_ge 31 j with h3|h3
   · have:2^32≤2^j:=Nat.pow_le_pow_right (by decide) h3
     simp only[B32]at hx;omega
   · omega
theorem zjz(x:Nat)(hx:x<B32):PCall P 262 [z4p x] (j5 (32-U7 x:Nat)):=by
 have:=z8u hx
 refine(zgZ x hx).eq (z3H ?_)
 rw[w64 (by omega)];omega
theorem zcY(n V:Nat)(hV:V<B32^n)(hn:n<2^62):PCall P 254 [.lst n (j8 (Z1 B32 n V))] (z0c V):=by
 have:=z0x n (Z1 B32 n V) (j9 _ _ _).symm (U8 (by decide) _ _) (by rw[j9];exact hn)
 rwa[z0h,Nat.mod_eq_of_lt hV]at this
theorem zbv (m W jj L n : Nat) (ys : List Nat) (hL : L = n + 1) (hyl : ys.length = n) (hn2 : 2 ≤ n) (hy : Dig B32 ys) (hjm : jj + n + 1 ≤ m) (hm : m < 2 ^ 40) (htop : B32 ≤ 2 * ys.getD (n - 1) 0) (hlt : W / B32 ^ jj < val B32 ys * B32) :
    z2l P 264 [some (own (j8 (Z1 B32 m W)))] [.sl 0 jj L 1,.cv (.lst n (j8 ys))] (.cv (.lit (.int .u32 ((W/B32^jj/val B32 ys:Nat):Int)))) [some (own (j8 (Z1 B32 m (W-W/B32^jj/val B32 ys*val B32 ys*B32^jj))))]:=by
 subst hL;exact zcm m W jj n ys hyl hn2 hy hjm hm htop hlt
theorem ziR(a:Nat)(b:Nat)(h1:decide (z9m a b (dig 4294967296 a).length (dig 4294967296 b).length<(0:Int))=true)(c:(dig 4294967296 a).length<2^62)(d:(dig 4294967296 b).length<2^62):PCall P (250:FuncId) [z0c a,z0c b] (CV.tup [CV.lit (Value.slice none 0 0),CV.lst (dig 4294967296 a).length (j8 (dig 4294967296 a))]):=
 j3 (.r 4 (z2y a b c d) (.b 6 h1 .nil)) (by kernel_rfl)
theorem zlk(a:Nat)(b:Nat)(h1:decide (z9m a b (dig 4294967296 a).length (dig 4294967296 b).length<(0:Int))=false)(h2:((↑(dig 4294967296 b).length:Int)==(1:Int))=true)(d:(dig 4294967296 a).length<2^62)(e:(dig 4294967296 b).length<2^62)(f:(dig 4294967296 a).length<2^40)(g:0<(dig 4294967296 b).getD 0 0)(i:(dig 4294967296 b).getD 0 0<4294967296)(j:(0:Int)≤(↑(a%(dig 4294967296 b).getD 0 0):Int))(k:(↑(a%(dig 4294967296 b).getD 0 0):Int)<(4294967296:Int))(o3:(0:Int)≤(0:Int)∧(0:Int)<(↑(dig 4294967296 b).length:Int))(o4:(j8 (dig 4294967296 b))[0]?=some (CV.lit (Value.int u32 (↑((dig 4294967296 b).getD 0 0):Int))))(o8:[MV.cv (CV.lit (Value.int u32 (↑(a%(dig 4294967296 b).getD 0 0):Int)))]=[MV.cv (CV.lit (Value.int u32 (↑(a%(dig 4294967296 b).getD 0 0):Int)))]):PCall P (250:FuncId) [z0c a,z0c b] (CV.tup [CV.lst (dig 4294967296 (a/(dig 4294967296 b).getD 0 0)).length (j8 (dig 4294967296 (a/(dig 4294967296 b).getD 0 0))),CV.lst (dig 4294967296 (↑(a%(dig 4294967296 b).getD 0 0):Int).toNat).length (j8 (dig 4294967296 (↑(a%(dig 4294967296 b).getD 0 0):Int).toNat))]):=
 j3 (.c (z2y a b d e) (.o 4 (Or.r (CV.lit (Value.int i64 (z9m a b (dig 4294967296 a).length (dig 4294967296 b).length)))) (.b 6 h1 (.b 10 h2 (.c o3 (.c o4 (.c (show 1=1 from(by decide)) (.c (z4O a ((dig 4294967296 b).getD 0 0) f g i) (.c (zce ((↑(a%(dig 4294967296 b).getD 0 0):Int)) j k) (.c o8 (.o 14 (Or.r (CV.lit (Value.int u32 (↑((dig 4294967296 b).getD 0 0):Int)))) (.o 15 (Or.r (CV.tup [CV.lst (dig 4294967296 (a/(dig 4294967296 b).getD 0 0)).length (j8 (dig 4294967296 (a/(dig 4294967296 b).getD 0 0))),CV.lit (Value.int u32 (↑(a%(dig 4294967296 b).getD 0 0):Int))])) (.o 24 (Or.r (CV.lst (dig 4294967296 (↑(a%(dig 4294967296 b).getD 0 0):Int).toNat).length (j8 (dig 4294967296 (↑(a%(dig 4294967296 b).getD 0 0):Int).toNat))) [[CV.lit (Value.int u32 (↑(a%(dig 4294967296 b).getD 0 0):Int))]]) .nil))))))))))))) (by kernel_rfl)
theorem zmN(a:Nat)(b:Nat)(h1:decide (z9m a b (dig 4294967296 a).length (dig 4294967296 b).length<(0:Int))=false)(h2:((↑(dig 4294967296 b).length:Int)==(1:Int))=false)(d:(dig 4294967296 a).length<2^62)(e:(dig 4294967296 b).length<2^62)(g:(dig 4294967296 b).getD ((i64.wrap ((↑(dig 4294967296 b).length:Int)-(1:Int))).toNat*1) 0<4294967296)(i:32-U7 ((dig 4294967296 b).getD ((i64.wrap ((↑(dig 4294967296 b).length:Int)-(1:Int))).toNat*1) 0)≤31)(j:(dig 4294967296 b).length<2^40)(k:b*2^(32-U7 ((dig 4294967296 b).getD ((i64.wrap ((↑(dig 4294967296 b).length:Int)-(1:Int))).toNat*1) 0))<4294967296^((dig 4294967296 b).length+1))(l:(dig 4294967296 b).length+1<2^62)(m:32-U7 ((dig 4294967296 b).getD ((i64.wrap ((↑(dig 4294967296 b).length:Int)-(1:Int))).toNat*1) 0)≤31)(n:(dig 4294967296 a).length<2^40)(o3:(0:Int)≤i64.wrap ((↑(dig 4294967296 b).length:Int)-(1:Int))∧i64.wrap ((↑(dig 4294967296 b).length:Int)-(1:Int))<(↑(dig 4294967296 b).length:Int))(o4:(j8 (dig 4294967296 b))[(i64.wrap ((↑(dig 4294967296 b).length:Int)-(1:Int))).toNat*1]?=some (CV.lit (Value.int u32 (↑((dig 4294967296 b).getD ((i64.wrap ((↑(dig 4294967296 b).length:Int)-(1:Int))).toNat*1) 0):Int))))(o9:List.take (((dig 4294967296 b).length+1)*1) (List.drop 0 (own (j8 (Z1 4294967296 ((dig 4294967296 b).length+1) (b*2^(32-U7 ((dig 4294967296 b).getD ((i64.wrap ((↑(dig 4294967296 b).length:Int)-(1:Int))).toNat*1) 0)))))))=List.map MV.cv (j8 (Z1 4294967296 ((dig 4294967296 b).length+1) (b*2^(32-U7 ((dig 4294967296 b).getD ((i64.wrap ((↑(dig 4294967296 b).length:Int)-(1:Int))).toNat*1) 0))))))(o11:(0:Int)≤i64.wrap ((↑((dig 4294967296 a).length+1):Int)-(↑(dig 4294967296 (b*2^(32-U7 ((dig 4294967296 b).getD ((i64.wrap ((↑(dig 4294967296 b).length:Int)-(1:Int))).toNat*1) 0)))).length:Int))∧i64.wrap ((↑((dig 4294967296 a).length+1):Int)-(↑(dig 4294967296 (b*2^(32-U7 ((dig 4294967296 b).getD ((i64.wrap ((↑(dig 4294967296 b).length:Int)-(1:Int))).toNat*1) 0)))).length:Int))≤i64.wrap ((↑((dig 4294967296 a).length+1):Int)-(↑(dig 4294967296 (b*2^(32-U7 ((dig 4294967296 b).getD ((i64.wrap ((↑(dig 4294967296 b).length:Int)-(1:Int))).toNat*1) 0)))).length:Int))∧(4:Int)*i64.wrap ((↑((dig 4294967296 a).length+1):Int)-(↑(dig 4294967296 (b*2^(32-U7 ((dig 4294967296 b).getD ((i64.wrap ((↑(dig 4294967296 b).length:Int)-(1:Int))).toNat*1) 0)))).length:Int))≤(140737488355328:Int)∧i64.wrap ((↑((dig 4294967296 a).length+1):Int)-(↑(dig 4294967296 (b*2^(32-U7 ((dig 4294967296 b).getD ((i64.wrap ((↑(dig 4294967296 b).length:Int)-(1:Int))).toNat*1) 0)))).length:Int))≤(4611686018427387904:Int)∧1=1)(o12:CvL (own (j8 (Z1 4294967296 ((dig 4294967296 a).length+1) (a*2^(32-U7 ((dig 4294967296 b).getD ((i64.wrap ((↑(dig 4294967296 b).length:Int)-(1:Int))).toNat*1) 0)))))))(o13:CvL (List.replicate ((i64.wrap ((↑((dig 4294967296 a).length+1):Int)-(↑(dig 4294967296 (b*2^(32-U7 ((dig 4294967296 b).getD ((i64.wrap ((↑(dig 4294967296 b).length:Int)-(1:Int))).toNat*1) 0)))).length:Int))).toNat*1) (MV.cv (CV.lit (Value.int u32 (0:Int)))))){R:CV→Prop}(hR:Ok P (250:FuncId) (loopHead P (250:FuncId) 0) ⟨J1 110 [(8,MV.cv (CV.lit (Value.int i64 (↑(32-U7 ((dig 4294967296 b).getD ((i64.wrap ((↑(dig 4294967296 b).length:Int)-(1:Int))).toNat*1) 0)):Int)))),(9,MV.cv (CV.lst (dig 4294967296 (b*2^(32-U7 ((dig 4294967296 b).getD ((i64.wrap ((↑(dig 4294967296 b).length:Int)-(1:Int))).toNat*1) 0)))).length (j8 (dig 4294967296 (b*2^(32-U7 ((dig 4294967296 b).getD ((i64.wrap ((↑(dig 4294967296 b).length:Int)-(1:Int))).toNat*1) 0))))))),(10,MV.sl 0 0 ((dig 4294967296 a).length+1) 1),(11,MV.cv (CV.lit (Value.int i64 (↑(dig 4294967296 (b*2^(32-U7 ((dig 4294967296 b).getD ((i64.wrap ((↑(dig 4294967296 b).length:Int)-(1:Int))).toNat*1) 0)))).length:Int)))),(12,MV.sl (0+1) 0 (i64.wrap ((↑((dig 4294967296 a).length+1):Int)-(↑(dig 4294967296 (b*2^(32-U7 ((dig 4294967296 b).getD ((i64.wrap ((↑(dig 4294967296 b).length:Int)-(1:Int))).toNat*1) 0)))).length:Int))).toNat 1),(13,MV.cv (CV.lit (Value.int i64 (i64.wrap (i64.wrap ((↑((dig 4294967296 a).length+1):Int)-(↑(dig 4294967296 (b*2^(32-U7 ((dig 4294967296 b).getD ((i64.wrap ((↑(dig 4294967296 b).length:Int)-(1:Int))).toNat*1) 0)))).length:Int))-(1:Int))))))],[some (own (j8 (Z1 4294967296 ((dig 4294967296 a).length+1) (a*2^(32-U7 ((dig 4294967296 b).getD ((i64.wrap ((↑(dig 4294967296 b).length:Int)-(1:Int))).toNat*1) 0)))))),some (List.replicate ((i64.wrap ((↑((dig 4294967296 a).length+1):Int)-(↑(dig 4294967296 (b*2^(32-U7 ((dig 4294967296 b).getD ((i64.wrap ((↑(dig 4294967296 b).length:Int)-(1:Int))).toNat*1) 0)))).length:Int))).toNat*1) (MV.cv (CV.lit (Value.int u32 (0:Int)))))]⟩ (.of R)):Y3 P (250:FuncId) [z0c a,z0c b] R:=
 Z6 (keep:=[8,9,10,11,12,13]) (σ:=[4,5]) (.c (z2y a b d e) (.o 4 (Or.r (CV.lit (Value.int i64 (z9m a b (dig 4294967296 a).length (dig 4294967296 b).length)))) (.b 6 h1 (.b 10 h2 (.c o3 (.c o4 (.c (show 1=1 from(by decide)) (.c (zjz ((dig 4294967296 b).getD ((i64.wrap ((↑(dig 4294967296 b).length:Int)-(1:Int))).toNat*1) 0) g) (.c (z8Z b (32-U7 ((dig 4294967296 b).getD ((i64.wrap ((↑(dig 4294967296 b).length:Int)-(1:Int))).toNat*1) 0)) i j) (.c (zcY ((dig 4294967296 b).length+1) (b*2^(32-U7 ((dig 4294967296 b).getD ((i64.wrap ((↑(dig 4294967296 b).length:Int)-(1:Int))).toNat*1) 0))) k l) (.c o9 (.c (z8Z a (32-U7 ((dig 4294967296 b).getD ((i64.wrap ((↑(dig 4294967296 b).length:Int)-(1:Int))).toNat*1) 0)) m n) (.c o11 (.o 16 (Or.r (CV.lit (Value.int u32 (↑((dig 4294967296 b).getD ((i64.wrap ((↑(dig 4294967296 b).length:Int)-(1:Int))).toNat*1) 0):Int)))) (.o 17 (Or.r (CV.lit (Value.int i64 (↑(32-U7 ((dig 4294967296 b).getD ((i64.wrap ((↑(dig 4294967296 b).length:Int)-(1:Int))).toNat*1) 0)):Int)))) (.o 21 (Or.f (MV.sl 0 0 ((dig 4294967296 b).length+1) 1) (j8 (Z1 B32 ((dig B32 b).length+1) (b*2^(32-U7 ((dig 4294967296 b).getD ((i64.wrap ((↑(dig 4294967296 b).length:Int)-(1:Int))).toNat*1) 0)))))) (.o 22 (Or.r (CV.lst (dig 4294967296 (b*2^(32-U7 ((dig 4294967296 b).getD ((i64.wrap ((↑(dig 4294967296 b).length:Int)-(1:Int))).toNat*1) 0)))).length (j8 (dig 4294967296 (b*2^(32-U7 ((dig 4294967296 b).getD ((i64.wrap ((↑(dig 4294967296 b).length:Int)-(1:Int))).toNat*1) 0)))))) [j8 (Z1 4294967296 ((dig 4294967296 b).length+1) (b*2^(32-U7 ((dig 4294967296 b).getD ((i64.wrap ((↑(dig 4294967296 b).length:Int)-(1:Int))).toNat*1) 0))))]) (.o 26 (Or.f (MV.sl 0 0 ((dig 4294967296 a).length+1) 1) (j8 (Z1 B32 ((dig B32 a).length+1) (a*2^(32-U7 ((dig 4294967296 b).getD ((i64.wrap ((↑(dig 4294967296 b).length:Int)-(1:Int))).toNat*1) 0)))))) (.o 43 .stop .nil))))))))))))))))))) (by kernel_rfl) rfl hR (.cons o12 (.cons o13 .nil))
end Go.Fw
