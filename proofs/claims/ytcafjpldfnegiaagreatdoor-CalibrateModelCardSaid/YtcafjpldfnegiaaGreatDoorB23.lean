/- A part of the proof that the law returns true for every input: an executor for the model's code, and what functions of the program compute. -/
import Derived.Test.YtcafjpldfnegiaaGreatDoorB11
import Derived.Test.YtcafjpldfnegiaaGreatDoorB15
import Derived.Test.YtcafjpldfnegiaaGreatDoorB16
import Derived.Test.YtcafjpldfnegiaaGreatDoorB20
import Derived.Test.YtcafjpldfnegiaaGreatDoorB22
import Derived.KernelRfl
open Go IntKind
namespace Go.Fw
set_option maxRecDepth 100000
theorem zex(j n q c b i:Nat)(zs ys:List Nat)(h1:decide ((i:Int)<n)=true)(a:(0:Int)≤(↑(zs.getD (j+(i:Int).toNat*1) 0):Int)∧(↑(zs.getD (j+(i:Int).toNat*1) 0):Int)<4294967296)(d:(0:Int)≤u32.wrap (u64.wrap ((c:Int)+u64.wrap ((q:Int)*u64.wrap (↑(ys.getD ((i:Int).toNat*1) 0):Int))))∧u32.wrap (u64.wrap ((c:Int)+u64.wrap ((q:Int)*u64.wrap (↑(ys.getD ((i:Int).toNat*1) 0):Int))))<4294967296)(f:(0:Int)≤b∧(b:Int)≤1)(o1:(0:Int)≤i∧(i:Int)<n)(o2:(j8 ys)[(i:Int).toNat*1]?=some (.lit (.int .u32 ↑(ys.getD ((i:Int).toNat*1) 0))))(o4:(0:Int)≤i∧(i:Int)<(↑(n+1):Int))(o5:(own (j8 zs))[j+(i:Int).toNat*1]?=some (.cv (.lit (.int .u32 ↑(zs.getD (j+(i:Int).toNat*1) 0)))))(o8:(0:Int)≤i∧(i:Int)<(↑(n+1):Int))(o9:j+(i:Int).toNat*1+1≤(own (j8 zs)).length)(o11:CvL (j6 (own (j8 zs)) (j+(i:Int).toNat*1) [.cv (.lit (.int .u32 (((↑(zs.getD (j+(i:Int).toNat*1) 0):Int)-u32.wrap (u64.wrap ((c:Int)+u64.wrap ((q:Int)*u64.wrap (↑(ys.getD ((i:Int).toNat*1) 0):Int))))-(b:Int))%4294967296)))])){R:Goal}(hn:j7 R.n [0]=true)(hR:Ok P 264 (loopHead P 264 1) ⟨J1 159 [(0,.sl 0 j (n+1) 1),(1,.cv (.lst n (j8 ys))),(5,.cv (.lit (.int .i64 (n:Int)))),(7,.cv (.lit (.int .u64 (q:Int)))),(9,.cv (.lit (.int .u64 ((u64.wrap ((c:Int)+u64.wrap ((q:Int)*u64.wrap (↑(ys.getD ((i:Int).toNat*1) 0):Int)))).fdiv 4294967296)))),(10,.cv (.lit (.int .u32 (bor (↑(zs.getD (j+(i:Int).toNat*1) 0):Int) (u32.wrap (u64.wrap ((c:Int)+u64.wrap ((q:Int)*u64.wrap (↑(ys.getD ((i:Int).toNat*1) 0):Int))))) (b:Int))))),(81,.cv (.lst n (j8 ys))),(82,.cv (.lit (.int .i64 (n:Int)))),(83,.cv (.lit (.int .i64 (i64.wrap ((i:Int)+1)))))],[some (j6 (own (j8 zs)) (j+(i:Int).toNat*1) [.cv (.lit (.int .u32 (((↑(zs.getD (j+(i:Int).toNat*1) 0):Int)-u32.wrap (u64.wrap ((c:Int)+u64.wrap ((q:Int)*u64.wrap (↑(ys.getD ((i:Int).toNat*1) 0):Int))))-(b:Int))%4294967296)))])]⟩ R):Ok P 264 (loopHead P 264 1) ⟨J1 159 [(0,.sl 0 j (n+1) 1),(1,.cv (.lst n (j8 ys))),(5,.cv (.lit (.int .i64 (n:Int)))),(7,.cv (.lit (.int .u64 (q:Int)))),(9,.cv (.lit (.int .u64 (c:Int)))),(10,.cv (.lit (.int .u32 (b:Int)))),(81,.cv (.lst n (j8 ys))),(82,.cv (.lit (.int .i64 (n:Int)))),(83,.cv (.lit (.int .i64 (i:Int))))],[some (own (j8 zs))]⟩ R:=
 z1z (m:=1) (keep:=[0,1,5,7,9,10,81,82,83]) (σ:=[0]) (.b 2 h1 (.c o1 (.l 5 o2 (.c (eqn 1) (.c o4 (.e 20 o5 (.c (eqn 1) (.c (zey ((↑(zs.getD (j+(i:Int).toNat*1) 0):Int)) (u32.wrap (u64.wrap ((c:Int)+u64.wrap ((q:Int)*u64.wrap (↑(ys.getD ((i:Int).toNat*1) 0):Int))))) (b:Int) a d f) (.c o8 (.c o9 (.c (nn 32) (.o 24 (.r (.tup [.lit (.int .u32 (((↑(zs.getD (j+(i:Int).toNat*1) 0):Int)-u32.wrap (u64.wrap ((c:Int)+u64.wrap ((q:Int)*u64.wrap (↑(ys.getD ((i:Int).toNat*1) 0):Int))))-(b:Int))%4294967296)),.lit (.int .u32 (bor (↑(zs.getD (j+(i:Int).toNat*1) 0):Int) (u32.wrap (u64.wrap ((c:Int)+u64.wrap ((q:Int)*u64.wrap (↑(ys.getD ((i:Int).toNat*1) 0):Int))))) (b:Int)))])) (.o 36 .stop .nil))))))))))))) (by kernel_rfl) rfl hn hR (.cons o11 .nil)
theorem zcZ(j n q c b i:Nat)(zs ys:List Nat)(h1:decide ((i:Int)<n)=false)(h2:(bor (↑(zs.getD (j+(n:Int).toNat*1) 0):Int) (u32.wrap (c:Int)) (b:Int) != 0)=true)(a:(0:Int)≤(↑(zs.getD (j+(n:Int).toNat*1) 0):Int)∧(↑(zs.getD (j+(n:Int).toNat*1) 0):Int)<4294967296)(d:(0:Int)≤u32.wrap (c:Int)∧u32.wrap (c:Int)<4294967296)(f:(0:Int)≤b∧(b:Int)≤1)(o1:(0:Int)≤n∧(n:Int)<(↑(n+1):Int))(o2:(own (j8 zs))[j+(n:Int).toNat*1]?=some (.cv (.lit (.int .u32 ↑(zs.getD (j+(n:Int).toNat*1) 0)))))(o5:(0:Int)≤n∧(n:Int)<(↑(n+1):Int))(o6:j+(n:Int).toNat*1+1≤(own (j8 zs)).length)(o8:CvL (j6 (own (j8 zs)) (j+(n:Int).toNat*1) [.cv (.lit (.int .u32 (((↑(zs.getD (j+(n:Int).toNat*1) 0):Int)-u32.wrap (c:Int)-b)%4294967296)))])){R:Goal}(hn:j7 R.n [0]=true)(hR:Ok P 264 (loopHead P 264 2) ⟨J1 159 [(0,.sl 0 j (n+1) 1),(5,.cv (.lit (.int .i64 (n:Int)))),(7,.cv (.lit (.int .u64 (u64.wrap ((q:Int)-1))))),(13,.cv (.lit (.int .u32 0))),(129,.cv (.lst n (j8 ys))),(130,.cv (.lit (.int .i64 (n:Int)))),(131,.cv (.lit (.int .i64 0)))],[some (j6 (own (j8 zs)) (j+(n:Int).toNat*1) [.cv (.lit (.int .u32 (((↑(zs.getD (j+(n:Int).toNat*1) 0):Int)-u32.wrap (c:Int)-b)%4294967296)))])]⟩ R):Ok P 264 (loopHead P 264 1) ⟨J1 159 [(0,.sl 0 j (n+1) 1),(1,.cv (.lst n (j8 ys))),(5,.cv (.lit (.int .i64 (n:Int)))),(7,.cv (.lit (.int .u64 (q:Int)))),(9,.cv (.lit (.int .u64 (c:Int)))),(10,.cv (.lit (.int .u32 (b:Int)))),(81,.cv (.lst n (j8 ys))),(82,.cv (.lit (.int .i64 (n:Int)))),(83,.cv (.lit (.int .i64 (i:Int))))],[some (own (j8 zs))]⟩ R:=
 z1z (m:=1) (keep:=[0,5,7,13,129,130,131]) (σ:=[0]) (.b 2 h1 (.c o1 (.e 8 o2 (.c (eqn 1) (.r 12 (zey ((↑(zs.getD (j+(n:Int).toNat*1) 0):Int)) (u32.wrap (c:Int)) (b:Int) a d f) (.c o5 (.c o6 (.b 21 h2 (.o 29 .stop .nil))))))))) (by kernel_rfl) rfl hn hR (.cons o8 .nil)
theorem zdy(j n q c b i:Nat)(zs ys:List Nat)(h1:decide ((i:Int)<n)=false)(h2:(bor (↑(zs.getD (j+(n:Int).toNat*1) 0):Int) (u32.wrap (c:Int)) (b:Int) != 0)=false)(d:(0:Int)≤(↑(zs.getD (j+(n:Int).toNat*1) 0):Int)∧(↑(zs.getD (j+(n:Int).toNat*1) 0):Int)<4294967296)(f:(0:Int)≤u32.wrap (c:Int)∧u32.wrap (c:Int)<4294967296)(g:(0:Int)≤b∧(b:Int)≤1)(o1:(0:Int)≤n∧(n:Int)<(↑(n+1):Int))(o2:(own (j8 zs))[j+(n:Int).toNat*1]?=some (.cv (.lit (.int .u32 ↑(zs.getD (j+(n:Int).toNat*1) 0)))))(o5:(0:Int)≤n∧(n:Int)<(↑(n+1):Int))(o6:j+(n:Int).toNat*1+1≤(own (j8 zs)).length)(o9:BlksCv [some (j6 (own (j8 zs)) (j+(n:Int).toNat*1) [.cv (.lit (.int .u32 (((↑(zs.getD (j+(n:Int).toNat*1) 0):Int)-u32.wrap (c:Int)-b)%4294967296)))])]){R:Goal}(hn:R.Lent 1)(hR:R.m (.cv (.lit (.int .u32 (u32.wrap (q:Int))))) [some (j6 (own (j8 zs)) (j+(n:Int).toNat*1) [.cv (.lit (.int .u32 (((↑(zs.getD (j+(n:Int).toNat*1) 0):Int)-u32.wrap (c:Int)-b)%4294967296)))])]):Ok P 264 (loopHead P 264 1) ⟨J1 159 [(0,.sl 0 j (n+1) 1),(1,.cv (.lst n (j8 ys))),(5,.cv (.lit (.int .i64 (n:Int)))),(7,.cv (.lit (.int .u64 (q:Int)))),(9,.cv (.lit (.int .u64 (c:Int)))),(10,.cv (.lit (.int .u32 (b:Int)))),(81,.cv (.lst n (j8 ys))),(82,.cv (.lit (.int .i64 (n:Int)))),(83,.cv (.lit (.int .i64 (i:Int))))],[some (own (j8 zs))]⟩ R:=
 zhU (ors:=[(2,.b false),(8,.e (.cv (.lit (.int .u32 ↑(zs.getD (j+(n:Int).toNat*1) 0))))),(12,.r (.tup [.lit (.int .u32 (((↑(zs.getD (j+(n:Int).toNat*1) 0):Int)-u32.wrap (c:Int)-b)%4294967296)),.lit (.int .u32 (bor (↑(zs.getD (j+(n:Int).toNat*1) 0):Int) (u32.wrap (c:Int)) (b:Int)))])),(21,.b false),(25,.a)]) (by kernel_rfl) (.cons h1 (.cons o1 (.cons o2 (.cons (eqn 1) (.cons (zey ((↑(zs.getD (j+(n:Int).toNat*1) 0):Int)) (u32.wrap (c:Int)) (b:Int) d f g) (.cons o5 (.cons o6 (.cons h2 (.cons (lq 1 2) (.cons o9 .nil)))))))))) hn hR
theorem zcF(j n q b i:Nat)(zs ys:List Nat)(h1:decide ((i:Int)<n)=true)(a:(0:Int)≤(↑(zs.getD (j+(i:Int).toNat*1) 0):Int)∧(↑(zs.getD (j+(i:Int).toNat*1) 0):Int)<4294967296)(d:(0:Int)≤(↑(ys.getD ((i:Int).toNat*1) 0):Int)∧(↑(ys.getD ((i:Int).toNat*1) 0):Int)<4294967296)(f:(0:Int)≤b∧(b:Int)≤1)(o1:(0:Int)≤i∧(i:Int)<n)(o2:(j8 ys)[(i:Int).toNat*1]?=some (.lit (.int .u32 ↑(ys.getD ((i:Int).toNat*1) 0))))(o4:(0:Int)≤i∧(i:Int)<(↑(n+1):Int))(o5:(own (j8 zs))[j+(i:Int).toNat*1]?=some (.cv (.lit (.int .u32 ↑(zs.getD (j+(i:Int).toNat*1) 0)))))(o8:(0:Int)≤i∧(i:Int)<(↑(n+1):Int))(o9:j+(i:Int).toNat*1+1≤(own (j8 zs)).length)(o10:CvL (j6 (own (j8 zs)) (j+(i:Int).toNat*1) [.cv (.lit (.int .u32 (((↑(zs.getD (j+(i:Int).toNat*1) 0):Int)+(↑(ys.getD ((i:Int).toNat*1) 0):Int)+b)%4294967296)))])){R:Goal}(hn:j7 R.n [0]=true)(hR:Ok P 264 (loopHead P 264 2) ⟨J1 159 [(0,.sl 0 j (n+1) 1),(5,.cv (.lit (.int .i64 (n:Int)))),(7,.cv (.lit (.int .u64 (q:Int)))),(13,.cv (.lit (.int .u32 (((↑(zs.getD (j+(i:Int).toNat*1) 0):Int)+(↑(ys.getD ((i:Int).toNat*1) 0):Int)+b)/(4294967296:Int))))),(129,.cv (.lst n (j8 ys))),(130,.cv (.lit (.int .i64 (n:Int)))),(131,.cv (.lit (.int .i64 (i64.wrap ((i:Int)+1)))))],[some (j6 (own (j8 zs)) (j+(i:Int).toNat*1) [.cv (.lit (.int .u32 (((↑(zs.getD (j+(i:Int).toNat*1) 0):Int)+(↑(ys.getD ((i:Int).toNat*1) 0):Int)+b)%4294967296)))])]⟩ R):Ok P 264 (loopHead P 264 2) ⟨J1 159 [(0,.sl 0 j (n+1) 1),(5,.cv (.lit (.int .i64 (n:Int)))),(7,.cv (.lit (.int .u64 (q:Int)))),(13,.cv (.lit (.int .u32 (b:Int)))),(129,.cv (.lst n (j8 ys))),(130,.cv (.lit (.int .i64 (n:Int)))),(131,.cv (.lit (.int .i64 (i:Int))))],[some (own (j8 zs))]⟩ R:=
 z1z (m:=1) (keep:=[0,5,7,13,129,130,131]) (σ:=[0]) (.b 2 h1 (.c o1 (.l 5 o2 (.c (eqn 1) (.c o4 (.e 13 o5 (.c (eqn 1) (.c (zoK ((↑(zs.getD (j+(i:Int).toNat*1) 0):Int)) ((↑(ys.getD ((i:Int).toNat*1) 0):Int)) (b:Int) a d f) (.c o8 (.c o9 (.o 16 (.r (.tup [.lit (.int .u32 (((↑(zs.getD (j+(i:Int).toNat*1) 0):Int)+(↑(ys.getD ((i:Int).toNat*1) 0):Int)+b)%4294967296)),.lit (.int .u32 (((↑(zs.getD (j+(i:Int).toNat*1) 0):Int)+(↑(ys.getD ((i:Int).toNat*1) 0):Int)+b)/(4294967296:Int)))])) (.o 25 .stop .nil)))))))))))) (by kernel_rfl) rfl hn hR (.cons o10 .nil)
theorem zeC(j n q b i:Nat)(zs ys:List Nat)(h1:decide ((i:Int)<n)=false)(o1:(0:Int)≤n∧(n:Int)<(↑(n+1):Int))(o2:(own (j8 zs))[j+(n:Int).toNat*1]?=some (.cv (.lit (.int .u32 ↑(zs.getD (j+(n:Int).toNat*1) 0)))))(o4:(0:Int)≤n∧(n:Int)<(↑(n+1):Int))(o5:j+(n:Int).toNat*1+1≤(own (j8 zs)).length)(o7:BlksCv [some (j6 (own (j8 zs)) (j+(n:Int).toNat*1) [.cv (.lit (.int .u32 (u32.wrap ((↑(zs.getD (j+(n:Int).toNat*1) 0):Int)+b))))])]){R:Goal}(hn:R.Lent 1)(hR:R.m (.cv (.lit (.int .u32 (u32.wrap (q:Int))))) [some (j6 (own (j8 zs)) (j+(n:Int).toNat*1) [.cv (.lit (.int .u32 (u32.wrap ((↑(zs.getD (j+(n:Int).toNat*1) 0):Int)+b))))])]):Ok P 264 (loopHead P 264 2) ⟨J1 159 [(0,.sl 0 j (n+1) 1),(5,.cv (.lit (.int .i64 (n:Int)))),(7,.cv (.lit (.int .u64 (q:Int)))),(13,.cv (.lit (.int .u32 (b:Int)))),(129,.cv (.lst n (j8 ys))),(130,.cv (.lit (.int .i64 (n:Int)))),(131,.cv (.lit (.int .i64 (i:Int))))],[some (own (j8 zs))]⟩ R:=
 zhU (ors:=[(2,.b false),(6,.e (.cv (.lit (.int .u32 ↑(zs.getD (j+(n:Int).toNat*1) 0))))),(14,.a)]) (by kernel_rfl) (.cons h1 (.cons o1 (.cons o2 (.cons (eqn 1) (.cons o4 (.cons o5 (.cons (lq 1 1) (.cons o7 .nil)))))))) hn hR
theorem z5v(W P B:Nat):W/P%B*P≤W:=Nat.le_trans (Nat.mul_le_mul_right _ (Nat.mod_le _ _)) (Nat.div_mul_le_self _ _)
theorem z5u{W P B x:Nat}(hP:0<P)(hx:x<B):(W-W/P%B*P+x*P)/(P*B)=W/(P*B):=by
 have h1:=Nat.mod_add_div W P
 have h2:=Nat.mod_add_div (W/P) B
 have h3:P*(W/P)=W/P%B*P+P*B*(W/P/B):=by
  conv=>lhs;rw[←h2]
  rw[Nat.mul_add,Nat.mul_comm P (_%_),Nat.mul_assoc]
 have h4:W-W/P%B*P+x*P=(W%P+x*P)+P*B*(W/P/B):=by omega
 have h5:W%P+x*P<P*B:=by
  have:=Nat.mod_lt W hP
  calc W%P+x*P<P+x*P:=by omega
   _=(x+1)*P:=by rw[Nat.add_mul,Nat.one_mul,Nat.add_comm]
   _≤B*P:=Nat.mul_le_mul_right _ hx
   _=P*B:=Nat.mul_comm _ _
 rw[h4,Nat.add_mul_div_left _ _ (Nat.mul_pos hP (by omega)),Nat.div_eq_of_lt h5,Nat.zero_add,Nat.div_div_eq_div_mul]
theorem z7o{m W k x:Nat}(hk:k<m)(hx:x<B32):j6 (own (j8 (Z1 B32 m W))) k [.cv (.lit (.int .u32 (x:Int)))]=own (j8 (Z1 B32 m (W-W/B32^k%B32*B32^k+x*B32^k))):=by
 rw[Q6 (by rw[j9];exact hk),zhm (by decide) m W k x hk hx]
theorem z9a(d s b:Nat)(hd:d<4294967296)(hs:s<4294967296)(hb:b≤1):((d:Int)-s-b)%4294967296=(((d+8589934592-s-b)%4294967296:Nat):Int)∧bor d s b=((if d<s+b then 1 else 0:Nat):Int)∧(d+8589934592-s-b)%4294967296+s+b=d+(if d<s+b then 1 else 0)*4294967296:=by
 refine⟨by omega,?_,?_⟩
 · unfold bor
   split<;>split<;>first|rfl|omega
 · split<;>omega
theorem zfQ {R : Goal} (hn : j7 R.n [0] = true) (hL : R.Lent 1) (m W j n q : Nat) (ys : List Nat) (hyl : ys.length = n) (hy : Dig B32 ys) (hjm : j + n + 1 ≤ m) (hm : m < 2 ^ 40) (hq : q < B32)
    (hW:W/B32^(j+n+1)=0)
    (hA:q*val B32 ys*B32^j≤W→R.m (.cv (.lit (.int .u32 (q:Int)))) [some (own (j8 (Z1 B32 m (W-q*val B32 ys*B32^j))))])
    (hB:W<q*val B32 ys*B32^j→ ∀Wf,Wf+q*val B32 ys*B32^j=W+B32^(j+n+1)→Wf/B32^(j+n+1)=0→
     Ok P 264 (loopHead P 264 2) ⟨J1 159 [(0,.sl 0 j (n+1) 1),(5,.cv (.lit (.int .i64 n))),(7,.cv (.lit (.int .u64 ((q-1:Nat):Int)))),(13,.cv (.lit (.int .u32 ((0:Nat):Int)))),(129,.cv (.lst n (j8 ys))),(130,.cv (.lit (.int .i64 n))),(131,.cv (.lit (.int .i64 ((0:Nat):Int))))],[some (own (j8 (Z1 B32 m Wf)))]⟩ R):
    ∀(k i Wi c b:Nat),n-i=k→i≤n→c<B32→b≤1→Wi/B32^(j+i)=W/B32^(j+i)→Wi+q*val B32 (ys.take i)*B32^j=W+(c+b)*B32^(j+i)→
     Ok P 264 (loopHead P 264 1) ⟨J1 159 [(0,.sl 0 j (n+1) 1),(1,.cv (.lst n (j8 ys))),(5,.cv (.lit (.int .i64 n))),(7,.cv (.lit (.int .u64 q))),(9,.cv (.lit (.int .u64 c))),(10,.cv (.lit (.int .u32 b))),(81,.cv (.lst n (j8 ys))),(82,.cv (.lit (.int .i64 n))),(83,.cv (.lit (.int .i64 i)))],[some (own (j8 (Z1 B32 m Wi)))]⟩ R:=by
 intro k
 induction k with
 |zero=>
  intro i Wi c b hk hi hc hb hhi hinv
  have:i=n:=by omega
  subst this
  have e0:j+(i:Int).toNat*1=j+i:=by omega
  have hdg:=W4 B32 m Wi (j+i) (by omega)
  have hdlt:Wi/B32^(j+i)%B32<B32:=Nat.mod_lt _ (by decide)
  have hlen:=j9 B32 m Wi
  have hgz:=W5 (Y7 (xs:=Z1 B32 m Wi) (i:=j+i) (by rw[hlen];omega))
  have hPle:=z5v Wi (B32^(j+i)) B32
  have hPpos:=V9 (j+i)
  have hwc:u32.wrap (c:Int)=c:=by rw[z87];simp only[B32]at hc;omega
  obtain⟨s1,s2,s3⟩:=z9a (Wi/B32^(j+i)%B32) c b hdlt hc hb
  have hnew:(Wi/B32^(j+i)%B32+8589934592-c-b)%4294967296<B32:=Nat.mod_lt _ (by decide)
  have hput:=z7o (m:=m) (W:=Wi) (k:=j+i) (by omega) hnew
  have hhigh:=z5u (W:=Wi) hPpos hnew
  generalize hdd:Wi/B32^(j+i)%B32=d at*
  generalize hnn:(d+8589934592-c-b)%4294967296=nw at*
  have hval:ys.take i=ys:=by rw[←hyl,List.take_length]
  rw[hval]at hinv
  have hstep:=zaR W Wi q (val B32 ys) 0 (B32^(j+i)) (B32^j) c b d c 0 (if d<c+b then 1 else 0) nw hinv ⟨B32^i,Nat.pow_add ..⟩ (by omega) s3 hPle (B32^i) (Nat.pow_add ..)
  rw[Nat.mul_zero,Nat.add_zero,Nat.zero_add,←Nat.pow_succ]at hstep
  rw[←Nat.pow_succ]at hhigh
  simp only[Nat.succ_eq_add_one]at hstep hhigh
  have hhigh0:Wi/B32^(j+i+1)=0:=by
   rw[Nat.pow_succ,←Nat.div_div_eq_div_mul,hhi,Nat.div_div_eq_div_mul,←Nat.pow_succ];exact hW
  rw[hhigh0]at hhigh
  by_cases hbor:d<c+b
  · rw[if_pos hbor]at s2 hstep
    have hlt:W<q*val B32 ys*B32^j:=by
     have:Wi-d*B32^(j+i)+nw*B32^(j+i)<B32^(j+i+1):=by
      rcases Nat.lt_or_ge (Wi-d*B32^(j+i)+nw*B32^(j+i)) (B32^(j+i+1))with h|h
      · exact h
      · exact absurd hhigh (Nat.ne_of_gt (Nat.div_pos h (V9 _)))
     omega
    have hqpos:0<q:=by
     rcases Nat.eq_zero_or_pos q with h|h
     · subst h;simp at hlt
     · exact h
    have hq1:u64.wrap ((q:Int)-1)=((q-1:Nat):Int):=by rw[z1Y];simp only[B32]at hq;omega
    refine zcZ j i q c b i _ ys (by simp) (by rw[e0,hdg,hwc,s2];rfl) (by rw[e0,hdg];simp only[B32]at hdlt;omega) (by rw[hwc];simp only[B32]at hc;omega) (by omega) (by omega) (by rw[e0];exact hgz) (by omega) (by rw[e0,J4,Q7,hlen];omega) ?_ hn ?_
    · rw[e0,hdg,hwc,s1,hput];exact J0 _
    · rw[e0,hdg,hwc,s1,hput,hq1]
      exact hB hlt _ (by rw[hstep,Nat.one_mul]) hhigh
  · rw[if_neg hbor,Nat.zero_mul,Nat.add_zero]at hstep
    rw[if_neg hbor]at s2
    have hwq:u32.wrap (q:Int)=q:=by rw[z87];simp only[B32]at hq;omega
    have hle:q*val B32 ys*B32^j≤W:=by omega
    refine zdy j i q c b i _ ys (by simp) (by rw[e0,hdg,hwc,s2];rfl) (by rw[e0,hdg];simp only[B32]at hdlt;omega) (by rw[hwc];simp only[B32]at hc;omega) (by omega) (by omega) (by rw[e0];exact hgz) (by omega) (by rw[e0,J4,Q7,hlen];omega) ?_ hL ?_
    · rw[e0,hdg,hwc,s1,hput];exact BlksCv.one (J0 _)
    · rw[e0,hdg,hwc,s1,hput,hwq,show Wi-d*B32^(j+i)+nw*B32^(j+i)=W-q*val B32 ys*B32^j by omega]
      exact hA hle
 |succ k ih=>
  intro i Wi c b hk hi hc hb hhi hinv
  have hlt:i<n:=by omega
  have e1:(i:Int).toNat*1=i:=by omega
  have e0:j+(i:Int).toNat*1=j+i:=by omega
  have e3:i64.wrap ((i:Int)+1)=((i+1:Nat):Int):=by rw[w64 (by omega)];omega
  have hdg:=W4 B32 m Wi (j+i) (by omega)
  have hdlt:Wi/B32^(j+i)%B32<B32:=Nat.mod_lt _ (by decide)
  have hlen:=j9 B32 m Wi
  have hgz:=W5 (Y7 (xs:=Z1 B32 m Wi) (i:=j+i) (by rw[hlen];omega))
  have hgy:=Y7 (xs:=ys) (i:=i) (by omega)
  have hx:=hy.get (by decide) i
  have hPle:=z5v Wi (B32^(j+i)) B32
  have hPpos:=V9 (j+i)
  have htk:=V5 (b:=B32) (xs:=ys) (i:=i) (by omega)
  generalize hxx:ys.getD i 0=x at*
  have hprod:q*x≤4294967295*4294967295:=Nat.mul_le_mul (by simp only[B32]at hq;omega) (by simp only[B32]at hx;omega)
  have w1:u64.wrap (x:Int)=x:=by rw[z1Y];simp only[B32]at hx;omega
  have w2:u64.wrap ((q:Int)*x)=((q*x:Nat):Int):=by rw[z1Y,Int.natCast_mul];rw[←Int.natCast_mul];omega
  have w3:u64.wrap ((c:Int)+((q*x:Nat):Int))=((c+q*x:Nat):Int):=by rw[z1Y];simp only[B32]at hc;omega
  have w4:u32.wrap ((c+q*x:Nat):Int)=(((c+q*x)%4294967296:Nat):Int):=by rw[z87];omega
  have w5:((c+q*x:Nat):Int).fdiv 4294967296=(((c+q*x)/4294967296:Nat):Int):=by rw[fdp _ (by decide)];omega
  have hs:(c+q*x)%4294967296<B32:=Nat.mod_lt _ (by decide)
  have hc2:(c+q*x)/4294967296<B32:=by simp only[B32]at*;omega
  have hsum:c+q*x=(c+q*x)%4294967296+B32*((c+q*x)/4294967296):=(Nat.mod_add_div _ _).symm
  obtain⟨s1,s2,s3⟩:=z9a (Wi/B32^(j+i)%B32) ((c+q*x)%4294967296) b hdlt hs hb
  have hnew:(Wi/B32^(j+i)%B32+8589934592-(c+q*x)%4294967296-b)%4294967296<B32:=Nat.mod_lt _ (by decide)
  have hput:=z7o (m:=m) (W:=Wi) (k:=j+i) (by omega) hnew
  have hhigh:=z5u (W:=Wi) hPpos hnew
  generalize hdd:Wi/B32^(j+i)%B32=d at*
  generalize hnn:(d+8589934592-(c+q*x)%4294967296-b)%4294967296=nw at*
  have hstep:=zaR W Wi q (val B32 (ys.take i)) x (B32^(j+i)) (B32^j) c b d ((c+q*x)%4294967296) ((c+q*x)/4294967296) (if d<(c+q*x)%4294967296+b then 1 else 0) nw hinv ⟨B32^i,Nat.pow_add ..⟩ hsum s3 hPle (B32^i) (Nat.pow_add ..)
  rw[←htk,←Nat.pow_succ]at hstep
  rw[←Nat.pow_succ]at hhigh
  simp only[Nat.succ_eq_add_one]at hstep hhigh
  have hhi2:(Wi-d*B32^(j+i)+nw*B32^(j+i))/B32^(j+(i+1))=W/B32^(j+(i+1)):=by
   rw[←Nat.add_assoc,hhigh,Nat.pow_succ,←Nat.div_div_eq_div_mul,hhi,Nat.div_div_eq_div_mul]
  refine zex j n q c b i _ ys (by simpa using hlt) (by rw[e0,hdg];simp only[B32]at hdlt;omega) (by rw[e1,hxx,w1,w2,w3,w4];omega) (by omega) (by omega) (by rw[e1,hxx];exact hgy) (by omega) (by rw[e0];exact hgz) (by omega) (by rw[e0,J4,Q7,hlen];omega) ?_ hn ?_
  · rw[e0,e1,hxx,hdg,w1,w2,w3,w4,s1,hput];exact J0 _
  · rw[e0,e1,e3,hxx,hdg,w1,w2,w3,w4,w5,s1,s2,hput]
    exact ih (i+1) _ _ _ (by omega) (by omega) hc2 (by split<;>omega) hhi2 hstep
theorem zcA {R : Goal} (hn : j7 R.n [0] = true) (hL : R.Lent 1) (m W j n q : Nat) (ys : List Nat) (hyl : ys.length = n) (hy : Dig B32 ys) (hjm : j + n + 1 ≤ m) (hm : m < 2 ^ 40) (hq : q < B32)
    (hR:R.m (.cv (.lit (.int .u32 (q:Int)))) [some (own (j8 (Z1 B32 m W)))]) (Wf:Nat) (hWf:Wf+val B32 ys*B32^j=W+B32^(j+n+1)) (hf0:Wf/B32^(j+n+1)=0):
    ∀(k i Wi b:Nat),n-i=k→i≤n→b≤1→Wi/B32^(j+i)=Wf/B32^(j+i)→Wi+b*B32^(j+i)=Wf+val B32 (ys.take i)*B32^j→
     Ok P 264 (loopHead P 264 2) ⟨J1 159 [(0,.sl 0 j (n+1) 1),(5,.cv (.lit (.int .i64 n))),(7,.cv (.lit (.int .u64 q))),(13,.cv (.lit (.int .u32 b))),(129,.cv (.lst n (j8 ys))),(130,.cv (.lit (.int .i64 n))),(131,.cv (.lit (.int .i64 i)))],[some (own (j8 (Z1 B32 m Wi)))]⟩ R:=by
 intro k
 induction k with
 |zero=>
  intro i Wi b hk hi hb hhi hinv
  have:i=n:=by omega
  subst this
  have e0:j+(i:Int).toNat*1=j+i:=by omega
  have hdg:=W4 B32 m Wi (j+i) (by omega)
  have hdlt:Wi/B32^(j+i)%B32<B32:=Nat.mod_lt _ (by decide)
  have hlen:=j9 B32 m Wi
  have hgz:=W5 (Y7 (xs:=Z1 B32 m Wi) (i:=j+i) (by rw[hlen];omega))
  have hPle:=z5v Wi (B32^(j+i)) B32
  have hPpos:=V9 (j+i)
  have hval:ys.take i=ys:=by rw[←hyl,List.take_length]
  rw[hval,hWf]at hinv
  have hhigh0:Wi/B32^(j+i+1)=0:=by
   rw[Nat.pow_succ,←Nat.div_div_eq_div_mul,hhi,Nat.div_div_eq_div_mul,←Nat.pow_succ];exact hf0
  have hwq:u32.wrap (q:Int)=q:=by rw[z87];simp only[B32]at hq;omega
  have hwd:u32.wrap (((Wi/B32^(j+i)%B32:Nat):Int)+b)=(((Wi/B32^(j+i)%B32+b)%4294967296:Nat):Int):=by rw[z87];omega
  have hnew:(Wi/B32^(j+i)%B32+b)%4294967296<B32:=Nat.mod_lt _ (by decide)
  have hput:=z7o (m:=m) (W:=Wi) (k:=j+i) (by omega) hnew
  have hhigh:=z5u (W:=Wi) hPpos hnew
  rw[←Nat.pow_succ]at hhigh
  simp only[Nat.succ_eq_add_one]at hhigh
  rw[hhigh0]at hhigh
  have hfin:Wi-Wi/B32^(j+i)%B32*B32^(j+i)+(Wi/B32^(j+i)%B32+b)%4294967296*B32^(j+i)=W:=by
   have hlt:Wi-Wi/B32^(j+i)%B32*B32^(j+i)+(Wi/B32^(j+i)%B32+b)%4294967296*B32^(j+i)<B32^(j+i+1):=by
    rcases Nat.lt_or_ge (Wi-Wi/B32^(j+i)%B32*B32^(j+i)+(Wi/B32^(j+i)%B32+b)%4294967296*B32^(j+i)) (B32^(j+i+1))with h|h
    · exact h
    · exact absurd hhigh (Nat.ne_of_gt (Nat.div_pos h (V9 _)))
   generalize Wi/B32^(j+i)%B32=d at*
   have hm2:=Nat.mod_add_div (d+b) 4294967296
   have hcar:(d+b)/4294967296=0∨(d+b)/4294967296=1:=by simp only[B32]at hdlt;omega
   have hPB:B32^(j+i+1)=B32*B32^(j+i):=by rw[Nat.pow_succ,Nat.mul_comm]
   rcases hcar with h|h
   · rw[h]at hm2
     rw[show(d+b)%4294967296=d+b by omega,Nat.add_mul]at hlt
     omega
   · rw[h]at hm2
     have h3:(d+b)%4294967296*B32^(j+i)+B32*B32^(j+i)=d*B32^(j+i)+b*B32^(j+i):=by
      rw[←Nat.add_mul,←Nat.add_mul];congr 1
     omega
  refine zeC j i q b i _ ys (by simp) (by omega) (by rw[e0];exact hgz) (by omega) (by rw[e0,J4,Q7,hlen];omega) ?_ hL ?_
  · rw[e0,hdg,hwd,hput];exact BlksCv.one (J0 _)
  · rw[e0,hdg,hwd,hput,hfin,hwq];exact hR
 |succ k ih=>
  intro i Wi b hk hi hb hhi hinv
  have hlt:i<n:=by omega
  have e1:(i:Int).toNat*1=i:=by omega
  have e0:j+(i:Int).toNat*1=j+i:=by omega
  have e3:i64.wrap ((i:Int)+1)=((i+1:Nat):Int):=by rw[w64 (by omega)];omega
  have hdg:=W4 B32 m Wi (j+i) (by omega)
  have hdlt:Wi/B32^(j+i)%B32<B32:=Nat.mod_lt _ (by decide)
  have hlen:=j9 B32 m Wi
  have hgz:=W5 (Y7 (xs:=Z1 B32 m Wi) (i:=j+i) (by rw[hlen];omega))
  have hgy:=Y7 (xs:=ys) (i:=i) (by omega)
  have hx:=hy.get (by decide) i
  have hPle:=z5v Wi (B32^(j+i)) B32
  have hPpos:=V9 (j+i)
  have htk:=V5 (b:=B32) (xs:=ys) (i:=i) (by omega)
  generalize hxx:ys.getD i 0=x at*
  have w1:(((Wi/B32^(j+i)%B32:Nat):Int)+x+b)%4294967296=(((Wi/B32^(j+i)%B32+x+b)%4294967296:Nat):Int):=by omega
  have w2:(((Wi/B32^(j+i)%B32:Nat):Int)+x+b)/4294967296=(((Wi/B32^(j+i)%B32+x+b)/4294967296:Nat):Int):=by omega
  have hnew:(Wi/B32^(j+i)%B32+x+b)%4294967296<B32:=Nat.mod_lt _ (by decide)
  have hput:=z7o (m:=m) (W:=Wi) (k:=j+i) (by omega) hnew
  have hhigh:=z5u (W:=Wi) hPpos hnew
  have hhi2:(Wi-Wi/B32^(j+i)%B32*B32^(j+i)+(Wi/B32^(j+i)%B32+x+b)%4294967296*B32^(j+i))/B32^(j+(i+1))=Wf/B32^(j+(i+1)):=by
   rw[←Nat.add_assoc,Nat.pow_succ,hhigh,←Nat.div_div_eq_div_mul,hhi,Nat.div_div_eq_div_mul]
  generalize hdd:Wi/B32^(j+i)%B32=d at*
  have hb2:(d+x+b)/4294967296≤1:=by simp only[B32]at*;omega
  have hstep:Wi-d*B32^(j+i)+(d+x+b)%4294967296*B32^(j+i)+(d+x+b)/4294967296*B32^(j+(i+1))=Wf+val B32 (ys.take (i+1))*B32^j:=by
   have hm2:=Nat.mod_add_div (d+x+b) 4294967296
   have h1:(d+x+b)%4294967296*B32^(j+i)+(d+x+b)/4294967296*B32^(j+(i+1))=d*B32^(j+i)+x*B32^(j+i)+b*B32^(j+i):=by
    rw[←Nat.add_assoc j i 1,Nat.pow_succ,Nat.mul_comm (B32^(j+i)) B32,←Nat.mul_assoc,←Nat.add_mul,←Nat.add_mul,←Nat.add_mul]
    congr 1;simp only[B32];omega
   have h2:val B32 (ys.take (i+1))*B32^j=val B32 (ys.take i)*B32^j+x*B32^(j+i):=by
    rw[htk,Nat.add_mul,Nat.pow_add,Nat.mul_comm (B32^i) x,Nat.mul_assoc,Nat.mul_comm (B32^i)]
   omega
  refine zcF j n q b i _ ys (by simpa using hlt) (by rw[e0,hdg];simp only[B32]at hdlt;omega) (by rw[e1,hxx];simp only[B32]at hx;omega) (by omega) (by omega) (by rw[e1,hxx];exact hgy) (by omega) (by rw[e0];exact hgz) (by omega) (by rw[e0,J4,Q7,hlen];omega) ?_ hn ?_
  · rw[e0,e1,hxx,hdg,w1,hput];exact J0 _
  · rw[e0,e1,e3,hxx,hdg,w1,w2,hput]
    exact ih (i+1) _ _ (by omega) (by omega) hb2 hhi2 hstep
theorem zbN {R : Goal} (hn : j7 R.n [0] = true) (m W j n : Nat) (ys : List Nat) (hyl : ys.length = n) (hn2 : 2 ≤ n) (_hy : Dig B32 ys) (hjm : j + n + 1 ≤ m) (hm : m < 2 ^ 40)
    (v1 v2 top u2 p:Nat) (hv1:ys.getD (n-1) 0=v1) (hv2:ys.getD (n-2) 0=v2) (hu2:W/B32^(j+(n-2))%B32=u2)
    (g:Guess (W/B32^j) (val B32 ys) v1 v2 top u2 p)
    (hR: ∀q,q<B32→(q=W/B32^j/val B32 ys∨q=W/B32^j/val B32 ys+1)→
     Ok P 264 (loopHead P 264 1) ⟨J1 159 [(0,.sl 0 j (n+1) 1),(1,.cv (.lst n (j8 ys))),(5,.cv (.lit (.int .i64 n))),(7,.cv (.lit (.int .u64 q))),(9,.cv (.lit (.int .u64 (0:Int)))),(10,.cv (.lit (.int .u32 (0:Int)))),(81,.cv (.lst n (j8 ys))),(82,.cv (.lit (.int .i64 n))),(83,.cv (.lit (.int .i64 (0:Int))))],[some (own (j8 (Z1 B32 m W)))]⟩ R):
    ∀(q r:Nat),Corr (W/B32^j) (val B32 ys) v1 v2 top u2 q r→
     Ok P 264 (loopHead P 264 0) ⟨J1 159 [(0,.sl 0 j (n+1) 1),(1,.cv (.lst n (j8 ys))),(5,.cv (.lit (.int .i64 n))),(7,.cv (.lit (.int .u64 q))),(8,.cv (.lit (.int .u64 r)))],[some (own (j8 (Z1 B32 m W)))]⟩ R:=by
 intro q
 induction q using Nat.strongRecOn with
 |_ q ih=>
  intro r c
  have hlen:=j9 B32 m W
  have en1:i64.wrap ((n:Int)-1)=((n-1:Nat):Int):=by rw[w64 (by omega)];omega
  have en2:i64.wrap ((n:Int)-2)=((n-2:Nat):Int):=by rw[w64 (by omega)];omega
  have e1:(((n-1:Nat):Int)).toNat*1=n-1:=by omega
  have e2:(((n-2:Nat):Int)).toNat*1=n-2:=by omega
  have hg1:=Y7 (xs:=ys) (i:=n-1) (by omega)
  have hg2:=Y7 (xs:=ys) (i:=n-2) (by omega)
  have hgz:=W5 (Y7 (xs:=Z1 B32 m W) (i:=j+(n-2)) (by rw[hlen];omega))
  have hdg:=W4 B32 m W (j+(n-2)) (by omega)
  rw[hu2]at hdg
  have hv1b:=g.hv1'
  have hv2b:=g.hv2
  have hu2b:=g.hu2
  have hr:=c.rest
  have hup:=c.up
  have w1:u64.wrap (v1:Int)=v1:=by rw[z1Y];simp only[B32]at hv1b;omega
  have w2:u64.wrap ((r:Int)+v1)=((r+v1:Nat):Int):=by rw[z1Y];simp only[B32]at*;omega
  have wq:0<q→u64.wrap ((q:Int)-1)=((q-1:Nat):Int):=by intro h;rw[z1Y];simp only[B32]at hup;omega
  have w3:u64.wrap (v2:Int)=v2:=by rw[z1Y];simp only[B32]at hv2b;omega
  have w4:u64.wrap (u2:Int)=u2:=by rw[z1Y];simp only[B32]at hu2b;omega
  have w5:(2:Int)^min (Int.toNat 32) u64.bits=4294967296:=rfl
  have w6:u64.wrap ((r:Int)*4294967296)=((r*2^32:Nat):Int):=by rw[z1Y];simp only[B32]at hr;omega
  have w7:X9 BinOp.or u64 ((r*2^32:Nat):Int) (u2:Int)=((r*B32+u2:Nat):Int):=by
   rw[z8P (by simp only[B32]at hr;omega) (by simp only[B32]at hu2b;omega),z2p 32 (by simp only[B32]at hu2b;omega)]
  have hprod:q≤B32+1→q*v2<18446744073709551616:=by
   intro h
   have:q*v2≤4294967297*4294967295:=Nat.mul_le_mul (by simp only[B32]at h;omega) (by simp only[B32]at hv2b;omega)
   omega
  have w8:u64.wrap ((q:Int)*v2)=((q*v2:Nat):Int):=by rw[←Int.natCast_mul,z1Y];have:=hprod hup;omega
  have exitOk: ∀q',q'<B32→(q'=W/B32^j/val B32 ys∨q'=W/B32^j/val B32 ys+1)→_:=hR
  by_cases hq:B32≤q
  · have hpos:0<q:=by simp only[B32]at hq;omega
    by_cases hb:B32≤r+v1
    · obtain⟨k1,k2⟩:=c.last g (.inl hq) hb
      refine zed j n q r _ ys (by simp only[B32]at hq;simp;omega) ?_ ?_ ?_ ?_ hn ?_
      all_goals (try rw[en1,e1,hv1,w1,w2])
      · simp only[B32]at hb;simp;omega
      · omega
      · rw[en1,e1];exact hg1
      · exact J0 _
      · rw[wq hpos];exact hR _ k1 k2
    · have c2:=c.step g (.inl hq) (by omega)
      refine zeN j n q r _ ys (by simp only[B32]at hq;simp;omega) ?_ ?_ ?_ ?_ hn ?_
      · rw[en1,e1,hv1,w1,w2];simp only[B32]at hb;simp;omega
      · rw[en1];omega
      · rw[en1,e1];exact hg1
      · exact J0 _
      · rw[en1,e1,hv1,w1,w2,wq hpos];exact ih (q-1) (by omega) _ c2
  · have t2 : (decide (u64.wrap ((q : Int) * u64.wrap ((ys.getD ((i64.wrap ((n : Int) - 2)).toNat * 1) 0 : Nat) : Int)) >
        X9 BinOp.or u64 (u64.wrap ((r:Int)*2^min (Int.toNat 32) u64.bits)) (u64.wrap (((Z1 B32 m W).getD (j+(i64.wrap ((n:Int)-2)).toNat*1) 0:Nat):Int))))=decide (r*B32+u2<q*v2):=by
      rw[en2,e2,hv2,hdg,w3,w4,w5,w6,w7,w8]
      exact decide_eq_decide.2 (by omega)
    by_cases ht:r*B32+u2<q*v2
    · have hpos : 0 < q := by rcases Nat.eq_zero_or_pos q with h | h
                              · subst h;simp at ht
                              · exact h
      by_cases hb:B32≤r+v1
      · obtain⟨k1,k2⟩:=c.last g (.inr ht) hb
        refine zf2 j n q r _ ys (by simp only[B32]at hq;simp;omega) (by rw[t2];simpa using ht) ?_ (by rw[en2];omega) (by rw[en2,e2];exact hg2) (by rw[en2];omega) (by rw[en2,e2];exact hgz) (by rw[en1];omega) (by rw[en1,e1];exact hg1) (J0 _) hn ?_
        · rw[en1,e1,hv1,w1,w2];simp only[B32]at hb;simp;omega
        · rw[wq hpos];exact hR _ k1 k2
      · have c2:=c.step g (.inr ht) (by omega)
        refine zeQ j n q r _ ys (by simp only[B32]at hq;simp;omega) (by rw[t2];simpa using ht) ?_ (by rw[en2];omega) (by rw[en2,e2];exact hg2) (by rw[en2];omega) (by rw[en2,e2];exact hgz) (by rw[en1];omega) (by rw[en1,e1];exact hg1) (J0 _) hn ?_
        · rw[en1,e1,hv1,w1,w2];simp only[B32]at hb;simp;omega
        · rw[en1,e1,hv1,w1,w2,wq hpos];exact ih (q-1) (by omega) _ c2
    · refine zf5 j n q r _ ys (by simp only[B32]at hq;simp;omega) (by rw[t2];simpa using ht) (by rw[en2];omega) (by rw[en2,e2];exact hg2) (by rw[en2];omega) (by rw[en2,e2];exact hgz) (J0 _) hn ?_
      exact hR q (by omega) (c.done g (by omega) (by omega))
end Go.Fw
