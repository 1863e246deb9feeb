/- A part of the proof that the law returns true for every input: an executor for the model's code, and what functions of the program compute. -/
import Derived.Test.YtcafjpldfnegiaaDoorB11
import Derived.Test.YtcafjpldfnegiaaDoorB15
import Derived.Test.YtcafjpldfnegiaaDoorB16
import Derived.Test.YtcafjpldfnegiaaDoorB18
import Derived.KernelRfl
open Go IntKind
set_option maxRecDepth 10000
namespace Go.Fw
theorem Z7(n:Nat):0<B32^n:=Nat.pow_pos (by decide)
theorem zaH{b:Nat}(hb:0<b)(m n j x:Nat)(hj:j<m)(hx:x<b):(Q7 b m n).set j x=Q7 b m (n-n/b^j%b*b^j+x*b^j):=by
 have hp:0<b^j:=Nat.pow_pos hb
 have hle:n/b^j%b*b^j≤n:=Nat.le_trans (Nat.mul_le_mul_right _ (Nat.mod_le _ _)) (Nat.div_mul_le_self _ _)
 have key:(Q7 b m n)=(Q7 b m (n-n/b^j%b*b^j)).set j (n/b^j%b):=by
  have h0:(n-n/b^j%b*b^j)/b^j%b=0:=by
   have e:n-n/b^j%b*b^j=n%b^j+b*(n/b^j/b)*b^j:=by
    have h1:=Nat.mod_add_div n (b^j)
    have h2:=Nat.mod_add_div (n/b^j) b
    have h3:b^j*(n/b^j)=(n/b^j%b)*b^j+b*(n/b^j/b)*b^j:=by rw[←Nat.add_mul,h2,Nat.mul_comm]
    omega
   rw[e,Nat.add_mul_div_right _ _ hp,Nat.div_eq_of_lt (Nat.mod_lt _ hp),Nat.zero_add,Nat.mul_mod_right]
  have:=z0Y hb m (n-n/b^j%b*b^j) j (n/b^j%b) hj (by rw[h0,Nat.zero_add];exact Nat.mod_lt _ hb)
  rw[h0,Nat.zero_add]at this
  rw[this]
  congr 1;omega
 have h0:(n-n/b^j%b*b^j)/b^j%b=0:=by
  have e:n-n/b^j%b*b^j=n%b^j+b*(n/b^j/b)*b^j:=by
   have h1:=Nat.mod_add_div n (b^j)
   have h2:=Nat.mod_add_div (n/b^j) b
   have h3:b^j*(n/b^j)=(n/b^j%b)*b^j+b*(n/b^j/b)*b^j:=by rw[←Nat.add_mul,h2,Nat.mul_comm]
   omega
  rw[e,Nat.add_mul_div_right _ _ hp,Nat.div_eq_of_lt (Nat.mod_lt _ hp),Nat.zero_add,Nat.mul_mod_right]
 have hs:=z0Y hb m (n-n/b^j%b*b^j) j x hj (by rw[h0,Nat.zero_add];exact hx)
 rw[h0,Nat.zero_add]at hs
 rw[key,List.set_set,hs]
structure Guess(U V v1 v2 top u2 p:Nat):Prop where
 hp:0<p
 hU: ∃ul,ul<p∧U=(top*B32+u2)*p+ul
 hV: ∃vl,vl<p∧V=(v1*B32+v2)*p+vl
 hv1:2147483648≤v1
 hv1':v1<B32
 hv2:v2<B32
 hu2:u2<B32
 hlt:U<V*B32
namespace Guess
variable{U V v1 v2 top u2 p:Nat}(g:Guess U V v1 v2 top u2 p)
include g
theorem vpos:0<V:=by
 obtain⟨vl,_,e⟩:=g.hV
 have h1:=g.hv1
 have hp:=g.hp
 have:0<(v1*B32+v2)*p:=Nat.mul_pos (by simp only[B32];omega) hp
 omega
theorem top_le:top≤v1*B32+(B32-1):=by
 obtain⟨ul,hul,eU⟩:=g.hU
 obtain⟨vl,hvl,eV⟩:=g.hV
 have hlt:=g.hlt
 have hp:=g.hp
 have hv2:=g.hv2
 have h1:top*B32*p≤U:=by rw[eU,Nat.add_mul];omega
 have h2:V<(v1+1)*B32*p:=by
  rw[eV]
  calc (v1*B32+v2)*p+vl<(v1*B32+v2)*p+p:=by omega
   _=(v1*B32+v2+1)*p:=by rw[Nat.add_mul _ 1,Nat.one_mul]
   _≤(v1+1)*B32*p:=Nat.mul_le_mul_right _ (by rw[Nat.add_mul];omega)
 have h3:top*(B32*p)<(v1+1)*B32*(B32*p):=by
  calc top*(B32*p)=top*B32*p:=(Nat.mul_assoc _ _ _).symm
   _≤U:=h1
   _<V*B32:=hlt
   _≤(v1+1)*B32*p*B32:=Nat.mul_le_mul_right _ (by omega)
   _=(v1+1)*B32*(B32*p):=by rw[Nat.mul_assoc ((v1+1)*B32),Nat.mul_comm p]
 have h4:=Nat.lt_of_mul_lt_mul_right h3
 rw[Nat.add_mul]at h4
 simp only[B32]at*;omega
theorem quot_lt:U/V<B32:=by rw[Nat.div_lt_iff_lt_mul g.vpos,Nat.mul_comm];exact g.hlt
theorem quot_le:U/V*(v1*B32+v2)≤top*B32+u2:=by
 obtain⟨ul,hul,eU⟩:=g.hU
 obtain⟨vl,hvl,eV⟩:=g.hV
 have h1:U/V*V≤U:=Nat.div_mul_le_self _ _
 have h2:U/V*(v1*B32+v2)*p<(top*B32+u2+1)*p:=by
  calc U/V*(v1*B32+v2)*p=U/V*((v1*B32+v2)*p):=Nat.mul_assoc _ _ _
   _≤U/V*V:=Nat.mul_le_mul_left _ (by omega)
   _≤U:=h1
   _<(top*B32+u2)*p+p:=by omega
   _=(top*B32+u2+1)*p:=by rw[Nat.add_mul _ 1,Nat.one_mul]
 have:=Nat.lt_of_mul_lt_mul_right h2
 exact Nat.lt_succ_iff.1 this
theorem le_succ{q:Nat}(hq:q<B32)(h:q*(v1*B32+v2)≤top*B32+u2):q≤U/V+1:=by
 obtain⟨ul,hul,eU⟩:=g.hU
 obtain⟨vl,hvl,eV⟩:=g.hV
 have hv1:=g.hv1
 have hqp:q*p≤V:=by
  calc q*p≤(v1*B32+v2)*p:=Nat.mul_le_mul_right _ (by simp only[B32]at*;omega)
   _≤V:=by omega
 have h1:q*V≤U+V:=by
  calc q*V≤q*((v1*B32+v2)*p+p):=Nat.mul_le_mul_left _ (by omega)
   _=q*(v1*B32+v2)*p+q*p:=by rw[Nat.mul_add,Nat.mul_assoc]
   _≤(top*B32+u2)*p+V:=Nat.add_le_add (Nat.mul_le_mul_right _ h) hqp
   _≤U+V:=by omega
 cases q with
 |zero=>exact Nat.zero_le _
 |succ q=>
  have h2:q*V≤U:=by rw[Nat.succ_mul]at h1;omega
  exact Nat.succ_le_succ ((Nat.le_div_iff_mul_le g.vpos).2 h2)
end Guess
structure Corr(U V v1 v2 top u2 q r:Nat):Prop where
 eq:q*v1+r=top
 le:U/V≤q
 up:q≤B32+1
 rest:r<B32
namespace Corr
variable{U V v1 v2 top u2 p q r:Nat}
theorem start(g:Guess U V v1 v2 top u2 p):Corr U V v1 v2 top u2 (top/v1) (top%v1):=by
 have h1:=g.hv1
 have ht:=g.top_le
 have hle:U/V≤top/v1:=by
  rw[Nat.le_div_iff_mul_le (by omega)]
  have:=g.quot_le
  have h2:U/V*v1*B32<(top+1)*B32:=by
   calc U/V*v1*B32=U/V*(v1*B32):=Nat.mul_assoc _ _ _
    _≤U/V*(v1*B32+v2):=Nat.mul_le_mul_left _ (by omega)
    _≤top*B32+u2:=this
    _<(top+1)*B32:=by rw[Nat.add_mul];have:=g.hu2;omega
  have:=Nat.lt_of_mul_lt_mul_right h2
  exact Nat.lt_succ_iff.1 this
 refine⟨?_,hle,?_,?_⟩
 · rw[Nat.mul_comm];exact Nat.div_add_mod _ _
 · rw[←Nat.lt_succ_iff,Nat.div_lt_iff_lt_mul (by omega)]
   simp only[B32]at*;omega
 · have:=Nat.mod_lt top (by omega:0<v1)
   have:=g.hv1'
   omega
theorem done(g:Guess U V v1 v2 top u2 p)(c:Corr U V v1 v2 top u2 q r)(h1:q<B32)(h2:q*v2≤r*B32+u2):q=U/V∨q=U/V+1:=by
 have h3:q*(v1*B32+v2)≤top*B32+u2:=by
  have e1:top*B32=q*v1*B32+r*B32:=by rw[←c.eq,Nat.add_mul]
  rw[e1,Nat.mul_add,←Nat.mul_assoc];omega
 have k1:=g.le_succ h1 h3
 have k2:=c.le
 generalize U/V=Q at*
 omega
theorem pred_le(g:Guess U V v1 v2 top u2 p)(c:Corr U V v1 v2 top u2 q r)(h:B32≤q∨r*B32+u2<q*v2):U/V<q:=by
 rcases h with h|h
 · exact Nat.lt_of_lt_of_le g.quot_lt h
 · have hq:=g.quot_le
   have h3:top*B32+u2<q*(v1*B32+v2):=by
    have e1:top*B32=q*v1*B32+r*B32:=by rw[←c.eq,Nat.add_mul]
    rw[e1,Nat.mul_add,←Nat.mul_assoc]
    rw[Nat.add_assoc]
    exact Nat.add_lt_add_left h _
   have h4: ∀k:Nat,U/V*k≤top*B32+u2→top*B32+u2<q*k→U/V<q:=fun k a b=>Nat.lt_of_mul_lt_mul_right (Nat.lt_of_le_of_lt a b)
   exact h4 _ hq h3
theorem step(g:Guess U V v1 v2 top u2 p)(c:Corr U V v1 v2 top u2 q r)(h:B32≤q∨r*B32+u2<q*v2)(hr:r+v1<B32):Corr U V v1 v2 top u2 (q-1) (r+v1):=by
 have hq:=c.pred_le g h
 have e:=c.eq
 have up:=c.up
 refine⟨?_,Nat.le_sub_one_of_lt hq,by omega,hr⟩
 have hq1:1≤q:=Nat.lt_of_le_of_lt (Nat.zero_le _) hq
 obtain⟨q',rfl⟩: ∃q',q=q'+1:=⟨q-1,by omega⟩
 rw[Nat.add_mul,Nat.one_mul]at e
 simp only[Nat.add_sub_cancel]
 omega
theorem last(g:Guess U V v1 v2 top u2 p)(c:Corr U V v1 v2 top u2 q r)(h:B32≤q∨r*B32+u2<q*v2)(hr:B32≤r+v1):q-1<B32∧(q-1=U/V∨q-1=U/V+1):=by
 have hq:=c.pred_le g h
 have e:=c.eq
 have ht:=g.top_le
 have hu:=c.up
 have hv2:=g.hv2
 have hlt:q≤B32:=by
  rcases Nat.lt_or_ge q (B32+1)with h|h
  · omega
  · have:q=B32+1:=by omega
    subst this
    rw[Nat.add_mul,Nat.one_mul,Nat.mul_comm B32]at e
    omega
 have hls: ∀q,q<B32→q*(v1*B32+v2)≤top*B32+u2→q≤U/V+1:=fun q a b=>g.le_succ a b
 clear g c
 generalize U/V=Q at*
 obtain⟨q',rfl⟩: ∃q',q=q'+1:=⟨q-1,by omega⟩
 refine⟨by omega,?_⟩
 simp only[Nat.add_sub_cancel]
 have hq':q'<B32:=by omega
 have h2:q'*v2≤(r+v1)*B32+u2:=by
  calc q'*v2≤B32*B32:=Nat.mul_le_mul (by omega) (by omega)
   _≤(r+v1)*B32:=Nat.mul_le_mul_right _ hr
   _≤_:=Nat.le_add_right _ _
 have h3:q'*(v1*B32+v2)≤top*B32+u2:=by
  rw[Nat.add_mul,Nat.one_mul]at e
  rw[←e,Nat.mul_add,←Nat.mul_assoc]
  have:(q'*v1+v1+r)*B32=q'*v1*B32+(r+v1)*B32:=by
   rw[←Nat.add_mul];congr 1;omega
  omega
 have:=hls q' hq' h3
 omega
end Corr
theorem z72 (W Wi q vi x P Pj c b d s c2 b2 new : Nat) (hinv : Wi + q * vi * Pj = W + (c + b) * P)
    (hP: ∃Pi,P=Pj*Pi) (hs:c+q*x=s+B32*c2) (hn:new+s+b=d+b2*B32) (hd:d*P≤Wi) (Pi:Nat) (hPi:P=Pj*Pi):
    (Wi-d*P+new*P)+q*(vi+Pi*x)*Pj=W+(c2+b2)*(P*B32):=by
 have e1:q*(vi+Pi*x)*Pj=q*vi*Pj+q*x*P:=by
  rw[Nat.mul_add,Nat.add_mul,hPi]
  congr 1
  rw[←Nat.mul_assoc q,Nat.mul_assoc _ _ Pj,Nat.mul_assoc q Pi,Nat.mul_comm Pi (x*Pj),Nat.mul_assoc x,←Nat.mul_assoc q]
 have e2:(c2+b2)*(P*B32)=B32*c2*P+b2*B32*P:=by
  rw[Nat.add_mul];congr 1<;>(rw[Nat.mul_comm P,←Nat.mul_assoc];try rw[Nat.mul_comm c2])
 have e3:(c+q*x)*P=(s+B32*c2)*P:=by rw[hs]
 have e4:(new+s+b)*P=(d+b2*B32)*P:=by rw[hn]
 rw[e1,e2]
 simp only[Nat.add_mul]at*
 omega
set_option maxRecDepth 100000
theorem z9H(j n:Nat)(zs ys:List Nat)(o0:(0:Int)≤n∧(n:Int)<(↑(n+1):Int))(o1:(own (j0 zs))[j+(n:Int).toNat*1]?=some (.cv (.lit (.int .u32 ↑(zs.getD (j+(n:Int).toNat*1) 0)))))(o4:(0:Int)≤i64.wrap ((n:Int)-1)∧i64.wrap ((n:Int)-1)<(↑(n+1):Int))(o5:(own (j0 zs))[j+(i64.wrap ((n:Int)-1)).toNat*1]?=some (.cv (.lit (.int .u32 (↑(zs.getD (j+(i64.wrap ((n:Int)-1)).toNat*1) 0):Int)))))(o7:(0:Int)≤i64.wrap ((n:Int)-1)∧i64.wrap ((n:Int)-1)<(n:Int))(o8:(j0 ys)[(i64.wrap ((n:Int)-1)).toNat*1]?=some (.lit (.int .u32 (↑(ys.getD ((i64.wrap ((n:Int)-1)).toNat*1) 0):Int))))(o10:u64.wrap (↑(ys.getD ((i64.wrap ((n:Int)-1)).toNat*1) 0):Int)≠0)(o11:(0:Int)≤i64.wrap ((n:Int)-1)∧i64.wrap ((n:Int)-1)<(n:Int))(o12:(j0 ys)[(i64.wrap ((n:Int)-1)).toNat*1]?=some (.lit (.int .u32 (↑(ys.getD ((i64.wrap ((n:Int)-1)).toNat*1) 0):Int))))(o14:u64.wrap (↑(ys.getD ((i64.wrap ((n:Int)-1)).toNat*1) 0):Int)≠0)(o15:CvL (own (j0 zs))){Q:MV→List Blk→Prop}(hR:Ok P 85 (loopHead P 85 0) ⟨J6 159 [(0,.sl 0 j (n+1) 1),(1,.cv (.lst n (j0 ys))),(5,.cv (.lit (.int .i64 (n:Int)))),(7,.cv (.lit (.int .u64 (u64.wrap ((Y2 BinOp.or u64 (u64.wrap (u64.wrap (↑(zs.getD (j+(n:Int).toNat*1) 0):Int)*4294967296)) (u64.wrap (↑(zs.getD (j+(i64.wrap ((n:Int)-1)).toNat*1) 0):Int))).tdiv (u64.wrap (↑(ys.getD ((i64.wrap ((n:Int)-1)).toNat*1) 0):Int))))))),(8,.cv (.lit (.int .u64 ((Y2 BinOp.or u64 (u64.wrap (u64.wrap (↑(zs.getD (j+(n:Int).toNat*1) 0):Int)*4294967296)) (u64.wrap (↑(zs.getD (j+(i64.wrap ((n:Int)-1)).toNat*1) 0):Int))).tmod (u64.wrap (↑(ys.getD ((i64.wrap ((n:Int)-1)).toNat*1) 0):Int))))))],[some (own (j0 zs))]⟩ (.lent [some (own (j0 zs))].length Q)):z43 P 85 [some (own (j0 zs))] [.sl 0 j (n+1) 1,.cv (.lst n (j0 ys))] Q:=
 zbM (keep:=[0,1,5,7,8]) (σ:=[0]) (ors:=[(7,.e (.cv (.lit (.int .u32 ↑(zs.getD (j+(n:Int).toNat*1) 0))))),(14,.e (.cv (.lit (.int .u32 (↑(zs.getD (j+(i64.wrap ((n:Int)-1)).toNat*1) 0):Int))))),(23,.r (.lit (.int .u32 (↑(ys.getD ((i64.wrap ((n:Int)-1)).toNat*1) 0):Int)))),(31,.r (.lit (.int .u32 (↑(ys.getD ((i64.wrap ((n:Int)-1)).toNat*1) 0):Int)))),(36,.stop)]) (by kernel_rfl) rfl (.cons o0 (.cons o1 (.cons (eqn 1) (.cons (nn 32) (.cons o4 (.cons o5 (.cons (eqn 1) (.cons o7 (.cons o8 (.cons (eqn 1) (.cons o10 (.cons o11 (.cons o12 (.cons (eqn 1) (.cons o14 (.cons o15 .nil)))))))))))))))) rfl hR
theorem z8r(j n q r:Nat)(zs ys:List Nat)(h1:decide ((q:Int)≥4294967296)=true)(h2:decide (u64.wrap ((r:Int)+u64.wrap (↑(ys.getD ((i64.wrap ((n:Int)-1)).toNat*1) 0):Int))≥4294967296)=true)(o1:(0:Int)≤i64.wrap ((n:Int)-1)∧i64.wrap ((n:Int)-1)<(n:Int))(o2:(j0 ys)[(i64.wrap ((n:Int)-1)).toNat*1]?=some (.lit (.int .u32 (↑(ys.getD ((i64.wrap ((n:Int)-1)).toNat*1) 0):Int))))(o5:CvL (own (j0 zs))){R:Goal}(hn:j7 R.n [0]=true)(hR:Ok P 85 (loopHead P 85 1) ⟨J6 159 [(0,.sl 0 j (n+1) 1),(1,.cv (.lst n (j0 ys))),(5,.cv (.lit (.int .i64 (n:Int)))),(7,.cv (.lit (.int .u64 (u64.wrap ((q:Int)-1))))),(9,.cv (.lit (.int .u64 0))),(10,.cv (.lit (.int .u32 0))),(81,.cv (.lst n (j0 ys))),(82,.cv (.lit (.int .i64 (n:Int)))),(83,.cv (.lit (.int .i64 0)))],[some (own (j0 zs))]⟩ R):Ok P 85 (loopHead P 85 0) ⟨J6 159 [(0,.sl 0 j (n+1) 1),(1,.cv (.lst n (j0 ys))),(5,.cv (.lit (.int .i64 (n:Int)))),(7,.cv (.lit (.int .u64 (q:Int)))),(8,.cv (.lit (.int .u64 (r:Int))))],[some (own (j0 zs))]⟩ R:=
 z4j (m:=1) (keep:=[0,1,5,7,9,10,81,82,83]) (σ:=[0]) (.b 3 h1 (.c o1 (.l 32 o2 (.c (eqn 1) (.b 38 h2 (.o 44 .stop .nil)))))) (by kernel_rfl) rfl hn hR (.cons o5 .nil)
theorem z8t(j n q r:Nat)(zs ys:List Nat)(h1:decide ((q:Int)≥4294967296)=true)(h2:decide (u64.wrap ((r:Int)+u64.wrap (↑(ys.getD ((i64.wrap ((n:Int)-1)).toNat*1) 0):Int))≥4294967296)=false)(o1:(0:Int)≤i64.wrap ((n:Int)-1)∧i64.wrap ((n:Int)-1)<(n:Int))(o2:(j0 ys)[(i64.wrap ((n:Int)-1)).toNat*1]?=some (.lit (.int .u32 (↑(ys.getD ((i64.wrap ((n:Int)-1)).toNat*1) 0):Int))))(o5:CvL (own (j0 zs))){R:Goal}(hn:j7 R.n [0]=true)(hR:Ok P 85 (loopHead P 85 0) ⟨J6 159 [(0,.sl 0 j (n+1) 1),(1,.cv (.lst n (j0 ys))),(5,.cv (.lit (.int .i64 (n:Int)))),(7,.cv (.lit (.int .u64 (u64.wrap ((q:Int)-1))))),(8,.cv (.lit (.int .u64 (u64.wrap ((r:Int)+u64.wrap (↑(ys.getD ((i64.wrap ((n:Int)-1)).toNat*1) 0):Int))))))],[some (own (j0 zs))]⟩ R):Ok P 85 (loopHead P 85 0) ⟨J6 159 [(0,.sl 0 j (n+1) 1),(1,.cv (.lst n (j0 ys))),(5,.cv (.lit (.int .i64 (n:Int)))),(7,.cv (.lit (.int .u64 (q:Int)))),(8,.cv (.lit (.int .u64 (r:Int))))],[some (own (j0 zs))]⟩ R:=
 z4j (m:=1) (keep:=[0,1,5,7,8]) (σ:=[0]) (.b 3 h1 (.c o1 (.l 32 o2 (.c (eqn 1) (.b 38 h2 (.o 39 .stop .nil)))))) (by kernel_rfl) rfl hn hR (.cons o5 .nil)
theorem z8x(j n q r:Nat)(zs ys:List Nat)(h1:decide ((q:Int)≥4294967296)=false)(h2:decide (u64.wrap ((q:Int)*u64.wrap (↑(ys.getD ((i64.wrap ((n:Int)-2)).toNat*1) 0):Int))>Y2 BinOp.or u64 (u64.wrap ((r:Int)*2^min (Int.toNat (32:Int)) u64.bits)) (u64.wrap (↑(zs.getD (j+(i64.wrap ((n:Int)-2)).toNat*1) 0):Int)))=true)(h3:decide (u64.wrap ((r:Int)+u64.wrap (↑(ys.getD ((i64.wrap ((n:Int)-1)).toNat*1) 0):Int))≥4294967296)=true)(o1:(0:Int)≤i64.wrap ((n:Int)-2)∧i64.wrap ((n:Int)-2)<(n:Int))(o2:(j0 ys)[(i64.wrap ((n:Int)-2)).toNat*1]?=some (.lit (.int .u32 (↑(ys.getD ((i64.wrap ((n:Int)-2)).toNat*1) 0):Int))))(o5:(0:Int)≤i64.wrap ((n:Int)-2)∧i64.wrap ((n:Int)-2)<(↑(n+1):Int))(o6:(own (j0 zs))[j+(i64.wrap ((n:Int)-2)).toNat*1]?=some (.cv (.lit (.int .u32 (↑(zs.getD (j+(i64.wrap ((n:Int)-2)).toNat*1) 0):Int)))))(o9:(0:Int)≤i64.wrap ((n:Int)-1)∧i64.wrap ((n:Int)-1)<(n:Int))(o10:(j0 ys)[(i64.wrap ((n:Int)-1)).toNat*1]?=some (.lit (.int .u32 (↑(ys.getD ((i64.wrap ((n:Int)-1)).toNat*1) 0):Int))))(o13:CvL (own (j0 zs))){R:Goal}(hn:j7 R.n [0]=true)(hR:Ok P 85 (loopHead P 85 1) ⟨J6 159 [(0,.sl 0 j (n+1) 1),(1,.cv (.lst n (j0 ys))),(5,.cv (.lit (.int .i64 (n:Int)))),(7,.cv (.lit (.int .u64 (u64.wrap ((q:Int)-1))))),(9,.cv (.lit (.int .u64 0))),(10,.cv (.lit (.int .u32 0))),(81,.cv (.lst n (j0 ys))),(82,.cv (.lit (.int .i64 (n:Int)))),(83,.cv (.lit (.int .i64 0)))],[some (own (j0 zs))]⟩ R):Ok P 85 (loopHead P 85 0) ⟨J6 159 [(0,.sl 0 j (n+1) 1),(1,.cv (.lst n (j0 ys))),(5,.cv (.lit (.int .i64 (n:Int)))),(7,.cv (.lit (.int .u64 (q:Int)))),(8,.cv (.lit (.int .u64 (r:Int))))],[some (own (j0 zs))]⟩ R:=
 z4j (m:=1) (keep:=[0,1,5,7,9,10,81,82,83]) (σ:=[0]) (.b 3 h1 (.c o1 (.l 9 o2 (.c (eqn 1) (.c (nn 32) (.c o5 (.e 18 o6 (.c (eqn 1) (.b 23 h2 (.c o9 (.l 32 o10 (.c (eqn 1) (.b 38 h3 (.o 44 .stop .nil)))))))))))))) (by kernel_rfl) rfl hn hR (.cons o13 .nil)
theorem z9u(j n q r:Nat)(zs ys:List Nat)(h1:decide ((q:Int)≥4294967296)=false)(h2:decide (u64.wrap ((q:Int)*u64.wrap (↑(ys.getD ((i64.wrap ((n:Int)-2)).toNat*1) 0):Int))>Y2 BinOp.or u64 (u64.wrap ((r:Int)*2^min (Int.toNat (32:Int)) u64.bits)) (u64.wrap (↑(zs.getD (j+(i64.wrap ((n:Int)-2)).toNat*1) 0):Int)))=true)(h3:decide (u64.wrap ((r:Int)+u64.wrap (↑(ys.getD ((i64.wrap ((n:Int)-1)).toNat*1) 0):Int))≥4294967296)=false)(o1:(0:Int)≤i64.wrap ((n:Int)-2)∧i64.wrap ((n:Int)-2)<(n:Int))(o2:(j0 ys)[(i64.wrap ((n:Int)-2)).toNat*1]?=some (.lit (.int .u32 (↑(ys.getD ((i64.wrap ((n:Int)-2)).toNat*1) 0):Int))))(o5:(0:Int)≤i64.wrap ((n:Int)-2)∧i64.wrap ((n:Int)-2)<(↑(n+1):Int))(o6:(own (j0 zs))[j+(i64.wrap ((n:Int)-2)).toNat*1]?=some (.cv (.lit (.int .u32 (↑(zs.getD (j+(i64.wrap ((n:Int)-2)).toNat*1) 0):Int)))))(o9:(0:Int)≤i64.wrap ((n:Int)-1)∧i64.wrap ((n:Int)-1)<(n:Int))(o10:(j0 ys)[(i64.wrap ((n:Int)-1)).toNat*1]?=some (.lit (.int .u32 (↑(ys.getD ((i64.wrap ((n:Int)-1)).toNat*1) 0):Int))))(o13:CvL (own (j0 zs))){R:Goal}(hn:j7 R.n [0]=true)(hR:Ok P 85 (loopHead P 85 0) ⟨J6 159 [(0,.sl 0 j (n+1) 1),(1,.cv (.lst n (j0 ys))),(5,.cv (.lit (.int .i64 (n:Int)))),(7,.cv (.lit (.int .u64 (u64.wrap ((q:Int)-1))))),(8,.cv (.lit (.int .u64 (u64.wrap ((r:Int)+u64.wrap (↑(ys.getD ((i64.wrap ((n:Int)-1)).toNat*1) 0):Int))))))],[some (own (j0 zs))]⟩ R):Ok P 85 (loopHead P 85 0) ⟨J6 159 [(0,.sl 0 j (n+1) 1),(1,.cv (.lst n (j0 ys))),(5,.cv (.lit (.int .i64 (n:Int)))),(7,.cv (.lit (.int .u64 (q:Int)))),(8,.cv (.lit (.int .u64 (r:Int))))],[some (own (j0 zs))]⟩ R:=
 z4j (m:=1) (keep:=[0,1,5,7,8]) (σ:=[0]) (.b 3 h1 (.c o1 (.l 9 o2 (.c (eqn 1) (.c (nn 32) (.c o5 (.e 18 o6 (.c (eqn 1) (.b 23 h2 (.c o9 (.l 32 o10 (.c (eqn 1) (.b 38 h3 (.o 39 .stop .nil)))))))))))))) (by kernel_rfl) rfl hn hR (.cons o13 .nil)
theorem z9D(j n q r:Nat)(zs ys:List Nat)(h1:decide ((q:Int)≥4294967296)=false)(h2:decide (u64.wrap ((q:Int)*u64.wrap (↑(ys.getD ((i64.wrap ((n:Int)-2)).toNat*1) 0):Int))>Y2 BinOp.or u64 (u64.wrap ((r:Int)*2^min (Int.toNat (32:Int)) u64.bits)) (u64.wrap (↑(zs.getD (j+(i64.wrap ((n:Int)-2)).toNat*1) 0):Int)))=false)(o1:(0:Int)≤i64.wrap ((n:Int)-2)∧i64.wrap ((n:Int)-2)<(n:Int))(o2:(j0 ys)[(i64.wrap ((n:Int)-2)).toNat*1]?=some (.lit (.int .u32 (↑(ys.getD ((i64.wrap ((n:Int)-2)).toNat*1) 0):Int))))(o5:(0:Int)≤i64.wrap ((n:Int)-2)∧i64.wrap ((n:Int)-2)<(↑(n+1):Int))(o6:(own (j0 zs))[j+(i64.wrap ((n:Int)-2)).toNat*1]?=some (.cv (.lit (.int .u32 (↑(zs.getD (j+(i64.wrap ((n:Int)-2)).toNat*1) 0):Int)))))(o9:CvL (own (j0 zs))){R:Goal}(hn:j7 R.n [0]=true)(hR:Ok P 85 (loopHead P 85 1) ⟨J6 159 [(0,.sl 0 j (n+1) 1),(1,.cv (.lst n (j0 ys))),(5,.cv (.lit (.int .i64 (n:Int)))),(7,.cv (.lit (.int .u64 (q:Int)))),(9,.cv (.lit (.int .u64 0))),(10,.cv (.lit (.int .u32 0))),(81,.cv (.lst n (j0 ys))),(82,.cv (.lit (.int .i64 (n:Int)))),(83,.cv (.lit (.int .i64 0)))],[some (own (j0 zs))]⟩ R):Ok P 85 (loopHead P 85 0) ⟨J6 159 [(0,.sl 0 j (n+1) 1),(1,.cv (.lst n (j0 ys))),(5,.cv (.lit (.int .i64 (n:Int)))),(7,.cv (.lit (.int .u64 (q:Int)))),(8,.cv (.lit (.int .u64 (r:Int))))],[some (own (j0 zs))]⟩ R:=
 z4j (m:=1) (keep:=[0,1,5,7,9,10,81,82,83]) (σ:=[0]) (.b 3 h1 (.c o1 (.l 9 o2 (.c (eqn 1) (.c (nn 32) (.c o5 (.e 18 o6 (.c (eqn 1) (.b 23 h2 (.o 29 .stop .nil)))))))))) (by kernel_rfl) rfl hn hR (.cons o9 .nil)
theorem z8j(j n q c b i:Nat)(zs ys:List Nat)(h1:decide ((i:Int)<n)=true)(a:(0:Int)≤(↑(zs.getD (j+(i:Int).toNat*1) 0):Int)∧(↑(zs.getD (j+(i:Int).toNat*1) 0):Int)<4294967296)(d:(0:Int)≤u32.wrap (u64.wrap ((c:Int)+u64.wrap ((q:Int)*u64.wrap (↑(ys.getD ((i:Int).toNat*1) 0):Int))))∧u32.wrap (u64.wrap ((c:Int)+u64.wrap ((q:Int)*u64.wrap (↑(ys.getD ((i:Int).toNat*1) 0):Int))))<4294967296)(f:(0:Int)≤b∧(b:Int)≤1)(o1:(0:Int)≤i∧(i:Int)<n)(o2:(j0 ys)[(i:Int).toNat*1]?=some (.lit (.int .u32 ↑(ys.getD ((i:Int).toNat*1) 0))))(o4:(0:Int)≤i∧(i:Int)<(↑(n+1):Int))(o5:(own (j0 zs))[j+(i:Int).toNat*1]?=some (.cv (.lit (.int .u32 ↑(zs.getD (j+(i:Int).toNat*1) 0)))))(o8:(0:Int)≤i∧(i:Int)<(↑(n+1):Int))(o9:j+(i:Int).toNat*1+1≤(own (j0 zs)).length)(o11:CvL (j4 (own (j0 zs)) (j+(i:Int).toNat*1) [.cv (.lit (.int .u32 (((↑(zs.getD (j+(i:Int).toNat*1) 0):Int)-u32.wrap (u64.wrap ((c:Int)+u64.wrap ((q:Int)*u64.wrap (↑(ys.getD ((i:Int).toNat*1) 0):Int))))-(b:Int))%4294967296)))])){R:Goal}(hn:j7 R.n [0]=true)(hR:Ok P 85 (loopHead P 85 1) ⟨J6 159 [(0,.sl 0 j (n+1) 1),(1,.cv (.lst n (j0 ys))),(5,.cv (.lit (.int .i64 (n:Int)))),(7,.cv (.lit (.int .u64 (q:Int)))),(9,.cv (.lit (.int .u64 ((u64.wrap ((c:Int)+u64.wrap ((q:Int)*u64.wrap (↑(ys.getD ((i:Int).toNat*1) 0):Int)))).fdiv 4294967296)))),(10,.cv (.lit (.int .u32 (bor (↑(zs.getD (j+(i:Int).toNat*1) 0):Int) (u32.wrap (u64.wrap ((c:Int)+u64.wrap ((q:Int)*u64.wrap (↑(ys.getD ((i:Int).toNat*1) 0):Int))))) (b:Int))))),(81,.cv (.lst n (j0 ys))),(82,.cv (.lit (.int .i64 (n:Int)))),(83,.cv (.lit (.int .i64 (i64.wrap ((i:Int)+1)))))],[some (j4 (own (j0 zs)) (j+(i:Int).toNat*1) [.cv (.lit (.int .u32 (((↑(zs.getD (j+(i:Int).toNat*1) 0):Int)-u32.wrap (u64.wrap ((c:Int)+u64.wrap ((q:Int)*u64.wrap (↑(ys.getD ((i:Int).toNat*1) 0):Int))))-(b:Int))%4294967296)))])]⟩ R):Ok P 85 (loopHead P 85 1) ⟨J6 159 [(0,.sl 0 j (n+1) 1),(1,.cv (.lst n (j0 ys))),(5,.cv (.lit (.int .i64 (n:Int)))),(7,.cv (.lit (.int .u64 (q:Int)))),(9,.cv (.lit (.int .u64 (c:Int)))),(10,.cv (.lit (.int .u32 (b:Int)))),(81,.cv (.lst n (j0 ys))),(82,.cv (.lit (.int .i64 (n:Int)))),(83,.cv (.lit (.int .i64 (i:Int))))],[some (own (j0 zs))]⟩ R:=
 z4j (m:=1) (keep:=[0,1,5,7,9,10,81,82,83]) (σ:=[0]) (.b 2 h1 (.c o1 (.l 5 o2 (.c (eqn 1) (.c o4 (.e 20 o5 (.c (eqn 1) (.c (z8S ((↑(zs.getD (j+(i:Int).toNat*1) 0):Int)) (u32.wrap (u64.wrap ((c:Int)+u64.wrap ((q:Int)*u64.wrap (↑(ys.getD ((i:Int).toNat*1) 0):Int))))) (b:Int) a d f) (.c o8 (.c o9 (.c (nn 32) (.o 24 (.r (.tup [.lit (.int .u32 (((↑(zs.getD (j+(i:Int).toNat*1) 0):Int)-u32.wrap (u64.wrap ((c:Int)+u64.wrap ((q:Int)*u64.wrap (↑(ys.getD ((i:Int).toNat*1) 0):Int))))-(b:Int))%4294967296)),.lit (.int .u32 (bor (↑(zs.getD (j+(i:Int).toNat*1) 0):Int) (u32.wrap (u64.wrap ((c:Int)+u64.wrap ((q:Int)*u64.wrap (↑(ys.getD ((i:Int).toNat*1) 0):Int))))) (b:Int)))])) (.o 36 .stop .nil))))))))))))) (by kernel_rfl) rfl hn hR (.cons o11 .nil)
theorem z98(j n q c b i:Nat)(zs ys:List Nat)(h1:decide ((i:Int)<n)=false)(h2:(bor (↑(zs.getD (j+(n:Int).toNat*1) 0):Int) (u32.wrap (c:Int)) (b:Int) != 0)=true)(a:(0:Int)≤(↑(zs.getD (j+(n:Int).toNat*1) 0):Int)∧(↑(zs.getD (j+(n:Int).toNat*1) 0):Int)<4294967296)(d:(0:Int)≤u32.wrap (c:Int)∧u32.wrap (c:Int)<4294967296)(f:(0:Int)≤b∧(b:Int)≤1)(o1:(0:Int)≤n∧(n:Int)<(↑(n+1):Int))(o2:(own (j0 zs))[j+(n:Int).toNat*1]?=some (.cv (.lit (.int .u32 ↑(zs.getD (j+(n:Int).toNat*1) 0)))))(o5:(0:Int)≤n∧(n:Int)<(↑(n+1):Int))(o6:j+(n:Int).toNat*1+1≤(own (j0 zs)).length)(o8:CvL (j4 (own (j0 zs)) (j+(n:Int).toNat*1) [.cv (.lit (.int .u32 (((↑(zs.getD (j+(n:Int).toNat*1) 0):Int)-u32.wrap (c:Int)-b)%4294967296)))])){R:Goal}(hn:j7 R.n [0]=true)(hR:Ok P 85 (loopHead P 85 2) ⟨J6 159 [(0,.sl 0 j (n+1) 1),(5,.cv (.lit (.int .i64 (n:Int)))),(7,.cv (.lit (.int .u64 (u64.wrap ((q:Int)-1))))),(13,.cv (.lit (.int .u32 0))),(129,.cv (.lst n (j0 ys))),(130,.cv (.lit (.int .i64 (n:Int)))),(131,.cv (.lit (.int .i64 0)))],[some (j4 (own (j0 zs)) (j+(n:Int).toNat*1) [.cv (.lit (.int .u32 (((↑(zs.getD (j+(n:Int).toNat*1) 0):Int)-u32.wrap (c:Int)-b)%4294967296)))])]⟩ R):Ok P 85 (loopHead P 85 1) ⟨J6 159 [(0,.sl 0 j (n+1) 1),(1,.cv (.lst n (j0 ys))),(5,.cv (.lit (.int .i64 (n:Int)))),(7,.cv (.lit (.int .u64 (q:Int)))),(9,.cv (.lit (.int .u64 (c:Int)))),(10,.cv (.lit (.int .u32 (b:Int)))),(81,.cv (.lst n (j0 ys))),(82,.cv (.lit (.int .i64 (n:Int)))),(83,.cv (.lit (.int .i64 (i:Int))))],[some (own (j0 zs))]⟩ R:=
 z4j (m:=1) (keep:=[0,5,7,13,129,130,131]) (σ:=[0]) (.b 2 h1 (.c o1 (.e 8 o2 (.c (eqn 1) (.r 12 (z8S ((↑(zs.getD (j+(n:Int).toNat*1) 0):Int)) (u32.wrap (c:Int)) (b:Int) a d f) (.c o5 (.c o6 (.b 21 h2 (.o 29 .stop .nil))))))))) (by kernel_rfl) rfl hn hR (.cons o8 .nil)
theorem z8E(j n q c b i:Nat)(zs ys:List Nat)(h1:decide ((i:Int)<n)=false)(h2:(bor (↑(zs.getD (j+(n:Int).toNat*1) 0):Int) (u32.wrap (c:Int)) (b:Int) != 0)=false)(d:(0:Int)≤(↑(zs.getD (j+(n:Int).toNat*1) 0):Int)∧(↑(zs.getD (j+(n:Int).toNat*1) 0):Int)<4294967296)(f:(0:Int)≤u32.wrap (c:Int)∧u32.wrap (c:Int)<4294967296)(g:(0:Int)≤b∧(b:Int)≤1)(o1:(0:Int)≤n∧(n:Int)<(↑(n+1):Int))(o2:(own (j0 zs))[j+(n:Int).toNat*1]?=some (.cv (.lit (.int .u32 ↑(zs.getD (j+(n:Int).toNat*1) 0)))))(o5:(0:Int)≤n∧(n:Int)<(↑(n+1):Int))(o6:j+(n:Int).toNat*1+1≤(own (j0 zs)).length)(o9:BlksCv [some (j4 (own (j0 zs)) (j+(n:Int).toNat*1) [.cv (.lit (.int .u32 (((↑(zs.getD (j+(n:Int).toNat*1) 0):Int)-u32.wrap (c:Int)-b)%4294967296)))])]){R:Goal}(hn:R.Lent 1)(hR:R.m (.cv (.lit (.int .u32 (u32.wrap (q:Int))))) [some (j4 (own (j0 zs)) (j+(n:Int).toNat*1) [.cv (.lit (.int .u32 (((↑(zs.getD (j+(n:Int).toNat*1) 0):Int)-u32.wrap (c:Int)-b)%4294967296)))])]):Ok P 85 (loopHead P 85 1) ⟨J6 159 [(0,.sl 0 j (n+1) 1),(1,.cv (.lst n (j0 ys))),(5,.cv (.lit (.int .i64 (n:Int)))),(7,.cv (.lit (.int .u64 (q:Int)))),(9,.cv (.lit (.int .u64 (c:Int)))),(10,.cv (.lit (.int .u32 (b:Int)))),(81,.cv (.lst n (j0 ys))),(82,.cv (.lit (.int .i64 (n:Int)))),(83,.cv (.lit (.int .i64 (i:Int))))],[some (own (j0 zs))]⟩ R:=
 zgG (ors:=[(2,.b false),(8,.e (.cv (.lit (.int .u32 ↑(zs.getD (j+(n:Int).toNat*1) 0))))),(12,.r (.tup [.lit (.int .u32 (((↑(zs.getD (j+(n:Int).toNat*1) 0):Int)-u32.wrap (c:Int)-b)%4294967296)),.lit (.int .u32 (bor (↑(zs.getD (j+(n:Int).toNat*1) 0):Int) (u32.wrap (c:Int)) (b:Int)))])),(21,.b false),(25,.a)]) (by kernel_rfl) (.cons h1 (.cons o1 (.cons o2 (.cons (eqn 1) (.cons (z8S ((↑(zs.getD (j+(n:Int).toNat*1) 0):Int)) (u32.wrap (c:Int)) (b:Int) d f g) (.cons o5 (.cons o6 (.cons h2 (.cons (lq 1 2) (.cons o9 .nil)))))))))) hn hR
theorem z9d(j n q b i:Nat)(zs ys:List Nat)(h1:decide ((i:Int)<n)=true)(a:(0:Int)≤(↑(zs.getD (j+(i:Int).toNat*1) 0):Int)∧(↑(zs.getD (j+(i:Int).toNat*1) 0):Int)<4294967296)(d:(0:Int)≤(↑(ys.getD ((i:Int).toNat*1) 0):Int)∧(↑(ys.getD ((i:Int).toNat*1) 0):Int)<4294967296)(f:(0:Int)≤b∧(b:Int)≤1)(o1:(0:Int)≤i∧(i:Int)<n)(o2:(j0 ys)[(i:Int).toNat*1]?=some (.lit (.int .u32 ↑(ys.getD ((i:Int).toNat*1) 0))))(o4:(0:Int)≤i∧(i:Int)<(↑(n+1):Int))(o5:(own (j0 zs))[j+(i:Int).toNat*1]?=some (.cv (.lit (.int .u32 ↑(zs.getD (j+(i:Int).toNat*1) 0)))))(o8:(0:Int)≤i∧(i:Int)<(↑(n+1):Int))(o9:j+(i:Int).toNat*1+1≤(own (j0 zs)).length)(o10:CvL (j4 (own (j0 zs)) (j+(i:Int).toNat*1) [.cv (.lit (.int .u32 (((↑(zs.getD (j+(i:Int).toNat*1) 0):Int)+(↑(ys.getD ((i:Int).toNat*1) 0):Int)+b)%4294967296)))])){R:Goal}(hn:j7 R.n [0]=true)(hR:Ok P 85 (loopHead P 85 2) ⟨J6 159 [(0,.sl 0 j (n+1) 1),(5,.cv (.lit (.int .i64 (n:Int)))),(7,.cv (.lit (.int .u64 (q:Int)))),(13,.cv (.lit (.int .u32 (((↑(zs.getD (j+(i:Int).toNat*1) 0):Int)+(↑(ys.getD ((i:Int).toNat*1) 0):Int)+b)/(4294967296:Int))))),(129,.cv (.lst n (j0 ys))),(130,.cv (.lit (.int .i64 (n:Int)))),(131,.cv (.lit (.int .i64 (i64.wrap ((i:Int)+1)))))],[some (j4 (own (j0 zs)) (j+(i:Int).toNat*1) [.cv (.lit (.int .u32 (((↑(zs.getD (j+(i:Int).toNat*1) 0):Int)+(↑(ys.getD ((i:Int).toNat*1) 0):Int)+b)%4294967296)))])]⟩ R):Ok P 85 (loopHead P 85 2) ⟨J6 159 [(0,.sl 0 j (n+1) 1),(5,.cv (.lit (.int .i64 (n:Int)))),(7,.cv (.lit (.int .u64 (q:Int)))),(13,.cv (.lit (.int .u32 (b:Int)))),(129,.cv (.lst n (j0 ys))),(130,.cv (.lit (.int .i64 (n:Int)))),(131,.cv (.lit (.int .i64 (i:Int))))],[some (own (j0 zs))]⟩ R:=
 z4j (m:=1) (keep:=[0,5,7,13,129,130,131]) (σ:=[0]) (.b 2 h1 (.c o1 (.l 5 o2 (.c (eqn 1) (.c o4 (.e 13 o5 (.c (eqn 1) (.c (zfg ((↑(zs.getD (j+(i:Int).toNat*1) 0):Int)) ((↑(ys.getD ((i:Int).toNat*1) 0):Int)) (b:Int) a d f) (.c o8 (.c o9 (.o 16 (.r (.tup [.lit (.int .u32 (((↑(zs.getD (j+(i:Int).toNat*1) 0):Int)+(↑(ys.getD ((i:Int).toNat*1) 0):Int)+b)%4294967296)),.lit (.int .u32 (((↑(zs.getD (j+(i:Int).toNat*1) 0):Int)+(↑(ys.getD ((i:Int).toNat*1) 0):Int)+b)/(4294967296:Int)))])) (.o 25 .stop .nil)))))))))))) (by kernel_rfl) rfl hn hR (.cons o10 .nil)
theorem z8s(j n q b i:Nat)(zs ys:List Nat)(h1:decide ((i:Int)<n)=false)(o1:(0:Int)≤n∧(n:Int)<(↑(n+1):Int))(o2:(own (j0 zs))[j+(n:Int).toNat*1]?=some (.cv (.lit (.int .u32 ↑(zs.getD (j+(n:Int).toNat*1) 0)))))(o4:(0:Int)≤n∧(n:Int)<(↑(n+1):Int))(o5:j+(n:Int).toNat*1+1≤(own (j0 zs)).length)(o7:BlksCv [some (j4 (own (j0 zs)) (j+(n:Int).toNat*1) [.cv (.lit (.int .u32 (u32.wrap ((↑(zs.getD (j+(n:Int).toNat*1) 0):Int)+b))))])]){R:Goal}(hn:R.Lent 1)(hR:R.m (.cv (.lit (.int .u32 (u32.wrap (q:Int))))) [some (j4 (own (j0 zs)) (j+(n:Int).toNat*1) [.cv (.lit (.int .u32 (u32.wrap ((↑(zs.getD (j+(n:Int).toNat*1) 0):Int)+b))))])]):Ok P 85 (loopHead P 85 2) ⟨J6 159 [(0,.sl 0 j (n+1) 1),(5,.cv (.lit (.int .i64 (n:Int)))),(7,.cv (.lit (.int .u64 (q:Int)))),(13,.cv (.lit (.int .u32 (b:Int)))),(129,.cv (.lst n (j0 ys))),(130,.cv (.lit (.int .i64 (n:Int)))),(131,.cv (.lit (.int .i64 (i:Int))))],[some (own (j0 zs))]⟩ R:=
 zgG (ors:=[(2,.b false),(6,.e (.cv (.lit (.int .u32 ↑(zs.getD (j+(n:Int).toNat*1) 0))))),(14,.a)]) (by kernel_rfl) (.cons h1 (.cons o1 (.cons o2 (.cons (eqn 1) (.cons o4 (.cons o5 (.cons (lq 1 1) (.cons o7 .nil)))))))) hn hR
end Go.Fw
