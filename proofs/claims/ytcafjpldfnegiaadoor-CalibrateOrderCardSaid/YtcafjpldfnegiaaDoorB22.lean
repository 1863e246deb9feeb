/- A part of the proof that the law returns true for every input: an executor for the model's code, and what functions of the program compute. -/
import Derived.Test.YtcafjpldfnegiaaDoorB03
import Derived.Test.YtcafjpldfnegiaaDoorB11
import Derived.Test.YtcafjpldfnegiaaDoorB15
import Derived.Test.YtcafjpldfnegiaaDoorB16
import Derived.Test.YtcafjpldfnegiaaDoorB18
import Derived.Test.YtcafjpldfnegiaaDoorB19
import Derived.Test.YtcafjpldfnegiaaDoorB21
import Derived.KernelRfl
open Go IntKind
namespace Go.Fw
set_option maxRecDepth 100000
theorem zbX(k nv o m:Nat)(j:Int)(W:Nat)(ys qs:List Nat)(h1:decide (j≥0)=true)(a:(i64.wrap (i64.wrap (j+(nv:Int))+1)-j).toNat=nv+1)(d:ys.length=nv)(e:2≤nv)(f:Dig 4294967296 ys)(g:0+j.toNat*1+nv+1≤o)(i:o<2^40)(l:4294967296≤2*ys.getD (nv-1) 0)(p:W/4294967296^(0+j.toNat*1)<val 4294967296 ys*4294967296)(o1:(0:Int)≤j∧j≤i64.wrap (i64.wrap (j+(nv:Int))+1)∧i64.wrap (i64.wrap (j+(nv:Int))+1)≤(o:Int)∧(j=0∨j<i64.wrap (i64.wrap (j+(nv:Int))+1)))(o3:BlksCv [some (own (j0 (Q7 4294967296 o W))),some (own (j0 (Q7 4294967296 o (W-W/4294967296^(0+j.toNat*1)/val 4294967296 ys*val 4294967296 ys*4294967296^(0+j.toNat*1)))))])(o4:(0:Int)≤j∧j<(m:Int))(o5:0+j.toNat*1+1≤(own (j0 qs)).length)(o6:CvL (own (j0 (Q7 4294967296 o (W-W/4294967296^(0+j.toNat*1)/val 4294967296 ys*val 4294967296 ys*4294967296^(0+j.toNat*1))))))(o7:CvL (j4 (own (j0 qs)) (0+j.toNat*1) [.cv (.lit (.int .u32 ↑(W/4294967296^(0+j.toNat*1)/val 4294967296 ys)))])){R:Goal}(hn:j7 R.n [0,1]=true)(hR:Ok P 75 (loopHead P 75 0) ⟨J6 110 [(8,.cv (.lit (.int .i64 (k:Int)))),(9,.cv (.lst nv (j0 ys))),(10,.sl 0 0 o 1),(11,.cv (.lit (.int .i64 (nv:Int)))),(12,.sl (0+1) 0 m 1),(13,.cv (.lit (.int .i64 (i64.wrap (j-1)))))],[some (own (j0 (Q7 4294967296 o (W-W/4294967296^(0+j.toNat*1)/val 4294967296 ys*val 4294967296 ys*4294967296^(0+j.toNat*1))))),some (j4 (own (j0 qs)) (0+j.toNat*1) [.cv (.lit (.int .u32 ↑(W/4294967296^(0+j.toNat*1)/val 4294967296 ys)))])]⟩ R):Ok P 75 (loopHead P 75 0) ⟨J6 110 [(8,.cv (.lit (.int .i64 (k:Int)))),(9,.cv (.lst nv (j0 ys))),(10,.sl 0 0 o 1),(11,.cv (.lit (.int .i64 (nv:Int)))),(12,.sl 1 0 m 1),(13,.cv (.lit (.int .i64 j)))],[some (own (j0 (Q7 B32 o W))),some (own (j0 qs))]⟩ R:=
 z39 (keep:=[8,9,10,11,12,13]) (σ:=[0,1]) (.b 3 h1 (.c o1 (.c (z7u o W (0+j.toNat*1) ((i64.wrap (i64.wrap (j+(nv:Int))+1)-j).toNat) nv ys a d e f g i l p) (.c o3 (.c o4 (.c o5 (.o 14 (.m [0] (.cv (.lit (.int .u32 ↑(W/4294967296^(0+j.toNat*1)/val 4294967296 ys)))) [some (own (j0 (Q7 B32 o (W-W/B32^(0+j.toNat*1)/val B32 ys*val B32 ys*B32^(0+j.toNat*1)))))]) (.o 20 .stop .nil)))))))) (by kernel_rfl) rfl hn hR (.cons o6 (.cons o7 .nil))
theorem zda(k nv o m:Nat)(j:Int)(W:Nat)(ys qs:List Nat)(h1:decide (j≥0)=false)(o1:(0:Int)≤0∧(0:Int)≤nv∧(nv:Int)≤o∧((0:Int)=0∨(0:Int)<nv))(o2:CvL (own (j0 (Q7 4294967296 o W))))(o3:CvL (own (j0 qs))){R:Goal}(hn:j7 R.n [0,1]=true)(hR:Ok P 75 (loopHead P 75 1) ⟨J6 110 [(8,.cv (.lit (.int .i64 (k:Int)))),(10,.sl 0 0 o 1),(12,.sl (0+1) 0 m 1),(14,.sl 0 0 ((nv:Int)-0).toNat 1),(82,.cv (.lit (.int .i64 (↑((nv:Int)-0).toNat:Int)))),(83,.cv (.lit (.int .i64 0)))],[some (own (j0 (Q7 4294967296 o W))),some (own (j0 qs))]⟩ R):Ok P 75 (loopHead P 75 0) ⟨J6 110 [(8,.cv (.lit (.int .i64 (k:Int)))),(9,.cv (.lst nv (j0 ys))),(10,.sl 0 0 o 1),(11,.cv (.lit (.int .i64 (nv:Int)))),(12,.sl 1 0 m 1),(13,.cv (.lit (.int .i64 j)))],[some (own (j0 (Q7 B32 o W))),some (own (j0 qs))]⟩ R:=
 z39 (keep:=[8,10,12,14,82,83]) (σ:=[0,1]) (.b 3 h1 (.c o1 (.o 11 .stop .nil))) (by kernel_rfl) rfl hn hR (.cons o2 (.cons o3 .nil))
theorem zcq(k nv o m i:Nat)(zs qs:List Nat)(h1:decide ((i:Int)<nv)=true)(o1:(0:Int)≤i64.wrap ((i:Int)+1)∧i64.wrap ((i:Int)+1)<(o:Int))(o2:(own (j0 zs))[0+(i64.wrap ((i:Int)+1)).toNat*1]?=some (.cv (.lit (.int .u32 (↑(zs.getD (0+(i64.wrap ((i:Int)+1)).toNat*1) 0):Int)))))(o5:(0:Int)≤i∧(i:Int)<o)(o6:(own (j0 zs))[0+(i:Int).toNat*1]?=some (.cv (.lit (.int .u32 ↑(zs.getD (0+(i:Int).toNat*1) 0)))))(o8:(0:Int)≤k)(o9:(0:Int)≤i∧(i:Int)<nv)(o10:0+(i:Int).toNat*1+1≤(own (j0 zs)).length)(o11:CvL (j4 (own (j0 zs)) (0+(i:Int).toNat*1) [.cv (.lit (.int .u32 (u32.wrap ((Y2 BinOp.or u64 (u64.wrap (u64.wrap (↑(zs.getD (0+(i64.wrap ((i:Int)+1)).toNat*1) 0):Int)*4294967296)) (u64.wrap (↑(zs.getD (0+(i:Int).toNat*1) 0):Int))).fdiv ((2:Int)^min (k:Int).toNat 64)))))]))(o12:CvL (own (j0 qs))){R:Goal}(hn:j7 R.n [0,1]=true)(hR:Ok P 75 (loopHead P 75 1) ⟨J6 110 [(8,.cv (.lit (.int .i64 (k:Int)))),(10,.sl 0 0 o 1),(12,.sl (0+1) 0 m 1),(14,.sl 0 0 nv 1),(82,.cv (.lit (.int .i64 (nv:Int)))),(83,.cv (.lit (.int .i64 (i64.wrap ((i:Int)+1)))))],[some (j4 (own (j0 zs)) (0+(i:Int).toNat*1) [.cv (.lit (.int .u32 (u32.wrap ((Y2 BinOp.or u64 (u64.wrap (u64.wrap (↑(zs.getD (0+(i64.wrap ((i:Int)+1)).toNat*1) 0):Int)*4294967296)) (u64.wrap (↑(zs.getD (0+(i:Int).toNat*1) 0):Int))).fdiv ((2:Int)^min (k:Int).toNat 64)))))]),some (own (j0 qs))]⟩ R):Ok P 75 (loopHead P 75 1) ⟨J6 110 [(8,.cv (.lit (.int .i64 (k:Int)))),(10,.sl 0 0 o 1),(12,.sl 1 0 m 1),(14,.sl 0 0 nv 1),(82,.cv (.lit (.int .i64 (nv:Int)))),(83,.cv (.lit (.int .i64 (i:Int))))],[some (own (j0 zs)),some (own (j0 qs))]⟩ R:=
 z39 (keep:=[8,10,12,14,82,83]) (σ:=[0,1]) (.b 2 h1 (.c o1 (.e 11 o2 (.c (eqn 1) (.c (nn 32) (.c o5 (.e 17 o6 (.c (eqn 1) (.c o8 (.c o9 (.c o10 (.o 27 .stop .nil)))))))))))) (by kernel_rfl) rfl hn hR (.cons o11 (.cons o12 .nil))
theorem zc1(k nv o m i:Nat)(zs qs:List Nat)(h1:decide ((i:Int)<nv)=false)(a:m=(List.take m qs).length)(d:Dig 4294967296 (List.take m qs))(e:(List.take m qs).length<2^62)(f:nv=(List.take nv zs).length)(g:Dig 4294967296 (List.take nv zs))(j:(List.take nv zs).length<2^62)(o2:List.take (m*1) (List.drop 0 (own (j0 qs)))=List.map MV.cv (j0 (List.take m qs)))(o4:List.take (nv*1) (List.drop 0 (own (j0 zs)))=List.map MV.cv (j0 (List.take nv zs))){R:Goal}(hR:R.c (.tup [.lst (dig 4294967296 (val 4294967296 (List.take m qs))).length (j0 (dig 4294967296 (val 4294967296 (List.take m qs)))),.lst (dig 4294967296 (val 4294967296 (List.take nv zs))).length (j0 (dig 4294967296 (val 4294967296 (List.take nv zs))))])):Ok P 75 (loopHead P 75 1) ⟨J6 110 [(8,.cv (.lit (.int .i64 (k:Int)))),(10,.sl 0 0 o 1),(12,.sl 1 0 m 1),(14,.sl 0 0 nv 1),(82,.cv (.lit (.int .i64 (nv:Int)))),(83,.cv (.lit (.int .i64 (i:Int))))],[some (own (j0 zs)),some (own (j0 qs))]⟩ R:=
 okT (.b 2 h1 (.rs 4 [j0 (List.take m qs)] (X6 m (List.take m qs) a d e) (.c o2 (.rs 6 [j0 (List.take nv zs)] (X6 nv (List.take nv zs) f g j) (.c o4 .nil))))) (by kernel_rfl) hR
theorem PCall.weaken{P:Program}{f:FuncId}{args:List CV}{v v':CV}(h:PCall P f args v)(hv: ∀Im y,v.rep Im y→v'.rep Im y):PCall P f args v':=by
 intro Im w vs h1 h2
 refine(h Im w vs h1 h2).mono ?_
 rintro e w' ⟨y,u,Im',rfl,rfl,g1,g2⟩
 exact⟨y,_,Im',rfl,rfl,hv _ _ g1,g2⟩
theorem zdd(Im:Imm)(y:Value)(h:(CV.lit (.slice none 0 0)).rep Im y):(CV.lst 0 []).rep Im y:=by
 simp only[CV.rep]at h ⊢
 subst h
 exact⟨none,0,rfl,Nat.le_refl _,.inl (by simp)⟩
theorem z9f {R : Goal} (hn : j7 R.n [0, 1] = true) (k o m n V W0 : Nat) (ys : List Nat) (hyl : ys.length = n) (hn2 : 2 ≤ n) (hy : Dig B32 ys) (hV : val B32 ys = V) (hmo : m + n = o) (ho : o < 2 ^ 39) (htop : B32 ≤ 2 * ys.getD (n - 1) 0)
    (hR: ∀Q W,Q*V+W=W0→W<V→Ok P 75 (loopHead P 75 1) ⟨J6 110 [(8,.cv (.lit (.int .i64 k))),(10,.sl 0 0 o 1),(12,.sl 1 0 m 1),(14,.sl 0 0 n 1),(82,.cv (.lit (.int .i64 n))),(83,.cv (.lit (.int .i64 ((0:Nat):Int))))],[some (own (j0 (Q7 B32 o W))),some (own (j0 (Q7 B32 m Q)))]⟩ R):
    ∀(jj:Nat),jj≤m→ ∀(Q W:Nat),Q*B32^jj*V+W=W0→W<V*B32^jj→
     Ok P 75 (loopHead P 75 0) ⟨J6 110 [(8,.cv (.lit (.int .i64 k))),(9,.cv (.lst n (j0 ys))),(10,.sl 0 0 o 1),(11,.cv (.lit (.int .i64 n))),(12,.sl 1 0 m 1),(13,.cv (.lit (.int .i64 ((jj:Int)-1))))],[some (own (j0 (Q7 B32 o W))),some (own (j0 (Q7 B32 m (Q*B32^jj))))]⟩ R:=by
 intro jj
 induction jj with
 |zero=>
  intro _ Q W h1 h2
  simp only[Nat.pow_zero,Nat.mul_one]at h1 h2 ⊢
  refine zda k n o m _ W ys _ (by simp) (by omega) (J8 _) (J8 _) hn ?_
  have:=hR Q W h1 h2
  rw[show((n:Int)-0).toNat=n by omega]
  exact this
 |succ j ih=>
  intro hj Q W h1 h2
  have ej:((j+1:Nat):Int)-1=(j:Int):=by omega
  have e0:(0:Nat)+(j:Int).toNat*1=j:=by omega
  have hlen:=j5 B32 m (Q*B32^(j+1))
  have hlt:W/B32^j<val B32 ys*B32:=by
   rw[hV,Nat.div_lt_iff_lt_mul (Z7 _),Nat.mul_assoc,Nat.mul_comm B32,←Nat.pow_succ];exact h2
  have hVpos:0<V:=by
   rcases Nat.eq_zero_or_pos V with h|h
   · rw[h]at h2;simp at h2
   · exact h
  have hq:W/B32^j/V<B32:=by rw[Nat.div_lt_iff_lt_mul hVpos,Nat.mul_comm,←hV];exact hlt
  have hwj:i64.wrap ((j:Int)+n)=((j+n:Nat):Int):=by rw[w64 (by omega)];omega
  have hwj2:i64.wrap (((j+n:Nat):Int)+1)=((j+n+1:Nat):Int):=by rw[w64 (by omega)];omega
  have hwj3:i64.wrap ((j:Int)-1)=(j:Int)-1:=w64 (by omega)
  have hset:=z0Y (by decide:0<B32) m (Q*B32^(j+1)) j (W/B32^j/V) (by omega) (by
   rw[Nat.pow_succ,Nat.mul_comm (B32^j),←Nat.mul_assoc,Nat.mul_div_cancel _ (Z7 j),Nat.mul_mod_left,Nat.zero_add];exact hq)
  rw[show Q*B32^(j+1)/B32^j%B32=0 by rw[Nat.pow_succ,Nat.mul_comm (B32^j),←Nat.mul_assoc,Nat.mul_div_cancel _ (Z7 j),Nat.mul_mod_left],Nat.zero_add]at hset
  have hput:j4 (own (j0 (Q7 B32 m (Q*B32^(j+1))))) j [.cv (.lit (.int .u32 ((W/B32^j/V:Nat):Int)))]=own (j0 (Q7 B32 m ((Q*B32+W/B32^j/V)*B32^j))):=by
   rw[J0 (by rw[hlen];omega),hset]
   rw[Nat.add_mul,Nat.pow_succ,Nat.mul_comm (B32^j),←Nat.mul_assoc]
  have hdm:=Nat.mod_add_div (W/B32^j) V
  have hmod:=Nat.mod_lt (W/B32^j) hVpos
  have hWd:=Nat.mod_add_div W (B32^j)
  have hWm:=Nat.mod_lt W (Z7 j)
  have hrest:W-W/B32^j/V*V*B32^j=W/B32^j%V*B32^j+W%B32^j:=by
   have h3:B32^j*(W/B32^j)=W/B32^j%V*B32^j+W/B32^j/V*V*B32^j:=by
    rw[←Nat.add_mul,Nat.mul_comm]
    congr 1
    rw[Nat.mul_comm _ V];exact hdm.symm
   rw[h3]at hWd
   have hgen: ∀s t r W':Nat,r+(s+t)=W'→W'-t=s+r:=by omega
   exact hgen _ _ _ _ hWd
  have hle:W/B32^j/V*V*B32^j≤W:=Nat.le_trans (Nat.mul_le_mul_right _ (Nat.div_mul_le_self _ _)) (Nat.div_mul_le_self _ _)
  have hnew:W-W/B32^j/V*V*B32^j<V*B32^j:=by
   rw[hrest]
   calc W/B32^j%V*B32^j+W%B32^j<W/B32^j%V*B32^j+B32^j:=by omega
    _=(W/B32^j%V+1)*B32^j:=by rw[Nat.add_mul,Nat.one_mul]
    _≤V*B32^j:=Nat.mul_le_mul_right _ hmod
  have hinv:(Q*B32+W/B32^j/V)*B32^j*V+(W-W/B32^j/V*V*B32^j)=W0:=by
   have h4:(Q*B32+W/B32^j/V)*B32^j*V=Q*B32^(j+1)*V+W/B32^j/V*V*B32^j:=by
    rw[Nat.add_mul,Nat.add_mul,Nat.pow_succ]
    congr 1
    · rw[Nat.mul_comm (B32^j) B32,←Nat.mul_assoc]
    · rw[Nat.mul_assoc,Nat.mul_comm (B32^j),←Nat.mul_assoc]
   omega
  rw[ej]
  refine zbX k n o m (j:Int) W ys _ (by simp) (by rw[hwj,hwj2];omega) hyl hn2 hy (by rw[e0];omega) (by omega) htop (by rw[e0];exact hlt) (by rw[hwj,hwj2];omega) (BlksCv.two (J8 _) (J8 _)) (by omega) (by rw[e0,J4,j9,hlen];omega) (J8 _) (by rw[e0,show val 4294967296 ys=V from hV,show(4294967296:Nat)=B32 from rfl,hput];exact J8 _) hn ?_
  rw[e0,show val 4294967296 ys=V from hV,show(4294967296:Nat)=B32 from rfl,hput,hwj3]
  exact ih (by omega) _ _ hinv hnew
theorem z8O {R : Goal} (hn : j7 R.n [0, 1] = true) (k o m n r Q : Nat) (hk : k ≤ 31) (hno : n + 1 ≤ o) (ho : o < 2 ^ 39) (hm : m < 2 ^ 39) (hr : r < B32 ^ n) (hQ : Q < B32 ^ m)
    (hR:R.c (.tup [X5 Q,X5 r])):
    ∀(q i:Nat) (zs:List Nat),n-i=q→i≤n→zs.length=o→(∀t,t<i→zs.getD t 0=r/B32^t%B32)→(∀t,i≤t→t<o→zs.getD t 0=r*2^k/B32^t%B32)→
     Ok P 75 (loopHead P 75 1) ⟨J6 110 [(8,.cv (.lit (.int .i64 k))),(10,.sl 0 0 o 1),(12,.sl 1 0 m 1),(14,.sl 0 0 n 1),(82,.cv (.lit (.int .i64 n))),(83,.cv (.lit (.int .i64 i)))],[some (own (j0 zs)),some (own (j0 (Q7 B32 m Q)))]⟩ R:=by
 intro q
 induction q with
 |zero=>
  intro i zs hq hi hl h1 h2
  have:i=n:=by omega
  subst this
  have hz:zs.take i=Q7 B32 i r:=by
   apply List.ext_getElem?
   intro t
   by_cases ht:t<i
   · have e1:=h1 t ht
     have e2:=X0 B32 i r t ht
     rw[List.getElem?_take,if_pos ht,List.getElem?_eq_getElem (by omega),List.getElem?_eq_getElem (by rw[j5];exact ht)]
     rw[List.getD_eq_getElem?_getD,List.getElem?_eq_getElem (by omega)]at e1
     rw[List.getD_eq_getElem?_getD,List.getElem?_eq_getElem (by rw[j5];exact ht)]at e2
     simp only[Option.getD_some]at e1 e2
     rw[e1,e2]
   · rw[List.getElem?_eq_none_iff.2 (by simp;omega),List.getElem?_eq_none_iff.2 (by rw[j5];omega)]
  have hqs:(Q7 B32 m Q).take m=Q7 B32 m Q:=List.take_of_length_le (by rw[j5];exact Nat.le_refl _)
  have hv1:val B32 (Q7 B32 m Q)=Q:=by rw[z0w,Nat.mod_eq_of_lt hQ]
  have hv2:val B32 (Q7 B32 i r)=r:=by rw[z0w,Nat.mod_eq_of_lt hr]
  refine zc1 k i o m i zs _ (by simp) (by rw[hqs,j5]) (by rw[hqs];exact z0p (by decide) _ _) (by rw[hqs,j5];omega) (by rw[hz,j5]) (by rw[hz];exact z0p (by decide) _ _) (by rw[hz,j5];omega) (z3W _ 0 m) (z3W _ 0 i) ?_
  rw[hqs,hz,show(4294967296:Nat)=B32 from rfl,hv1,hv2]
  exact hR
 |succ q ih=>
  intro i zs hq hi hl h1 h2
  have hlt:i<n:=by omega
  have e0:(0:Nat)+(i:Int).toNat*1=i:=by omega
  have e1:i64.wrap ((i:Int)+1)=((i+1:Nat):Int):=by rw[w64 (by omega)];omega
  have e2:(0:Nat)+((i+1:Nat):Int).toNat*1=i+1:=by omega
  have e3:min (k:Int).toNat 64=k:=by omega
  have g1:=U1 (J9 (xs:=zs) (i:=i+1) (by omega))
  have g2:=U1 (J9 (xs:=zs) (i:=i) (by omega))
  have d1:=h2 (i+1) (by omega) (by omega)
  have d0:=h2 i (Nat.le_refl _) (by omega)
  have b1:r*2^k/B32^(i+1)%B32<B32:=Nat.mod_lt _ (by decide)
  have b0:r*2^k/B32^i%B32<B32:=Nat.mod_lt _ (by decide)
  have hkey:((r*2^k/B32^(i+1)%B32)*B32+r*2^k/B32^i%B32)/2^k%B32=r/B32^i%B32:=by
   have hK:(2:Nat)^k*2^(32-k)=B32:=by rw[←Nat.pow_add,show k+(32-k)=32 by omega]
   have hKp:0<(2:Nat)^k:=Nat.pow_pos (by decide)
   have hr1:r/B32^i=r*2^k/B32^i/2^k:=by rw[Nat.div_div_eq_div_mul,Nat.mul_comm (B32^i),←Nat.div_div_eq_div_mul,Nat.mul_div_cancel _ hKp]
   rw[hr1]
   have hs:r*2^k/B32^(i+1)=r*2^k/B32^i/B32:=by rw[Nat.pow_succ,Nat.div_div_eq_div_mul]
   rw[hs]
   generalize r*2^k/B32^i=T
   have hT:T=(T/B32%B32*B32+T%B32)+2^k*(B32*(T/B32/B32)*2^(32-k)):=by
    have a1:=Nat.mod_add_div T B32
    have a2:=Nat.mod_add_div (T/B32) B32
    have a3:2^k*(B32*(T/B32/B32)*2^(32-k))=B32*(B32*(T/B32/B32)):=by
     rw[Nat.mul_comm (B32*(T/B32/B32)),←Nat.mul_assoc,hK]
    rw[a3]
    conv=>lhs;rw[←a1,←a2]
    rw[Nat.mul_add,Nat.mul_comm B32 (T/B32%B32)]
    omega
   conv=>rhs;rw[hT]
   rw[Nat.add_mul_div_left _ _ hKp,Nat.mul_assoc,Nat.add_mul_mod_self_left]
  generalize hx1:r*2^k/B32^(i+1)%B32=x1 at*
  generalize hx0:r*2^k/B32^i%B32=x0 at*
  have w1:u64.wrap (x1:Int)=x1:=by rw[z12];simp only[B32]at b1;omega
  have w0:u64.wrap (x0:Int)=x0:=by rw[z12];simp only[B32]at b0;omega
  have w2:u64.wrap ((x1:Int)*4294967296)=((x1*2^32:Nat):Int):=by rw[z12];simp only[B32]at b1;omega
  have w3:Y2 BinOp.or u64 ((x1*2^32:Nat):Int) (x0:Int)=((x1*B32+x0:Nat):Int):=by
   rw[z5X (by simp only[B32]at b1;omega) (by simp only[B32]at b0;omega),z0R 32 (by simp only[B32]at b0;omega)]
  have w4:u32.wrap (((x1*B32+x0:Nat):Int).fdiv (2^k))=((r/B32^i%B32:Nat):Int):=by
   have h2k:(2:Int)^k=((2^k:Nat):Int):=by norm_cast
   rw[h2k,fdp _ (Int.natCast_nonneg _),←Int.natCast_ediv,z5o,←hkey]
   generalize (x1*B32+x0)/2^k=z
   simp only[B32];omega
  refine zcq k n o m i zs _ (by simpa using hlt) (by rw[e1];omega) (by rw[e1,e2];exact g1) (by omega) (by rw[e0];exact g2) (by omega) (by omega) (by rw[e0,J4,j9,hl];omega) ?_ (J8 _) hn ?_
  · rw[e1,e2,e0,e3,d1,d0,w1,w0,w2,w3,w4,J0 (by omega)];exact J8 _
  · rw[e1,e2,e0,e3,d1,d0,w1,w0,w2,w3,w4,J0 (by omega)]
    refine ih (i+1) _ (by omega) (by omega) (by simpa using hl) ?_ ?_
    · intro t ht
      by_cases h:t=i
      · subst h;exact z5e (by omega)
      · rw[z1U (fun e=>h e.symm)];exact h1 t (by omega)
    · intro t ht hto
      rw[z1U (by omega)];exact h2 t (by omega) hto
theorem zbY{n:Nat}(h:n≠0):(dig B32 n).getD ((dig B32 n).length-1) 0≠0:=by
 have hne:dig B32 n≠[]:=by rw[Ne,z2x (by decide)];exact h
 have hc:=W4 hne
 have ht:=zbx (by decide:2≤B32) n
 intro e0
 rw[e0]at hc
 rw[hc,Y3]at ht
 have h1:=congrArg List.length ht
 have: ∀l:List Nat,(tz l).length≤l.length:=by
  intro l
  induction l with
  |nil=>simp[tz]
  |cons x l ih=>rw[z1K];split<;>(try split)<;>simp;omega
 have h2:=this ((dig B32 n).take ((dig B32 n).length-1))
 simp at h1 h2
 omega
theorem zez{n:Nat}(h:n≠0):B32^((dig B32 n).length-1)≤n:=by
 rcases Nat.lt_or_ge n (B32^((dig B32 n).length-1))with h1|h1
 · have h2:=Z0 (by decide) h1
   have h3:(dig B32 n).length≠0:=by rw[Ne,Y1 (by decide)];exact h
   omega
 · exact h1
theorem z1L(a b:Nat)(hb:b≠0)(ha:(dig B32 a).length<2^38)(hbl:(dig B32 b).length<2^38):PCall P 75 [X5 a,X5 b] (.tup [X5 (a/b),X5 (a%b)]):=by
 have hcmp:=z7i (a:=a) (b:=b)
 have hl0:(dig B32 b).length≠0:=by rw[Ne,Y1 (by decide)];exact hb
 by_cases hlt:a<b
 · have h1:=zcJ a b (by simpa using hcmp.2 hlt) (by simp only[B32]at*;omega) (by simp only[B32]at*;omega)
   rw[Nat.div_eq_of_lt hlt,Nat.mod_eq_of_lt hlt]
   refine h1.weaken ?_
   intro Im y hy
   simp only[CV.rep,CV.repL]at hy ⊢
   obtain⟨ys,rfl,y1,l1,h2,h3,y2,l2,h4,h5,h6⟩:=hy
   refine⟨ys,rfl,y1,l1,h2,?_,y2,l2,h4,h5,h6⟩
   exact zdd Im y1 (by simpa only[CV.rep]using h3)
 · have hge:b≤a:=by omega
   have hc0:(decide (z7C a b (dig B32 a).length (dig B32 b).length<0))=false:=by simpa using(not_congr hcmp).2 hlt
   by_cases hone:(dig B32 b).length=1
   · obtain⟨d,hd⟩:=List.length_eq_one_iff.1 hone
     have hv:=Z9 (by decide:2≤B32) b
     rw[hd]at hv
     have hdb:d=b:=by simpa[val]using hv
     subst hdb
     have hdl:d<B32:=by have:=V7 (by decide:2≤B32) d;rw[hd]at this;exact this d (by simp)
     have hg:(dig 4294967296 d).getD 0 0=d:=by rw[show dig 4294967296 d=[d]from hd];rfl
     have hdpos:0<d:=by omega
     have hml:=Nat.mod_lt a hdpos
     have h2:=zdT a d hc0 (by rw[show(4294967296:Nat)=B32 from rfl,hone];rfl) (by simp only[B32]at*;omega) (by simp only[B32]at*;omega) (by simp only[B32]at*;omega) (by rw[hg];exact hdpos) (by rw[hg];exact hdl) (by rw[hg];omega) (by rw[hg];simp only[B32]at hdl;omega) (by rw[show(4294967296:Nat)=B32 from rfl,hone];omega)
      (by exact J9 (by rw[show(4294967296:Nat)=B32 from rfl,hone];omega)) rfl
     rw[hg,Int.toNat_natCast]at h2
     exact h2
   · -- the general case
     have htopne:=zbY hb
     have htlt:=(V7 (by decide:2≤B32) b).get (by decide) ((dig B32 b).length-1)
     generalize hL:(dig B32 b).length=L at*
     generalize hT:(dig B32 b).getD (L-1) 0=T at*
     have hlen2:=z5z htlt
     obtain⟨j,hj⟩: ∃j,U6 T=j+1:=by
      have:U6 T≠0:=by rw[U6,if_neg htopne];omega
      exact⟨U6 T-1,by omega⟩
     obtain⟨t1,t2⟩:=(z3p htopne).1 hj
     have hk:32-U6 T≤31:=by omega
     have hKK:(2:Nat)^(j+1)*2^(32-U6 T)=B32:=by rw[←Nat.pow_add,show j+1+(32-U6 T)=32 by omega]
     generalize hkk:32-U6 T=k at*
     have hKp:0<(2:Nat)^k:=Nat.pow_pos (by decide)
     have hbsplit:b=val B32 ((dig B32 b).take (L-1))+B32^(L-1)*T:=by
      have h1:=z0l (b:=B32) (dig B32 b) (L-1) (by omega)
      rw[Z9 (by decide)]at h1
      have h3:=z0s (b:=B32) (xs:=dig B32 b) (i:=L-1) (by omega)
      have h4:(dig B32 b).drop (L-1+1)=[]:=List.drop_eq_nil_of_le (by omega)
      rw[h4,hT]at h3
      rw[h3]at h1
      simpa[val]using h1
     have hlow:val B32 ((dig B32 b).take (L-1))<B32^(L-1):=by
      have:=z0u (by decide:0<B32) _ ((V7 (by decide:2≤B32) b).take (L-1))
      rwa[List.length_take,Nat.min_eq_left (by omega)]at this
     have hPp:=Z7 (L-1)
     have hpL:B32^L=B32^(L-1)*B32:=by rw[←Nat.pow_succ,show(L-1).succ=L by omega]
     have hVlt:b*2^k<B32^L:=by
      have h1:b<B32^(L-1)*(T+1):=by rw[Nat.mul_add,Nat.mul_one];omega
      calc b*2^k<B32^(L-1)*(T+1)*2^k:=Nat.mul_lt_mul_of_pos_right h1 hKp
       _≤B32^(L-1)*2^(j+1)*2^k:=Nat.mul_le_mul_right _ (Nat.mul_le_mul_left _ (by omega))
       _=B32^L:=by rw[Nat.mul_assoc,hKK,hpL]
     have hTk:B32≤2*(T*2^k):=by
      have:2^(j+1)*2^k≤2*(T*2^k):=by
       rw[Nat.pow_succ,Nat.mul_comm (2^j) 2,Nat.mul_assoc]
       exact Nat.mul_le_mul_left _ (Nat.mul_le_mul_right _ t1)
      rwa[hKK]at this
     have hVge:B32^(L-1)*(T*2^k)≤b*2^k:=by
      rw[←Nat.mul_assoc];exact Nat.mul_le_mul_right _ (by omega)
     have hTk1:1≤T*2^k:=by simp only[B32]at hTk;omega
     have hn:(dig B32 (b*2^k)).length=L:=by
      have h1:=Z0 (by decide:2≤B32) hVlt
      rcases Nat.lt_or_ge (dig B32 (b*2^k)).length L with h|h
      · exfalso
        have h2:=J7 (by decide:2≤B32) (b*2^k)
        have h3:B32^(dig B32 (b*2^k)).length≤B32^(L-1):=Nat.pow_le_pow_right (by decide) (by omega)
        have h4:B32^(L-1)*1≤B32^(L-1)*(T*2^k):=Nat.mul_le_mul_left _ hTk1
        omega
      · omega
     have hVne:b*2^k≠0:=Nat.mul_ne_zero hb (by omega)
     have htopV:B32≤2*(dig B32 (b*2^k)).getD (L-1) 0:=by
      have h1:=z0l (b:=B32) (dig B32 (b*2^k)) (L-1) (by omega)
      rw[Z9 (by decide)]at h1
      have h3:=z0s (b:=B32) (xs:=dig B32 (b*2^k)) (i:=L-1) (by omega)
      have h4:(dig B32 (b*2^k)).drop (L-1+1)=[]:=List.drop_eq_nil_of_le (by omega)
      rw[h4]at h3
      simp only[val,Nat.mul_zero,Nat.add_zero]at h3
      rw[h3]at h1
      have hlow2:val B32 ((dig B32 (b*2^k)).take (L-1))<B32^(L-1):=by
       have:=z0u (by decide:0<B32) _ ((V7 (by decide:2≤B32) (b*2^k)).take (L-1))
       rwa[List.length_take,Nat.min_eq_left (by omega)]at this
      generalize (dig B32 (b*2^k)).getD (L-1) 0=t at*
      have h5:B32^(L-1)*(T*2^k)<B32^(L-1)*(t+1):=by rw[Nat.mul_add,Nat.mul_one];omega
      have:=Nat.lt_of_mul_lt_mul_left h5
      omega
     have hW0:a*2^k<B32^((dig B32 a).length+1):=by
      have h1:=J7 (by decide:2≤B32) a
      have h2:(2:Nat)^k≤B32:=by rw[show B32=2^32 from rfl];exact Nat.pow_le_pow_right (by decide) (by omega)
      calc a*2^k<B32^(dig B32 a).length*2^k:=Nat.mul_lt_mul_of_pos_right h1 hKp
       _≤B32^(dig B32 a).length*B32:=Nat.mul_le_mul_left _ h2
       _=_:=(Nat.pow_succ ..).symm
     have hLa:L≤(dig B32 a).length:=by rw[←hL];exact z1k (by decide) hge
     have habm:a<b*B32^((dig B32 a).length+1-L):=by
      have h1:=J7 (by decide:2≤B32) a
      have h2:=zez hb
      rw[hL]at h2
      have h3:B32^(dig B32 a).length=B32^(L-1)*B32^((dig B32 a).length+1-L):=by rw[←Nat.pow_add];congr 1;omega
      rw[h3]at h1
      exact Nat.lt_of_lt_of_le h1 (Nat.mul_le_mul_right _ h2)
     generalize hA:(dig B32 a).length=A at*
     have e1:i64.wrap ((L:Int)-1)=((L-1:Nat):Int):=by rw[w64 (by omega)];omega
     have e2:((L-1:Nat):Int).toNat*1=L-1:=by omega
     have e3:i64.wrap (((A+1:Nat):Int)-(L:Int))=((A+1-L:Nat):Int):=by rw[w64 (by omega)];omega
     have e4:i64.wrap (((A+1-L:Nat):Int)-1)=((A+1-L:Nat):Int)-1:=w64 (by omega)
     have hB:(4294967296:Nat)=B32:=rfl
     have e5:((A+1-L:Nat):Int).toNat*1=A+1-L:=by omega
     have e6:((A+1-L:Nat):Int).toNat=A+1-L:=by omega
     have hV40:b*2^k<B32^(L+1):=Nat.lt_of_lt_of_le hVlt (Nat.pow_le_pow_right (by decide) (by omega))
     refine zdS a b (by rw[hB,hL,hA];exact hc0) (by rw[hB,hL];simp;omega) (by rw[hB,hA];omega) (by rw[hB,hL];omega) ?_ ?_ ?_ ?_ ?_ ?_ ?_ ?_ ?_ ?_ ?_ ?_ ?_ ?_
     · rw[hB,hL,e1,e2,hT];exact htlt
     · rw[hB,hL,e1,e2,hT,hkk];exact hk
     · rw[hB,hL];omega
     · rw[hB,hL,e1,e2,hT,hkk];exact hV40
     · rw[hB,hL];omega
     · rw[hB,hL,e1,e2,hT,hkk];exact hk
     · rw[hB,hA];omega
     · rw[hB,hL,e1];omega
     · rw[hB,hL,e1,e2];exact J9 (by omega)
     · exact z0H (by rw[j9,j5])
     · rw[hB,hL,e1,e2,hT,hkk,hn,hA,e3];omega
     · exact J8 _
     · rw[Y6];exact J8 _
     · rw[hB,hL,e1,e2,hT,hkk,hn,hA,e3,e4,e5,e6,Y6]
       have hquot:=z9f (R:= .of (fun x=>x= .tup [X5 (a/b),X5 (a%b)])) rfl k (A+1) (A+1-L) L (b*2^k) (a*2^k) (dig B32 (b*2^k)) hn (by omega) (V7 (by decide) _) (Z9 (by decide) _) (by omega) (by omega) htopV ?_ (A+1-L) (Nat.le_refl _) 0 (a*2^k) (by simp) ?_
       · rw[Nat.zero_mul,z19]at hquot
         exact hquot
       · intro Q W hQW hWV
         have hQ:Q=a/b:=by
          have h1:a*2^k/(b*2^k)=Q:=by
           rw[←hQW,Nat.add_comm,Nat.mul_comm Q,Nat.add_mul_div_left _ _ (by omega),Nat.div_eq_of_lt hWV,Nat.zero_add]
          rw[←h1,Nat.mul_div_mul_right _ _ hKp]
         have hW:W=a%b*2^k:=by
          have h1:a*2^k%(b*2^k)=W:=by
           rw[←hQW,Nat.add_comm,Nat.mul_comm Q,Nat.add_mul_mod_self_left,Nat.mod_eq_of_lt hWV]
          rw[←h1,Nat.mul_mod_mul_right]
         subst hQ hW
         have hmodb:=Nat.mod_lt a (by omega:0<b)
         have hbL:b<B32^L:=by have:=J7 (by decide:2≤B32) b;rwa[hL]at this
         refine z8O rfl k (A+1) (A+1-L) L (a%b) (a/b) hk (by omega) (by omega) (by omega) (by omega) ?_ rfl _ 0 _ rfl (Nat.zero_le _) (j5 _ _ _) (by intro t ht;omega) ?_
         · rw[Nat.div_lt_iff_lt_mul (by omega),Nat.mul_comm];exact habm
         · intro t _ ht
           exact X0 _ _ _ _ ht
       · rw[Nat.mul_assoc,Nat.mul_comm (2^k),←Nat.mul_assoc]
         exact Nat.mul_lt_mul_of_pos_right habm hKp
end Go.Fw
set_option maxRecDepth 10000
open Go.Fw
namespace Go.Fw.R24
structure Guess(U V v1 v2 top u2 p:Nat):Prop where
 hp:0<p
 hU: ∃ul,ul<p∧U=(top*B24+u2)*p+ul
 hV: ∃vl,vl<p∧V=(v1*B24+v2)*p+vl
 hv1:8388608≤v1
 hv1':v1<B24
 hv2:v2<B24
 hu2:u2<B24
 hlt:U<V*B24
namespace Guess
variable{U V v1 v2 top u2 p:Nat}(g:Guess U V v1 v2 top u2 p)
include g
theorem vpos:0<V:=by
 obtain⟨vl,_,e⟩:=g.hV
 have h1:=g.hv1
 have hp:=g.hp
 have:0<(v1*B24+v2)*p:=Nat.mul_pos (by simp only[B24];omega) hp
 omega
theorem top_le:top≤v1*B24+(B24-1):=by
 obtain⟨ul,hul,eU⟩:=g.hU
 obtain⟨vl,hvl,eV⟩:=g.hV
 have hlt:=g.hlt
 have hp:=g.hp
 have hv2:=g.hv2
 have h1:top*B24*p≤U:=by rw[eU,Nat.add_mul];omega
 have h2:V<(v1+1)*B24*p:=by
  rw[eV]
  calc (v1*B24+v2)*p+vl<(v1*B24+v2)*p+p:=by omega
   _=(v1*B24+v2+1)*p:=by rw[Nat.add_mul _ 1,Nat.one_mul]
   _≤(v1+1)*B24*p:=Nat.mul_le_mul_right _ (by rw[Nat.add_mul];omega)
 have h3:top*(B24*p)<(v1+1)*B24*(B24*p):=by
  calc top*(B24*p)=top*B24*p:=(Nat.mul_assoc _ _ _).symm
   _≤U:=h1
   _<V*B24:=hlt
   _≤(v1+1)*B24*p*B24:=Nat.mul_le_mul_right _ (by omega)
   _=(v1+1)*B24*(B24*p):=by rw[Nat.mul_assoc ((v1+1)*B24),Nat.mul_comm p]
 have h4:=Nat.lt_of_mul_lt_mul_right h3
 rw[Nat.add_mul]at h4
 simp only[B24]at*;omega
theorem quot_lt:U/V<B24:=by rw[Nat.div_lt_iff_lt_mul g.vpos,Nat.mul_comm];exact g.hlt
theorem quot_le:U/V*(v1*B24+v2)≤top*B24+u2:=by
 obtain⟨ul,hul,eU⟩:=g.hU
 obtain⟨vl,hvl,eV⟩:=g.hV
 have h1:U/V*V≤U:=Nat.div_mul_le_self _ _
 have h2:U/V*(v1*B24+v2)*p<(top*B24+u2+1)*p:=by
  calc U/V*(v1*B24+v2)*p=U/V*((v1*B24+v2)*p):=Nat.mul_assoc _ _ _
   _≤U/V*V:=Nat.mul_le_mul_left _ (by omega)
   _≤U:=h1
   _<(top*B24+u2)*p+p:=by omega
   _=(top*B24+u2+1)*p:=by rw[Nat.add_mul _ 1,Nat.one_mul]
 have:=Nat.lt_of_mul_lt_mul_right h2
 exact Nat.lt_succ_iff.1 this
theorem le_succ{q:Nat}(hq:q<B24)(h:q*(v1*B24+v2)≤top*B24+u2):q≤U/V+1:=by
 obtain⟨ul,hul,eU⟩:=g.hU
 obtain⟨vl,hvl,eV⟩:=g.hV
 have hv1:=g.hv1
 have hqp:q*p≤V:=by
  calc q*p≤(v1*B24+v2)*p:=Nat.mul_le_mul_right _ (by simp only[B24]at*;omega)
   _≤V:=by omega
 have h1:q*V≤U+V:=by
  calc q*V≤q*((v1*B24+v2)*p+p):=Nat.mul_le_mul_left _ (by omega)
   _=q*(v1*B24+v2)*p+q*p:=by rw[Nat.mul_add,Nat.mul_assoc]
   _≤(top*B24+u2)*p+V:=Nat.add_le_add (Nat.mul_le_mul_right _ h) hqp
   _≤U+V:=by omega
 cases q with
 |zero=>exact Nat.zero_le _
 |succ q=>
  have h2:q*V≤U:=by rw[Nat.succ_mul]at h1;omega
  exact Nat.succ_le_succ ((Nat.le_div_iff_mul_le g.vpos).2 h2)
end Guess
structure Corr(U V v1 v2 top u2 q:Nat):Prop where
 mul:q*v1≤top
 le:U/V≤q
 lt:q<B24
namespace Corr
variable{U V v1 v2 top u2 p q:Nat}
theorem zb5(g:Guess U V v1 v2 top u2 p):U/V*v1≤top:=by
 have:=g.quot_le
 have h2:U/V*v1*B24<(top+1)*B24:=by
  calc U/V*v1*B24=U/V*(v1*B24):=Nat.mul_assoc _ _ _
   _≤U/V*(v1*B24+v2):=Nat.mul_le_mul_left _ (by omega)
   _≤top*B24+u2:=this
   _<(top+1)*B24:=by rw[Nat.add_mul];have:=g.hu2;omega
 have:=Nat.lt_of_mul_lt_mul_right h2
 exact Nat.lt_succ_iff.1 this
theorem start(g:Guess U V v1 v2 top u2 p):Corr U V v1 v2 top u2 (min (top/v1) (B24-1)):=by
 have h1:=g.hv1
 have h2:=g.quot_lt
 refine⟨?_,?_,?_⟩
 · exact Nat.le_trans (Nat.mul_le_mul_right _ (Nat.min_le_left ..)) (Nat.div_mul_le_self ..)
 · refine Nat.le_min.2 ⟨?_,?_⟩
   · rw[Nat.le_div_iff_mul_le (by omega)];exact zb5 g
   · exact Nat.le_sub_one_of_lt h2
 · exact Nat.lt_of_le_of_lt (Nat.min_le_right ..) (by decide)
theorem zhw{i b e a d:Nat}(h:i+b=e+a)(k:b+d<a):e+d<i:=by omega
theorem zhl{i b e a d:Nat}(h:i+b=e+a)(k:a≤b+d):i≤e+d:=by omega
theorem zgg(b q v1 v2 top:Nat)(h:q*v1≤top):q*(v1*b+v2)+(top-q*v1)*b=top*b+q*v2:=by
 obtain⟨r,rfl⟩: ∃r,top=q*v1+r:=⟨top-q*v1,by omega⟩
 rw[Nat.add_sub_cancel_left,Nat.mul_add,←Nat.mul_assoc,Nat.add_mul (q*v1)]
 omega
theorem split(c:Corr U V v1 v2 top u2 q):q*(v1*B24+v2)+(top-q*v1)*B24=top*B24+q*v2:=zgg B24 q v1 v2 top c.mul
theorem done(g:Guess U V v1 v2 top u2 p)(c:Corr U V v1 v2 top u2 q)(h:q*v2≤(top-q*v1)*B24+u2∨B24≤top-q*v1):q=U/V∨q=U/V+1:=by
 have h2:q*v2≤(top-q*v1)*B24+u2:=by
  rcases h with h|h
  · exact h
  · calc q * v2 ≤ B24 * B24 := Nat.mul_le_mul (Nat.le_of_lt c.lt) (Nat.le_of_lt g.hv2)
      _≤(top-q*v1)*B24:=Nat.mul_le_mul_right _ h
      _≤_:=Nat.le_add_right ..
 have h3:q*(v1*B24+v2)≤top*B24+u2:=by
  exact zhl c.split h2
 have k1:=g.le_succ c.lt h3
 have k2:=c.le
 generalize U/V=Q at*
 omega
theorem step(g:Guess U V v1 v2 top u2 p)(c:Corr U V v1 v2 top u2 q)(h:(top-q*v1)*B24+u2<q*v2):0<q∧Corr U V v1 v2 top u2 (q-1):=by
 have hq:=g.quot_le
 have h3:top*B24+u2<q*(v1*B24+v2):=zhw c.split h
 have h4:U/V<q:=Nat.lt_of_mul_lt_mul_right (Nat.lt_of_le_of_lt hq h3)
 have lt:=c.lt
 exact⟨Nat.lt_of_le_of_lt (Nat.zero_le _) h4,Nat.le_trans (Nat.mul_le_mul_right _ (Nat.sub_le ..)) c.mul,Nat.le_sub_one_of_lt h4,Nat.lt_of_le_of_lt (Nat.sub_le ..) lt⟩
end Corr
end Go.Fw.R24
namespace Go.Fw
set_option maxRecDepth 10000
theorem z9Z(xs:List Int)(k i:Nat)(d:Int)(h:k<xs.length):(xs.set k d).getD i 0=if i=k then d else xs.getD i 0:=by
 simp only[List.getD_eq_getElem?_getD,List.getElem?_set,h,if_true]
 by_cases hi:k=i
 · rw[if_pos hi,if_pos hi.symm];rfl
 · rw[if_neg hi,if_neg (fun e=>hi e.symm)]
def Low(p:Nat)(zs:List Int):Prop:= ∀k,k<p→0≤zs.getD k 0∧zs.getD k 0<16777216
theorem Low.set{p:Nat}{zs:List Int}(h:Low p zs){k:Nat}{d:Int}(hk:k<zs.length)(hd:0≤d∧d<16777216):Low p (zs.set k d):=by
 intro i hi
 rw[z9Z _ _ _ _ hk]
 split
 · exact hd
 · exact h i hi
set_option maxRecDepth 100000
theorem zcs(n m o i j x V:Nat)(xs ys:List Nat)(h1:decide ((j:Int)<m)=true)(a:(0:Int)≤i64.wrap ((i:Int)+j))(c:o<2^40)(d:(i64.wrap ((i:Int)+j)).toNat+1<o)(e:V+x*ys.getD ((j:Int).toNat*1) 0*4294967296^(i64.wrap ((i:Int)+j)).toNat<4294967296^o)(f:x<4294967296)(g:ys.getD ((j:Int).toNat*1) 0<4294967296)(o1:(0:Int)≤j∧(j:Int)<m)(o2:(j0 ys)[(j:Int).toNat*1]?=some (.lit (.int .u32 ↑(ys.getD ((j:Int).toNat*1) 0))))(o5:BlksCv [some (own (j0 (Q7 4294967296 o V))),some (own (j0 (Q7 4294967296 o (V+x*ys.getD ((j:Int).toNat*1) 0*4294967296^(i64.wrap ((i:Int)+j)).toNat))))])(o6:CvL (own (j0 (Q7 4294967296 o (V+x*ys.getD ((j:Int).toNat*1) 0*4294967296^(i64.wrap ((i:Int)+j)).toNat))))){R:Goal}(hn:j7 R.n [0]=true)(hR:Ok P 59 (loopHead P 59 1) ⟨J6 45 [(1,.cv (.lst m (j0 ys))),(5,.sl 0 0 o 1),(6,MV.fn 70 [.sl 0 0 o 1] []),(7,.cv (.lit (.int .i64 (i:Int)))),(8,.cv (.lit (.int .u32 (x:Int)))),(20,.cv (.lst n (j0 xs))),(21,.cv (.lit (.int .i64 (n:Int)))),(22,.cv (.lit (.int .i64 (i:Int)))),(27,.cv (.lst m (j0 ys))),(28,.cv (.lit (.int .i64 (m:Int)))),(29,.cv (.lit (.int .i64 (i64.wrap ((j:Int)+1)))))],[some (own (j0 (Q7 4294967296 o (V+x*ys.getD ((j:Int).toNat*1) 0*4294967296^(i64.wrap ((i:Int)+j)).toNat))))]⟩ R):Ok P 59 (loopHead P 59 1) ⟨J6 45 [(1,.cv (.lst m (j0 ys))),(5,.sl 0 0 o 1),(6,MV.fn 70 [.sl 0 0 o 1] []),(7,.cv (.lit (.int .i64 (i:Int)))),(8,.cv (.lit (.int .u32 (x:Int)))),(20,.cv (.lst n (j0 xs))),(21,.cv (.lit (.int .i64 (n:Int)))),(22,.cv (.lit (.int .i64 (i:Int)))),(27,.cv (.lst m (j0 ys))),(28,.cv (.lit (.int .i64 (m:Int)))),(29,.cv (.lit (.int .i64 (j:Int))))],[some (own (j0 (Q7 B32 o V)))]⟩ R:=
 okS (keep:=[1,5,6,7,8,20,21,22,27,28,29]) (σ:=[0]) (ors:=[(2,.b true),(5,.r (.lit (.int .u32 ↑(ys.getD ((j:Int).toNat*1) 0)))),(14,.m [0] (.tup []) [some (own (j0 (Q7 B32 o (V+x*ys.getD ((j:Int).toNat*1) 0*B32^(i64.wrap ((i:Int)+j)).toNat))))]),(17,.stop)]) (by kernel_rfl) rfl (.cons h1 (.cons o1 (.cons o2 (.cons (eqn 1) (.cons (z8y o V (i64.wrap ((i:Int)+j)) x (ys.getD ((j:Int).toNat*1) 0) a c d e f g) (.cons o5 (.cons o6 .nil))))))) hn hR
theorem zdf(n m o i j x V:Nat)(xs ys:List Nat)(h1:decide ((j:Int)<m)=false)(o1:CvL (own (j0 (Q7 4294967296 o V)))){R:Goal}(hn:j7 R.n [0]=true)(hR:Ok P 59 (loopHead P 59 0) ⟨J6 45 [(1,.cv (.lst m (j0 ys))),(5,.sl 0 0 o 1),(6,MV.fn 70 [.sl 0 0 o 1] []),(20,.cv (.lst n (j0 xs))),(21,.cv (.lit (.int .i64 (n:Int)))),(22,.cv (.lit (.int .i64 (i64.wrap ((i:Int)+1)))))],[some (own (j0 (Q7 4294967296 o V)))]⟩ R):Ok P 59 (loopHead P 59 1) ⟨J6 45 [(1,.cv (.lst m (j0 ys))),(5,.sl 0 0 o 1),(6,MV.fn 70 [.sl 0 0 o 1] []),(7,.cv (.lit (.int .i64 (i:Int)))),(8,.cv (.lit (.int .u32 (x:Int)))),(20,.cv (.lst n (j0 xs))),(21,.cv (.lit (.int .i64 (n:Int)))),(22,.cv (.lit (.int .i64 (i:Int)))),(27,.cv (.lst m (j0 ys))),(28,.cv (.lit (.int .i64 (m:Int)))),(29,.cv (.lit (.int .i64 (j:Int))))],[some (own (j0 (Q7 B32 o V)))]⟩ R:=
 okS (keep:=[1,5,6,20,21,22]) (σ:=[0]) (ors:=[(2,.b false),(5,.stop)]) (by kernel_rfl) rfl (.cons h1 (.cons o1 .nil)) hn hR
end Go.Fw
