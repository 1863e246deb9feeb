/- A part of the proof that the law returns true for every input: an executor for the model's code, and what functions of the program compute. -/
import Derived.Test.YtcafjpldfnegiaaGreatDoorB11
import Derived.Test.YtcafjpldfnegiaaGreatDoorB15
import Derived.Test.YtcafjpldfnegiaaGreatDoorB19
import Derived.Test.YtcafjpldfnegiaaGreatDoorB20
import Derived.Test.YtcafjpldfnegiaaGreatDoorB22
import Derived.Test.YtcafjpldfnegiaaGreatDoorB24
import Derived.KernelRfl
open Go IntKind
namespace Go.Fw
set_option maxRecDepth 100000
theorem zlj(k nv o m:Nat)(j:Int)(W:Nat)(ys qs:List Nat)(h1:decide (j≥0)=true)(a:(i64.wrap (i64.wrap (j+(nv:Int))+1)-j).toNat=nv+1)(d:ys.length=nv)(e:2≤nv)(f:Dig 4294967296 ys)(g:0+j.toNat*1+nv+1≤o)(i:o<2^40)(l:4294967296≤2*ys.getD (nv-1) 0)(p:W/4294967296^(0+j.toNat*1)<val 4294967296 ys*4294967296)(o1:(0:Int)≤j∧j≤i64.wrap (i64.wrap (j+(nv:Int))+1)∧i64.wrap (i64.wrap (j+(nv:Int))+1)≤(o:Int)∧(j=0∨j<i64.wrap (i64.wrap (j+(nv:Int))+1)))(o3:BlksCv [some (own (j8 (Z1 4294967296 o W))),some (own (j8 (Z1 4294967296 o (W-W/4294967296^(0+j.toNat*1)/val 4294967296 ys*val 4294967296 ys*4294967296^(0+j.toNat*1)))))])(o4:(0:Int)≤j∧j<(m:Int))(o5:0+j.toNat*1+1≤(own (j8 qs)).length)(o6:CvL (own (j8 (Z1 4294967296 o (W-W/4294967296^(0+j.toNat*1)/val 4294967296 ys*val 4294967296 ys*4294967296^(0+j.toNat*1))))))(o7:CvL (j6 (own (j8 qs)) (0+j.toNat*1) [.cv (.lit (.int .u32 ↑(W/4294967296^(0+j.toNat*1)/val 4294967296 ys)))])){R:Goal}(hn:j7 R.n [0,1]=true)(hR:Ok P 250 (loopHead P 250 0) ⟨J1 110 [(8,.cv (.lit (.int .i64 (k:Int)))),(9,.cv (.lst nv (j8 ys))),(10,.sl 0 0 o 1),(11,.cv (.lit (.int .i64 (nv:Int)))),(12,.sl (0+1) 0 m 1),(13,.cv (.lit (.int .i64 (i64.wrap (j-1)))))],[some (own (j8 (Z1 4294967296 o (W-W/4294967296^(0+j.toNat*1)/val 4294967296 ys*val 4294967296 ys*4294967296^(0+j.toNat*1))))),some (j6 (own (j8 qs)) (0+j.toNat*1) [.cv (.lit (.int .u32 ↑(W/4294967296^(0+j.toNat*1)/val 4294967296 ys)))])]⟩ R):Ok P 250 (loopHead P 250 0) ⟨J1 110 [(8,.cv (.lit (.int .i64 (k:Int)))),(9,.cv (.lst nv (j8 ys))),(10,.sl 0 0 o 1),(11,.cv (.lit (.int .i64 (nv:Int)))),(12,.sl 1 0 m 1),(13,.cv (.lit (.int .i64 j)))],[some (own (j8 (Z1 B32 o W))),some (own (j8 qs))]⟩ R:=
 z07 (keep:=[8,9,10,11,12,13]) (σ:=[0,1]) (.b 3 h1 (.c o1 (.c (zbv o W (0+j.toNat*1) ((i64.wrap (i64.wrap (j+(nv:Int))+1)-j).toNat) nv ys a d e f g i l p) (.c o3 (.c o4 (.c o5 (.o 14 (.m [0] (.cv (.lit (.int .u32 ↑(W/4294967296^(0+j.toNat*1)/val 4294967296 ys)))) [some (own (j8 (Z1 B32 o (W-W/B32^(0+j.toNat*1)/val B32 ys*val B32 ys*B32^(0+j.toNat*1)))))]) (.o 20 .stop .nil)))))))) (by kernel_rfl) rfl hn hR (.cons o6 (.cons o7 .nil))
theorem zjx(k nv o m:Nat)(j:Int)(W:Nat)(ys qs:List Nat)(h1:decide (j≥0)=false)(o1:(0:Int)≤0∧(0:Int)≤nv∧(nv:Int)≤o∧((0:Int)=0∨(0:Int)<nv))(o2:CvL (own (j8 (Z1 4294967296 o W))))(o3:CvL (own (j8 qs))){R:Goal}(hn:j7 R.n [0,1]=true)(hR:Ok P 250 (loopHead P 250 1) ⟨J1 110 [(8,.cv (.lit (.int .i64 (k:Int)))),(10,.sl 0 0 o 1),(12,.sl (0+1) 0 m 1),(14,.sl 0 0 ((nv:Int)-0).toNat 1),(82,.cv (.lit (.int .i64 (↑((nv:Int)-0).toNat:Int)))),(83,.cv (.lit (.int .i64 0)))],[some (own (j8 (Z1 4294967296 o W))),some (own (j8 qs))]⟩ R):Ok P 250 (loopHead P 250 0) ⟨J1 110 [(8,.cv (.lit (.int .i64 (k:Int)))),(9,.cv (.lst nv (j8 ys))),(10,.sl 0 0 o 1),(11,.cv (.lit (.int .i64 (nv:Int)))),(12,.sl 1 0 m 1),(13,.cv (.lit (.int .i64 j)))],[some (own (j8 (Z1 B32 o W))),some (own (j8 qs))]⟩ R:=
 z07 (keep:=[8,10,12,14,82,83]) (σ:=[0,1]) (.b 3 h1 (.c o1 (.o 11 .stop .nil))) (by kernel_rfl) rfl hn hR (.cons o2 (.cons o3 .nil))
theorem zm7(k nv o m i:Nat)(zs qs:List Nat)(h1:decide ((i:Int)<nv)=true)(o1:(0:Int)≤i64.wrap ((i:Int)+1)∧i64.wrap ((i:Int)+1)<(o:Int))(o2:(own (j8 zs))[0+(i64.wrap ((i:Int)+1)).toNat*1]?=some (.cv (.lit (.int .u32 (↑(zs.getD (0+(i64.wrap ((i:Int)+1)).toNat*1) 0):Int)))))(o5:(0:Int)≤i∧(i:Int)<o)(o6:(own (j8 zs))[0+(i:Int).toNat*1]?=some (.cv (.lit (.int .u32 ↑(zs.getD (0+(i:Int).toNat*1) 0)))))(o8:(0:Int)≤k)(o9:(0:Int)≤i∧(i:Int)<nv)(o10:0+(i:Int).toNat*1+1≤(own (j8 zs)).length)(o11:CvL (j6 (own (j8 zs)) (0+(i:Int).toNat*1) [.cv (.lit (.int .u32 (u32.wrap ((X9 BinOp.or u64 (u64.wrap (u64.wrap (↑(zs.getD (0+(i64.wrap ((i:Int)+1)).toNat*1) 0):Int)*4294967296)) (u64.wrap (↑(zs.getD (0+(i:Int).toNat*1) 0):Int))).fdiv ((2:Int)^min (k:Int).toNat 64)))))]))(o12:CvL (own (j8 qs))){R:Goal}(hn:j7 R.n [0,1]=true)(hR:Ok P 250 (loopHead P 250 1) ⟨J1 110 [(8,.cv (.lit (.int .i64 (k:Int)))),(10,.sl 0 0 o 1),(12,.sl (0+1) 0 m 1),(14,.sl 0 0 nv 1),(82,.cv (.lit (.int .i64 (nv:Int)))),(83,.cv (.lit (.int .i64 (i64.wrap ((i:Int)+1)))))],[some (j6 (own (j8 zs)) (0+(i:Int).toNat*1) [.cv (.lit (.int .u32 (u32.wrap ((X9 BinOp.or u64 (u64.wrap (u64.wrap (↑(zs.getD (0+(i64.wrap ((i:Int)+1)).toNat*1) 0):Int)*4294967296)) (u64.wrap (↑(zs.getD (0+(i:Int).toNat*1) 0):Int))).fdiv ((2:Int)^min (k:Int).toNat 64)))))]),some (own (j8 qs))]⟩ R):Ok P 250 (loopHead P 250 1) ⟨J1 110 [(8,.cv (.lit (.int .i64 (k:Int)))),(10,.sl 0 0 o 1),(12,.sl 1 0 m 1),(14,.sl 0 0 nv 1),(82,.cv (.lit (.int .i64 (nv:Int)))),(83,.cv (.lit (.int .i64 (i:Int))))],[some (own (j8 zs)),some (own (j8 qs))]⟩ R:=
 z07 (keep:=[8,10,12,14,82,83]) (σ:=[0,1]) (.b 2 h1 (.c o1 (.e 11 o2 (.c (eqn 1) (.c (nn 32) (.c o5 (.e 17 o6 (.c (eqn 1) (.c o8 (.c o9 (.c o10 (.o 27 .stop .nil)))))))))))) (by kernel_rfl) rfl hn hR (.cons o11 (.cons o12 .nil))
theorem zmW(k nv o m i:Nat)(zs qs:List Nat)(h1:decide ((i:Int)<nv)=false)(a:m=(List.take m qs).length)(d:Dig 4294967296 (List.take m qs))(e:(List.take m qs).length<2^62)(f:nv=(List.take nv zs).length)(g:Dig 4294967296 (List.take nv zs))(j:(List.take nv zs).length<2^62)(o2:List.take (m*1) (List.drop 0 (own (j8 qs)))=List.map MV.cv (j8 (List.take m qs)))(o4:List.take (nv*1) (List.drop 0 (own (j8 zs)))=List.map MV.cv (j8 (List.take nv zs))){R:Goal}(hR:R.c (.tup [.lst (dig 4294967296 (val 4294967296 (List.take m qs))).length (j8 (dig 4294967296 (val 4294967296 (List.take m qs)))),.lst (dig 4294967296 (val 4294967296 (List.take nv zs))).length (j8 (dig 4294967296 (val 4294967296 (List.take nv zs))))])):Ok P 250 (loopHead P 250 1) ⟨J1 110 [(8,.cv (.lit (.int .i64 (k:Int)))),(10,.sl 0 0 o 1),(12,.sl 1 0 m 1),(14,.sl 0 0 nv 1),(82,.cv (.lit (.int .i64 (nv:Int)))),(83,.cv (.lit (.int .i64 (i:Int))))],[some (own (j8 zs)),some (own (j8 qs))]⟩ R:=
 okT (.b 2 h1 (.rs 4 [j8 (List.take m qs)] (z0x m (List.take m qs) a d e) (.c o2 (.rs 6 [j8 (List.take nv zs)] (z0x nv (List.take nv zs) f g j) (.c o4 .nil))))) (by kernel_rfl) hR
theorem PCall.weaken{P:Program}{f:FuncId}{args:List CV}{v v':CV}(h:PCall P f args v)(hv: ∀Im y,v.rep Im y→v'.rep Im y):PCall P f args v':=by
 intro Im w vs h1 h2
 refine(h Im w vs h1 h2).mono ?_
 rintro e w' ⟨y,u,Im',rfl,rfl,g1,g2⟩
 exact⟨y,_,Im',rfl,rfl,hv _ _ g1,g2⟩
theorem zcL(Im:Imm)(y:Value)(h:(CV.lit (.slice none 0 0)).rep Im y):(CV.lst 0 []).rep Im y:=by
 simp only[CV.rep]at h ⊢
 subst h
 exact⟨none,0,rfl,Nat.le_refl _,.inl (by simp)⟩
theorem zcC {R : Goal} (hn : j7 R.n [0, 1] = true) (k o m n V W0 : Nat) (ys : List Nat) (hyl : ys.length = n) (hn2 : 2 ≤ n) (hy : Dig B32 ys) (hV : val B32 ys = V) (hmo : m + n = o) (ho : o < 2 ^ 39) (htop : B32 ≤ 2 * ys.getD (n - 1) 0)
    (hR: ∀Q W,Q*V+W=W0→W<V→Ok P 250 (loopHead P 250 1) ⟨J1 110 [(8,.cv (.lit (.int .i64 k))),(10,.sl 0 0 o 1),(12,.sl 1 0 m 1),(14,.sl 0 0 n 1),(82,.cv (.lit (.int .i64 n))),(83,.cv (.lit (.int .i64 ((0:Nat):Int))))],[some (own (j8 (Z1 B32 o W))),some (own (j8 (Z1 B32 m Q)))]⟩ R):
    ∀(jj:Nat),jj≤m→ ∀(Q W:Nat),Q*B32^jj*V+W=W0→W<V*B32^jj→
     Ok P 250 (loopHead P 250 0) ⟨J1 110 [(8,.cv (.lit (.int .i64 k))),(9,.cv (.lst n (j8 ys))),(10,.sl 0 0 o 1),(11,.cv (.lit (.int .i64 n))),(12,.sl 1 0 m 1),(13,.cv (.lit (.int .i64 ((jj:Int)-1))))],[some (own (j8 (Z1 B32 o W))),some (own (j8 (Z1 B32 m (Q*B32^jj))))]⟩ R:=by
 intro jj
 induction jj with
 |zero=>
  intro _ Q W h1 h2
  simp only[Nat.pow_zero,Nat.mul_one]at h1 h2 ⊢
  refine zjx k n o m _ W ys _ (by simp) (by omega) (J0 _) (J0 _) hn ?_
  have:=hR Q W h1 h2
  rw[show((n:Int)-0).toNat=n by omega]
  exact this
 |succ j ih=>
  intro hj Q W h1 h2
  have ej:((j+1:Nat):Int)-1=(j:Int):=by omega
  have e0:(0:Nat)+(j:Int).toNat*1=j:=by omega
  have hlen:=j9 B32 m (Q*B32^(j+1))
  have hlt:W/B32^j<val B32 ys*B32:=by
   rw[hV,Nat.div_lt_iff_lt_mul (V9 _),Nat.mul_assoc,Nat.mul_comm B32,←Nat.pow_succ];exact h2
  have hVpos:0<V:=by
   rcases Nat.eq_zero_or_pos V with h|h
   · rw[h]at h2;simp at h2
   · exact h
  have hq:W/B32^j/V<B32:=by rw[Nat.div_lt_iff_lt_mul hVpos,Nat.mul_comm,←hV];exact hlt
  have hwj:i64.wrap ((j:Int)+n)=((j+n:Nat):Int):=by rw[w64 (by omega)];omega
  have hwj2:i64.wrap (((j+n:Nat):Int)+1)=((j+n+1:Nat):Int):=by rw[w64 (by omega)];omega
  have hwj3:i64.wrap ((j:Int)-1)=(j:Int)-1:=w64 (by omega)
  have hset:=z1g (by decide:0<B32) m (Q*B32^(j+1)) j (W/B32^j/V) (by omega) (by
   rw[Nat.pow_succ,Nat.mul_comm (B32^j),←Nat.mul_assoc,Nat.mul_div_cancel _ (V9 j),Nat.mul_mod_left,Nat.zero_add];exact hq)
  rw[show Q*B32^(j+1)/B32^j%B32=0 by rw[Nat.pow_succ,Nat.mul_comm (B32^j),←Nat.mul_assoc,Nat.mul_div_cancel _ (V9 j),Nat.mul_mod_left],Nat.zero_add]at hset
  have hput:j6 (own (j8 (Z1 B32 m (Q*B32^(j+1))))) j [.cv (.lit (.int .u32 ((W/B32^j/V:Nat):Int)))]=own (j8 (Z1 B32 m ((Q*B32+W/B32^j/V)*B32^j))):=by
   rw[Q6 (by rw[hlen];omega),hset]
   rw[Nat.add_mul,Nat.pow_succ,Nat.mul_comm (B32^j),←Nat.mul_assoc]
  have hdm:=Nat.mod_add_div (W/B32^j) V
  have hmod:=Nat.mod_lt (W/B32^j) hVpos
  have hWd:=Nat.mod_add_div W (B32^j)
  have hWm:=Nat.mod_lt W (V9 j)
  have hrest:W-W/B32^j/V*V*B32^j=W/B32^j%V*B32^j+W%B32^j:=by
   have h3:B32^j*(W/B32^j)=W/B32^j%V*B32^j+W/B32^j/V*V*B32^j:=by
    rw[←Nat.add_mul,Nat.mul_comm]
    congr 1
    rw[Nat.mul_comm _ V];exact hdm.symm
   rw[h3]at hWd
   have hgen: ∀s t r W':Nat,r+(s+t)=W'→W'-t=s+r:=by omega
   exact hgen _ _ _ _ hWd
  have hle:W/B32^j/V*V*B32^j≤W:=Nat.le_trans (Nat.mul_le_mul_right _ (Nat.div_mul_le_self _ _)) (Nat.div_mul_le_self _ _)
  have hnew:W-W/B32^j/V*V*B32^j<V*B32^j:=by
   rw[hrest]
   calc W/B32^j%V*B32^j+W%B32^j<W/B32^j%V*B32^j+B32^j:=by omega
    _=(W/B32^j%V+1)*B32^j:=by rw[Nat.add_mul,Nat.one_mul]
    _≤V*B32^j:=Nat.mul_le_mul_right _ hmod
  have hinv:(Q*B32+W/B32^j/V)*B32^j*V+(W-W/B32^j/V*V*B32^j)=W0:=by
   have h4:(Q*B32+W/B32^j/V)*B32^j*V=Q*B32^(j+1)*V+W/B32^j/V*V*B32^j:=by
    rw[Nat.add_mul,Nat.add_mul,Nat.pow_succ]
    congr 1
    · rw[Nat.mul_comm (B32^j) B32,←Nat.mul_assoc]
    · rw[Nat.mul_assoc,Nat.mul_comm (B32^j),←Nat.mul_assoc]
   omega
  rw[ej]
  refine zlj k n o m (j:Int) W ys _ (by simp) (by rw[hwj,hwj2];omega) hyl hn2 hy (by rw[e0];omega) (by omega) htop (by rw[e0];exact hlt) (by rw[hwj,hwj2];omega) (BlksCv.two (J0 _) (J0 _)) (by omega) (by rw[e0,J4,Q7,hlen];omega) (J0 _) (by rw[e0,show val 4294967296 ys=V from hV,show(4294967296:Nat)=B32 from rfl,hput];exact J0 _) hn ?_
  rw[e0,show val 4294967296 ys=V from hV,show(4294967296:Nat)=B32 from rfl,hput,hwj3]
  exact ih (by omega) _ _ hinv hnew
theorem zcV {R : Goal} (hn : j7 R.n [0, 1] = true) (k o m n r Q : Nat) (hk : k ≤ 31) (hno : n + 1 ≤ o) (ho : o < 2 ^ 39) (hm : m < 2 ^ 39) (hr : r < B32 ^ n) (hQ : Q < B32 ^ m)
    (hR:R.c (.tup [z0c Q,z0c r])):
    ∀(q i:Nat) (zs:List Nat),n-i=q→i≤n→zs.length=o→(∀t,t<i→zs.getD t 0=r/B32^t%B32)→(∀t,i≤t→t<o→zs.getD t 0=r*2^k/B32^t%B32)→
     Ok P 250 (loopHead P 250 1) ⟨J1 110 [(8,.cv (.lit (.int .i64 k))),(10,.sl 0 0 o 1),(12,.sl 1 0 m 1),(14,.sl 0 0 n 1),(82,.cv (.lit (.int .i64 n))),(83,.cv (.lit (.int .i64 i)))],[some (own (j8 zs)),some (own (j8 (Z1 B32 m Q)))]⟩ R:=by
 intro q
 induction q with
 |zero=>
  intro i zs hq hi hl h1 h2
  have:i=n:=by omega
  subst this
  have hz:zs.take i=Z1 B32 i r:=by
   apply List.ext_getElem?
   intro t
   by_cases ht:t<i
   · have e1:=h1 t ht
     have e2:=W4 B32 i r t ht
     rw[List.getElem?_take,if_pos ht,List.getElem?_eq_getElem (by omega),List.getElem?_eq_getElem (by rw[j9];exact ht)]
     rw[List.getD_eq_getElem?_getD,List.getElem?_eq_getElem (by omega)]at e1
     rw[List.getD_eq_getElem?_getD,List.getElem?_eq_getElem (by rw[j9];exact ht)]at e2
     simp only[Option.getD_some]at e1 e2
     rw[e1,e2]
   · rw[List.getElem?_eq_none_iff.2 (by simp;omega),List.getElem?_eq_none_iff.2 (by rw[j9];omega)]
  have hqs:(Z1 B32 m Q).take m=Z1 B32 m Q:=List.take_of_length_le (by rw[j9];exact Nat.le_refl _)
  have hv1:val B32 (Z1 B32 m Q)=Q:=by rw[z0h,Nat.mod_eq_of_lt hQ]
  have hv2:val B32 (Z1 B32 i r)=r:=by rw[z0h,Nat.mod_eq_of_lt hr]
  refine zmW k i o m i zs _ (by simp) (by rw[hqs,j9]) (by rw[hqs];exact U8 (by decide) _ _) (by rw[hqs,j9];omega) (by rw[hz,j9]) (by rw[hz];exact U8 (by decide) _ _) (by rw[hz,j9];omega) (z5P _ 0 m) (z5P _ 0 i) ?_
  rw[hqs,hz,show(4294967296:Nat)=B32 from rfl,hv1,hv2]
  exact hR
 |succ q ih=>
  intro i zs hq hi hl h1 h2
  have hlt:i<n:=by omega
  have e0:(0:Nat)+(i:Int).toNat*1=i:=by omega
  have e1:i64.wrap ((i:Int)+1)=((i+1:Nat):Int):=by rw[w64 (by omega)];omega
  have e2:(0:Nat)+((i+1:Nat):Int).toNat*1=i+1:=by omega
  have e3:min (k:Int).toNat 64=k:=by omega
  have g1:=W5 (Y7 (xs:=zs) (i:=i+1) (by omega))
  have g2:=W5 (Y7 (xs:=zs) (i:=i) (by omega))
  have d1:=h2 (i+1) (by omega) (by omega)
  have d0:=h2 i (Nat.le_refl _) (by omega)
  have b1:r*2^k/B32^(i+1)%B32<B32:=Nat.mod_lt _ (by decide)
  have b0:r*2^k/B32^i%B32<B32:=Nat.mod_lt _ (by decide)
  have hkey:((r*2^k/B32^(i+1)%B32)*B32+r*2^k/B32^i%B32)/2^k%B32=r/B32^i%B32:=by
   have hK:(2:Nat)^k*2^(32-k)=B32:=by rw[←Nat.pow_add,show k+(32-k)=32 by omega]
   have hKp:0<(2:Nat)^k:=Nat.pow_pos (by decide)
   have hr1:r/B32^i=r*2^k/B32^i/2^k:=by rw[Nat.div_div_eq_div_mul,Nat.mul_comm (B32^i),←Nat.div_div_eq_div_mul,Nat.mul_div_cancel _ hKp]
   rw[hr1]
   have hs:r*2^k/B32^(i+1)=r*2^k/B32^i/B32:=by rw[Nat.pow_succ,Nat.div_div_eq_div_mul]
   rw[hs]
   generalize r*2^k/B32^i=T
   have hT:T=(T/B32%B32*B32+T%B32)+2^k*(B32*(T/B32/B32)*2^(32-k)):=by
    have a1:=Nat.mod_add_div T B32
    have a2:=Nat.mod_add_div (T/B32) B32
    have a3:2^k*(B32*(T/B32/B32)*2^(32-k))=B32*(B32*(T/B32/B32)):=by
     rw[Nat.mul_comm (B32*(T/B32/B32)),←Nat.mul_assoc,hK]
    rw[a3]
    conv=>lhs;rw[←a1,←a2]
    rw[Nat.mul_add,Nat.mul_comm B32 (T/B32%B32)]
    omega
   conv=>rhs;rw[hT]
   rw[Nat.add_mul_div_left _ _ hKp,Nat.mul_assoc,Nat.add_mul_mod_self_left]
  generalize hx1:r*2^k/B32^(i+1)%B32=x1 at*
  generalize hx0:r*2^k/B32^i%B32=x0 at*
  have w1:u64.wrap (x1:Int)=x1:=by rw[z1Y];simp only[B32]at b1;omega
  have w0:u64.wrap (x0:Int)=x0:=by rw[z1Y];simp only[B32]at b0;omega
  have w2:u64.wrap ((x1:Int)*4294967296)=((x1*2^32:Nat):Int):=by rw[z1Y];simp only[B32]at b1;omega
  have w3:X9 BinOp.or u64 ((x1*2^32:Nat):Int) (x0:Int)=((x1*B32+x0:Nat):Int):=by
   rw[z8P (by simp only[B32]at b1;omega) (by simp only[B32]at b0;omega),z2p 32 (by simp only[B32]at b0;omega)]
  have w4:u32.wrap (((x1*B32+x0:Nat):Int).fdiv (2^k))=((r/B32^i%B32:Nat):Int):=by
   have h2k:(2:Int)^k=((2^k:Nat):Int):=by norm_cast
   rw[h2k,fdp _ (Int.natCast_nonneg _),←Int.natCast_ediv,z87,←hkey]
   generalize (x1*B32+x0)/2^k=z
   simp only[B32];omega
  refine zm7 k n o m i zs _ (by simpa using hlt) (by rw[e1];omega) (by rw[e1,e2];exact g1) (by omega) (by rw[e0];exact g2) (by omega) (by omega) (by rw[e0,J4,Q7,hl];omega) ?_ (J0 _) hn ?_
  · rw[e1,e2,e0,e3,d1,d0,w1,w0,w2,w3,w4,Q6 (by omega)];exact J0 _
  · rw[e1,e2,e0,e3,d1,d0,w1,w0,w2,w3,w4,Q6 (by omega)]
    refine ih (i+1) _ (by omega) (by omega) (by simpa using hl) ?_ ?_
    · intro t ht
      by_cases h:t=i
      · subst h;exact z4g (by omega)
      · rw[z1s (fun e=>h e.symm)];exact h1 t (by omega)
    · intro t ht hto
      rw[z1s (by omega)];exact h2 t (by omega) hto
theorem zk1{n:Nat}(h:n≠0):(dig B32 n).getD ((dig B32 n).length-1) 0≠0:=by
 have hne:dig B32 n≠[]:=by rw[Ne,z4s (by decide)];exact h
 have hc:=U2 hne
 have ht:=zia (by decide:2≤B32) n
 intro e0
 rw[e0]at hc
 rw[hc,W6]at ht
 have h1:=congrArg List.length ht
 have: ∀l:List Nat,(tz l).length≤l.length:=by
  intro l
  induction l with
  |nil=>simp[tz]
  |cons x l ih=>rw[z3J];split<;>(try split)<;>simp;omega
 have h2:=this ((dig B32 n).take ((dig B32 n).length-1))
 simp at h1 h2
 omega
theorem znl{n:Nat}(h:n≠0):B32^((dig B32 n).length-1)≤n:=by
 rcases Nat.lt_or_ge n (B32^((dig B32 n).length-1))with h1|h1
 · have h2:=Q1 (by decide) h1
   have h3:(dig B32 n).length≠0:=by rw[Ne,Y1 (by decide)];exact h
   omega
 · exact h1
theorem z0A(a b:Nat)(hb:b≠0)(ha:(dig B32 a).length<2^38)(hbl:(dig B32 b).length<2^38):PCall P 250 [z0c a,z0c b] (.tup [z0c (a/b),z0c (a%b)]):=by
 have hcmp:=z7w (a:=a) (b:=b)
 have hl0:(dig B32 b).length≠0:=by rw[Ne,Y1 (by decide)];exact hb
 by_cases hlt:a<b
 · have h1:=ziR a b (by simpa using hcmp.2 hlt) (by simp only[B32]at*;omega) (by simp only[B32]at*;omega)
   rw[Nat.div_eq_of_lt hlt,Nat.mod_eq_of_lt hlt]
   refine h1.weaken ?_
   intro Im y hy
   simp only[CV.rep,CV.repL]at hy ⊢
   obtain⟨ys,rfl,y1,l1,h2,h3,y2,l2,h4,h5,h6⟩:=hy
   refine⟨ys,rfl,y1,l1,h2,?_,y2,l2,h4,h5,h6⟩
   exact zcL Im y1 (by simpa only[CV.rep]using h3)
 · have hge:b≤a:=by omega
   have hc0:(decide (z9m a b (dig B32 a).length (dig B32 b).length<0))=false:=by simpa using(not_congr hcmp).2 hlt
   by_cases hone:(dig B32 b).length=1
   · obtain⟨d,hd⟩:=List.length_eq_one_iff.1 hone
     have hv:=Q8 (by decide:2≤B32) b
     rw[hd]at hv
     have hdb:d=b:=by simpa[val]using hv
     subst hdb
     have hdl:d<B32:=by have:=Y8 (by decide:2≤B32) d;rw[hd]at this;exact this d (by simp)
     have hg:(dig 4294967296 d).getD 0 0=d:=by rw[show dig 4294967296 d=[d]from hd];rfl
     have hdpos:0<d:=by omega
     have hml:=Nat.mod_lt a hdpos
     have h2:=zlk a d hc0 (by rw[show(4294967296:Nat)=B32 from rfl,hone];rfl) (by simp only[B32]at*;omega) (by simp only[B32]at*;omega) (by simp only[B32]at*;omega) (by rw[hg];exact hdpos) (by rw[hg];exact hdl) (by rw[hg];omega) (by rw[hg];simp only[B32]at hdl;omega) (by rw[show(4294967296:Nat)=B32 from rfl,hone];omega)
      (by exact Y7 (by rw[show(4294967296:Nat)=B32 from rfl,hone];omega)) rfl
     rw[hg,Int.toNat_natCast]at h2
     exact h2
   · -- the general case
     have htopne:=zk1 hb
     have htlt:=(Y8 (by decide:2≤B32) b).get (by decide) ((dig B32 b).length-1)
     generalize hL:(dig B32 b).length=L at*
     generalize hT:(dig B32 b).getD (L-1) 0=T at*
     have hlen2:=z8u htlt
     obtain⟨j,hj⟩: ∃j,U7 T=j+1:=by
      have:U7 T≠0:=by rw[U7,if_neg htopne];omega
      exact⟨U7 T-1,by omega⟩
     obtain⟨t1,t2⟩:=(z3f htopne).1 hj
     have hk:32-U7 T≤31:=by omega
     have hKK:(2:Nat)^(j+1)*2^(32-U7 T)=B32:=by rw[←Nat.pow_add,show j+1+(32-U7 T)=32 by omega]
     generalize hkk:32-U7 T=k at*
     have hKp:0<(2:Nat)^k:=Nat.pow_pos (by decide)
     have hbsplit:b=val B32 ((dig B32 b).take (L-1))+B32^(L-1)*T:=by
      have h1:=z15 (b:=B32) (dig B32 b) (L-1) (by omega)
      rw[Q8 (by decide)]at h1
      have h3:=z1O (b:=B32) (xs:=dig B32 b) (i:=L-1) (by omega)
      have h4:(dig B32 b).drop (L-1+1)=[]:=List.drop_eq_nil_of_le (by omega)
      rw[h4,hT]at h3
      rw[h3]at h1
      simpa[val]using h1
     have hlow:val B32 ((dig B32 b).take (L-1))<B32^(L-1):=by
      have:=z0I (by decide:0<B32) _ ((Y8 (by decide:2≤B32) b).take (L-1))
      rwa[List.length_take,Nat.min_eq_left (by omega)]at this
     have hPp:=V9 (L-1)
     have hpL:B32^L=B32^(L-1)*B32:=by rw[←Nat.pow_succ,show(L-1).succ=L by omega]
     have hVlt:b*2^k<B32^L:=by
      have h1:b<B32^(L-1)*(T+1):=by rw[Nat.mul_add,Nat.mul_one];omega
      calc b*2^k<B32^(L-1)*(T+1)*2^k:=Nat.mul_lt_mul_of_pos_right h1 hKp
       _≤B32^(L-1)*2^(j+1)*2^k:=Nat.mul_le_mul_right _ (Nat.mul_le_mul_left _ (by omega))
       _=B32^L:=by rw[Nat.mul_assoc,hKK,hpL]
     have hTk:B32≤2*(T*2^k):=by
      have:2^(j+1)*2^k≤2*(T*2^k):=by
       rw[Nat.pow_succ,Nat.mul_comm (2^j) 2,Nat.mul_assoc]
       exact Nat.mul_le_mul_left _ (Nat.mul_le_mul_right _ t1)
      rwa[hKK]at this
     have hVge:B32^(L-1)*(T*2^k)≤b*2^k:=by
      rw[←Nat.mul_assoc];exact Nat.mul_le_mul_right _ (by omega)
     have hTk1:1≤T*2^k:=by simp only[B32]at hTk;omega
     have hn:(dig B32 (b*2^k)).length=L:=by
      have h1:=Q1 (by decide:2≤B32) hVlt
      rcases Nat.lt_or_ge (dig B32 (b*2^k)).length L with h|h
      · exfalso
        have h2:=J8 (by decide:2≤B32) (b*2^k)
        have h3:B32^(dig B32 (b*2^k)).length≤B32^(L-1):=Nat.pow_le_pow_right (by decide) (by omega)
        have h4:B32^(L-1)*1≤B32^(L-1)*(T*2^k):=Nat.mul_le_mul_left _ hTk1
        omega
      · omega
     have hVne:b*2^k≠0:=Nat.mul_ne_zero hb (by omega)
     have htopV:B32≤2*(dig B32 (b*2^k)).getD (L-1) 0:=by
      have h1:=z15 (b:=B32) (dig B32 (b*2^k)) (L-1) (by omega)
      rw[Q8 (by decide)]at h1
      have h3:=z1O (b:=B32) (xs:=dig B32 (b*2^k)) (i:=L-1) (by omega)
      have h4:(dig B32 (b*2^k)).drop (L-1+1)=[]:=List.drop_eq_nil_of_le (by omega)
      rw[h4]at h3
      simp only[val,Nat.mul_zero,Nat.add_zero]at h3
      rw[h3]at h1
      have hlow2:val B32 ((dig B32 (b*2^k)).take (L-1))<B32^(L-1):=by
       have:=z0I (by decide:0<B32) _ ((Y8 (by decide:2≤B32) (b*2^k)).take (L-1))
       rwa[List.length_take,Nat.min_eq_left (by omega)]at this
      generalize (dig B32 (b*2^k)).getD (L-1) 0=t at*
      have h5:B32^(L-1)*(T*2^k)<B32^(L-1)*(t+1):=by rw[Nat.mul_add,Nat.mul_one];omega
      have:=Nat.lt_of_mul_lt_mul_left h5
      omega
     have hW0:a*2^k<B32^((dig B32 a).length+1):=by
      have h1:=J8 (by decide:2≤B32) a
      have h2:(2:Nat)^k≤B32:=by rw[show B32=2^32 from rfl];exact Nat.pow_le_pow_right (by decide) (by omega)
      calc a*2^k<B32^(dig B32 a).length*2^k:=Nat.mul_lt_mul_of_pos_right h1 hKp
       _≤B32^(dig B32 a).length*B32:=Nat.mul_le_mul_left _ h2
       _=_:=(Nat.pow_succ ..).symm
     have hLa:L≤(dig B32 a).length:=by rw[←hL];exact Z7 (by decide) hge
     have habm:a<b*B32^((dig B32 a).length+1-L):=by
      have h1:=J8 (by decide:2≤B32) a
      have h2:=znl hb
      rw[hL]at h2
      have h3:B32^(dig B32 a).length=B32^(L-1)*B32^((dig B32 a).length+1-L):=by rw[←Nat.pow_add];congr 1;omega
      rw[h3]at h1
      exact Nat.lt_of_lt_of_le h1 (Nat.mul_le_mul_right _ h2)
     generalize hA:(dig B32 a).length=A at*
     have e1:i64.wrap ((L:Int)-1)=((L-1:Nat):Int):=by rw[w64 (by omega)];omega
     have e2:((L-1:Nat):Int).toNat*1=L-1:=by omega
     have e3:i64.wrap (((A+1:Nat):Int)-(L:Int))=((A+1-L:Nat):Int):=by rw[w64 (by omega)];omega
     have e4:i64.wrap (((A+1-L:Nat):Int)-1)=((A+1-L:Nat):Int)-1:=w64 (by omega)
     have hB:(4294967296:Nat)=B32:=rfl
     have e5:((A+1-L:Nat):Int).toNat*1=A+1-L:=by omega
     have e6:((A+1-L:Nat):Int).toNat=A+1-L:=by omega
     have hV40:b*2^k<B32^(L+1):=Nat.lt_of_lt_of_le hVlt (Nat.pow_le_pow_right (by decide) (by omega))
     refine zmN a b (by rw[hB,hL,hA];exact hc0) (by rw[hB,hL];simp;omega) (by rw[hB,hA];omega) (by rw[hB,hL];omega) ?_ ?_ ?_ ?_ ?_ ?_ ?_ ?_ ?_ ?_ ?_ ?_ ?_ ?_
     · rw[hB,hL,e1,e2,hT];exact htlt
     · rw[hB,hL,e1,e2,hT,hkk];exact hk
     · rw[hB,hL];omega
     · rw[hB,hL,e1,e2,hT,hkk];exact hV40
     · rw[hB,hL];omega
     · rw[hB,hL,e1,e2,hT,hkk];exact hk
     · rw[hB,hA];omega
     · rw[hB,hL,e1];omega
     · rw[hB,hL,e1,e2];exact Y7 (by omega)
     · exact z17 (by rw[Q7,j9])
     · rw[hB,hL,e1,e2,hT,hkk,hn,hA,e3];omega
     · exact J0 _
     · rw[U4];exact J0 _
     · rw[hB,hL,e1,e2,hT,hkk,hn,hA,e3,e4,e5,e6,U4]
       have hquot:=zcC (R:= .of (fun x=>x= .tup [z0c (a/b),z0c (a%b)])) rfl k (A+1) (A+1-L) L (b*2^k) (a*2^k) (dig B32 (b*2^k)) hn (by omega) (Y8 (by decide) _) (Q8 (by decide) _) (by omega) (by omega) htopV ?_ (A+1-L) (Nat.le_refl _) 0 (a*2^k) (by simp) ?_
       · rw[Nat.zero_mul,z1x]at hquot
         exact hquot
       · intro Q W hQW hWV
         have hQ:Q=a/b:=by
          have h1:a*2^k/(b*2^k)=Q:=by
           rw[←hQW,Nat.add_comm,Nat.mul_comm Q,Nat.add_mul_div_left _ _ (by omega),Nat.div_eq_of_lt hWV,Nat.zero_add]
          rw[←h1,Nat.mul_div_mul_right _ _ hKp]
         have hW:W=a%b*2^k:=by
          have h1:a*2^k%(b*2^k)=W:=by
           rw[←hQW,Nat.add_comm,Nat.mul_comm Q,Nat.add_mul_mod_self_left,Nat.mod_eq_of_lt hWV]
          rw[←h1,Nat.mul_mod_mul_right]
         subst hQ hW
         have hmodb:=Nat.mod_lt a (by omega:0<b)
         have hbL:b<B32^L:=by have:=J8 (by decide:2≤B32) b;rwa[hL]at this
         refine zcV rfl k (A+1) (A+1-L) L (a%b) (a/b) hk (by omega) (by omega) (by omega) (by omega) ?_ rfl _ 0 _ rfl (Nat.zero_le _) (j9 _ _ _) (by intro t ht;omega) ?_
         · rw[Nat.div_lt_iff_lt_mul (by omega),Nat.mul_comm];exact habm
         · intro t _ ht
           exact W4 _ _ _ _ ht
       · rw[Nat.mul_assoc,Nat.mul_comm (2^k),←Nat.mul_assoc]
         exact Nat.mul_lt_mul_of_pos_right habm hKp
theorem zl7(a b:Int)(d:SmlZ a)(e:SmlZ (-b))(f:Sml (a.natAbs+(-b).natAbs)):PCall P 209 [J2 a,J2 b] (.agg [.lit (.bool (decide (a+ -b<0))),.lit (.string (bytesOf (a+ -b).natAbs))]):=
 j3 (.r 4 (J7 a) (.r 8 (J7 b) (.r 14 (z0S b) (.r 15 (z1H a (-b) d e f) (.c (show 2≤2 from by decide) .nil))))) (by kernel_rfl)
theorem zmx(a b:Int)(c:Sml a.natAbs)(d:Sml b.natAbs){R:CV→Prop}(hR:Ok P 248 (loopHead P 248 0) ⟨J1 65 [(4,.ptr 0 0),(5,.cv (.lst (dig 4294967296 a.natAbs).length (j8 (dig 4294967296 a.natAbs)))),(6,.cv (.lst (dig 4294967296 b.natAbs).length (j8 (dig 4294967296 b.natAbs))))],[some [.cv (.lit (.bool false)),.cv (.lit (.string {data:= #[]}))]]⟩ (.of R)):Y3 P 248 [J2 a,J2 b] R:=
 Z6 (keep:=[4,5,6]) (σ:=[2]) (.r 4 (J7 a) (.r 8 (J7 b) (.r 14 (U5 a.natAbs c) (.r 17 (U5 b.natAbs d) (.o 20 .stop .nil))))) (by kernel_rfl) rfl hR (.cons (by simp[CvL]) .nil)
theorem zkO(x y:Nat)(h1:decide ((↑(dig B32 y).length:Int)>2)=true)(a:y≠0)(c:(dig 4294967296 x).length<2^38)(d:(dig 4294967296 y).length<2^38){R:Goal}(hn:j7 R.n [0]=true)(hR:Ok P 248 (loopHead P 248 0) ⟨J1 65 [(4,.ptr 0 0),(5,.cv (.lst (dig 4294967296 y).length (j8 (dig 4294967296 y)))),(6,.cv (.lst (dig 4294967296 (x%y)).length (j8 (dig 4294967296 (x%y)))))],[some [.cv (.lit (.bool false)),.cv (.lit (.string {data:= #[]}))]]⟩ R):Ok P 248 (loopHead P 248 0) ({tm:=J1 65 [(4,.ptr 0 0),(5,.cv (z0c x)),(6,.cv (z0c y))],hp:=[some [.cv (.lit (.bool false)),.cv (.lit (.string {data:= #[]}))]]}) R:=
 z07 (keep:=[4,5,6]) (σ:=[0]) (.b 4 h1 (.r 17 (z0A x y a c d) (.o 27 .stop .nil))) (by kernel_rfl) rfl hn hR (.cons (by simp[CvL]) .nil)
theorem zka(x y:Nat)(h1:decide ((↑(dig B32 y).length:Int)>2)=false)(h2:decide ((↑(dig B32 x).length:Int)>2)=true)(h3:decide ((↑(dig B32 y).length:Int)>0)=true)(a:y≠0)(c:(dig 4294967296 x).length<2^38)(d:(dig 4294967296 y).length<2^38){R:Goal}(hn:j7 R.n [0]=true)(hR:Ok P 248 (loopHead P 248 0) ⟨J1 65 [(4,.ptr 0 0),(5,.cv (.lst (dig 4294967296 y).length (j8 (dig 4294967296 y)))),(6,.cv (.lst (dig 4294967296 (x%y)).length (j8 (dig 4294967296 (x%y)))))],[some [.cv (.lit (.bool false)),.cv (.lit (.string {data:= #[]}))]]⟩ R):Ok P 248 (loopHead P 248 0) ({tm:=J1 65 [(4,.ptr 0 0),(5,.cv (z0c x)),(6,.cv (z0c y))],hp:=[some [.cv (.lit (.bool false)),.cv (.lit (.string {data:= #[]}))]]}) R:=
 z07 (keep:=[4,5,6]) (σ:=[0]) (.b 4 h1 (.b 8 h2 (.b 14 h3 (.r 17 (z0A x y a c d) (.o 27 .stop .nil))))) (by kernel_rfl) rfl hn hR (.cons (by simp[CvL]) .nil)
theorem zk0(x y:Nat)(h1:decide ((↑(dig B32 y).length:Int)>2)=false)(h2:decide ((↑(dig B32 x).length:Int)>2)=true)(h3:decide ((↑(dig B32 y).length:Int)>0)=false)(h4:((↑(dig 4294967296 y).length:Int)==0)=true)(a:Sml x){R:Goal}(hR:R.c (.agg [.lit (.bool (decide (sgn false x<0))),.lit (.string (bytesOf (sgn false x).natAbs))])):Ok P 248 (loopHead P 248 0) ({tm:=J1 65 [(4,.ptr 0 0),(5,.cv (z0c x)),(6,.cv (z0c y))],hp:=[some [.cv (.lit (.bool false)),.cv (.lit (.string {data:= #[]}))]]}) R:=
 okT (.b 4 h1 (.b 8 h2 (.b 14 h3 (.b 18 h4 (.r 20 (U9 x false a) (.c (show 2≤2 from by decide) .nil)))))) (by kernel_rfl) hR
theorem zkQ(x y:Nat)(h1:decide ((↑(dig B32 y).length:Int)>2)=false)(h2:decide ((↑(dig B32 x).length:Int)>2)=false)(h3:((↑(dig 4294967296 y).length:Int)==0)=true)(a:Sml x){R:Goal}(hR:R.c (.agg [.lit (.bool (decide (sgn false x<0))),.lit (.string (bytesOf (sgn false x).natAbs))])):Ok P 248 (loopHead P 248 0) ({tm:=J1 65 [(4,.ptr 0 0),(5,.cv (z0c x)),(6,.cv (z0c y))],hp:=[some [.cv (.lit (.bool false)),.cv (.lit (.string {data:= #[]}))]]}) R:=
 okT (.b 4 h1 (.b 8 h2 (.b 18 h3 (.r 20 (U9 x false a) (.c (show 2≤2 from by decide) .nil))))) (by kernel_rfl) hR
theorem zmp(x y:Nat)(h1:decide ((↑(dig B32 y).length:Int)>2)=false)(h2:decide ((↑(dig B32 x).length:Int)>2)=false)(h3:((↑(dig 4294967296 y).length:Int)==0)=false)(a:x<18446744073709551616)(c:y<18446744073709551616){R:Goal}(hn:j7 R.n [0]=true)(hR:Ok P 248 (loopHead P 248 1) ⟨J1 65 [(4,.ptr 0 0),(9,.cv (.lit (.int .u64 (x:Int)))),(10,.cv (.lit (.int .u64 (y:Int))))],[some [.cv (.lit (.bool false)),.cv (.lit (.string {data:= #[]}))]]⟩ R):Ok P 248 (loopHead P 248 0) ({tm:=J1 65 [(4,.ptr 0 0),(5,.cv (z0c x)),(6,.cv (z0c y))],hp:=[some [.cv (.lit (.bool false)),.cv (.lit (.string {data:= #[]}))]]}) R:=
 z07 (keep:=[4,9,10]) (σ:=[0]) (.b 4 h1 (.b 8 h2 (.b 18 h3 (.r 20 (z6l x a) (.r 22 (z6l y c) (.o 25 .stop .nil)))))) (by kernel_rfl) rfl hn hR (.cons (by simp[CvL]) .nil)
theorem zj7(n m:Nat)(h1:((m:Int) != 0)=true)(o1:(m:Int)≠0){R:Goal}(hn:j7 R.n [0]=true)(hR:Ok P 248 (loopHead P 248 1) ⟨J1 65 [(4,.ptr 0 0),(9,.cv (.lit (.int .u64 (m:Int)))),(10,.cv (.lit (.int .u64 ((n:Int).tmod (m:Int)))))],[some [.cv (.lit (.bool false)),.cv (.lit (.string {data:= #[]}))]]⟩ R):Ok P 248 (loopHead P 248 1) ({tm:=J1 65 [(4,.ptr 0 0),(9,.cv (.lit (.int .u64 (n:Int)))),(10,.cv (.lit (.int .u64 (m:Int))))],hp:=[some [.cv (.lit (.bool false)),.cv (.lit (.string {data:= #[]}))]]}) R:=
 z07 (keep:=[4,9,10]) (σ:=[0]) (.b 3 h1 (.c o1 (.o 10 .stop .nil))) (by kernel_rfl) rfl hn hR (.cons (by simp[CvL]) .nil)
theorem zm6(n m:Nat)(h1:((m:Int) != 0)=false)(a:(0:Int)≤n)(d:(n:Int)<18446744073709551616)(e:Sml (n:Int).toNat){R:Goal}(hR:R.c (.agg [.lit (.bool (decide (sgn false (n:Int).toNat<0))),.lit (.string (bytesOf (sgn false (n:Int).toNat).natAbs))])):Ok P 248 (loopHead P 248 1) ({tm:=J1 65 [(4,.ptr 0 0),(9,.cv (.lit (.int .u64 (n:Int)))),(10,.cv (.lit (.int .u64 (m:Int))))],hp:=[some [.cv (.lit (.bool false)),.cv (.lit (.string {data:= #[]}))]]}) R:=
 okT (.b 3 h1 (.r 5 (z7H (n:Int) a d) (.r 6 (U9 ((n:Int).toNat) false e) (.c (show 2≤2 from by decide) .nil)))) (by kernel_rfl) hR
end Go.Fw
