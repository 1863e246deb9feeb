/- A part of the proof that the law returns true for every input: an executor for the model's code, and what functions of the program compute. -/
import Derived.Test.YtcafjpldfnegiaaGreatDoorB11
import Derived.Test.YtcafjpldfnegiaaGreatDoorB15
import Derived.Test.YtcafjpldfnegiaaGreatDoorB25
import Derived.Test.YtcafjpldfnegiaaGreatDoorB28
import Derived.Test.YtcafjpldfnegiaaGreatDoorB30
import Derived.Test.YtcafjpldfnegiaaGreatDoorB31
import Derived.Test.YtcafjpldfnegiaaGreatDoorB32
import Derived.Test.YtcafjpldfnegiaaGreatDoorB33
import Derived.KernelRfl
open Go IntKind
namespace Go.Fw
set_option maxRecDepth 100000
theorem zpW(n:Nat)(m:Nat)(us:List Nat)(vs:List Nat)(g1:decide (z1V (val B24 us) (val B24 vs)<(0:Int))=false)(g2:((↑m:Int)==(1:Int))=true)(a:n=us.length)(d:m=vs.length)(e:us=dig 16777216 (val 16777216 us))(f:vs=dig 16777216 (val 16777216 vs))(g:us.length<2^40)(i:vs.length<2^40)(j:n=us.length)(k:0<vs.getD 0 0)(l:vs.getD 0 0<16777216)(p:us.length<2^40)(q:Dig 16777216 us)(s:(0:Int)≤(↑(val 16777216 us%vs.getD 0 0):Int))(t:(↑(val 16777216 us%vs.getD 0 0):Int)<(16777216:Int))(o3:(0:Int)≤(0:Int)∧(0:Int)<(↑m:Int))(o4:(j4 vs)[0]?=some (CV.lit (Value.int i64 (↑(vs.getD 0 0):Int))))(o8:[MV.cv (CV.lit (Value.int i64 (↑(val 16777216 us%vs.getD 0 0):Int)))]=[MV.cv (CV.lit (Value.int i64 (↑(val 16777216 us%vs.getD 0 0):Int)))]):PCall P (253:FuncId) [CV.lst n (j4 us),CV.lst m (j4 vs)] (CV.tup [CV.lst (dig 16777216 (val 16777216 us/vs.getD 0 0)).length (j4 (dig 16777216 (val 16777216 us/vs.getD 0 0))),CV.lst (dig 16777216 (↑(val 16777216 us%vs.getD 0 0):Int).toNat).length (j4 (dig 16777216 (↑(val 16777216 us%vs.getD 0 0):Int).toNat))]):=
 j3 (.c (z31 n m us vs a d e f g i) (.o 4 (Or.r (CV.lit (Value.int i64 (z1V (val 16777216 us) (val 16777216 vs))))) (.b 6 g1 (.b 10 g2 (.c o3 (.c o4 (.c (show 1=1 from(by decide)) (.c (zal n us (vs.getD 0 0) j k l p q) (.c (zkU ((↑(val 16777216 us%vs.getD 0 0):Int)) s t) (.c o8 (.o 14 (Or.r (CV.lit (Value.int i64 (↑(vs.getD 0 0):Int)))) (.o 15 (Or.r (CV.tup [CV.lst (dig 16777216 (val 16777216 us/vs.getD 0 0)).length (j4 (dig 16777216 (val 16777216 us/vs.getD 0 0))),CV.lit (Value.int i64 (↑(val 16777216 us%vs.getD 0 0):Int))])) (.o 24 (Or.r (CV.lst (dig 16777216 (↑(val 16777216 us%vs.getD 0 0):Int).toNat).length (j4 (dig 16777216 (↑(val 16777216 us%vs.getD 0 0):Int).toNat))) [[CV.lit (Value.int i64 (↑(val 16777216 us%vs.getD 0 0):Int))]]) .nil))))))))))))) (by kernel_rfl)
theorem zsn(n:Nat)(m:Nat)(us:List Nat)(vs:List Nat)(p:Int)(g1:decide (z1V (val B24 us) (val B24 vs)<(0:Int))=false)(g2:((↑m:Int)==(1:Int))=false)(a:n=us.length)(d:m=vs.length)(e:us=dig 16777216 (val 16777216 us))(f:vs=dig 16777216 (val 16777216 vs))(i:us.length<2^40)(j:vs.length<2^40)(k:m=vs.length)(l:Dig 16777216 vs)(q:vs.length<2^40)(s:(0:Int)≤i64.wrap (Int.tdiv (16777216:Int) (i64.wrap (p+(1:Int)))))(t:i64.wrap (Int.tdiv (16777216:Int) (i64.wrap (p+(1:Int))))<(16777216:Int))(u:n=us.length)(v:Dig 16777216 us)(w:us.length<2^40)(x:(0:Int)≤i64.wrap (Int.tdiv (16777216:Int) (i64.wrap (p+(1:Int)))))(y:i64.wrap (Int.tdiv (16777216:Int) (i64.wrap (p+(1:Int))))<(16777216:Int))(o3:(0:Int)≤i64.wrap ((↑m:Int)-(1:Int))∧i64.wrap ((↑m:Int)-(1:Int))<(↑m:Int))(o4:(j4 vs)[(i64.wrap ((↑m:Int)-(1:Int))).toNat*1]?=some (CV.lit (Value.int i64 p)))(o6:i64.wrap (p+(1:Int))≠(0:Int))(o8:[MV.cv (CV.lit (Value.int i64 (i64.wrap (Int.tdiv (16777216:Int) (i64.wrap (p+(1:Int)))))))]=[MV.cv (CV.lit (Value.int i64 (i64.wrap (Int.tdiv (16777216:Int) (i64.wrap (p+(1:Int)))))))])(o10:[MV.cv (CV.lit (Value.int i64 (i64.wrap (Int.tdiv (16777216:Int) (i64.wrap (p+(1:Int)))))))]=[MV.cv (CV.lit (Value.int i64 (i64.wrap (Int.tdiv (16777216:Int) (i64.wrap (p+(1:Int)))))))])(o11:(0+(dig 16777216 (val 16777216 us*(i64.wrap (Int.tdiv (16777216:Int) (i64.wrap (p+(1:Int))))).toNat)).length)*8≤1099511627776)(o12:0+(dig 16777216 (val 16777216 us*(i64.wrap (Int.tdiv (16777216:Int) (i64.wrap (p+(1:Int))))).toNat)).length≤1099511627776)(o14:zb7 (List.take ((dig 16777216 (val 16777216 us*(i64.wrap (Int.tdiv (16777216:Int) (i64.wrap (p+(1:Int))))).toNat)).length*1) (List.drop 0 (own (j4 (Z1 16777216 (n+1) (val 16777216 us*(i64.wrap (Int.tdiv (16777216:Int) (i64.wrap (p+(1:Int))))).toNat)))))))(o15:(List.take ((dig 16777216 (val 16777216 us*(i64.wrap (Int.tdiv (16777216:Int) (i64.wrap (p+(1:Int))))).toNat)).length*1) (List.drop 0 (own (j4 (Z1 16777216 (n+1) (val 16777216 us*(i64.wrap (Int.tdiv (16777216:Int) (i64.wrap (p+(1:Int))))).toNat)))))).length=(dig 16777216 (val 16777216 us*(i64.wrap (Int.tdiv (16777216:Int) (i64.wrap (p+(1:Int))))).toNat)).length*1)(o16:(0+(dig 16777216 (val 16777216 us*(i64.wrap (Int.tdiv (16777216:Int) (i64.wrap (p+(1:Int))))).toNat)).length+2)*8≤1099511627776)(o17:0+(dig 16777216 (val 16777216 us*(i64.wrap (Int.tdiv (16777216:Int) (i64.wrap (p+(1:Int))))).toNat)).length+2≤1099511627776)(o18:([]++List.take ((dig 16777216 (val 16777216 us*(i64.wrap (Int.tdiv (16777216:Int) (i64.wrap (p+(1:Int))))).toNat)).length*1) (List.drop 0 (own (j4 (Z1 16777216 (n+1) (val 16777216 us*(i64.wrap (Int.tdiv (16777216:Int) (i64.wrap (p+(1:Int))))).toNat)))))).length=(0+(dig 16777216 (val 16777216 us*(i64.wrap (Int.tdiv (16777216:Int) (i64.wrap (p+(1:Int))))).toNat)).length)*1)(o21:(0:Int)≤i64.wrap ((↑(0+(dig 16777216 (val 16777216 us*(i64.wrap (Int.tdiv (16777216:Int) (i64.wrap (p+(1:Int))))).toNat)).length+2):Int)-(↑(dig 16777216 (val 16777216 vs*(i64.wrap (Int.tdiv (16777216:Int) (i64.wrap (p+(1:Int))))).toNat)).length:Int))∧i64.wrap ((↑(0+(dig 16777216 (val 16777216 us*(i64.wrap (Int.tdiv (16777216:Int) (i64.wrap (p+(1:Int))))).toNat)).length+2):Int)-(↑(dig 16777216 (val 16777216 vs*(i64.wrap (Int.tdiv (16777216:Int) (i64.wrap (p+(1:Int))))).toNat)).length:Int))≤i64.wrap ((↑(0+(dig 16777216 (val 16777216 us*(i64.wrap (Int.tdiv (16777216:Int) (i64.wrap (p+(1:Int))))).toNat)).length+2):Int)-(↑(dig 16777216 (val 16777216 vs*(i64.wrap (Int.tdiv (16777216:Int) (i64.wrap (p+(1:Int))))).toNat)).length:Int))∧(8:Int)*i64.wrap ((↑(0+(dig 16777216 (val 16777216 us*(i64.wrap (Int.tdiv (16777216:Int) (i64.wrap (p+(1:Int))))).toNat)).length+2):Int)-(↑(dig 16777216 (val 16777216 vs*(i64.wrap (Int.tdiv (16777216:Int) (i64.wrap (p+(1:Int))))).toNat)).length:Int))≤(140737488355328:Int)∧i64.wrap ((↑(0+(dig 16777216 (val 16777216 us*(i64.wrap (Int.tdiv (16777216:Int) (i64.wrap (p+(1:Int))))).toNat)).length+2):Int)-(↑(dig 16777216 (val 16777216 vs*(i64.wrap (Int.tdiv (16777216:Int) (i64.wrap (p+(1:Int))))).toNat)).length:Int))≤(4611686018427387904:Int)∧1=1)(o24:CvL ([]++List.take ((dig 16777216 (val 16777216 us*(i64.wrap (Int.tdiv (16777216:Int) (i64.wrap (p+(1:Int))))).toNat)).length*1) (List.drop 0 (own (j4 (Z1 16777216 (n+1) (val 16777216 us*(i64.wrap (Int.tdiv (16777216:Int) (i64.wrap (p+(1:Int))))).toNat)))))++[MV.cv (CV.lit (Value.int i64 (0:Int))),MV.cv (CV.lit (Value.int i64 (0:Int)))]))(o25:CvL (List.replicate ((i64.wrap ((↑(0+(dig 16777216 (val 16777216 us*(i64.wrap (Int.tdiv (16777216:Int) (i64.wrap (p+(1:Int))))).toNat)).length+2):Int)-(↑(dig 16777216 (val 16777216 vs*(i64.wrap (Int.tdiv (16777216:Int) (i64.wrap (p+(1:Int))))).toNat)).length:Int))).toNat*1) (MV.cv (CV.lit (Value.int i64 (0:Int)))))){R:CV→Prop}(hR:Ok P (253:FuncId) (loopHead P (253:FuncId) 0) ⟨J1 238 [(8,MV.sl 0 0 1 1),(9,MV.sl (0+1) 0 (dig 16777216 (val 16777216 vs*(i64.wrap (Int.tdiv (16777216:Int) (i64.wrap (p+(1:Int))))).toNat)).length 1),(10,MV.cv (CV.lit (Value.int i64 (↑(dig 16777216 (val 16777216 vs*(i64.wrap (Int.tdiv (16777216:Int) (i64.wrap (p+(1:Int))))).toNat)).length:Int)))),(11,MV.sl (0+1+1) 0 (0+(dig 16777216 (val 16777216 us*(i64.wrap (Int.tdiv (16777216:Int) (i64.wrap (p+(1:Int))))).toNat)).length+2) 1),(12,MV.sl (0+1+1+1) 0 (i64.wrap ((↑(0+(dig 16777216 (val 16777216 us*(i64.wrap (Int.tdiv (16777216:Int) (i64.wrap (p+(1:Int))))).toNat)).length+2):Int)-(↑(dig 16777216 (val 16777216 vs*(i64.wrap (Int.tdiv (16777216:Int) (i64.wrap (p+(1:Int))))).toNat)).length:Int))).toNat 1),(13,MV.cv (CV.lit (Value.int i64 (i64.wrap (i64.wrap ((↑(0+(dig 16777216 (val 16777216 us*(i64.wrap (Int.tdiv (16777216:Int) (i64.wrap (p+(1:Int))))).toNat)).length+2):Int)-(↑(dig 16777216 (val 16777216 vs*(i64.wrap (Int.tdiv (16777216:Int) (i64.wrap (p+(1:Int))))).toNat)).length:Int))-(1:Int))))))],[some [MV.cv (CV.lit (Value.int i64 (i64.wrap (Int.tdiv (16777216:Int) (i64.wrap (p+(1:Int)))))))],some (own (j4 (Z1 16777216 (m+1) (val 16777216 vs*(i64.wrap (Int.tdiv (16777216:Int) (i64.wrap (p+(1:Int))))).toNat)))),some ([]++List.take ((dig 16777216 (val 16777216 us*(i64.wrap (Int.tdiv (16777216:Int) (i64.wrap (p+(1:Int))))).toNat)).length*1) (List.drop 0 (own (j4 (Z1 16777216 (n+1) (val 16777216 us*(i64.wrap (Int.tdiv (16777216:Int) (i64.wrap (p+(1:Int))))).toNat)))))++[MV.cv (CV.lit (Value.int i64 (0:Int))),MV.cv (CV.lit (Value.int i64 (0:Int)))]),some (List.replicate ((i64.wrap ((↑(0+(dig 16777216 (val 16777216 us*(i64.wrap (Int.tdiv (16777216:Int) (i64.wrap (p+(1:Int))))).toNat)).length+2):Int)-(↑(dig 16777216 (val 16777216 vs*(i64.wrap (Int.tdiv (16777216:Int) (i64.wrap (p+(1:Int))))).toNat)).length:Int))).toNat*1) (MV.cv (CV.lit (Value.int i64 (0:Int)))))]⟩ (.of R)):Y3 P (253:FuncId) [CV.lst n (j4 us),CV.lst m (j4 vs)] R:=
 Z6 (keep:=[8,9,10,11,12,13]) (σ:=[1,2,7,8]) (.c (z31 n m us vs a d e f i j) (.o 4 (Or.r (CV.lit (Value.int i64 (z1V (val 16777216 us) (val 16777216 vs))))) (.b 6 g1 (.b 10 g2 (.c o3 (.c o4 (.c (show 1=1 from(by decide)) (.c o6 (.c (zae m vs (i64.wrap (Int.tdiv (16777216:Int) (i64.wrap (p+(1:Int))))) k l q s t) (.c o8 (.c (zae n us (i64.wrap (Int.tdiv (16777216:Int) (i64.wrap (p+(1:Int))))) u v w x y) (.c o10 (.c o11 (.c o12 (.c (show 0=0 from(by decide)) (.c o14 (.c o15 (.c o16 (.c o17 (.c o18 (.c (show zb7 [MV.cv (CV.lit (Value.int i64 (0:Int))),MV.cv (CV.lit (Value.int i64 (0:Int)))]from(by decide)) (.c (show 2=2 from(by decide)) (.c o21 (.o 16 (Or.r (j5 p)) (.o 23 (Or.g (MV.sl 0 0 (dig 16777216 (val 16777216 vs*(i64.wrap (Int.tdiv (16777216:Int) (i64.wrap (p+(1:Int))))).toNat)).length 1) (j4 (Z1 B24 (m+1) (val B24 vs*(i64.wrap (Int.tdiv (16777216:Int) (i64.wrap (p+(1:Int))))).toNat))) [[CV.lit (Value.int i64 (i64.wrap (Int.tdiv (16777216:Int) (i64.wrap (p+(1:Int))))))]]) (.o 31 (Or.g (MV.sl 0 0 (dig 16777216 (val 16777216 us*(i64.wrap (Int.tdiv (16777216:Int) (i64.wrap (p+(1:Int))))).toNat)).length 1) (j4 (Z1 B24 (n+1) (val B24 us*(i64.wrap (Int.tdiv (16777216:Int) (i64.wrap (p+(1:Int))))).toNat))) [[CV.lit (Value.int i64 (i64.wrap (Int.tdiv (16777216:Int) (i64.wrap (p+(1:Int))))))]]) (.o 48 .stop .nil))))))))))))))))))))))))))) (by kernel_rfl) rfl hR (.cons (by simp[CvL]) (.cons (J0 _) (.cons o24 (.cons o25 .nil))))
theorem z7g{a b:Nat}:z1V a b<0↔a<b:=by
 unfold z1V
 split
 · omega
 · split<;>omega
theorem zgD(xs:List Nat):zb7 (own (j4 xs)):=by
 intro x hx
 simp only[own,j4,List.map_map,List.mem_map]at hx
 obtain⟨c,_,rfl⟩:=hx
 rfl
theorem zfS(xs ys:List Nat):own (j4 xs)++own (j4 ys)=own (j4 (xs++ys)):=by simp[own,j4]
theorem zjI(B:Nat)(hB:2≤B)(n:Nat):dig B n++[0,0]=Z1 B ((dig B n).length+2) n:=by
 have hd:Dig B (dig B n++[0,0]):=(Y8 hB n).append (by intro x hx;simp at hx;omega)
 have h:=z0D (by omega:0<B) _ hd
 rw[z23,Q8 hB]at h
 simp only[List.length_append,List.length_cons,List.length_nil,val,Nat.mul_zero,Nat.add_zero,Nat.zero_add]at h
 exact h.symm
theorem z9P(A D:Nat)(hD:D≠0)(ha:(dig B24 A).length<2^36)(hb:(dig B24 D).length<2^36):PCall P 253 [z0r A,z0r D] (.tup [z0r (A/D),z0r (A%D)]):=by
 have va:val 16777216 (dig B24 A)=A:=Q8 (by decide) A
 have vb:val 16777216 (dig B24 D)=D:=Q8 (by decide) D
 have hcmp:z1V (val B24 (dig B24 A)) (val B24 (dig B24 D))=z1V A D:=by rw[show(B24:Nat)=16777216 from rfl]at*;rw[va,vb]
 have hl0:(dig B24 D).length≠0:=by rw[Ne,Y1 (by decide)];exact hD
 by_cases hlt:A<D
 · have h1:=znW _ _ (dig B24 A) (dig B24 D) (by rw[hcmp];exact decide_eq_true (z7g.2 hlt)) rfl rfl (by rw[va]) (by rw[vb]) (by omega) (by omega)
   rw[Nat.div_eq_of_lt hlt,Nat.mod_eq_of_lt hlt]
   refine h1.weaken ?_
   intro Im y hy
   simp only[CV.rep,CV.repL]at hy ⊢
   obtain⟨ys,rfl,y1,l1,h2,h3,y2,l2,h4,h5,h6⟩:=hy
   refine⟨ys,rfl,y1,l1,h2,?_,y2,l2,h4,h5,h6⟩
   exact zcL Im y1 (by simpa only[CV.rep]using h3)
 have hc0:decide (z1V (val B24 (dig B24 A)) (val B24 (dig B24 D))<0)=false:=by rw[hcmp];exact decide_eq_false ((not_congr z7g).2 hlt)
 by_cases hone:(dig B24 D).length=1
 · obtain⟨d,hd⟩:=List.length_eq_one_iff.1 hone
   have hdD:d=D:=by
    rw[hd]at vb
    simpa[val]using vb
   subst hdD
   have hdl:d<16777216:=Y8 (by decide:2≤B24) d d (by rw[hd];simp)
   have hg:(dig B24 d).getD 0 0=d:=by rw[hd];rfl
   have hml:=Nat.mod_lt A (by omega:0<d)
   have h2:=zpW _ _ (dig B24 A) (dig B24 d) hc0 (by rw[hone];rfl) rfl rfl (by rw[va]) (by rw[vb]) (by omega) (by omega) rfl (by rw[hg];omega) (by rw[hg];exact hdl) (by omega) (Y8 (by decide) _) (by omega) (by rw[hg,va];omega) (by omega)
    (Y2 (by omega)) rfl
   rw[hg,va,Int.toNat_natCast]at h2
   exact h2
 have h2l:2≤(dig B24 D).length:=by omega
 show PCall P 253 [.lst (dig B24 A).length (j4 (dig B24 A)),.lst (dig B24 D).length (j4 (dig B24 D))] _
 obtain⟨t,ht⟩: ∃t,t=D/B24^((dig B24 D).length-1):=⟨_,rfl⟩
 obtain⟨t1,F0,F1,hLV,hVt⟩:=zeg hD h2l ht
 have htd:(dig B24 D).getD ((dig B24 D).length-1) 0=t:=by
  have h1:=W4 B24 (dig B24 D).length D ((dig B24 D).length-1) (by omega)
  rw[z09 (by decide)]at h1
  rw[h1,←ht]
  exact Nat.mod_eq_of_lt t1
 have hfac:=zhH t1
 generalize hFd:16777216/(t+1)=F at*
 generalize hMd:(dig B24 D).length=M at*
 generalize hNd:(dig B24 A).length=N at*
 have hV0:0<D*F:=Nat.mul_pos (Nat.pos_of_ne_zero hD) F0
 have hUl:(dig B24 (A*F)).length≤N+1:=by
  refine Q1 (by decide) ?_
  have h1:=J8 (b:=B24) (by decide) A
  rw[hNd]at h1
  rw[Nat.pow_succ]
  exact Nat.mul_lt_mul'' h1 F1
 have hUV:M≤(dig B24 (A*F)).length:=by
  rw[←hLV]
  exact Z7 (by decide) (Nat.mul_le_mul_right _ (by omega))
 have e1:i64.wrap ((M:Int)-1)=((M-1:Nat):Int):=by rw[w64 (by omega)];omega
 have e2:((M-1:Nat):Int).toNat*1=M-1:=by omega
 have gp:=Y2 (xs:=dig B24 D) (i:=M-1) (by omega)
 rw[z2S,htd]at gp
 obtain⟨LU,hLU⟩: ∃LU,LU=(dig B24 (A*F)).length:=⟨_,rfl⟩
 have e3:i64.wrap (((0+LU+2:Nat):Int)-(M:Int))=((LU+2-M:Nat):Int):=by rw[w64 (by omega)];omega
 have e4:i64.wrap (((LU+2-M:Nat):Int)-1)=((LU+2-M:Nat):Int)-1:=w64 (by omega)
 have hds:=z09 (b:=B24) (by decide) (A*F)
 have htake:List.take (LU*1) (List.drop 0 (own (j4 (Z1 B24 (N+1) (A*F)))))=own (j4 (dig B24 (A*F))):=by
  rw[z0s,List.drop_zero,hLU,z22 B24 _ _ _ hUl,hds];rfl
 have hcells:[]++own (j4 (dig B24 (A*F)))++[MV.cv (CV.lit (.int .i64 0)),MV.cv (CV.lit (.int .i64 0))]=own (j4 (Z1 B24 (LU+2) (A*F))):=by
  rw[hLU,←zjI B24 (by decide),←zfS];rfl
 have hwk:(Z1 B24 (M+1) (D*F)).take M=dig B24 (D*F):=by
  rw[z22 B24 _ _ _ (by omega),←hLV,z09 (by decide)]
 have main:=zlb (R:= .of fun v=>v= .tup [z0r (A/D),z0r (A%D)]) rfl M (LU+2) (LU+2-M) F (D*F) (A*F) (Z1 B24 (M+1) (D*F)) h2l (by rw[j9];omega) (U8 (by decide) _ _) (by rw[hwk,Q8 (by decide)])
  hVt (by omega) (by omega) F0 F1 hV0 (by
   show CV.tup _=_
   rw[Nat.mul_div_mul_right _ _ F0,Nat.mul_mod_mul_right,Nat.mul_div_cancel _ F0]) (LU+2-M) (Nat.le_refl _) 0 (A*F) (by omega) (by
   have h1:=J8 (b:=B24) (by decide) (A*F)
   rw[←hLU]at h1
   have h3:D*F≠0:=by omega
   have h4:=zdT h3
   rw[hLV]at h4
   calc A*F<B24^LU:=h1
    _≤B24^(M-1+(LU+2-M)):=Nat.pow_le_pow_right (by decide) (by omega)
    _=B24^(M-1)*B24^(LU+2-M):=Nat.pow_add ..
    _≤D*F*B24^(LU+2-M):=Nat.mul_le_mul_right _ h4) (by rw[Nat.zero_mul];exact Nat.pow_pos (by decide))
 rw[Nat.zero_mul,z1x]at main
 refine Y6 (zsn N M (dig B24 A) (dig B24 D) (t:Int) hc0 (beq_false_of_ne (by omega)) hNd.symm hMd.symm (by rw[va]) (by rw[vb]) (by omega) (by omega) hMd.symm (Y8 (by decide) _) (by omega) (by rw[hfac];omega) (by rw[hfac];omega)
  hNd.symm (Y8 (by decide) _) (by omega) (by rw[hfac];omega) (by rw[hfac];omega) (by rw[e1];omega) (by rw[e1,e2];exact gp) (by rw[w64 (by omega)];omega) rfl rfl ?_ ?_ ?_ ?_ ?_ ?_ ?_ ?_ ?_ ?_ ?_)
 all_goals rw[hfac]
 all_goals simp only[Int.toNat_natCast,va,vb]
 all_goals simp only[show(16777216:Nat)=B24 from rfl]
 all_goals rw[←hLU]
 · omega
 · omega
 · rw[htake];exact zgD _
 · rw[htake,J4,Q9,←hLU,Nat.mul_one]
 · omega
 · omega
 · rw[htake,List.nil_append,J4,Q9,←hLU,Nat.zero_add,Nat.mul_one]
 · rw[hLV,e3];exact⟨by omega,by omega,by omega,by omega,trivial⟩
 · rw[htake,hcells];exact J0 _
 · rw[hLV,e3,U0];exact J0 _
 · rw[htake,hcells,hLV,e3,U0,e4,Int.toNat_natCast,Nat.mul_one]
   simp only[Nat.zero_add]
   exact main
theorem zs3(a b:Bool)(t w t' w':Nat)(hv:J5 a (bytesOf (2^t*w))=true)(hv':J5 b (bytesOf (2^t'*w'))=true)(hw:w%2=1)(hw':w'%2=1)(g1:decide ((↑(bytesOf (2^t*w)).size:Int)≤7)=false)(h1:((↑(dig 16777216 (2^t*w)).length:Int)==0)=false)(h2:((↑(dig 16777216 (2^t'*w')).length:Int)==0)=false)(d:Sml (2^t*w))(e:Sml (2^t'*w'))(g:(dig 16777216 (2^t*w)).length<2^40)(i:(dig 16777216 (2^t'*w')).length<2^40)(o8:BlksCv [some (own (j4 (dig 16777216 (2^t*w)))),some (own (j4 (X8 (dig 16777216 (2^t*w)) (t/24) ((dig 16777216 (2^t*w)).length-t/24) w)))])(o10:BlksCv [some (own (j4 (dig 16777216 (2^t'*w')))),some (own (j4 (X8 (dig 16777216 (2^t'*w')) (t'/24) ((dig 16777216 (2^t'*w')).length-t'/24) w')))]){R:CV→Prop}(hR:Ok P 184 (loopHead P 184 1) ⟨J1 111 [(4,.ptr 0 0),(9,.sl (0+1) (t/24) (dig 16777216 w).length 1),(10,.sl (0+1+1) (t'/24) (dig 16777216 w').length 1),(11,.cv (.lit (.int .i64 (t:Int)))),(12,.cv (.lit (.int .i64 (t':Int))))],[some [.cv (.lit (.bool false)),.cv (.lit (.string {data:= #[]}))],some (own (j4 (X8 (dig 16777216 (2^t*w)) (t/24) ((dig 16777216 (2^t*w)).length-t/24) w))),some (own (j4 (X8 (dig 16777216 (2^t'*w')) (t'/24) ((dig 16777216 (2^t'*w')).length-t'/24) w')))]⟩ (.of R)):Y3 P 184 [.agg [.lit (.bool a),X1 (bytesOf (2^t*w))],.agg [.lit (.bool b),X1 (bytesOf (2^t'*w'))]] R:=
 Z6 (keep:=[4,9,10,11,12]) (σ:=[2,5,6]) (.c ((J6 a (bytesOf (2^t*w))).eqB hv) (.c ((J6 b (bytesOf (2^t'*w'))).eqB hv') (.o 4 (.r (.lit (.bool true))) (.o 8 (.r (.lit (.bool true))) (.b 16 g1 (.c (Q2 (2^t*w) d) (.c (Q2 (2^t'*w') e) (.o 25 (.f (.sl 0 0 (dig 16777216 (2^t*w)).length 1) (j4 (dig B24 (2^t*w)))) (.o 28 (.f (.sl 0 0 (dig 16777216 (2^t'*w')).length 1) (j4 (dig B24 (2^t'*w')))) (.b 34 h1 (.b 39 h2 (.c (z5z t w hw g) (.c o8 (.c (z5z t' w' hw' i) (.c o10 (.o 41 (.m [5] (.tup [.sl 0 (t/24) (dig 16777216 w).length 1,.cv (.lit (.int .i64 (t:Int)))]) [some (own (j4 (X8 (dig B24 (2^t*w)) (t/24) ((dig B24 (2^t*w)).length-t/24) w)))]) (.o 48 (.m [6] (.tup [.sl 0 (t'/24) (dig 16777216 w').length 1,.cv (.lit (.int .i64 (t':Int)))]) [some (own (j4 (X8 (dig B24 (2^t'*w')) (t'/24) ((dig B24 (2^t'*w')).length-t'/24) w')))]) (.o 54 .stop .nil)))))))))))))))))) (by kernel_rfl) rfl hR (.cons (by simp[CvL]) (.cons (J0 _) (.cons (J0 _) .nil)))
theorem zrg(a b:Bool)(N M:Nat)(hv:J5 a (bytesOf N)=true)(hv':J5 b (bytesOf M)=true)(g1:decide ((↑(bytesOf N).size:Int)≤7)=false)(g3:((↑(dig B24 N).length:Int)==0)=false)(g4:((↑(dig B24 M).length:Int)==0)=true)(d:Sml N)(e:Sml M)(g:(dig 16777216 N).length=(dig 16777216 N).length)(i:(dig 16777216 M).length=(dig 16777216 M).length)(j:dig 16777216 N=dig 16777216 (val 16777216 (dig 16777216 N)))(k:dig 16777216 M=dig 16777216 (val 16777216 (dig 16777216 M)))(l:(dig 16777216 N).length<2^40)(m:(dig 16777216 M).length<2^40)(n:(dig 16777216 (val 16777216 (dig 16777216 N)+val 16777216 (dig 16777216 M))).length=(dig 16777216 (val 16777216 (dig 16777216 N)+val 16777216 (dig 16777216 M))).length)(o:Dig 16777216 (dig 16777216 (val 16777216 (dig 16777216 N)+val 16777216 (dig 16777216 M))))(p:(dig 16777216 (val 16777216 (dig 16777216 N)+val 16777216 (dig 16777216 M))).length<2^40)(o8:List.take ((dig 16777216 N).length*1) (List.drop 0 (own (j4 (dig 16777216 N))))=List.map MV.cv (j4 (dig 16777216 N)))(o9:List.take ((dig 16777216 M).length*1) (List.drop 0 (own (j4 (dig 16777216 M))))=List.map MV.cv (j4 (dig 16777216 M))):PCall P 184 [.agg [.lit (.bool a),X1 (bytesOf N)],.agg [.lit (.bool b),X1 (bytesOf M)]] (.agg [.lit (.bool (decide ((if false=true then-(↑(val B24 (dig 16777216 (val 16777216 (dig 16777216 N)+val 16777216 (dig 16777216 M)))):Int)else(↑(val B24 (dig 16777216 (val 16777216 (dig 16777216 N)+val 16777216 (dig 16777216 M)))):Int))<0))),.lit (.string (bytesOf (if false=true then-(↑(val 16777216 (dig 16777216 (val 16777216 (dig 16777216 N)+val 16777216 (dig 16777216 M)))):Int)else(↑(val 16777216 (dig 16777216 (val 16777216 (dig 16777216 N)+val 16777216 (dig 16777216 M)))):Int)).natAbs))]):=
 j3 (.r 4 ((J6 a (bytesOf N)).eqB hv) (.r 8 ((J6 b (bytesOf M)).eqB hv') (.b 16 g1 (.f 25 (Q2 N d) (.f 28 (Q2 M e) (.b 34 g3 (.b 39 g4 (.rs 42 [j4 (dig 16777216 N),j4 (dig 16777216 M)] (zeu ((dig 16777216 N).length) ((dig 16777216 M).length) (dig 16777216 N) (dig 16777216 M) g i j k l m) (.c o8 (.c o9 (.r 43 (z3h false ((dig 16777216 (val 16777216 (dig 16777216 N)+val 16777216 (dig 16777216 M))).length) (dig 16777216 (val 16777216 (dig 16777216 N)+val 16777216 (dig 16777216 M))) n o p) (.c (lq 2 2) .nil)))))))))))) (by kernel_rfl)
theorem zpg(a b:Bool)(N M:Nat)(hv:J5 a (bytesOf N)=true)(hv':J5 b (bytesOf M)=true)(g1:decide ((↑(bytesOf N).size:Int)≤7)=true)(g2:decide ((↑(bytesOf M).size:Int)≤7)=false)(g3:((↑(dig B24 N).length:Int)==0)=true)(d:Sml N)(e:Sml M)(g:(dig 16777216 N).length=(dig 16777216 N).length)(i:(dig 16777216 M).length=(dig 16777216 M).length)(j:dig 16777216 N=dig 16777216 (val 16777216 (dig 16777216 N)))(k:dig 16777216 M=dig 16777216 (val 16777216 (dig 16777216 M)))(l:(dig 16777216 N).length<2^40)(m:(dig 16777216 M).length<2^40)(n:(dig 16777216 (val 16777216 (dig 16777216 N)+val 16777216 (dig 16777216 M))).length=(dig 16777216 (val 16777216 (dig 16777216 N)+val 16777216 (dig 16777216 M))).length)(o:Dig 16777216 (dig 16777216 (val 16777216 (dig 16777216 N)+val 16777216 (dig 16777216 M))))(p:(dig 16777216 (val 16777216 (dig 16777216 N)+val 16777216 (dig 16777216 M))).length<2^40)(o8:List.take ((dig 16777216 N).length*1) (List.drop 0 (own (j4 (dig 16777216 N))))=List.map MV.cv (j4 (dig 16777216 N)))(o9:List.take ((dig 16777216 M).length*1) (List.drop 0 (own (j4 (dig 16777216 M))))=List.map MV.cv (j4 (dig 16777216 M))):PCall P 184 [.agg [.lit (.bool a),X1 (bytesOf N)],.agg [.lit (.bool b),X1 (bytesOf M)]] (.agg [.lit (.bool (decide ((if false=true then-(↑(val B24 (dig 16777216 (val 16777216 (dig 16777216 N)+val 16777216 (dig 16777216 M)))):Int)else(↑(val B24 (dig 16777216 (val 16777216 (dig 16777216 N)+val 16777216 (dig 16777216 M)))):Int))<0))),.lit (.string (bytesOf (if false=true then-(↑(val 16777216 (dig 16777216 (val 16777216 (dig 16777216 N)+val 16777216 (dig 16777216 M)))):Int)else(↑(val 16777216 (dig 16777216 (val 16777216 (dig 16777216 N)+val 16777216 (dig 16777216 M)))):Int)).natAbs))]):=
 j3 (.r 4 ((J6 a (bytesOf N)).eqB hv) (.r 8 ((J6 b (bytesOf M)).eqB hv') (.b 16 g1 (.b 22 g2 (.f 25 (Q2 N d) (.f 28 (Q2 M e) (.b 34 g3 (.rs 42 [j4 (dig 16777216 N),j4 (dig 16777216 M)] (zeu ((dig 16777216 N).length) ((dig 16777216 M).length) (dig 16777216 N) (dig 16777216 M) g i j k l m) (.c o8 (.c o9 (.r 43 (z3h false ((dig 16777216 (val 16777216 (dig 16777216 N)+val 16777216 (dig 16777216 M))).length) (dig 16777216 (val 16777216 (dig 16777216 N)+val 16777216 (dig 16777216 M))) n o p) (.c (lq 2 2) .nil)))))))))))) (by kernel_rfl)
theorem Sml.dig24{n:Nat}(h:Sml n):(dig B24 n).length<2^31:=by
 obtain⟨k,hk,hn⟩:=h.lt
 refine Nat.lt_of_le_of_lt (Q1 (by decide) (k:=k) (Nat.lt_of_lt_of_le hn (Nat.pow_le_pow_left (by decide) k))) (by omega)
theorem ztb{n:Nat}(h:n≠0)(hs:Sml n):v2 n<2^60:=by
 obtain⟨k,hk,hn⟩:=hs.lt
 obtain⟨h1,h2⟩:=z2W h
 have h3:2^v2 n<2^(8*k):=by
  rw[Nat.pow_mul]
  refine Nat.lt_of_le_of_lt ?_ hn
  conv=>rhs;rw[h1]
  exact Nat.le_mul_of_pos_right _ (by omega)
 have h4:=(Nat.pow_lt_pow_iff_right (a:=2) (by decide)).1 h3
 omega
theorem zfd {Q : CV → Prop} (x y : Nat) (hx : x ≠ 0) (hy : y ≠ 0) (sx : Sml x) (sy : Sml y) (hQ : Q (J2 (Nat.gcd x y : Nat))) :
    Ok P 184 (loopHead P 184 1) ⟨J1 111 [(4,.ptr 0 0),(9,.sl 1 (v2 x/24) (dig B24 (z3N x)).length 1),(10,.sl 2 (v2 y/24) (dig B24 (z3N y)).length 1),(11,.cv (j5 (v2 x:Int))),(12,.cv (j5 (v2 y:Int)))],
     [some [.cv (.lit (.bool false)),.cv (X1 ⟨#[]⟩)],some (own (j4 (X8 (dig B24 x) (v2 x/24) ((dig B24 x).length-v2 x/24) (z3N x)))),some (own (j4 (X8 (dig B24 y) (v2 y/24) ((dig B24 y).length-v2 y/24) (z3N y))))]⟩ (.of Q):=by
 obtain⟨x1,x2⟩:=z2W hx
 obtain⟨y1,y2⟩:=z2W hy
 have hg:2^(min (v2 x) (v2 y))*Nat.gcd (z3N x) (z3N y)=Nat.gcd x y:=by
  rw[←zlL x2 y2,←x1,←y1]
 have lo: ∀{n:Nat},Sml n→(dig B24 (z3N n)).length<2^40:=fun {n} h=>by
  have:=Z7 (b:=B24) (by decide) (z65 n)
  have:=h.dig24
  omega
 have hgl:Nat.gcd x y≤x:=Nat.gcd_le_left _ (by omega)
 refine z6u (v2 x:Int) (v2 y:Int) (Nat.gcd (z3N x) (z3N y)) (fun j xs p=>?_) _ _ _ (Nat.le_refl _) x2 y2 (lo sx) (lo sy) rfl _ _ _ _ ?_ ?_
 · refine zgc (v2 x) (v2 y) (ztb hx sx) (Nat.gcd x y) _ ?_ ?_ hQ hg j xs p
   · intro h0
     have:=Nat.eq_zero_of_gcd_eq_zero_left h0
     omega
   · have:=(sx.mono hgl).dig24;omega
 · exact z41 x1 (Nat.le_refl _) (by omega)
 · exact z41 y1 (Nat.le_refl _) (by omega)
theorem z8D(z:Int)(n:Nat)(h:z.natAbs=n):J5 (decide (z<0)) (bytesOf n)=true:=by rw[←h];exact z4I z
theorem z2J(a b:Int)(ha:Sml a.natAbs)(hb:Sml b.natAbs):z7O a b:=by
 by_cases s1:a.natAbs<256^7∧b.natAbs<256^7
 · exact z8A a b s1.1 s1.2
 unfold z7O
 have gen: ∀x y:Nat,x=a.natAbs→y=b.natAbs→PCall P 184 [.agg [.lit (.bool (decide (a<0))),X1 (bytesOf x)],.agg [.lit (.bool (decide (b<0))),X1 (bytesOf y)]] (J2 (Nat.gcd x y:Nat)):=by
  intro x y hx hy
  rw[←hx]at ha
  rw[←hy]at hb
  have na:(dig 16777216 x).length<2^31:=ha.dig24
  have nb:(dig 16777216 y).length<2^31:=hb.dig24
  have bx:J5 (decide (a<0)) (bytesOf x)=true:=z8D a x hx.symm
  have by':J5 (decide (b<0)) (bytesOf y)=true:=z8D b y hy.symm
  have va:val 16777216 (dig 16777216 x)=x:=Q8 (by decide) x
  have vb:val 16777216 (dig 16777216 y)=y:=Q8 (by decide) y
  have lz: ∀{n:Nat},n≠0→(((dig 16777216 n).length:Int)==0)=false:=fun {n} h=>by
   have:(dig 16777216 n).length≠0:=fun h2=>h ((Y1 (by decide)).1 h2)
   exact beq_false_of_ne (by omega)
  have ge7: ∀{n:Nat},¬n<256^7→decide (((bytesOf n).size:Int)≤7)=false:=fun {n} h=>decide_eq_false (fun h2=>h (V7.1 (by omega)))
  have le7: ∀{n:Nat},n<256^7→decide (((bytesOf n).size:Int)≤7)=true:=fun {n} h=>decide_eq_true (by have:=V7.2 h;omega)
  by_cases zx:x=0
  · have hyb: ¬y<256^7:=fun h=>s1 ⟨by rw[←hx,zx];decide,by rw[←hy];exact h⟩
    have h0:val 16777216 (dig 16777216 x)+val 16777216 (dig 16777216 y)=y:=by rw[va,vb,zx,Nat.zero_add]
    have h1:=zpg (decide (a<0)) (decide (b<0)) x y bx by' (le7 (by rw[zx];decide)) (ge7 hyb) (by rw[zx];rfl) ha hb rfl rfl (by rw[va]) (by rw[vb]) (by omega) (by omega) rfl (Y8 (by decide) _) (by rw[h0];omega) (z01 _) (z01 _)
    have h2:val 16777216 (dig 16777216 (val 16777216 (dig 16777216 x)+val 16777216 (dig 16777216 y)))=Nat.gcd x y:=by rw[Q8 (by decide),h0,zx,Nat.gcd_zero_left]
    rw[h2,z1d]at h1
    exact h1
  by_cases zy:y=0
  · have hxb: ¬x<256^7:=fun h=>s1 ⟨by rw[←hx];exact h,by rw[←hy,zy];decide⟩
    have h0:val 16777216 (dig 16777216 x)+val 16777216 (dig 16777216 y)=x:=by rw[va,vb,zy,Nat.add_zero]
    have h1:=zrg (decide (a<0)) (decide (b<0)) x y bx by' (ge7 hxb) (lz zx) (by rw[zy];rfl) ha hb rfl rfl (by rw[va]) (by rw[vb]) (by omega) (by omega) rfl (Y8 (by decide) _) (by rw[h0];omega) (z01 _) (z01 _)
    have h2:val 16777216 (dig 16777216 (val 16777216 (dig 16777216 x)+val 16777216 (dig 16777216 y)))=Nat.gcd x y:=by rw[Q8 (by decide),h0,zy,Nat.gcd_zero_right]
    rw[h2,z1d]at h1
    exact h1
  obtain⟨x1,x2⟩:=z2W zx
  obtain⟨y1,y2⟩:=z2W zy
  have tl:=zfd (Q:=fun v=>v=J2 (Nat.gcd x y:Nat)) x y zx zy ha hb rfl
  have lzx:=lz zx
  have lzy:=lz zy
  by_cases hxs:x<256^7
  · have hyb: ¬y<256^7:=fun h=>s1 ⟨by rw[←hx];exact hxs,by rw[←hy];exact h⟩
    have hyg:=ge7 hyb
    have hxl:=le7 hxs
    rw[x1]at bx hxl lzx ha na
    rw[y1]at by' hyg lzy hb nb
    have:=znh (decide (a<0)) (decide (b<0)) (v2 x) (z3N x) (v2 y) (z3N y) bx by' x2 y2 hxl hyg lzx lzy ha hb (by omega) (by omega) (BlksCv.two (J0 _) (J0 _)) (BlksCv.two (J0 _) (J0 _)) (R:=fun v=>v=J2 (Nat.gcd x y:Nat))
    rw[←x1,←y1]at this
    exact Y6 (this tl)
  · have hxg:=ge7 hxs
    rw[x1]at bx hxg lzx ha na
    rw[y1]at by' lzy hb nb
    have:=zs3 (decide (a<0)) (decide (b<0)) (v2 x) (z3N x) (v2 y) (z3N y) bx by' x2 y2 hxg lzx lzy ha hb (by omega) (by omega) (BlksCv.two (J0 _) (J0 _)) (BlksCv.two (J0 _) (J0 _)) (R:=fun v=>v=J2 (Nat.gcd x y:Nat))
    rw[←x1,←y1]at this
    exact Y6 (this tl)
 exact gen _ _ rfl rfl
theorem vd(n:Nat):val B24 (dig B24 n)=n:=Q8 (by decide) n
theorem z13(A D:Nat)(hD:D≠0)(ha:(dig B24 A).length<2^36)(hb:(dig B24 D).length<2^36):PCall P 253 [.lst (dig B24 A).length (j4 (dig B24 A)),.lst (dig B24 D).length (j4 (dig B24 D))] (.tup [z0r (A/D),z0r (A%D)]):=z9P A D hD ha hb
theorem z1w(b:Bool)(n:Nat)(hl:(dig B24 n).length<2^40):PCall P 196 [.lit (.bool b),.lst (dig B24 n).length (j4 (dig B24 n))] (J2 (if b then-(n:Int)else n)):=by
 have:=z3h b (dig B24 n).length (dig B24 n) rfl (Y8 (by decide) _) hl
 rwa[vd]at this
theorem zfu(a b:Nat)(ha:(dig B24 a).length<2^40)(hb:(dig B24 b).length<2^40):PCall P 197 [.lst (dig B24 a).length (j4 (dig B24 a)),.lst (dig B24 b).length (j4 (dig B24 b))] (z0r (a+b)):=z4L a b ha hb
theorem zaL(a:Nat)(ha:(dig B24 a).length<2^40):PCall P 197 [.lst (dig B24 a).length (j4 (dig B24 a)),.lst 1 [j5 1]] (z0r (a+1)):=by
 have:=z4L a 1 ha (by decide)
 exact this
theorem z3b(a b:Nat)(ha:(dig B24 a).length<2^40)(hb:b≤a):PCall P 199 [.lst (dig B24 a).length (j4 (dig B24 a)),.lst (dig B24 b).length (j4 (dig B24 b))] (z0r (a-b)):=by
 have hm:=Z7 (b:=B24) (by decide) (Nat.sub_le a b)
 have:=(z6J a b ha hb).pcall (by rw[Q9,j9];omega)
 have e:List.take ((dig B24 (a-b)).length*1) (List.drop 0 (j4 (Z1 B24 (dig B24 a).length (a-b))))=j4 (dig B24 (a-b)):=by
  have h1:=z22 B24 _ _ (a-b) hm
  rw[z09 (by decide)]at h1
  rw[Nat.mul_one,List.drop_zero]
  simp only[j4,←List.map_take,h1]
 rw[e]at this
 exact this
theorem zg3(a b:Nat)(ha:(dig B24 a).length<2^40)(hb:(dig B24 b).length<2^40):PCall P 200 [.lst (dig B24 a).length (j4 (dig B24 a)),.lst (dig B24 b).length (j4 (dig B24 b))] (z0r (a*b)):=by
 have:=zgY _ _ (dig B24 a) (dig B24 b) rfl rfl (Y8 (by decide) _) (Y8 (by decide) _) ha hb
 rwa[vd,vd]at this
theorem z4b(a b:Nat)(ha:(dig B24 a).length<2^40)(hb:(dig B24 b).length<2^40):PCall P 198 [.lst (dig B24 a).length (j4 (dig B24 a)),.lst (dig B24 b).length (j4 (dig B24 b))] (j5 (z1V a b)):=z6b a b (by omega) (by omega)
theorem z0t(z:Int):PCall P 194 [J2 z] (.tup [j5 (if z.natAbs<72057594037927936 then z else 0),.lit (.bool (decide (z.natAbs<72057594037927936)))]):=by
 by_cases h:z.natAbs<72057594037927936
 · rw[if_pos h,decide_eq_true h];exact W7 z h
 · rw[if_neg h,decide_eq_false h];exact z28 z (Nat.le_of_not_lt h)
end Go.Fw
