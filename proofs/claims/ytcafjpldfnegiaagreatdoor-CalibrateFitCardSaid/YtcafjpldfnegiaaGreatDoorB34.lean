/- A part of the proof that the law returns true for every input: an executor for the model's code, and what functions of the program compute. -/
import Derived.Test.YtcafjpldfnegiaaGreatDoorB11
import Derived.Test.YtcafjpldfnegiaaGreatDoorB15
import Derived.Test.YtcafjpldfnegiaaGreatDoorB25
import Derived.Test.YtcafjpldfnegiaaGreatDoorB28
import Derived.Test.YtcafjpldfnegiaaGreatDoorB30
import Derived.Test.YtcafjpldfnegiaaGreatDoorB31
import Derived.Test.YtcafjpldfnegiaaGreatDoorB32
import Derived.Test.YtcafjpldfnegiaaGreatDoorB33
import Derived.KernelRfl
open Go
namespace Go.Fw
set_option maxRecDepth 100000
theorem zmG(n:Nat)(m:Nat)(us:List Nat)(vs:List Nat)(g1:decide (z1v (val B24 us) (val B24 vs)<(0:Int))=false)(g2:((↑m:Int)==(1:Int))=true)(s4_0:n=us.length)(s4_1:m=vs.length)(s4_2:us=dig 16777216 (val 16777216 us))(s4_3:vs=dig 16777216 (val 16777216 vs))(s4_4:us.length<2^40)(s4_5:vs.length<2^40)(s15_0:n=us.length)(s15_1:0<vs.getD 0 0)(s15_2:vs.getD 0 0<16777216)(s15_3:us.length<2^40)(s15_4:Dig 16777216 us)(s24_0:(0:Int)≤(↑(val 16777216 us%vs.getD 0 0):Int))(s24_1:(↑(val 16777216 us%vs.getD 0 0):Int)<(16777216:Int))(o3:(0:Int)≤(0:Int)∧(0:Int)<(↑m:Int))(o4:(j4 vs)[0]?=some (CV.lit (Value.int IntKind.i64 (↑(vs.getD 0 0):Int))))(o8:[MV.cv (CV.lit (Value.int IntKind.i64 (↑(val 16777216 us%vs.getD 0 0):Int)))]=[MV.cv (CV.lit (Value.int IntKind.i64 (↑(val 16777216 us%vs.getD 0 0):Int)))]):PCall P (253:FuncId) [CV.lst n (j4 us),CV.lst m (j4 vs)] (CV.tup [CV.lst (dig 16777216 (val 16777216 us/vs.getD 0 0)).length (j4 (dig 16777216 (val 16777216 us/vs.getD 0 0))),CV.lst (dig 16777216 (↑(val 16777216 us%vs.getD 0 0):Int).toNat).length (j4 (dig 16777216 (↑(val 16777216 us%vs.getD 0 0):Int).toNat))]):=
 j3 (.c (Go.Fw.rorder_v (n) (m) (us) (vs) s4_0 s4_1 s4_2 s4_3 s4_4 s4_5) (.o 4 (Or.r (CV.lit (Value.int IntKind.i64 (z1v (val 16777216 us) (val 16777216 vs))))) (.b 6 g1 (.b 10 g2 (.c o3 (.c o4 (.c (show 1=1 from(by decide)) (.c (Go.Fw.rshort_v (n) (us) (vs.getD 0 0) s15_0 s15_1 s15_2 s15_3 s15_4) (.c (Go.Fw.rtrim_f ((↑(val 16777216 us%vs.getD 0 0):Int)) s24_0 s24_1) (.c o8 (.o 14 (Or.r (CV.lit (Value.int IntKind.i64 (↑(vs.getD 0 0):Int)))) (.o 15 (Or.r (CV.tup [CV.lst (dig 16777216 (val 16777216 us/vs.getD 0 0)).length (j4 (dig 16777216 (val 16777216 us/vs.getD 0 0))),CV.lit (Value.int IntKind.i64 (↑(val 16777216 us%vs.getD 0 0):Int))])) (.o 24 (Or.r (CV.lst (dig 16777216 (↑(val 16777216 us%vs.getD 0 0):Int).toNat).length (j4 (dig 16777216 (↑(val 16777216 us%vs.getD 0 0):Int).toNat))) [[CV.lit (Value.int IntKind.i64 (↑(val 16777216 us%vs.getD 0 0):Int))]]) .nil))))))))))))) (by kernel_rfl)
theorem zpI(n:Nat)(m:Nat)(us:List Nat)(vs:List Nat)(p:Int)(g1:decide (z1v (val B24 us) (val B24 vs)<(0:Int))=false)(g2:((↑m:Int)==(1:Int))=false)(s4_0:n=us.length)(s4_1:m=vs.length)(s4_2:us=dig 16777216 (val 16777216 us))(s4_3:vs=dig 16777216 (val 16777216 vs))(s4_4:us.length<2^40)(s4_5:vs.length<2^40)(s23_0:m=vs.length)(s23_1:Dig 16777216 vs)(s23_2:vs.length<2^40)(s23_3:(0:Int)≤IntKind.i64.wrap (Int.tdiv (16777216:Int) (IntKind.i64.wrap (p+(1:Int)))))(s23_4:IntKind.i64.wrap (Int.tdiv (16777216:Int) (IntKind.i64.wrap (p+(1:Int))))<(16777216:Int))(s31_0:n=us.length)(s31_1:Dig 16777216 us)(s31_2:us.length<2^40)(s31_3:(0:Int)≤IntKind.i64.wrap (Int.tdiv (16777216:Int) (IntKind.i64.wrap (p+(1:Int)))))(s31_4:IntKind.i64.wrap (Int.tdiv (16777216:Int) (IntKind.i64.wrap (p+(1:Int))))<(16777216:Int))(o3:(0:Int)≤IntKind.i64.wrap ((↑m:Int)-(1:Int))∧IntKind.i64.wrap ((↑m:Int)-(1:Int))<(↑m:Int))(o4:(j4 vs)[(IntKind.i64.wrap ((↑m:Int)-(1:Int))).toNat*1]?=some (CV.lit (Value.int IntKind.i64 p)))(o6:IntKind.i64.wrap (p+(1:Int))≠(0:Int))(o8:[MV.cv (CV.lit (Value.int IntKind.i64 (IntKind.i64.wrap (Int.tdiv (16777216:Int) (IntKind.i64.wrap (p+(1:Int)))))))]=[MV.cv (CV.lit (Value.int IntKind.i64 (IntKind.i64.wrap (Int.tdiv (16777216:Int) (IntKind.i64.wrap (p+(1:Int)))))))])(o10:[MV.cv (CV.lit (Value.int IntKind.i64 (IntKind.i64.wrap (Int.tdiv (16777216:Int) (IntKind.i64.wrap (p+(1:Int)))))))]=[MV.cv (CV.lit (Value.int IntKind.i64 (IntKind.i64.wrap (Int.tdiv (16777216:Int) (IntKind.i64.wrap (p+(1:Int)))))))])(o11:(0+(dig 16777216 (val 16777216 us*(IntKind.i64.wrap (Int.tdiv (16777216:Int) (IntKind.i64.wrap (p+(1:Int))))).toNat)).length)*8≤1099511627776)(o12:0+(dig 16777216 (val 16777216 us*(IntKind.i64.wrap (Int.tdiv (16777216:Int) (IntKind.i64.wrap (p+(1:Int))))).toNat)).length≤1099511627776)(o14:z6T (List.take ((dig 16777216 (val 16777216 us*(IntKind.i64.wrap (Int.tdiv (16777216:Int) (IntKind.i64.wrap (p+(1:Int))))).toNat)).length*1) (List.drop 0 (own (j4 (Q8 16777216 (n+1) (val 16777216 us*(IntKind.i64.wrap (Int.tdiv (16777216:Int) (IntKind.i64.wrap (p+(1:Int))))).toNat)))))))(o15:(List.take ((dig 16777216 (val 16777216 us*(IntKind.i64.wrap (Int.tdiv (16777216:Int) (IntKind.i64.wrap (p+(1:Int))))).toNat)).length*1) (List.drop 0 (own (j4 (Q8 16777216 (n+1) (val 16777216 us*(IntKind.i64.wrap (Int.tdiv (16777216:Int) (IntKind.i64.wrap (p+(1:Int))))).toNat)))))).length=(dig 16777216 (val 16777216 us*(IntKind.i64.wrap (Int.tdiv (16777216:Int) (IntKind.i64.wrap (p+(1:Int))))).toNat)).length*1)(o16:(0+(dig 16777216 (val 16777216 us*(IntKind.i64.wrap (Int.tdiv (16777216:Int) (IntKind.i64.wrap (p+(1:Int))))).toNat)).length+2)*8≤1099511627776)(o17:0+(dig 16777216 (val 16777216 us*(IntKind.i64.wrap (Int.tdiv (16777216:Int) (IntKind.i64.wrap (p+(1:Int))))).toNat)).length+2≤1099511627776)(o18:([]++List.take ((dig 16777216 (val 16777216 us*(IntKind.i64.wrap (Int.tdiv (16777216:Int) (IntKind.i64.wrap (p+(1:Int))))).toNat)).length*1) (List.drop 0 (own (j4 (Q8 16777216 (n+1) (val 16777216 us*(IntKind.i64.wrap (Int.tdiv (16777216:Int) (IntKind.i64.wrap (p+(1:Int))))).toNat)))))).length=(0+(dig 16777216 (val 16777216 us*(IntKind.i64.wrap (Int.tdiv (16777216:Int) (IntKind.i64.wrap (p+(1:Int))))).toNat)).length)*1)(o21:(0:Int)≤IntKind.i64.wrap ((↑(0+(dig 16777216 (val 16777216 us*(IntKind.i64.wrap (Int.tdiv (16777216:Int) (IntKind.i64.wrap (p+(1:Int))))).toNat)).length+2):Int)-(↑(dig 16777216 (val 16777216 vs*(IntKind.i64.wrap (Int.tdiv (16777216:Int) (IntKind.i64.wrap (p+(1:Int))))).toNat)).length:Int))∧IntKind.i64.wrap ((↑(0+(dig 16777216 (val 16777216 us*(IntKind.i64.wrap (Int.tdiv (16777216:Int) (IntKind.i64.wrap (p+(1:Int))))).toNat)).length+2):Int)-(↑(dig 16777216 (val 16777216 vs*(IntKind.i64.wrap (Int.tdiv (16777216:Int) (IntKind.i64.wrap (p+(1:Int))))).toNat)).length:Int))≤IntKind.i64.wrap ((↑(0+(dig 16777216 (val 16777216 us*(IntKind.i64.wrap (Int.tdiv (16777216:Int) (IntKind.i64.wrap (p+(1:Int))))).toNat)).length+2):Int)-(↑(dig 16777216 (val 16777216 vs*(IntKind.i64.wrap (Int.tdiv (16777216:Int) (IntKind.i64.wrap (p+(1:Int))))).toNat)).length:Int))∧(8:Int)*IntKind.i64.wrap ((↑(0+(dig 16777216 (val 16777216 us*(IntKind.i64.wrap (Int.tdiv (16777216:Int) (IntKind.i64.wrap (p+(1:Int))))).toNat)).length+2):Int)-(↑(dig 16777216 (val 16777216 vs*(IntKind.i64.wrap (Int.tdiv (16777216:Int) (IntKind.i64.wrap (p+(1:Int))))).toNat)).length:Int))≤(140737488355328:Int)∧IntKind.i64.wrap ((↑(0+(dig 16777216 (val 16777216 us*(IntKind.i64.wrap (Int.tdiv (16777216:Int) (IntKind.i64.wrap (p+(1:Int))))).toNat)).length+2):Int)-(↑(dig 16777216 (val 16777216 vs*(IntKind.i64.wrap (Int.tdiv (16777216:Int) (IntKind.i64.wrap (p+(1:Int))))).toNat)).length:Int))≤(4611686018427387904:Int)∧1=1)(o24:CvL ([]++List.take ((dig 16777216 (val 16777216 us*(IntKind.i64.wrap (Int.tdiv (16777216:Int) (IntKind.i64.wrap (p+(1:Int))))).toNat)).length*1) (List.drop 0 (own (j4 (Q8 16777216 (n+1) (val 16777216 us*(IntKind.i64.wrap (Int.tdiv (16777216:Int) (IntKind.i64.wrap (p+(1:Int))))).toNat)))))++[MV.cv (CV.lit (Value.int IntKind.i64 (0:Int))),MV.cv (CV.lit (Value.int IntKind.i64 (0:Int)))]))(o25:CvL (List.replicate ((IntKind.i64.wrap ((↑(0+(dig 16777216 (val 16777216 us*(IntKind.i64.wrap (Int.tdiv (16777216:Int) (IntKind.i64.wrap (p+(1:Int))))).toNat)).length+2):Int)-(↑(dig 16777216 (val 16777216 vs*(IntKind.i64.wrap (Int.tdiv (16777216:Int) (IntKind.i64.wrap (p+(1:Int))))).toNat)).length:Int))).toNat*1) (MV.cv (CV.lit (Value.int IntKind.i64 (0:Int)))))){R:CV→Prop}(hR:Ok P (253:FuncId) (loopHead P (253:FuncId) 0) ⟨J1 238 [(8,MV.sl 0 0 1 1),(9,MV.sl (0+1) 0 (dig 16777216 (val 16777216 vs*(IntKind.i64.wrap (Int.tdiv (16777216:Int) (IntKind.i64.wrap (p+(1:Int))))).toNat)).length 1),(10,MV.cv (CV.lit (Value.int IntKind.i64 (↑(dig 16777216 (val 16777216 vs*(IntKind.i64.wrap (Int.tdiv (16777216:Int) (IntKind.i64.wrap (p+(1:Int))))).toNat)).length:Int)))),(11,MV.sl (0+1+1) 0 (0+(dig 16777216 (val 16777216 us*(IntKind.i64.wrap (Int.tdiv (16777216:Int) (IntKind.i64.wrap (p+(1:Int))))).toNat)).length+2) 1),(12,MV.sl (0+1+1+1) 0 (IntKind.i64.wrap ((↑(0+(dig 16777216 (val 16777216 us*(IntKind.i64.wrap (Int.tdiv (16777216:Int) (IntKind.i64.wrap (p+(1:Int))))).toNat)).length+2):Int)-(↑(dig 16777216 (val 16777216 vs*(IntKind.i64.wrap (Int.tdiv (16777216:Int) (IntKind.i64.wrap (p+(1:Int))))).toNat)).length:Int))).toNat 1),(13,MV.cv (CV.lit (Value.int IntKind.i64 (IntKind.i64.wrap (IntKind.i64.wrap ((↑(0+(dig 16777216 (val 16777216 us*(IntKind.i64.wrap (Int.tdiv (16777216:Int) (IntKind.i64.wrap (p+(1:Int))))).toNat)).length+2):Int)-(↑(dig 16777216 (val 16777216 vs*(IntKind.i64.wrap (Int.tdiv (16777216:Int) (IntKind.i64.wrap (p+(1:Int))))).toNat)).length:Int))-(1:Int))))))],[some [MV.cv (CV.lit (Value.int IntKind.i64 (IntKind.i64.wrap (Int.tdiv (16777216:Int) (IntKind.i64.wrap (p+(1:Int)))))))],some (own (j4 (Q8 16777216 (m+1) (val 16777216 vs*(IntKind.i64.wrap (Int.tdiv (16777216:Int) (IntKind.i64.wrap (p+(1:Int))))).toNat)))),some ([]++List.take ((dig 16777216 (val 16777216 us*(IntKind.i64.wrap (Int.tdiv (16777216:Int) (IntKind.i64.wrap (p+(1:Int))))).toNat)).length*1) (List.drop 0 (own (j4 (Q8 16777216 (n+1) (val 16777216 us*(IntKind.i64.wrap (Int.tdiv (16777216:Int) (IntKind.i64.wrap (p+(1:Int))))).toNat)))))++[MV.cv (CV.lit (Value.int IntKind.i64 (0:Int))),MV.cv (CV.lit (Value.int IntKind.i64 (0:Int)))]),some (List.replicate ((IntKind.i64.wrap ((↑(0+(dig 16777216 (val 16777216 us*(IntKind.i64.wrap (Int.tdiv (16777216:Int) (IntKind.i64.wrap (p+(1:Int))))).toNat)).length+2):Int)-(↑(dig 16777216 (val 16777216 vs*(IntKind.i64.wrap (Int.tdiv (16777216:Int) (IntKind.i64.wrap (p+(1:Int))))).toNat)).length:Int))).toNat*1) (MV.cv (CV.lit (Value.int IntKind.i64 (0:Int)))))]⟩ (.of R)):Y6 P (253:FuncId) [CV.lst n (j4 us),CV.lst m (j4 vs)] R:=
 Y0 (keep:=[8,9,10,11,12,13]) (σ:=[1,2,7,8]) (.c (Go.Fw.rorder_v (n) (m) (us) (vs) s4_0 s4_1 s4_2 s4_3 s4_4 s4_5) (.o 4 (Or.r (CV.lit (Value.int IntKind.i64 (z1v (val 16777216 us) (val 16777216 vs))))) (.b 6 g1 (.b 10 g2 (.c o3 (.c o4 (.c (show 1=1 from(by decide)) (.c o6 (.c (Go.Fw.rtimes_h (m) (vs) (IntKind.i64.wrap (Int.tdiv (16777216:Int) (IntKind.i64.wrap (p+(1:Int))))) s23_0 s23_1 s23_2 s23_3 s23_4) (.c o8 (.c (Go.Fw.rtimes_h (n) (us) (IntKind.i64.wrap (Int.tdiv (16777216:Int) (IntKind.i64.wrap (p+(1:Int))))) s31_0 s31_1 s31_2 s31_3 s31_4) (.c o10 (.c o11 (.c o12 (.c (show 0=0 from(by decide)) (.c o14 (.c o15 (.c o16 (.c o17 (.c o18 (.c (show z6T [MV.cv (CV.lit (Value.int IntKind.i64 (0:Int))),MV.cv (CV.lit (Value.int IntKind.i64 (0:Int)))]from(by decide)) (.c (show 2=2 from(by decide)) (.c o21 (.o 16 (Or.r (j5 p)) (.o 23 (Or.g (MV.sl 0 0 (dig 16777216 (val 16777216 vs*(IntKind.i64.wrap (Int.tdiv (16777216:Int) (IntKind.i64.wrap (p+(1:Int))))).toNat)).length 1) (j4 (Q8 B24 (m+1) (val B24 vs*(IntKind.i64.wrap (Int.tdiv (16777216:Int) (IntKind.i64.wrap (p+(1:Int))))).toNat))) [[CV.lit (Value.int IntKind.i64 (IntKind.i64.wrap (Int.tdiv (16777216:Int) (IntKind.i64.wrap (p+(1:Int))))))]]) (.o 31 (Or.g (MV.sl 0 0 (dig 16777216 (val 16777216 us*(IntKind.i64.wrap (Int.tdiv (16777216:Int) (IntKind.i64.wrap (p+(1:Int))))).toNat)).length 1) (j4 (Q8 B24 (n+1) (val B24 us*(IntKind.i64.wrap (Int.tdiv (16777216:Int) (IntKind.i64.wrap (p+(1:Int))))).toNat))) [[CV.lit (Value.int IntKind.i64 (IntKind.i64.wrap (Int.tdiv (16777216:Int) (IntKind.i64.wrap (p+(1:Int))))))]]) (.o 48 .stop .nil))))))))))))))))))))))))))) (by kernel_rfl) rfl hR (.cons (by simp[CvL]) (.cons (J0 _) (.cons o24 (.cons o25 .nil))))
end Go.Fw
open Go
namespace Go.Fw
set_option maxRecDepth 100000
theorem z7r{a b:Nat}:z1v a b<0↔a<b:=by
 unfold z1v
 split
 · omega
 · split<;>omega
theorem zgx(xs:List Nat):z6T (own (j4 xs)):=by
 intro x hx
 simp only[own,j4,List.map_map,List.mem_map]at hx
 obtain⟨c,_,rfl⟩:=hx
 rfl
theorem zfY(xs ys:List Nat):own (j4 xs)++own (j4 ys)=own (j4 (xs++ys)):=by simp[own,j4]
theorem zin(B:Nat)(hB:2≤B)(n:Nat):dig B n++[0,0]=Q8 B ((dig B n).length+2) n:=by
 have hd:Dig B (dig B n++[0,0]):=(W1 hB n).append (by intro x hx;simp at hx;omega)
 have h:=z0E (by omega:0<B) _ hd
 rw[z2Y,Q7 hB]at h
 simp only[List.length_append,List.length_cons,List.length_nil,val,Nat.mul_zero,Nat.add_zero,Nat.zero_add]at h
 exact h.symm
theorem za0(A D:Nat)(hD:D≠0)(ha:(dig B24 A).length<2^36)(hb:(dig B24 D).length<2^36):PCall P 253 [z2a A,z2a D] (.tup [z2a (A/D),z2a (A%D)]):=by
 have va:val 16777216 (dig B24 A)=A:=Q7 (by decide) A
 have vb:val 16777216 (dig B24 D)=D:=Q7 (by decide) D
 have hcmp:z1v (val B24 (dig B24 A)) (val B24 (dig B24 D))=z1v A D:=by rw[show(B24:Nat)=16777216 from rfl]at*;rw[va,vb]
 have hl0:(dig B24 D).length≠0:=by rw[Ne,Y8 (by decide)];exact hD
 by_cases hlt:A<D
 · have h1:=zpz _ _ (dig B24 A) (dig B24 D) (by rw[hcmp];exact decide_eq_true (z7r.2 hlt)) rfl rfl (by rw[va]) (by rw[vb]) (by omega) (by omega)
   rw[Nat.div_eq_of_lt hlt,Nat.mod_eq_of_lt hlt]
   refine h1.weaken ?_
   intro Im y hy
   simp only[CV.rep,CV.repL]at hy ⊢
   obtain⟨ys,rfl,y1,l1,h2,h3,y2,l2,h4,h5,h6⟩:=hy
   refine⟨ys,rfl,y1,l1,h2,?_,y2,l2,h4,h5,h6⟩
   exact zd3 Im y1 (by simpa only[CV.rep]using h3)
 have hc0:decide (z1v (val B24 (dig B24 A)) (val B24 (dig B24 D))<0)=false:=by rw[hcmp];exact decide_eq_false ((not_congr z7r).2 hlt)
 by_cases hone:(dig B24 D).length=1
 · obtain⟨d,hd⟩:=List.length_eq_one_iff.1 hone
   have hdD:d=D:=by
    rw[hd]at vb
    simpa[val]using vb
   subst hdD
   have hdl:d<16777216:=W1 (by decide:2≤B24) d d (by rw[hd];simp)
   have hg:(dig B24 d).getD 0 0=d:=by rw[hd];rfl
   have hml:=Nat.mod_lt A (by omega:0<d)
   have h2:=zmG _ _ (dig B24 A) (dig B24 d) hc0 (by rw[hone];rfl) rfl rfl (by rw[va]) (by rw[vb]) (by omega) (by omega) rfl (by rw[hg];omega) (by rw[hg];exact hdl) (by omega) (W1 (by decide) _) (by omega) (by rw[hg,va];omega) (by omega)
    (Y3 (by omega)) rfl
   rw[hg,va,Int.toNat_natCast]at h2
   exact h2
 have h2l:2≤(dig B24 D).length:=by omega
 show PCall P 253 [.lst (dig B24 A).length (j4 (dig B24 A)),.lst (dig B24 D).length (j4 (dig B24 D))] _
 obtain⟨t,ht⟩: ∃t,t=D/B24^((dig B24 D).length-1):=⟨_,rfl⟩
 obtain⟨t1,F0,F1,hLV,hVt⟩:=zeH hD h2l ht
 have htd:(dig B24 D).getD ((dig B24 D).length-1) 0=t:=by
  have h1:=W7 B24 (dig B24 D).length D ((dig B24 D).length-1) (by omega)
  rw[z0o (by decide)]at h1
  rw[h1,←ht]
  exact Nat.mod_eq_of_lt t1
 have hfac:=zgi t1
 generalize hFd:16777216/(t+1)=F at*
 generalize hMd:(dig B24 D).length=M at*
 generalize hNd:(dig B24 A).length=N at*
 have hV0:0<D*F:=Nat.mul_pos (Nat.pos_of_ne_zero hD) F0
 have hUl:(dig B24 (A*F)).length≤N+1:=by
  refine Z4 (by decide) ?_
  have h1:=J9 (b:=B24) (by decide) A
  rw[hNd]at h1
  rw[Nat.pow_succ]
  exact Nat.mul_lt_mul'' h1 F1
 have hUV:M≤(dig B24 (A*F)).length:=by
  rw[←hLV]
  exact Z9 (by decide) (Nat.mul_le_mul_right _ (by omega))
 have e1:IntKind.i64.wrap ((M:Int)-1)=((M-1:Nat):Int):=by rw[w64 (by omega)];omega
 have e2:((M-1:Nat):Int).toNat*1=M-1:=by omega
 have gp:=Y3 (xs:=dig B24 D) (i:=M-1) (by omega)
 rw[z2L,htd]at gp
 obtain⟨LU,hLU⟩: ∃LU,LU=(dig B24 (A*F)).length:=⟨_,rfl⟩
 have e3:IntKind.i64.wrap (((0+LU+2:Nat):Int)-(M:Int))=((LU+2-M:Nat):Int):=by rw[w64 (by omega)];omega
 have e4:IntKind.i64.wrap (((LU+2-M:Nat):Int)-1)=((LU+2-M:Nat):Int)-1:=w64 (by omega)
 have hds:=z0o (b:=B24) (by decide) (A*F)
 have htake:List.take (LU*1) (List.drop 0 (own (j4 (Q8 B24 (N+1) (A*F)))))=own (j4 (dig B24 (A*F))):=by
  rw[z0t,List.drop_zero,hLU,z20 B24 _ _ _ hUl,hds];rfl
 have hcells:[]++own (j4 (dig B24 (A*F)))++[MV.cv (CV.lit (.int .i64 0)),MV.cv (CV.lit (.int .i64 0))]=own (j4 (Q8 B24 (LU+2) (A*F))):=by
  rw[hLU,←zin B24 (by decide),←zfY];rfl
 have hwk:(Q8 B24 (M+1) (D*F)).take M=dig B24 (D*F):=by
  rw[z20 B24 _ _ _ (by omega),←hLV,z0o (by decide)]
 have main:=zl2 (R:= .of fun v=>v= .tup [z2a (A/D),z2a (A%D)]) rfl M (LU+2) (LU+2-M) F (D*F) (A*F) (Q8 B24 (M+1) (D*F)) h2l (by rw[j9];omega) (U5 (by decide) _ _) (by rw[hwk,Q7 (by decide)])
  hVt (by omega) (by omega) F0 F1 hV0 (by
   show CV.tup _=_
   rw[Nat.mul_div_mul_right _ _ F0,Nat.mul_mod_mul_right,Nat.mul_div_cancel _ F0]) (LU+2-M) (Nat.le_refl _) 0 (A*F) (by omega) (by
   have h1:=J9 (b:=B24) (by decide) (A*F)
   rw[←hLU]at h1
   have h3:D*F≠0:=by omega
   have h4:=zel h3
   rw[hLV]at h4
   calc A*F<B24^LU:=h1
    _≤B24^(M-1+(LU+2-M)):=Nat.pow_le_pow_right (by decide) (by omega)
    _=B24^(M-1)*B24^(LU+2-M):=Nat.pow_add ..
    _≤D*F*B24^(LU+2-M):=Nat.mul_le_mul_right _ h4) (by rw[Nat.zero_mul];exact Nat.pow_pos (by decide))
 rw[Nat.zero_mul,z1u]at main
 refine X2 (zpI N M (dig B24 A) (dig B24 D) (t:Int) hc0 (beq_false_of_ne (by omega)) hNd.symm hMd.symm (by rw[va]) (by rw[vb]) (by omega) (by omega) hMd.symm (W1 (by decide) _) (by omega) (by rw[hfac];omega) (by rw[hfac];omega)
  hNd.symm (W1 (by decide) _) (by omega) (by rw[hfac];omega) (by rw[hfac];omega) (by rw[e1];omega) (by rw[e1,e2];exact gp) (by rw[w64 (by omega)];omega) rfl rfl ?_ ?_ ?_ ?_ ?_ ?_ ?_ ?_ ?_ ?_ ?_)
 all_goals rw[hfac]
 all_goals simp only[Int.toNat_natCast,va,vb]
 all_goals simp only[show(16777216:Nat)=B24 from rfl]
 all_goals rw[←hLU]
 · omega
 · omega
 · rw[htake];exact zgx _
 · rw[htake,J3,Q6,←hLU,Nat.mul_one]
 · omega
 · omega
 · rw[htake,List.nil_append,J3,Q6,←hLU,Nat.zero_add,Nat.mul_one]
 · rw[hLV,e3];exact⟨by omega,by omega,by omega,by omega,trivial⟩
 · rw[htake,hcells];exact J0 _
 · rw[hLV,e3,V9];exact J0 _
 · rw[htake,hcells,hLV,e3,V9,e4,Int.toNat_natCast,Nat.mul_one]
   simp only[Nat.zero_add]
   exact main
end Go.Fw
open Go IntKind
namespace Go.Fw
set_option maxRecDepth 100000
theorem zpo(a b:Bool)(t w t' w':Nat)(hv:J5 a (bytesOf (2^t*w))=true)(hv':J5 b (bytesOf (2^t'*w'))=true)(hw:w%2=1)(hw':w'%2=1)(g1:decide ((↑(bytesOf (2^t*w)).size:Int)≤7)=false)(h1:((↑(dig 16777216 (2^t*w)).length:Int)==0)=false)(h2:((↑(dig 16777216 (2^t'*w')).length:Int)==0)=false)(s25_0:Sml (2^t*w))(s28_0:Sml (2^t'*w'))(s41_0:(dig 16777216 (2^t*w)).length<2^40)(s48_0:(dig 16777216 (2^t'*w')).length<2^40)(o8:BlksCv [some (own (j4 (dig 16777216 (2^t*w)))),some (own (j4 (X5 (dig 16777216 (2^t*w)) (t/24) ((dig 16777216 (2^t*w)).length-t/24) w)))])(o10:BlksCv [some (own (j4 (dig 16777216 (2^t'*w')))),some (own (j4 (X5 (dig 16777216 (2^t'*w')) (t'/24) ((dig 16777216 (2^t'*w')).length-t'/24) w')))]){R:CV→Prop}(hR:Ok P 184 (loopHead P 184 1) ⟨J1 111 [(4,.ptr 0 0),(9,.sl (0+1) (t/24) (dig 16777216 w).length 1),(10,.sl (0+1+1) (t'/24) (dig 16777216 w').length 1),(11,.cv (.lit (.int .i64 (t:Int)))),(12,.cv (.lit (.int .i64 (t':Int))))],[some [.cv (.lit (.bool false)),.cv (.lit (.string {data:= #[]}))],some (own (j4 (X5 (dig 16777216 (2^t*w)) (t/24) ((dig 16777216 (2^t*w)).length-t/24) w))),some (own (j4 (X5 (dig 16777216 (2^t'*w')) (t'/24) ((dig 16777216 (2^t'*w')).length-t'/24) w')))]⟩ (.of R)):Y6 P 184 [.agg [.lit (.bool a),X9 (bytesOf (2^t*w))],.agg [.lit (.bool b),X9 (bytesOf (2^t'*w'))]] R:=
 Y0 (keep:=[4,9,10,11,12]) (σ:=[2,5,6]) (.c ((J6 (a) (bytesOf (2^t*w))).eqB hv) (.c ((J6 (b) (bytesOf (2^t'*w'))).eqB hv') (.o 4 (.r (.lit (.bool true))) (.o 8 (.r (.lit (.bool true))) (.b 16 g1 (.c (Q0 (2^t*w) s25_0) (.c (Q0 (2^t'*w') s28_0) (.o 25 (.f (.sl 0 0 (dig 16777216 (2^t*w)).length 1) (j4 (dig B24 (2^t*w)))) (.o 28 (.f (.sl 0 0 (dig 16777216 (2^t'*w')).length 1) (j4 (dig B24 (2^t'*w')))) (.b 34 h1 (.b 39 h2 (.c (z5o (t) (w) hw s41_0) (.c o8 (.c (z5o (t') (w') hw' s48_0) (.c o10 (.o 41 (.m [5] (.tup [.sl 0 (t/24) (dig 16777216 w).length 1,.cv (.lit (.int .i64 (t:Int)))]) [some (own (j4 (X5 (dig B24 (2^t*w)) (t/24) ((dig B24 (2^t*w)).length-t/24) w)))]) (.o 48 (.m [6] (.tup [.sl 0 (t'/24) (dig 16777216 w').length 1,.cv (.lit (.int .i64 (t':Int)))]) [some (own (j4 (X5 (dig B24 (2^t'*w')) (t'/24) ((dig B24 (2^t'*w')).length-t'/24) w')))]) (.o 54 .stop .nil)))))))))))))))))) (by kernel_rfl) rfl hR (.cons (by simp[CvL]) (.cons (J0 _) (.cons (J0 _) .nil)))
theorem zo1(a b:Bool)(N M:Nat)(hv:J5 a (bytesOf N)=true)(hv':J5 b (bytesOf M)=true)(g1:decide ((↑(bytesOf N).size:Int)≤7)=false)(g3:((↑(dig B24 N).length:Int)==0)=false)(g4:((↑(dig B24 M).length:Int)==0)=true)(s25_0:Sml N)(s28_0:Sml M)(s42_0:(dig 16777216 N).length=(dig 16777216 N).length)(s42_1:(dig 16777216 M).length=(dig 16777216 M).length)(s42_2:dig 16777216 N=dig 16777216 (val 16777216 (dig 16777216 N)))(s42_3:dig 16777216 M=dig 16777216 (val 16777216 (dig 16777216 M)))(s42_4:(dig 16777216 N).length<2^40)(s42_5:(dig 16777216 M).length<2^40)(s43_0:(dig 16777216 (val 16777216 (dig 16777216 N)+val 16777216 (dig 16777216 M))).length=(dig 16777216 (val 16777216 (dig 16777216 N)+val 16777216 (dig 16777216 M))).length)(s43_1:Dig 16777216 (dig 16777216 (val 16777216 (dig 16777216 N)+val 16777216 (dig 16777216 M))))(s43_2:(dig 16777216 (val 16777216 (dig 16777216 N)+val 16777216 (dig 16777216 M))).length<2^40)(o8:List.take ((dig 16777216 N).length*1) (List.drop 0 (own (j4 (dig 16777216 N))))=List.map MV.cv (j4 (dig 16777216 N)))(o9:List.take ((dig 16777216 M).length*1) (List.drop 0 (own (j4 (dig 16777216 M))))=List.map MV.cv (j4 (dig 16777216 M))):PCall P 184 [.agg [.lit (.bool a),X9 (bytesOf N)],.agg [.lit (.bool b),X9 (bytesOf M)]] (.agg [.lit (.bool (decide ((if false=true then-(↑(val B24 (dig 16777216 (val 16777216 (dig 16777216 N)+val 16777216 (dig 16777216 M)))):Int)else(↑(val B24 (dig 16777216 (val 16777216 (dig 16777216 N)+val 16777216 (dig 16777216 M)))):Int))<0))),.lit (.string (bytesOf (if false=true then-(↑(val 16777216 (dig 16777216 (val 16777216 (dig 16777216 N)+val 16777216 (dig 16777216 M)))):Int)else(↑(val 16777216 (dig 16777216 (val 16777216 (dig 16777216 N)+val 16777216 (dig 16777216 M)))):Int)).natAbs))]):=
 j3 (.r 4 ((J6 (a) (bytesOf N)).eqB hv) (.r 8 ((J6 (b) (bytesOf M)).eqB hv') (.b 16 g1 (.f 25 (Q0 (N) s25_0) (.f 28 (Q0 (M) s28_0) (.b 34 g3 (.b 39 g4 (.rs 42 [j4 (dig 16777216 N),j4 (dig 16777216 M)] (zcJ ((dig 16777216 N).length) ((dig 16777216 M).length) (dig 16777216 N) (dig 16777216 M) s42_0 s42_1 s42_2 s42_3 s42_4 s42_5) (.c o8 (.c o9 (.r 43 (z31 (false) ((dig 16777216 (val 16777216 (dig 16777216 N)+val 16777216 (dig 16777216 M))).length) (dig 16777216 (val 16777216 (dig 16777216 N)+val 16777216 (dig 16777216 M))) s43_0 s43_1 s43_2) (.c (lq 2 2) .nil)))))))))))) (by kernel_rfl)
theorem zor(a b:Bool)(N M:Nat)(hv:J5 a (bytesOf N)=true)(hv':J5 b (bytesOf M)=true)(g1:decide ((↑(bytesOf N).size:Int)≤7)=true)(g2:decide ((↑(bytesOf M).size:Int)≤7)=false)(g3:((↑(dig B24 N).length:Int)==0)=true)(s25_0:Sml N)(s28_0:Sml M)(s42_0:(dig 16777216 N).length=(dig 16777216 N).length)(s42_1:(dig 16777216 M).length=(dig 16777216 M).length)(s42_2:dig 16777216 N=dig 16777216 (val 16777216 (dig 16777216 N)))(s42_3:dig 16777216 M=dig 16777216 (val 16777216 (dig 16777216 M)))(s42_4:(dig 16777216 N).length<2^40)(s42_5:(dig 16777216 M).length<2^40)(s43_0:(dig 16777216 (val 16777216 (dig 16777216 N)+val 16777216 (dig 16777216 M))).length=(dig 16777216 (val 16777216 (dig 16777216 N)+val 16777216 (dig 16777216 M))).length)(s43_1:Dig 16777216 (dig 16777216 (val 16777216 (dig 16777216 N)+val 16777216 (dig 16777216 M))))(s43_2:(dig 16777216 (val 16777216 (dig 16777216 N)+val 16777216 (dig 16777216 M))).length<2^40)(o8:List.take ((dig 16777216 N).length*1) (List.drop 0 (own (j4 (dig 16777216 N))))=List.map MV.cv (j4 (dig 16777216 N)))(o9:List.take ((dig 16777216 M).length*1) (List.drop 0 (own (j4 (dig 16777216 M))))=List.map MV.cv (j4 (dig 16777216 M))):PCall P 184 [.agg [.lit (.bool a),X9 (bytesOf N)],.agg [.lit (.bool b),X9 (bytesOf M)]] (.agg [.lit (.bool (decide ((if false=true then-(↑(val B24 (dig 16777216 (val 16777216 (dig 16777216 N)+val 16777216 (dig 16777216 M)))):Int)else(↑(val B24 (dig 16777216 (val 16777216 (dig 16777216 N)+val 16777216 (dig 16777216 M)))):Int))<0))),.lit (.string (bytesOf (if false=true then-(↑(val 16777216 (dig 16777216 (val 16777216 (dig 16777216 N)+val 16777216 (dig 16777216 M)))):Int)else(↑(val 16777216 (dig 16777216 (val 16777216 (dig 16777216 N)+val 16777216 (dig 16777216 M)))):Int)).natAbs))]):=
 j3 (.r 4 ((J6 (a) (bytesOf N)).eqB hv) (.r 8 ((J6 (b) (bytesOf M)).eqB hv') (.b 16 g1 (.b 22 g2 (.f 25 (Q0 (N) s25_0) (.f 28 (Q0 (M) s28_0) (.b 34 g3 (.rs 42 [j4 (dig 16777216 N),j4 (dig 16777216 M)] (zcJ ((dig 16777216 N).length) ((dig 16777216 M).length) (dig 16777216 N) (dig 16777216 M) s42_0 s42_1 s42_2 s42_3 s42_4 s42_5) (.c o8 (.c o9 (.r 43 (z31 (false) ((dig 16777216 (val 16777216 (dig 16777216 N)+val 16777216 (dig 16777216 M))).length) (dig 16777216 (val 16777216 (dig 16777216 N)+val 16777216 (dig 16777216 M))) s43_0 s43_1 s43_2) (.c (lq 2 2) .nil)))))))))))) (by kernel_rfl)
end Go.Fw
open Go
namespace Go.Fw
set_option maxRecDepth 100000
theorem Sml.dig24{n:Nat}(h:Sml n):(dig B24 n).length<2^31:=by
 obtain⟨k,hk,hn⟩:=h.lt
 refine Nat.lt_of_le_of_lt (Z4 (by decide) (k:=k) (Nat.lt_of_lt_of_le hn (Nat.pow_le_pow_left (by decide) k))) (by omega)
theorem zrh{n:Nat}(h:n≠0)(hs:Sml n):v2 n<2^60:=by
 obtain⟨k,hk,hn⟩:=hs.lt
 obtain⟨h1,h2⟩:=z2N h
 have h3:2^v2 n<2^(8*k):=by
  rw[Nat.pow_mul]
  refine Nat.lt_of_le_of_lt ?_ hn
  conv=>rhs;rw[h1]
  exact Nat.le_mul_of_pos_right _ (by omega)
 have h4:=(Nat.pow_lt_pow_iff_right (a:=2) (by decide)).1 h3
 omega
theorem zec {Q : CV → Prop} (x y : Nat) (hx : x ≠ 0) (hy : y ≠ 0) (sx : Sml x) (sy : Sml y) (hQ : Q (J7 (Nat.gcd x y : Nat))) :
    Ok P 184 (loopHead P 184 1) ⟨J1 111 [(4,.ptr 0 0),(9,.sl 1 (v2 x/24) (dig B24 (z3D x)).length 1),(10,.sl 2 (v2 y/24) (dig B24 (z3D y)).length 1),(11,.cv (j5 (v2 x:Int))),(12,.cv (j5 (v2 y:Int)))],
     [some [.cv (.lit (.bool false)),.cv (X9 ⟨#[]⟩)],some (own (j4 (X5 (dig B24 x) (v2 x/24) ((dig B24 x).length-v2 x/24) (z3D x)))),some (own (j4 (X5 (dig B24 y) (v2 y/24) ((dig B24 y).length-v2 y/24) (z3D y))))]⟩ (.of Q):=by
 obtain⟨x1,x2⟩:=z2N hx
 obtain⟨y1,y2⟩:=z2N hy
 have hg:2^(min (v2 x) (v2 y))*Nat.gcd (z3D x) (z3D y)=Nat.gcd x y:=by
  rw[←zhV x2 y2,←x1,←y1]
 have lo: ∀{n:Nat},Sml n→(dig B24 (z3D n)).length<2^40:=fun {n} h=>by
  have:=Z9 (b:=B24) (by decide) (z6v n)
  have:=h.dig24
  omega
 have hgl:Nat.gcd x y≤x:=Nat.gcd_le_left _ (by omega)
 refine z6t (v2 x:Int) (v2 y:Int) (Nat.gcd (z3D x) (z3D y)) (fun j xs p=>?_) _ _ _ (Nat.le_refl _) x2 y2 (lo sx) (lo sy) rfl _ _ _ _ ?_ ?_
 · refine zfy (v2 x) (v2 y) (zrh hx sx) (Nat.gcd x y) _ ?_ ?_ hQ hg j xs p
   · intro h0
     have:=Nat.eq_zero_of_gcd_eq_zero_left h0
     omega
   · have:=(sx.mono hgl).dig24;omega
 · exact z3E x1 (Nat.le_refl _) (by omega)
 · exact z3E y1 (Nat.le_refl _) (by omega)
theorem z8B(z:Int)(n:Nat)(h:z.natAbs=n):J5 (decide (z<0)) (bytesOf n)=true:=by rw[←h];exact z4r z
theorem z2J(a b:Int)(ha:Sml a.natAbs)(hb:Sml b.natAbs):z83 a b:=by
 by_cases s1:a.natAbs<256^7∧b.natAbs<256^7
 · exact z95 a b s1.1 s1.2
 unfold z83
 have gen: ∀x y:Nat,x=a.natAbs→y=b.natAbs→PCall P 184 [.agg [.lit (.bool (decide (a<0))),X9 (bytesOf x)],.agg [.lit (.bool (decide (b<0))),X9 (bytesOf y)]] (J7 (Nat.gcd x y:Nat)):=by
  intro x y hx hy
  rw[←hx]at ha
  rw[←hy]at hb
  have na:(dig 16777216 x).length<2^31:=ha.dig24
  have nb:(dig 16777216 y).length<2^31:=hb.dig24
  have bx:J5 (decide (a<0)) (bytesOf x)=true:=z8B a x hx.symm
  have by':J5 (decide (b<0)) (bytesOf y)=true:=z8B b y hy.symm
  have va:val 16777216 (dig 16777216 x)=x:=Q7 (by decide) x
  have vb:val 16777216 (dig 16777216 y)=y:=Q7 (by decide) y
  have lz: ∀{n:Nat},n≠0→(((dig 16777216 n).length:Int)==0)=false:=fun {n} h=>by
   have:(dig 16777216 n).length≠0:=fun h2=>h ((Y8 (by decide)).1 h2)
   exact beq_false_of_ne (by omega)
  have ge7: ∀{n:Nat},¬n<256^7→decide (((bytesOf n).size:Int)≤7)=false:=fun {n} h=>decide_eq_false (fun h2=>h (V7.1 (by omega)))
  have le7: ∀{n:Nat},n<256^7→decide (((bytesOf n).size:Int)≤7)=true:=fun {n} h=>decide_eq_true (by have:=V7.2 h;omega)
  by_cases zx:x=0
  · have hyb: ¬y<256^7:=fun h=>s1 ⟨by rw[←hx,zx];decide,by rw[←hy];exact h⟩
    have h0:val 16777216 (dig 16777216 x)+val 16777216 (dig 16777216 y)=y:=by rw[va,vb,zx,Nat.zero_add]
    have h1:=zor (decide (a<0)) (decide (b<0)) x y bx by' (le7 (by rw[zx];decide)) (ge7 hyb) (by rw[zx];rfl) ha hb rfl rfl (by rw[va]) (by rw[vb]) (by omega) (by omega) rfl (W1 (by decide) _) (by rw[h0];omega) (U1 _) (U1 _)
    have h2:val 16777216 (dig 16777216 (val 16777216 (dig 16777216 x)+val 16777216 (dig 16777216 y)))=Nat.gcd x y:=by rw[Q7 (by decide),h0,zx,Nat.gcd_zero_left]
    rw[h2,z1d]at h1
    exact h1
  by_cases zy:y=0
  · have hxb: ¬x<256^7:=fun h=>s1 ⟨by rw[←hx];exact h,by rw[←hy,zy];decide⟩
    have h0:val 16777216 (dig 16777216 x)+val 16777216 (dig 16777216 y)=x:=by rw[va,vb,zy,Nat.add_zero]
    have h1:=zo1 (decide (a<0)) (decide (b<0)) x y bx by' (ge7 hxb) (lz zx) (by rw[zy];rfl) ha hb rfl rfl (by rw[va]) (by rw[vb]) (by omega) (by omega) rfl (W1 (by decide) _) (by rw[h0];omega) (U1 _) (U1 _)
    have h2:val 16777216 (dig 16777216 (val 16777216 (dig 16777216 x)+val 16777216 (dig 16777216 y)))=Nat.gcd x y:=by rw[Q7 (by decide),h0,zy,Nat.gcd_zero_right]
    rw[h2,z1d]at h1
    exact h1
  obtain⟨x1,x2⟩:=z2N zx
  obtain⟨y1,y2⟩:=z2N zy
  have tl:=zec (Q:=fun v=>v=J7 (Nat.gcd x y:Nat)) x y zx zy ha hb rfl
  have lzx:=lz zx
  have lzy:=lz zy
  by_cases hxs:x<256^7
  · have hyb: ¬y<256^7:=fun h=>s1 ⟨by rw[←hx];exact hxs,by rw[←hy];exact h⟩
    have hyg:=ge7 hyb
    have hxl:=le7 hxs
    rw[x1]at bx hxl lzx ha na
    rw[y1]at by' hyg lzy hb nb
    have:=zmT (decide (a<0)) (decide (b<0)) (v2 x) (z3D x) (v2 y) (z3D y) bx by' x2 y2 hxl hyg lzx lzy ha hb (by omega) (by omega) (BlksCv.two (J0 _) (J0 _)) (BlksCv.two (J0 _) (J0 _)) (R:=fun v=>v=J7 (Nat.gcd x y:Nat))
    rw[←x1,←y1]at this
    exact X2 (this tl)
  · have hxg:=ge7 hxs
    rw[x1]at bx hxg lzx ha na
    rw[y1]at by' lzy hb nb
    have:=zpo (decide (a<0)) (decide (b<0)) (v2 x) (z3D x) (v2 y) (z3D y) bx by' x2 y2 hxg lzx lzy ha hb (by omega) (by omega) (BlksCv.two (J0 _) (J0 _)) (BlksCv.two (J0 _) (J0 _)) (R:=fun v=>v=J7 (Nat.gcd x y:Nat))
    rw[←x1,←y1]at this
    exact X2 (this tl)
 exact gen _ _ rfl rfl
end Go.Fw
open Go
namespace Go.Fw
set_option maxRecDepth 100000
theorem vd(n:Nat):val B24 (dig B24 n)=n:=Q7 (by decide) n
theorem z3Y(A D:Nat)(hD:D≠0)(ha:(dig B24 A).length<2^36)(hb:(dig B24 D).length<2^36):PCall P 253 [.lst (dig B24 A).length (j4 (dig B24 A)),.lst (dig B24 D).length (j4 (dig B24 D))] (.tup [z2a (A/D),z2a (A%D)]):=za0 A D hD ha hb
theorem z49(b:Bool)(n:Nat)(hl:(dig B24 n).length<2^40):PCall P 196 [.lit (.bool b),.lst (dig B24 n).length (j4 (dig B24 n))] (J7 (if b then-(n:Int)else n)):=by
 have:=z31 b (dig B24 n).length (dig B24 n) rfl (W1 (by decide) _) hl
 rwa[vd]at this
theorem zdc(a b:Nat)(ha:(dig B24 a).length<2^40)(hb:(dig B24 b).length<2^40):PCall P 197 [.lst (dig B24 a).length (j4 (dig B24 a)),.lst (dig B24 b).length (j4 (dig B24 b))] (z2a (a+b)):=z77 a b ha hb
theorem z7B(a b:Nat)(ha:(dig B24 a).length<2^40)(hb:b≤a):PCall P 199 [.lst (dig B24 a).length (j4 (dig B24 a)),.lst (dig B24 b).length (j4 (dig B24 b))] (z2a (a-b)):=by
 have hm:=Z9 (b:=B24) (by decide) (Nat.sub_le a b)
 have:=(z6O a b ha hb).pcall (by rw[Q6,j9];omega)
 have e:List.take ((dig B24 (a-b)).length*1) (List.drop 0 (j4 (Q8 B24 (dig B24 a).length (a-b))))=j4 (dig B24 (a-b)):=by
  have h1:=z20 B24 _ _ (a-b) hm
  rw[z0o (by decide)]at h1
  rw[Nat.mul_one,List.drop_zero]
  simp only[j4,←List.map_take,h1]
 rw[e]at this
 exact this
theorem zfc(a b:Nat)(ha:(dig B24 a).length<2^40)(hb:(dig B24 b).length<2^40):PCall P 200 [.lst (dig B24 a).length (j4 (dig B24 a)),.lst (dig B24 b).length (j4 (dig B24 b))] (z2a (a*b)):=by
 have:=zgP _ _ (dig B24 a) (dig B24 b) rfl rfl (W1 (by decide) _) (W1 (by decide) _) ha hb
 rwa[vd,vd]at this
theorem z5x(a b:Nat)(ha:(dig B24 a).length<2^40)(hb:(dig B24 b).length<2^40):PCall P 198 [.lst (dig B24 a).length (j4 (dig B24 a)),.lst (dig B24 b).length (j4 (dig B24 b))] (j5 (z1v a b)):=z5R a b (by omega) (by omega)
theorem z0r(z:Int):PCall P 194 [J7 z] (.tup [j5 (if z.natAbs<72057594037927936 then z else 0),.lit (.bool (decide (z.natAbs<72057594037927936)))]):=by
 by_cases h:z.natAbs<72057594037927936
 · rw[if_pos h,decide_eq_true h];exact z0m z h
 · rw[if_neg h,decide_eq_false h];exact z4k z (Nat.le_of_not_lt h)
end Go.Fw
