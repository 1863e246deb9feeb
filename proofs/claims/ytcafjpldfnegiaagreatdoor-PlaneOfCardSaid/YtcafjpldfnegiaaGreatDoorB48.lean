/- A part of the proof that the law returns true for every input: an executor for the model's code, and what functions of the program compute. -/
import Derived.Test.YtcafjpldfnegiaaGreatDoorB11
import Derived.Test.YtcafjpldfnegiaaGreatDoorB15
import Derived.Test.YtcafjpldfnegiaaGreatDoorB41
import Derived.Test.YtcafjpldfnegiaaGreatDoorB45
import Derived.Test.YtcafjpldfnegiaaGreatDoorB47
import Derived.KernelRfl
open Go IntKind
namespace Go.Fw
set_option maxRecDepth 100000
theorem zmB(x:K)(h1:((z0e x.c0).2)=true)(h2:((z0e x.d).2)=true)(h3:(z6A x)=true)(h4:decide ((z0e x.c0).1≥(-1000:Int))=true)(h5:decide ((z0e x.c0).1≤1000)=true)(s29_0:Smk x):PCall P 159 [(kN x).c] (.tup [.lit (.int .i64 (z0e x.c0).1),.lit (.int .i64 (z0e x.d).1),.lit (.bool (decide ((z0e x.d).1≤1000)))]):=
 j3 (.c (bq 0 4) (.r 7 (z6V (x)) (.r 15 (z6W (x)) (.b 24 h1 (.b 27 h2 (.r 29 ((zg8 (x) s29_0).eqB h3) (.b 35 h4 (.b 39 h5 .nil)))))))) (by kernel_rfl)
theorem zow(x:K)(h1:((z0e x.c0).2)=true)(h2:((z0e x.d).2)=true)(h3:(z6A x)=true)(h4:decide ((z0e x.c0).1≥(-1000:Int))=true)(h5:decide ((z0e x.c0).1≤1000)=false)(s29_0:Smk x):PCall P 159 [(kN x).c] (.tup [.lit (.int .i64 (z0e x.c0).1),.lit (.int .i64 (z0e x.d).1),.lit (.bool false)]):=
 j3 (.c (bq 0 4) (.r 7 (z6V (x)) (.r 15 (z6W (x)) (.b 24 h1 (.b 27 h2 (.r 29 ((zg8 (x) s29_0).eqB h3) (.b 35 h4 (.b 39 h5 .nil)))))))) (by kernel_rfl)
theorem zni(x:K)(h1:((z0e x.c0).2)=true)(h2:((z0e x.d).2)=true)(h3:(z6A x)=true)(h4:decide ((z0e x.c0).1≥(-1000:Int))=false)(s29_0:Smk x):PCall P 159 [(kN x).c] (.tup [.lit (.int .i64 (z0e x.c0).1),.lit (.int .i64 (z0e x.d).1),.lit (.bool false)]):=
 j3 (.c (bq 0 4) (.r 7 (z6V (x)) (.r 15 (z6W (x)) (.b 24 h1 (.b 27 h2 (.r 29 ((zg8 (x) s29_0).eqB h3) (.b 35 h4 .nil))))))) (by kernel_rfl)
theorem zqP(x:K)(h1:((z0e x.c0).2)=true)(h2:((z0e x.d).2)=true)(h3:(z6A x)=false)(s29_0:Smk x):PCall P 159 [(kN x).c] (.tup [.lit (.int .i64 (z0e x.c0).1),.lit (.int .i64 (z0e x.d).1),.lit (.bool false)]):=
 j3 (.c (bq 0 4) (.r 7 (z6V (x)) (.r 15 (z6W (x)) (.b 24 h1 (.b 27 h2 (.r 29 ((zg8 (x) s29_0).eqB h3) .nil)))))) (by kernel_rfl)
theorem znE(x:K)(h1:((z0e x.c0).2)=true)(h2:((z0e x.d).2)=false):PCall P 159 [(kN x).c] (.tup [.lit (.int .i64 (z0e x.c0).1),.lit (.int .i64 (z0e x.d).1),.lit (.bool false)]):=
 j3 (.c (bq 0 4) (.r 7 (z6V (x)) (.r 15 (z6W (x)) (.b 24 h1 (.b 27 h2 .nil))))) (by kernel_rfl)
theorem zoe(x:K)(h1:((z0e x.c0).2)=false):PCall P 159 [(kN x).c] (.tup [.lit (.int .i64 (z0e x.c0).1),.lit (.int .i64 (z0e x.d).1),.lit (.bool false)]):=
 j3 (.c (bq 0 4) (.r 7 (z6V (x)) (.r 15 (z6W (x)) (.b 24 h1 .nil)))) (by kernel_rfl)
theorem zq0(h v i:Int)(d:RN)(h1:(d.ok)=true)(h2:(z3j h v i)=true)(s5_0:RN.raw 1000000 d=true)(s16_0:(-9223372036854775808:Int)≤h∧h≤9223372036854775807)(s23_0:RN.raw 1000000 (oN h)=true)(s23_1:RN.raw 1000000 (kN (Z8 i))=true)(s28_0:RN.raw 1000000 (oN h)=true)(s28_1:RN.raw 1000000 (kN (Y0 i))=true)(s31_0:(-9223372036854775808:Int)≤v∧v≤9223372036854775807):PCall P 75 [.agg [j4 h,j4 v,j4 i],d.c] (.tup [plR (J9 (oN h) (kN (Z8 i))) (J9 (oN h) (kN (Y0 i))) (oN v) d,.lit (.int .i64 0)]):=
 j3 (.r 5 ((z1c (d) s5_0).eqB h1) (.r 10 ((zce (h) (v) (i)).eqB h2) (.r 16 (z25 (h) s16_0) (.c (lq 10 10) (.r 22 (zbs (i)) (.r 23 (z0r (oN h) (kN (Z8 i)) s23_0 s23_1) (.r 27 (zbz (i)) (.r 28 (z0r (oN h) (kN (Y0 i)) s28_0 s28_1) (.r 31 (z25 (v) s31_0) (.c (lq 30 30) (.c (lq 40 40) .nil))))))))))) (by kernel_rfl)
theorem znX(h v i:Int)(d:RN)(h1:(d.ok)=true)(h2:(z3j h v i)=false)(s5_0:RN.raw 1000000 d=true):PCall P 75 [.agg [j4 h,j4 v,j4 i],d.c] (.tup [za3,.lit (.int .i64 15)]):=
 j3 (.r 5 ((z1c (d) s5_0).eqB h1) (.r 10 ((zce (h) (v) (i)).eqB h2) (.c (lq 40 40) .nil))) (by kernel_rfl)
theorem zpB(h v i:Int)(d:RN)(h1:(d.ok)=false)(s5_0:RN.raw 1000000 d=true):PCall P 75 [.agg [j4 h,j4 v,j4 i],d.c] (.tup [za3,.lit (.int .i64 1)]):=
 j3 (.r 5 ((z1c (d) s5_0).eqB h1) (.c (lq 40 40) .nil)) (by kernel_rfl)
end Go.Fw
open Go IntKind
namespace Go.Fw
set_option maxRecDepth 100000
theorem zj7(p:PN)(h1:(PN.raw 10 p)=true):PCall P 73 [pl1 p] (.lit (.bool true)):=
 j3 (.c (bq 0 1) (.c (lq 40 40) (.r 12 ((zhp (p)).eqB h1) .nil))) (by kernel_rfl)
theorem zkn(p:PN)(h1:(PN.raw 10 p)=false):PCall P 73 [pl1 p] (.lit (.bool false)):=
 j3 (.c (bq 0 1) (.c (lq 40 40) (.r 12 ((zhp (p)).eqB h1) .nil))) (by kernel_rfl)
end Go.Fw
open Go
namespace Go.Fw
set_option maxRecDepth 100000
theorem zd5(p:PN):PCall P 73 [pl1 p] (.lit (.bool (p.raw 10))):=by
 cases h:p.raw 10
 · exact zkn p h
 · exact zj7 p h
end Go.Fw
open Go
namespace Go.Fw
set_option maxRecDepth 100000
theorem RN.l_inj{x y:RN}(h:x.l=y.l):x=y:=by
 obtain⟨b0,s0,b1,s1,b2,s2,b3,s3,b4,s4⟩:=x
 obtain⟨c0,t0,c1,t1,c2,t2,c3,t3,c4,t4⟩:=y
 unfold RN.l at h
 simp only[List.cons.injEq,and_true,Y7,CV.lit.injEq,Value.bool.injEq,Value.string.injEq]at h
 obtain⟨rfl,h0,rfl,h1,rfl,h2,rfl,h3,rfl,h4⟩:=h
 subst h0 h1 h2 h3 h4
 rfl
theorem z5o{x:RN}(h:x.ok=true): ∃k,x=kN k:=by
 obtain⟨k,_,e⟩:=zgd h
 refine⟨k,RN.l_inj ?_⟩
 rw[e,z1b,RN.ofK_l]
noncomputable def kV(a b c:K):VN:=⟨kN a,kN b,kN c⟩
theorem zsd{v:VN}(h:v.ok=true): ∃a b c,v=kV a b c:=by
 obtain⟨x,y,z⟩:=v
 have h:ok3 x y z=true:=h
 unfold ok3 at h
 simp only[Bool.and_eq_true]at h
 obtain⟨h1,h2,h3⟩:=h
 obtain⟨a,rfl⟩:=z5o h1
 obtain⟨b,rfl⟩:=z5o h2
 obtain⟨c,rfl⟩:=z5o h3
 exact⟨a,b,c,rfl⟩
noncomputable def kP(a b c d:K):PN:=⟨kV a b c,kN d⟩
theorem zhd{n:VN}{d:RN}(h:(PN.mk n d).ok=true):n.ok=true∧d.ok=true:=by
 unfold PN.ok at h
 dsimp only at h
 generalize n.ok=x at*
 generalize d.ok=y at*
 generalize zV n=w at*
 revert h
 cases x<;>cases y<;>cases w<;>simp
theorem zmD{p:PN}(h:p.ok=true): ∃a b c d,p=kP a b c d:=by
 obtain⟨h1,h3⟩:=zhd (n:=p.n) (d:=p.d) h
 obtain⟨a,b,c,e⟩:=zsd h1
 obtain⟨k,e'⟩:=z5o h3
 refine⟨a,b,c,k,?_⟩
 unfold kP
 rw[←e,←e']
end Go.Fw
open Go
namespace Go.Fw
set_option maxRecDepth 100000
def smK(k:K):Int×Int×Bool:=((z0e k.c0).1,(z0e k.d).1,(z0e k.c0).2&&((z0e k.d).2&&(z6A k&&(decide ((z0e k.c0).1≥ -1000)&&(decide ((z0e k.c0).1≤1000)&&decide ((z0e k.d).1≤1000))))))
theorem zm0(x:K)(hs:Smk x):PCall P 159 [(kN x).c] (.tup [j4 (smK x).1,j4 (smK x).2.1,.lit (.bool (smK x).2.2)]):=by
 unfold smK
 cases h1:(z0e x.c0).2
 · exact zoe x h1
 cases h2:(z0e x.d).2
 · exact znE x h1 h2
 cases h3:z6A x
 · exact zqP x h1 h2 h3 hs
 cases h4:decide ((z0e x.c0).1≥ -1000)
 · exact zni x h1 h2 h3 h4 hs
 cases h5:decide ((z0e x.c0).1≤1000)
 · exact zow x h1 h2 h3 h4 h5 hs
 · exact zmB x h1 h2 h3 h4 h5 hs
noncomputable def smV(x:RN):Int×Int×Bool:=match toO x with|some k=>smK k|none=>(0,0,false)
theorem z7o(x:RN)(hok:x.ok=true)(hx:x.raw 1000000=true):PCall P 159 [x.c] (.tup [j4 (smV x).1,j4 (smV x).2.1,.lit (.bool (smV x).2.2)]):=by
 obtain⟨k,rfl⟩:=z5o hok
 have hs:=z1i hx
 unfold smV
 rw[z0o]at hs ⊢
 exact zm0 k (Nat.lt_of_le_of_lt hs (by decide))
noncomputable def znC(h v i:Int):VN:=⟨J9 (oN h) (kN (Z8 i)),J9 (oN h) (kN (Y0 i)),oN v⟩
noncomputable def ofP(h v i:Int)(d:RN):PN×Int:=if d.ok then(if z3j h v i then(⟨znC h v i,d⟩,0)else(.zero,15))else(.zero,1)
theorem zhl{h v i:Int}(e:z3j h v i=true):0≤h∧h≤1000∧ -1000≤v∧v≤1000∧Nat.gcd h.natAbs v.natAbs=1∧0≤i∧i<24∧(h≠0∨i=0):=of_decide_eq_true e
theorem z7G{n:Int}(h1: -1000≤n)(h2:n≤1000):(K.ofInt n).sz≤2:=K.sz_int n (by decide) (by omega)
theorem zrT(h v i:Int)(d:RN)(hd:d.raw 1000000=true):PCall P 75 [.agg [j4 h,j4 v,j4 i],d.c] (.tup [(ofP h v i d).1.c,j4 (ofP h v i d).2]):=by
 unfold ofP
 cases h1:d.ok
 · exact zpB h v i d h1 hd
 cases h2:z3j h v i
 · exact znX h v i d h1 h2 hd
 · have b:=zhl h2
   have o:=z0T (z:=h) (n:=1000000) (Nat.le_trans (z7G (by omega) (by omega)) (by decide))
   exact zq0 h v i d h1 h2 hd (by omega) o (z4N i (by decide)) o (z4F i (by decide)) (by omega)
theorem zd2(i:Int):PCall P 34 [j4 i] (kN (Z8 i)).c:=by rw[z1b];exact z8S i
theorem zd3(i:Int):PCall P 36 [j4 i] (kN (Y0 i)).c:=by rw[z1b];exact zdu i
noncomputable def zf2(x:RN):Bool:=match toO x with|some k=>z6A k|none=>false
noncomputable def z6w(x:RN):Int×Bool:=match toO x with|some k=>z4e k.c0|none=>(0,false)
noncomputable def z5k(x:RN):Int×Bool:=match toO x with|some k=>z4e k.d|none=>(0,false)
theorem zdw(x:RN)(hok:x.ok=true)(hx:x.raw 1000000=true):PCall P 219 [x.c] (.lit (.bool (zf2 x))):=by
 obtain⟨k,rfl⟩:=z5o hok
 have hs:=z1i hx
 unfold zf2
 rw[z0o]at hs ⊢
 exact zn0 k hs
theorem zdZ(x:RN)(hok:x.ok=true):PCall P 220 [.agg [.lit (.bool x.b0),.lit (.string x.s0)]] (.tup [j4 (z6w x).1,.lit (.bool (z6w x).2)]):=by
 obtain⟨k,rfl⟩:=z5o hok
 unfold z6w
 rw[z0o]
 exact zrj k
theorem zda(x:RN)(hok:x.ok=true):PCall P 220 [.agg [.lit (.bool x.b4),.lit (.string x.s4)]] (.tup [j4 (z5k x).1,.lit (.bool (z5k x).2)]):=by
 obtain⟨k,rfl⟩:=z5o hok
 unfold z5k
 rw[z0o]
 exact zq1 k
end Go.Fw
open Go IntKind
namespace Go.Fw
set_option maxRecDepth 100000
theorem znK(h v:RN)(h1:(zf2 (J8 v h).fst)=true)(h2:((z5k (J8 v h).fst).2)=true)(s7_0:RN.raw 1000000 v=true)(s7_1:RN.raw 1000000 h=true)(s15_0:(J8 v h).fst.ok=true)(s15_1:RN.raw 1000000 (J8 v h).fst=true)(s20_0 s29_0:(J8 v h).fst.ok=true):PCall P 162 [h.c,v.c] (.tup [.lit (.int .i64 (z5k (J8 v h).fst).1),.lit (.int .i64 (z6w (J8 v h).fst).1),.lit (.bool (z6w (J8 v h).fst).2)]):=
 j3 (.r 7 (z8x (v) (h) s7_0 s7_1) (.c (lq 10 10) (.r 15 ((zdw ((J8 v h).fst) s15_0 s15_1).eqB h1) (.r 20 (zda ((J8 v h).fst) s20_0) (.c (bq 0 4) (.r 29 (zdZ ((J8 v h).fst) s29_0) (.b 38 h2 .nil))))))) (by kernel_rfl)
theorem zr2(h v:RN)(h1:(zf2 (J8 v h).fst)=true)(h2:((z5k (J8 v h).fst).2)=false)(s7_0:RN.raw 1000000 v=true)(s7_1:RN.raw 1000000 h=true)(s15_0:(J8 v h).fst.ok=true)(s15_1:RN.raw 1000000 (J8 v h).fst=true)(s20_0 s29_0:(J8 v h).fst.ok=true):PCall P 162 [h.c,v.c] (.tup [.lit (.int .i64 (z5k (J8 v h).fst).1),.lit (.int .i64 (z6w (J8 v h).fst).1),.lit (.bool false)]):=
 j3 (.r 7 (z8x (v) (h) s7_0 s7_1) (.c (lq 10 10) (.r 15 ((zdw ((J8 v h).fst) s15_0 s15_1).eqB h1) (.r 20 (zda ((J8 v h).fst) s20_0) (.c (bq 0 4) (.r 29 (zdZ ((J8 v h).fst) s29_0) (.b 38 h2 .nil))))))) (by kernel_rfl)
theorem zoC(h v:RN)(h1:(zf2 (J8 v h).fst)=false)(s7_0:RN.raw 1000000 v=true)(s7_1:RN.raw 1000000 h=true)(s15_0:(J8 v h).fst.ok=true)(s15_1:RN.raw 1000000 (J8 v h).fst=true):PCall P 162 [h.c,v.c] (.tup [.lit (.int .i64 0),.lit (.int .i64 0),.lit (.bool false)]):=
 j3 (.r 7 (z8x (v) (h) s7_0 s7_1) (.c (lq 10 10) (.r 15 ((zdw ((J8 v h).fst) s15_0 s15_1).eqB h1) .nil))) (by kernel_rfl)
theorem zqS(h v i:Int)(s4_0:(-9223372036854775808:Int)≤h∧h≤9223372036854775807)(s11_0:RN.raw 1000000 (oN h)=true)(s11_1:RN.raw 1000000 (kN (Z8 i))=true)(s16_0:RN.raw 1000000 (oN h)=true)(s16_1:RN.raw 1000000 (kN (Y0 i))=true)(s19_0:(-9223372036854775808:Int)≤v∧v≤9223372036854775807):PCall P 155 [.agg [j4 h,j4 v,j4 i]] (ziQ (J9 (oN h) (kN (Z8 i))) (J9 (oN h) (kN (Y0 i))) (oN v)):=
 j3 (.r 4 (zb4 (h) s4_0) (.c (lq 10 10) (.r 10 (zd2 (i)) (.r 11 (z0R (oN h) (kN (Z8 i)) s11_0 s11_1) (.r 15 (zd3 (i)) (.r 16 (z0R (oN h) (kN (Y0 i)) s16_0 s16_1) (.r 19 (zb4 (v) s19_0) (.c (lq 30 30) .nil)))))))) (by kernel_rfl)
theorem zp4(p:PN)(g:p.ok=false)(s5_0:PN.raw 1000000 p=true):PCall P 77 [p.c] (.tup [.agg [.lit (.int .i64 0),.lit (.int .i64 0),.lit (.int .i64 0)],.agg X9,.lit (.int .i64 1)]):=
 j3 (.r 5 ((z2X (p) s5_0).eqB g) (.c (lq 3 3) (.c (lq 10 10) .nil))) (by kernel_rfl)
theorem zoA(p:PN)(g:p.ok=true)(h1:(rnB p.n.x (oN (0:Int)))=true)(h2:(rnB p.n.y (oN (0:Int)))=true)(s5_0:PN.raw 1000000 p=true)(s11_0:RN.raw 1000000 p.n.z=true)(s16_0 s22_0:(-9223372036854775808:Int)≤0∧(0:Int)≤9223372036854775807)(s33_0:RN.raw 1000000 p.n.z=true)(s34_0:RN.raw 1000000 p.d=true)(s34_1:RN.raw 1000000 (z70 p.n.z)=true):PCall P 77 [p.c] (.tup [.agg [.lit (.int .i64 0),.lit (.int .i64 (z0a p.n.z)),.lit (.int .i64 0)],RN.c (J8 p.d (z70 p.n.z)).fst,.lit (.int .i64 0)]):=
 j3 (.r 5 ((z2X (p) s5_0).eqB g) (.r 11 (z0n (p.n.z) s11_0) (.r 16 (z25 ((0:Int)) s16_0) (.b 18 h1 (.r 22 (z25 ((0:Int)) s22_0) (.b 25 h2 (.r 33 (zhu (p.n.z) s33_0) (.r 34 (z3s (p.d) (z70 p.n.z) s34_0 s34_1) (.c (lq 3 3) (.c (lq 10 10) .nil)))))))))) (by kernel_rfl)
theorem zqG(p:PN)(g:p.ok=true)(h1:(rnB p.n.x (oN (0:Int)))=true)(h2:(rnB p.n.y (oN (0:Int)))=false)(h3:(!(z0m p.n.x p.n.y).snd.2)=true)(s5_0:PN.raw 1000000 p=true)(s11_0:RN.raw 1000000 p.n.z=true)(s16_0 s22_0:(-9223372036854775808:Int)≤0∧(0:Int)≤9223372036854775807)(s32_0:RN.raw 1000 p.n.x=true)(s32_1:RN.raw 1000 p.n.y=true):PCall P 77 [p.c] (.tup [.agg [.lit (.int .i64 0),.lit (.int .i64 0),.lit (.int .i64 0)],.agg X9,.lit (.int .i64 7)]):=
 j3 (.r 5 ((z2X (p) s5_0).eqB g) (.r 11 (z0n (p.n.z) s11_0) (.r 16 (z25 ((0:Int)) s16_0) (.b 18 h1 (.r 22 (z25 ((0:Int)) s22_0) (.b 25 h2 (.r 32 (zbr (p.n.x) (p.n.y) s32_0 s32_1) (.c (lq 10 10) (.b 43 h3 (.c (lq 3 3) (.c (lq 10 10) .nil))))))))))) (by kernel_rfl)
theorem zpY(p:PN)(g:p.ok=true)(h1:(rnB p.n.x (oN (0:Int)))=true)(h2:(rnB p.n.y (oN (0:Int)))=false)(h3:(!(z0m p.n.x p.n.y).snd.2)=false)(h4:(!(smV (J8 p.n.z (z0m p.n.x p.n.y).snd.fst).fst).snd.2)=true)(s5_0:PN.raw 1000000 p=true)(s11_0:RN.raw 1000000 p.n.z=true)(s16_0 s22_0:(-9223372036854775808:Int)≤0∧(0:Int)≤9223372036854775807)(s32_0:RN.raw 1000 p.n.x=true)(s32_1:RN.raw 1000 p.n.y=true)(s48_0:RN.raw 1000000 p.n.z=true)(s48_1:RN.raw 1000000 (z0m p.n.x p.n.y).snd.fst=true)(s49_0:(J8 p.n.z (z0m p.n.x p.n.y).snd.fst).fst.ok=true)(s49_1:RN.raw 1000000 (J8 p.n.z (z0m p.n.x p.n.y).snd.fst).fst=true):PCall P 77 [p.c] (.tup [.agg [.lit (.int .i64 0),.lit (.int .i64 0),.lit (.int .i64 0)],.agg X9,.lit (.int .i64 7)]):=
 j3 (.r 5 ((z2X (p) s5_0).eqB g) (.r 11 (z0n (p.n.z) s11_0) (.r 16 (z25 ((0:Int)) s16_0) (.b 18 h1 (.r 22 (z25 ((0:Int)) s22_0) (.b 25 h2 (.r 32 (zbr (p.n.x) (p.n.y) s32_0 s32_1) (.c (lq 10 10) (.b 43 h3 (.r 48 (z3s (p.n.z) ((z0m p.n.x p.n.y).snd.fst) s48_0 s48_1) (.r 49 (z7o ((J8 p.n.z (z0m p.n.x p.n.y).snd.fst).fst) s49_0 s49_1) (.b 59 h4 (.c (lq 3 3) (.c (lq 10 10) .nil)))))))))))))) (by kernel_rfl)
theorem zn7(p:PN)(g:p.ok=true)(h1:(rnB p.n.x (oN (0:Int)))=true)(h2:(rnB p.n.y (oN (0:Int)))=false)(h3:(!(z0m p.n.x p.n.y).snd.2)=false)(h4:(!(smV (J8 p.n.z (z0m p.n.x p.n.y).snd.fst).fst).snd.2)=false)(s5_0:PN.raw 1000000 p=true)(s11_0:RN.raw 1000000 p.n.z=true)(s16_0 s22_0:(-9223372036854775808:Int)≤0∧(0:Int)≤9223372036854775807)(s32_0:RN.raw 1000 p.n.x=true)(s32_1:RN.raw 1000 p.n.y=true)(s48_0:RN.raw 1000000 p.n.z=true)(s48_1:RN.raw 1000000 (z0m p.n.x p.n.y).snd.fst=true)(s49_0:(J8 p.n.z (z0m p.n.x p.n.y).snd.fst).fst.ok=true)(s49_1:RN.raw 1000000 (J8 p.n.z (z0m p.n.x p.n.y).snd.fst).fst=true)(s67_0:(-9223372036854775808:Int)≤(smV (J8 p.n.z (z0m p.n.x p.n.y).snd.fst).fst).snd.1∧(smV (J8 p.n.z (z0m p.n.x p.n.y).snd.fst).fst).snd.1≤9223372036854775807)(s68_0:RN.raw 1000000 p.d=true)(s68_1:RN.raw 1000000 (oN (smV (J8 p.n.z (z0m p.n.x p.n.y).snd.fst).fst).snd.1)=true)(s70_0:RN.raw 1000000 (J9 p.d (oN (smV (J8 p.n.z (z0m p.n.x p.n.y).snd.fst).fst).snd.1))=true)(s70_1:RN.raw 1000000 (z0m p.n.x p.n.y).snd.fst=true):PCall P 77 [p.c] (.tup [.agg [.lit (.int .i64 (smV (J8 p.n.z (z0m p.n.x p.n.y).snd.fst).fst).snd.1),.lit (.int .i64 (smV (J8 p.n.z (z0m p.n.x p.n.y).snd.fst).fst).1),.lit (.int .i64 (z0m p.n.x p.n.y).1)],RN.c (J8 (J9 p.d (oN (smV (J8 p.n.z (z0m p.n.x p.n.y).snd.fst).fst).snd.1)) (z0m p.n.x p.n.y).snd.fst).fst,.lit (.int .i64 0)]):=
 j3 (.r 5 ((z2X (p) s5_0).eqB g) (.r 11 (z0n (p.n.z) s11_0) (.r 16 (z25 ((0:Int)) s16_0) (.b 18 h1 (.r 22 (z25 ((0:Int)) s22_0) (.b 25 h2 (.r 32 (zbr (p.n.x) (p.n.y) s32_0 s32_1) (.c (lq 10 10) (.b 43 h3 (.r 48 (z3s (p.n.z) ((z0m p.n.x p.n.y).snd.fst) s48_0 s48_1) (.r 49 (z7o ((J8 p.n.z (z0m p.n.x p.n.y).snd.fst).fst) s49_0 s49_1) (.b 59 h4 (.r 67 (z25 ((smV (J8 p.n.z (z0m p.n.x p.n.y).snd.fst).fst).snd.1) s67_0) (.r 68 (z0r (p.d) (oN (smV (J8 p.n.z (z0m p.n.x p.n.y).snd.fst).fst).snd.1) s68_0 s68_1) (.r 70 (z3s (J9 p.d (oN (smV (J8 p.n.z (z0m p.n.x p.n.y).snd.fst).fst).snd.1)) ((z0m p.n.x p.n.y).snd.fst) s70_0 s70_1) (.c (lq 3 3) (.c (lq 10 10) .nil))))))))))))))))) (by kernel_rfl)
theorem zo4(p:PN)(g:p.ok=true)(h1:(rnB p.n.x (oN (0:Int)))=false)(h2:(!(z0m p.n.x p.n.y).snd.2)=true)(s5_0:PN.raw 1000000 p=true)(s11_0:RN.raw 1000000 p.n.z=true)(s16_0:(-9223372036854775808:Int)≤0∧(0:Int)≤9223372036854775807)(s32_0:RN.raw 1000 p.n.x=true)(s32_1:RN.raw 1000 p.n.y=true):PCall P 77 [p.c] (.tup [.agg [.lit (.int .i64 0),.lit (.int .i64 0),.lit (.int .i64 0)],.agg X9,.lit (.int .i64 7)]):=
 j3 (.r 5 ((z2X (p) s5_0).eqB g) (.r 11 (z0n (p.n.z) s11_0) (.r 16 (z25 ((0:Int)) s16_0) (.b 18 h1 (.r 32 (zbr (p.n.x) (p.n.y) s32_0 s32_1) (.c (lq 10 10) (.b 43 h2 (.c (lq 3 3) (.c (lq 10 10) .nil))))))))) (by kernel_rfl)
theorem zmw(p:PN)(g:p.ok=true)(h1:(rnB p.n.x (oN (0:Int)))=false)(h2:(!(z0m p.n.x p.n.y).snd.2)=false)(h3:(!(smV (J8 p.n.z (z0m p.n.x p.n.y).snd.fst).fst).snd.2)=true)(s5_0:PN.raw 1000000 p=true)(s11_0:RN.raw 1000000 p.n.z=true)(s16_0:(-9223372036854775808:Int)≤0∧(0:Int)≤9223372036854775807)(s32_0:RN.raw 1000 p.n.x=true)(s32_1:RN.raw 1000 p.n.y=true)(s48_0:RN.raw 1000000 p.n.z=true)(s48_1:RN.raw 1000000 (z0m p.n.x p.n.y).snd.fst=true)(s49_0:(J8 p.n.z (z0m p.n.x p.n.y).snd.fst).fst.ok=true)(s49_1:RN.raw 1000000 (J8 p.n.z (z0m p.n.x p.n.y).snd.fst).fst=true):PCall P 77 [p.c] (.tup [.agg [.lit (.int .i64 0),.lit (.int .i64 0),.lit (.int .i64 0)],.agg X9,.lit (.int .i64 7)]):=
 j3 (.r 5 ((z2X (p) s5_0).eqB g) (.r 11 (z0n (p.n.z) s11_0) (.r 16 (z25 ((0:Int)) s16_0) (.b 18 h1 (.r 32 (zbr (p.n.x) (p.n.y) s32_0 s32_1) (.c (lq 10 10) (.b 43 h2 (.r 48 (z3s (p.n.z) ((z0m p.n.x p.n.y).snd.fst) s48_0 s48_1) (.r 49 (z7o ((J8 p.n.z (z0m p.n.x p.n.y).snd.fst).fst) s49_0 s49_1) (.b 59 h3 (.c (lq 3 3) (.c (lq 10 10) .nil)))))))))))) (by kernel_rfl)
theorem zpL(p:PN)(g:p.ok=true)(h1:(rnB p.n.x (oN (0:Int)))=false)(h2:(!(z0m p.n.x p.n.y).snd.2)=false)(h3:(!(smV (J8 p.n.z (z0m p.n.x p.n.y).snd.fst).fst).snd.2)=false)(s5_0:PN.raw 1000000 p=true)(s11_0:RN.raw 1000000 p.n.z=true)(s16_0:(-9223372036854775808:Int)≤0∧(0:Int)≤9223372036854775807)(s32_0:RN.raw 1000 p.n.x=true)(s32_1:RN.raw 1000 p.n.y=true)(s48_0:RN.raw 1000000 p.n.z=true)(s48_1:RN.raw 1000000 (z0m p.n.x p.n.y).snd.fst=true)(s49_0:(J8 p.n.z (z0m p.n.x p.n.y).snd.fst).fst.ok=true)(s49_1:RN.raw 1000000 (J8 p.n.z (z0m p.n.x p.n.y).snd.fst).fst=true)(s67_0:(-9223372036854775808:Int)≤(smV (J8 p.n.z (z0m p.n.x p.n.y).snd.fst).fst).snd.1∧(smV (J8 p.n.z (z0m p.n.x p.n.y).snd.fst).fst).snd.1≤9223372036854775807)(s68_0:RN.raw 1000000 p.d=true)(s68_1:RN.raw 1000000 (oN (smV (J8 p.n.z (z0m p.n.x p.n.y).snd.fst).fst).snd.1)=true)(s70_0:RN.raw 1000000 (J9 p.d (oN (smV (J8 p.n.z (z0m p.n.x p.n.y).snd.fst).fst).snd.1))=true)(s70_1:RN.raw 1000000 (z0m p.n.x p.n.y).snd.fst=true):PCall P 77 [p.c] (.tup [.agg [.lit (.int .i64 (smV (J8 p.n.z (z0m p.n.x p.n.y).snd.fst).fst).snd.1),.lit (.int .i64 (smV (J8 p.n.z (z0m p.n.x p.n.y).snd.fst).fst).1),.lit (.int .i64 (z0m p.n.x p.n.y).1)],RN.c (J8 (J9 p.d (oN (smV (J8 p.n.z (z0m p.n.x p.n.y).snd.fst).fst).snd.1)) (z0m p.n.x p.n.y).snd.fst).fst,.lit (.int .i64 0)]):=
 j3 (.r 5 ((z2X (p) s5_0).eqB g) (.r 11 (z0n (p.n.z) s11_0) (.r 16 (z25 ((0:Int)) s16_0) (.b 18 h1 (.r 32 (zbr (p.n.x) (p.n.y) s32_0 s32_1) (.c (lq 10 10) (.b 43 h2 (.r 48 (z3s (p.n.z) ((z0m p.n.x p.n.y).snd.fst) s48_0 s48_1) (.r 49 (z7o ((J8 p.n.z (z0m p.n.x p.n.y).snd.fst).fst) s49_0 s49_1) (.b 59 h3 (.r 67 (z25 ((smV (J8 p.n.z (z0m p.n.x p.n.y).snd.fst).fst).snd.1) s67_0) (.r 68 (z0r (p.d) (oN (smV (J8 p.n.z (z0m p.n.x p.n.y).snd.fst).fst).snd.1) s68_0 s68_1) (.r 70 (z3s (J9 p.d (oN (smV (J8 p.n.z (z0m p.n.x p.n.y).snd.fst).fst).snd.1)) ((z0m p.n.x p.n.y).snd.fst) s70_0 s70_1) (.c (lq 3 3) (.c (lq 10 10) .nil))))))))))))))) (by kernel_rfl)
theorem zp3(p:PN)(g:p.ok=false)(s5_0:PN.raw 1000000 p=true):PCall P 78 [p.c] (.tup [.agg [.lit (.int .i64 0),.lit (.int .i64 0),.lit (.int .i64 0)],.agg X9,.lit (.int .i64 1)]):=
 j3 (.r 5 ((z5Q (p) s5_0).eqB g) (.c (lq 3 3) (.c (lq 10 10) .nil))) (by kernel_rfl)
theorem zpy(p:PN)(g:p.ok=true)(g1:(z0a p.n.x==0)=true)(g2:(z0a p.n.y==0)=true)(s5_0:PN.raw 1000000 p=true)(s11_0:RN.raw 1000000 p.n.x=true)(s17_0:RN.raw 1000000 p.n.y=true)(s24_0:RN.raw 1000000 p.n.z=true)(s30_0:RN.raw 1000000 p.d=true)(s30_1:RN.raw 1000000 (z70 p.n.z)=true)(s40_0:RN.raw 1000000 p.n.z=true):PCall P 78 [p.c] (.tup [.agg [.lit (.int .i64 0),.lit (.int .i64 (z0a p.n.z)),.lit (.int .i64 0)],RN.c (J8 p.d (z70 p.n.z)).fst,.lit (.int .i64 0)]):=
 j3 (.r 5 ((z5Q (p) s5_0).eqB g) (.r 11 (z0L (p.n.x) s11_0) (.b 13 g1 (.r 17 (z0L (p.n.y) s17_0) (.b 20 g2 (.r 24 (zon (p.n.z) s24_0) (.c (lq 10 10) (.r 30 (z8x (p.d) (z70 p.n.z) s30_0 s30_1) (.c (lq 10 10) (.r 40 (z0L (p.n.z) s40_0) (.c (lq 3 3) (.c (lq 10 10) .nil)))))))))))) (by kernel_rfl)
theorem zpp(p:PN)(g:p.ok=true)(g1:(z0a p.n.x==0)=false)(s5_0:PN.raw 1000000 p=true)(s11_0:RN.raw 1000000 p.n.x=true){R:CV→Prop}(hR:Ok P 78 (loopHead P 78 0) ⟨J3 120 [(1,.ptr 0 0),(2,.ptr (0+1) 0),(3,.ptr (0+1+1) 0),(8,.cv (.lit (.int .i64 0)))],[some (plM p),some [.cv (.lit (.int .i64 0)),.cv (.lit (.int .i64 0)),.cv (.lit (.int .i64 0))],some [.cv (.lit (.bool false)),.cv (.lit (.string {data:= #[]})),.cv (.lit (.bool false)),.cv (.lit (.string {data:= #[]})),.cv (.lit (.bool false)),.cv (.lit (.string {data:= #[]})),.cv (.lit (.bool false)),.cv (.lit (.string {data:= #[]})),.cv (.lit (.bool false)),.cv (.lit (.string {data:= #[]}))]]⟩ (.of R)):X5 P 78 [p.c] R:=
 Y9 (keep:=[1,2,3,8]) (σ:=[0,1,2]) (.r 5 ((z5Q (p) s5_0).eqB g) (.r 11 (z0L (p.n.x) s11_0) (.b 13 g1 (.o 22 .stop .nil)))) (by kernel_rfl) rfl hR (.cons (CvL.map_cv _) (.cons (by simp[CvL]) (.cons (by simp[CvL]) .nil)))
theorem zqq(p:PN)(g:p.ok=true)(g1:(z0a p.n.x==0)=true)(g2:(z0a p.n.y==0)=false)(s5_0:PN.raw 1000000 p=true)(s11_0:RN.raw 1000000 p.n.x=true)(s17_0:RN.raw 1000000 p.n.y=true){R:CV→Prop}(hR:Ok P 78 (loopHead P 78 0) ⟨J3 120 [(1,.ptr 0 0),(2,.ptr (0+1) 0),(3,.ptr (0+1+1) 0),(8,.cv (.lit (.int .i64 0)))],[some (plM p),some [.cv (.lit (.int .i64 0)),.cv (.lit (.int .i64 0)),.cv (.lit (.int .i64 0))],some [.cv (.lit (.bool false)),.cv (.lit (.string {data:= #[]})),.cv (.lit (.bool false)),.cv (.lit (.string {data:= #[]})),.cv (.lit (.bool false)),.cv (.lit (.string {data:= #[]})),.cv (.lit (.bool false)),.cv (.lit (.string {data:= #[]})),.cv (.lit (.bool false)),.cv (.lit (.string {data:= #[]}))]]⟩ (.of R)):X5 P 78 [p.c] R:=
 Y9 (keep:=[1,2,3,8]) (σ:=[0,1,2]) (.r 5 ((z5Q (p) s5_0).eqB g) (.r 11 (z0L (p.n.x) s11_0) (.b 13 g1 (.r 17 (z0L (p.n.y) s17_0) (.b 20 g2 (.o 22 .stop .nil)))))) (by kernel_rfl) rfl hR (.cons (CvL.map_cv _) (.cons (by simp[CvL]) (.cons (by simp[CvL]) .nil)))
end Go.Fw
open Go
namespace Go.Fw
set_option maxRecDepth 100000
noncomputable def z02(q:RN):Int×Int×Bool:=if zf2 q then((z5k q).1,(z6w q).1,(z5k q).2&&(z6w q).2)else(0,0,false)
theorem zcI(h v:RN)(hok:(J8 v h).1.ok=true)(hh:h.raw 100000=true)(hv:v.raw 100000=true):PCall P 162 [h.c,v.c] (.tup [j4 (z02 (J8 v h).1).1,j4 (z02 (J8 v h).1).2.1,.lit (.bool (z02 (J8 v h).1).2.2)]):=by
 have h6:h.raw 1000000=true:=RN.raw_mono hh (by decide)
 have v6:v.raw 1000000=true:=RN.raw_mono hv (by decide)
 have q6:(J8 v h).1.raw 1000000=true:=RN.raw_mono (z99 hv hh) (by decide)
 unfold z02
 cases h1:zf2 (J8 v h).1
 · exact zoC h v h1 v6 h6 hok q6
 · cases h2:(z5k (J8 v h).1).2
   · exact zr2 h v h1 h2 v6 h6 hok q6 hok hok
   · exact znK h v h1 h2 v6 h6 hok q6 hok hok
theorem zm2(h v i:Int)(b:z3j h v i=true):PCall P 155 [.agg [j4 h,j4 v,j4 i]] (znC h v i).c:=by
 have b:=zhl b
 have o:=z0T (z:=h) (n:=1000000) (Nat.le_trans (z7G (by omega) (by omega)) (by decide))
 exact zqS h v i (by omega) o (z4N i (by decide)) o (z4F i (by decide)) (by omega)
end Go.Fw
open Go IntKind
namespace Go.Fw
set_option maxRecDepth 100000
theorem zpz(h v i:Int)(d:RN)(h1:(d.ok)=true)(h2:(z3j h v i)=true)(s5_0:RN.raw 1000000 d=true):PCall P 76 [.agg [j4 h,j4 v,j4 i],d.c] (.tup [plR (znC h v i).x (znC h v i).y (znC h v i).z d,.lit (.int .i64 0)]):=
 j3 (.r 5 ((z0g (d) s5_0).eqB h1) (.r 10 ((z95 (h) (v) (i)).eqB h2) (.r 15 (zm2 (h) (v) (i) h2) (.c (lq 40 40) .nil)))) (by kernel_rfl)
theorem zqh(h v i:Int)(d:RN)(h1:(d.ok)=true)(h2:(z3j h v i)=false)(s5_0:RN.raw 1000000 d=true):PCall P 76 [.agg [j4 h,j4 v,j4 i],d.c] (.tup [za3,.lit (.int .i64 15)]):=
 j3 (.r 5 ((z0g (d) s5_0).eqB h1) (.r 10 ((z95 (h) (v) (i)).eqB h2) (.c (lq 40 40) .nil))) (by kernel_rfl)
theorem zok(h v i:Int)(d:RN)(h1:(d.ok)=false)(s5_0:RN.raw 1000000 d=true):PCall P 76 [.agg [j4 h,j4 v,j4 i],d.c] (.tup [za3,.lit (.int .i64 1)]):=
 j3 (.r 5 ((z0g (d) s5_0).eqB h1) (.c (lq 40 40) .nil)) (by kernel_rfl)
theorem zmO(p:PN)(i:Int)(h1:decide (i<24)=true)(h2:(z0a (z2Q (J9 p.n.x (kN (Y0 i))) (J9 p.n.y (kN (Z8 i)))) != 0)=true)(s16_0:RN.raw 1000000 p.n.x=true)(s16_1:RN.raw 1000000 (kN (Y0 i))=true)(s21_0:RN.raw 1000000 p.n.y=true)(s21_1:RN.raw 1000000 (kN (Z8 i))=true)(s22_0:RN.raw 1000000 (J9 p.n.x (kN (Y0 i)))=true)(s22_1:RN.raw 1000000 (J9 p.n.y (kN (Z8 i)))=true)(s29_0:RN.raw 1000000 p.n.x=true)(s29_1:RN.raw 1000000 (kN (Z8 i))=true)(s34_0:RN.raw 1000000 p.n.y=true)(s34_1:RN.raw 1000000 (kN (Y0 i))=true)(s35_0:RN.raw 1000000 (J9 p.n.x (kN (Z8 i)))=true)(s35_1:RN.raw 1000000 (J9 p.n.y (kN (Y0 i)))=true)(s39_0:RN.raw 1000000 (z2Q (J9 p.n.x (kN (Y0 i))) (J9 p.n.y (kN (Z8 i))))=true){R:Goal}(hn:J0 R.n [0,1,2]=true)(hR:Ok P 78 (loopHead P 78 0) ⟨J3 120 [(1,.ptr 0 0),(2,.ptr (0+1) 0),(3,.ptr (0+1+1) 0),(8,.cv (.lit (.int .i64 (i64.wrap (i+1)))))],[some (plM p),some (own [.lit (.int .i64 0),.lit (.int .i64 0),.lit (.int .i64 0)]),some (own [.lit (.bool false),.lit (.string RN.zero.s0),.lit (.bool false),.lit (.string RN.zero.s1),.lit (.bool false),.lit (.string RN.zero.s2),.lit (.bool false),.lit (.string RN.zero.s3),.lit (.bool false),.lit (.string RN.zero.s4)])]⟩ R):Ok P 78 (loopHead P 78 0) ⟨J3 120 [(1,.ptr 0 0),(2,.ptr 1 0),(3,.ptr 2 0),(8,.cv (j4 i))],[some (plM p),some (own [j4 0,j4 0,j4 0]),some (own RN.zero.l)]⟩ R:=
 z0W (keep:=[1,2,3,8]) (σ:=[0,1,2]) (.b 3 h1 (.r 5 (zd2 (i)) (.r 7 (zd3 (i)) (.c (lq 10 10) (.c (lq 10 10) (.r 16 (z0R (p.n.x) (kN (Y0 i)) s16_0 s16_1) (.r 21 (z0R (p.n.y) (kN (Z8 i)) s21_0 s21_1) (.r 22 (zap (J9 p.n.x (kN (Y0 i))) (J9 p.n.y (kN (Z8 i))) s22_0 s22_1) (.c (lq 10 10) (.r 29 (z0R (p.n.x) (kN (Z8 i)) s29_0 s29_1) (.r 34 (z0R (p.n.y) (kN (Y0 i)) s34_0 s34_1) (.r 35 (z8j (J9 p.n.x (kN (Z8 i))) (J9 p.n.y (kN (Y0 i))) s35_0 s35_1) (.c (lq 10 10) (.r 39 (z0L (z2Q (J9 p.n.x (kN (Y0 i))) (J9 p.n.y (kN (Z8 i)))) s39_0) (.b 41 h2 (.o 50 .stop .nil)))))))))))))))) (by kernel_rfl) rfl hn hR (.cons (CvL.map_cv _) (.cons (j8 _) (.cons (j8 _) .nil)))
theorem zpw(p:PN)(i:Int)(h1:decide (i<24)=true)(h2:(z0a (z2Q (J9 p.n.x (kN (Y0 i))) (J9 p.n.y (kN (Z8 i)))) != 0)=false)(h3:decide (z0a (z0Y (J9 p.n.x (kN (Z8 i))) (J9 p.n.y (kN (Y0 i))))<0)=true)(s16_0:RN.raw 1000000 p.n.x=true)(s16_1:RN.raw 1000000 (kN (Y0 i))=true)(s21_0:RN.raw 1000000 p.n.y=true)(s21_1:RN.raw 1000000 (kN (Z8 i))=true)(s22_0:RN.raw 1000000 (J9 p.n.x (kN (Y0 i)))=true)(s22_1:RN.raw 1000000 (J9 p.n.y (kN (Z8 i)))=true)(s29_0:RN.raw 1000000 p.n.x=true)(s29_1:RN.raw 1000000 (kN (Z8 i))=true)(s34_0:RN.raw 1000000 p.n.y=true)(s34_1:RN.raw 1000000 (kN (Y0 i))=true)(s35_0:RN.raw 1000000 (J9 p.n.x (kN (Z8 i)))=true)(s35_1:RN.raw 1000000 (J9 p.n.y (kN (Y0 i)))=true)(s39_0:RN.raw 1000000 (z2Q (J9 p.n.x (kN (Y0 i))) (J9 p.n.y (kN (Z8 i))))=true)(s43_0:RN.raw 1000000 (z0Y (J9 p.n.x (kN (Z8 i))) (J9 p.n.y (kN (Y0 i))))=true){R:Goal}(hn:J0 R.n [0,1,2]=true)(hR:Ok P 78 (loopHead P 78 0) ⟨J3 120 [(1,.ptr 0 0),(2,.ptr (0+1) 0),(3,.ptr (0+1+1) 0),(8,.cv (.lit (.int .i64 (i64.wrap (i+1)))))],[some (plM p),some (own [.lit (.int .i64 0),.lit (.int .i64 0),.lit (.int .i64 0)]),some (own [.lit (.bool false),.lit (.string RN.zero.s0),.lit (.bool false),.lit (.string RN.zero.s1),.lit (.bool false),.lit (.string RN.zero.s2),.lit (.bool false),.lit (.string RN.zero.s3),.lit (.bool false),.lit (.string RN.zero.s4)])]⟩ R):Ok P 78 (loopHead P 78 0) ⟨J3 120 [(1,.ptr 0 0),(2,.ptr 1 0),(3,.ptr 2 0),(8,.cv (j4 i))],[some (plM p),some (own [j4 0,j4 0,j4 0]),some (own RN.zero.l)]⟩ R:=
 z0W (keep:=[1,2,3,8]) (σ:=[0,1,2]) (.b 3 h1 (.r 5 (zd2 (i)) (.r 7 (zd3 (i)) (.c (lq 10 10) (.c (lq 10 10) (.r 16 (z0R (p.n.x) (kN (Y0 i)) s16_0 s16_1) (.r 21 (z0R (p.n.y) (kN (Z8 i)) s21_0 s21_1) (.r 22 (zap (J9 p.n.x (kN (Y0 i))) (J9 p.n.y (kN (Z8 i))) s22_0 s22_1) (.c (lq 10 10) (.r 29 (z0R (p.n.x) (kN (Z8 i)) s29_0 s29_1) (.r 34 (z0R (p.n.y) (kN (Y0 i)) s34_0 s34_1) (.r 35 (z8j (J9 p.n.x (kN (Z8 i))) (J9 p.n.y (kN (Y0 i))) s35_0 s35_1) (.c (lq 10 10) (.r 39 (z0L (z2Q (J9 p.n.x (kN (Y0 i))) (J9 p.n.y (kN (Z8 i)))) s39_0) (.b 41 h2 (.r 43 (z0L (z0Y (J9 p.n.x (kN (Z8 i))) (J9 p.n.y (kN (Y0 i)))) s43_0) (.b 46 h3 (.o 50 .stop .nil)))))))))))))))))) (by kernel_rfl) rfl hn hR (.cons (CvL.map_cv _) (.cons (j8 _) (.cons (j8 _) .nil)))
theorem zoz(p:PN)(i:Int)(h1:decide (i<24)=true)(h2:(z0a (z2Q (J9 p.n.x (kN (Y0 i))) (J9 p.n.y (kN (Z8 i)))) != 0)=false)(h3:decide (z0a (z0Y (J9 p.n.x (kN (Z8 i))) (J9 p.n.y (kN (Y0 i))))<0)=false)(h4:(!(z02 (J8 p.n.z (z0Y (J9 p.n.x (kN (Z8 i))) (J9 p.n.y (kN (Y0 i))))).fst).snd.2)=true)(s16_0:RN.raw 1000000 p.n.x=true)(s16_1:RN.raw 1000000 (kN (Y0 i))=true)(s21_0:RN.raw 1000000 p.n.y=true)(s21_1:RN.raw 1000000 (kN (Z8 i))=true)(s22_0:RN.raw 1000000 (J9 p.n.x (kN (Y0 i)))=true)(s22_1:RN.raw 1000000 (J9 p.n.y (kN (Z8 i)))=true)(s29_0:RN.raw 1000000 p.n.x=true)(s29_1:RN.raw 1000000 (kN (Z8 i))=true)(s34_0:RN.raw 1000000 p.n.y=true)(s34_1:RN.raw 1000000 (kN (Y0 i))=true)(s35_0:RN.raw 1000000 (J9 p.n.x (kN (Z8 i)))=true)(s35_1:RN.raw 1000000 (J9 p.n.y (kN (Y0 i)))=true)(s39_0:RN.raw 1000000 (z2Q (J9 p.n.x (kN (Y0 i))) (J9 p.n.y (kN (Z8 i))))=true)(s43_0:RN.raw 1000000 (z0Y (J9 p.n.x (kN (Z8 i))) (J9 p.n.y (kN (Y0 i))))=true)(s51_0:(J8 p.n.z (z0Y (J9 p.n.x (kN (Z8 i))) (J9 p.n.y (kN (Y0 i))))).fst.ok=true)(s51_1:RN.raw 100000 (z0Y (J9 p.n.x (kN (Z8 i))) (J9 p.n.y (kN (Y0 i))))=true)(s51_2:RN.raw 100000 p.n.z=true){R:Goal}(hR:R.c (.tup [.agg [.lit (.int .i64 0),.lit (.int .i64 0),.lit (.int .i64 0)],.agg X9,.lit (.int .i64 7)])):Ok P 78 (loopHead P 78 0) ⟨J3 120 [(1,.ptr 0 0),(2,.ptr 1 0),(3,.ptr 2 0),(8,.cv (j4 i))],[some (plM p),some (own [j4 0,j4 0,j4 0]),some (own RN.zero.l)]⟩ R:=
 okT (.b 3 h1 (.r 5 (zd2 (i)) (.r 7 (zd3 (i)) (.c (lq 10 10) (.c (lq 10 10) (.r 16 (z0R (p.n.x) (kN (Y0 i)) s16_0 s16_1) (.r 21 (z0R (p.n.y) (kN (Z8 i)) s21_0 s21_1) (.r 22 (zap (J9 p.n.x (kN (Y0 i))) (J9 p.n.y (kN (Z8 i))) s22_0 s22_1) (.c (lq 10 10) (.r 29 (z0R (p.n.x) (kN (Z8 i)) s29_0 s29_1) (.r 34 (z0R (p.n.y) (kN (Y0 i)) s34_0 s34_1) (.r 35 (z8j (J9 p.n.x (kN (Z8 i))) (J9 p.n.y (kN (Y0 i))) s35_0 s35_1) (.c (lq 10 10) (.r 39 (z0L (z2Q (J9 p.n.x (kN (Y0 i))) (J9 p.n.y (kN (Z8 i)))) s39_0) (.b 41 h2 (.r 43 (z0L (z0Y (J9 p.n.x (kN (Z8 i))) (J9 p.n.y (kN (Y0 i)))) s43_0) (.b 46 h3 (.r 51 (zcI (z0Y (J9 p.n.x (kN (Z8 i))) (J9 p.n.y (kN (Y0 i)))) (p.n.z) s51_0 s51_1 s51_2) (.b 61 h4 (.c (lq 3 3) (.c (lq 10 10) .nil))))))))))))))))))))) (by kernel_rfl) hR
theorem zoO(p:PN)(i:Int)(h1:decide (i<24)=true)(h2:(z0a (z2Q (J9 p.n.x (kN (Y0 i))) (J9 p.n.y (kN (Z8 i)))) != 0)=false)(h3:decide (z0a (z0Y (J9 p.n.x (kN (Z8 i))) (J9 p.n.y (kN (Y0 i))))<0)=false)(h4:(!(z02 (J8 p.n.z (z0Y (J9 p.n.x (kN (Z8 i))) (J9 p.n.y (kN (Y0 i))))).fst).snd.2)=false)(s16_0:RN.raw 1000000 p.n.x=true)(s16_1:RN.raw 1000000 (kN (Y0 i))=true)(s21_0:RN.raw 1000000 p.n.y=true)(s21_1:RN.raw 1000000 (kN (Z8 i))=true)(s22_0:RN.raw 1000000 (J9 p.n.x (kN (Y0 i)))=true)(s22_1:RN.raw 1000000 (J9 p.n.y (kN (Z8 i)))=true)(s29_0:RN.raw 1000000 p.n.x=true)(s29_1:RN.raw 1000000 (kN (Z8 i))=true)(s34_0:RN.raw 1000000 p.n.y=true)(s34_1:RN.raw 1000000 (kN (Y0 i))=true)(s35_0:RN.raw 1000000 (J9 p.n.x (kN (Z8 i)))=true)(s35_1:RN.raw 1000000 (J9 p.n.y (kN (Y0 i)))=true)(s39_0:RN.raw 1000000 (z2Q (J9 p.n.x (kN (Y0 i))) (J9 p.n.y (kN (Z8 i))))=true)(s43_0:RN.raw 1000000 (z0Y (J9 p.n.x (kN (Z8 i))) (J9 p.n.y (kN (Y0 i))))=true)(s51_0:(J8 p.n.z (z0Y (J9 p.n.x (kN (Z8 i))) (J9 p.n.y (kN (Y0 i))))).fst.ok=true)(s51_1:RN.raw 100000 (z0Y (J9 p.n.x (kN (Z8 i))) (J9 p.n.y (kN (Y0 i))))=true)(s51_2:RN.raw 100000 p.n.z=true)(s65_0:(-9223372036854775808:Int)≤(z02 (J8 p.n.z (z0Y (J9 p.n.x (kN (Z8 i))) (J9 p.n.y (kN (Y0 i))))).fst).1∧(z02 (J8 p.n.z (z0Y (J9 p.n.x (kN (Z8 i))) (J9 p.n.y (kN (Y0 i))))).fst).1≤9223372036854775807)(s66_0:RN.raw 1000000 p.d=true)(s66_1:RN.raw 1000000 (oN (z02 (J8 p.n.z (z0Y (J9 p.n.x (kN (Z8 i))) (J9 p.n.y (kN (Y0 i))))).fst).1)=true)(s68_0:RN.raw 1000000 (J9 p.d (oN (z02 (J8 p.n.z (z0Y (J9 p.n.x (kN (Z8 i))) (J9 p.n.y (kN (Y0 i))))).fst).1))=true)(s68_1:RN.raw 1000000 (z0Y (J9 p.n.x (kN (Z8 i))) (J9 p.n.y (kN (Y0 i))))=true){R:Goal}(hR:R.c (.tup [.agg [.lit (.int .i64 (z02 (J8 p.n.z (z0Y (J9 p.n.x (kN (Z8 i))) (J9 p.n.y (kN (Y0 i))))).fst).1),.lit (.int .i64 (z02 (J8 p.n.z (z0Y (J9 p.n.x (kN (Z8 i))) (J9 p.n.y (kN (Y0 i))))).fst).snd.1),.lit (.int .i64 i)],RN.c (J8 (J9 p.d (oN (z02 (J8 p.n.z (z0Y (J9 p.n.x (kN (Z8 i))) (J9 p.n.y (kN (Y0 i))))).fst).1)) (z0Y (J9 p.n.x (kN (Z8 i))) (J9 p.n.y (kN (Y0 i))))).fst,.lit (.int .i64 0)])):Ok P 78 (loopHead P 78 0) ⟨J3 120 [(1,.ptr 0 0),(2,.ptr 1 0),(3,.ptr 2 0),(8,.cv (j4 i))],[some (plM p),some (own [j4 0,j4 0,j4 0]),some (own RN.zero.l)]⟩ R:=
 okT (.b 3 h1 (.r 5 (zd2 (i)) (.r 7 (zd3 (i)) (.c (lq 10 10) (.c (lq 10 10) (.r 16 (z0R (p.n.x) (kN (Y0 i)) s16_0 s16_1) (.r 21 (z0R (p.n.y) (kN (Z8 i)) s21_0 s21_1) (.r 22 (zap (J9 p.n.x (kN (Y0 i))) (J9 p.n.y (kN (Z8 i))) s22_0 s22_1) (.c (lq 10 10) (.r 29 (z0R (p.n.x) (kN (Z8 i)) s29_0 s29_1) (.r 34 (z0R (p.n.y) (kN (Y0 i)) s34_0 s34_1) (.r 35 (z8j (J9 p.n.x (kN (Z8 i))) (J9 p.n.y (kN (Y0 i))) s35_0 s35_1) (.c (lq 10 10) (.r 39 (z0L (z2Q (J9 p.n.x (kN (Y0 i))) (J9 p.n.y (kN (Z8 i)))) s39_0) (.b 41 h2 (.r 43 (z0L (z0Y (J9 p.n.x (kN (Z8 i))) (J9 p.n.y (kN (Y0 i)))) s43_0) (.b 46 h3 (.r 51 (zcI (z0Y (J9 p.n.x (kN (Z8 i))) (J9 p.n.y (kN (Y0 i)))) (p.n.z) s51_0 s51_1 s51_2) (.b 61 h4 (.r 65 (zb4 ((z02 (J8 p.n.z (z0Y (J9 p.n.x (kN (Z8 i))) (J9 p.n.y (kN (Y0 i))))).fst).1) s65_0) (.r 66 (z0R (p.d) (oN (z02 (J8 p.n.z (z0Y (J9 p.n.x (kN (Z8 i))) (J9 p.n.y (kN (Y0 i))))).fst).1) s66_0 s66_1) (.r 68 (z8x (J9 p.d (oN (z02 (J8 p.n.z (z0Y (J9 p.n.x (kN (Z8 i))) (J9 p.n.y (kN (Y0 i))))).fst).1)) (z0Y (J9 p.n.x (kN (Z8 i))) (J9 p.n.y (kN (Y0 i)))) s68_0 s68_1) (.c (lq 10 10) (.c (lq 3 3) (.c (lq 10 10) .nil))))))))))))))))))))))))) (by kernel_rfl) hR
theorem zpn(p:PN)(i:Int)(h1:decide (i<24)=false){R:Goal}(hR:R.c (.tup [.agg [.lit (.int .i64 0),.lit (.int .i64 0),.lit (.int .i64 0)],.agg X9,.lit (.int .i64 7)])):Ok P 78 (loopHead P 78 0) ⟨J3 120 [(1,.ptr 0 0),(2,.ptr 1 0),(3,.ptr 2 0),(8,.cv (j4 i))],[some (plM p),some (own [j4 0,j4 0,j4 0]),some (own RN.zero.l)]⟩ R:=
 okT (.b 3 h1 (.c (lq 3 3) (.c (lq 10 10) .nil))) (by kernel_rfl) hR
end Go.Fw
