/- A part of the proof that the law returns true for every input: an executor for the model's code, and what functions of the program compute. -/
import Derived.Test.YtcafjpldfnegiaaGreatDoorB11
import Derived.Test.YtcafjpldfnegiaaGreatDoorB15
import Derived.Test.YtcafjpldfnegiaaGreatDoorB41
import Derived.Test.YtcafjpldfnegiaaGreatDoorB45
import Derived.KernelRfl
open Go IntKind
namespace Go.Fw
set_option maxRecDepth 100000
theorem fcm_p1(x y:RN)(s5_0:RN.raw 1000000 x=true)(s5_1:RN.raw 1000000 y=true)(s6_0:RN.raw 1000000 (nSub x y)=true):PCall P 167 [x.c,y.c] (.lit (.int .i64 (nSgn (nSub x y)))):=
 pcallT (.r 5 (FSub_r (x) (y) s5_0 s5_1) (.r 6 (FSign_r (nSub x y) s6_0) .nil)) (by kernel_rfl)
theorem vo5_p1(p:PN)(h1:(p.n.ok)=true)(h2:(zV p.n)=true)(s4_0:VN.raw 1000000 p.n=true):PCall P 80 [p.c] (.lit (.bool false)):=
 pcallT (.r 4 ((V4Val (p.n) s4_0).eqB h1) (.r 8 ((V4Zero_r (p.n)).eqB h2) .nil)) (by kernel_rfl)
theorem vo5_p2(p:PN)(h1:(p.n.ok)=true)(h2:(zV p.n)=false)(h3:(p.d.ok)=true)(s4_0:VN.raw 1000000 p.n=true)(s14_0:RN.raw 1000000 p.d=true):PCall P 80 [p.c] (.lit (.bool true)):=
 pcallT (.r 4 ((V4Val (p.n) s4_0).eqB h1) (.r 8 ((V4Zero_r (p.n)).eqB h2) (.r 14 ((RVal_c (p.d) s14_0).eqB h3) .nil))) (by kernel_rfl)
theorem vo5_p3(p:PN)(h1:(p.n.ok)=true)(h2:(zV p.n)=false)(h3:(p.d.ok)=false)(s4_0:VN.raw 1000000 p.n=true)(s14_0:RN.raw 1000000 p.d=true):PCall P 80 [p.c] (.lit (.bool false)):=
 pcallT (.r 4 ((V4Val (p.n) s4_0).eqB h1) (.r 8 ((V4Zero_r (p.n)).eqB h2) (.r 14 ((RVal_c (p.d) s14_0).eqB h3) .nil))) (by kernel_rfl)
theorem vo5_p4(p:PN)(h1:(p.n.ok)=false)(s4_0:VN.raw 1000000 p.n=true):PCall P 80 [p.c] (.lit (.bool false)):=
 pcallT (.r 4 ((V4Val (p.n) s4_0).eqB h1) .nil) (by kernel_rfl)
theorem rwp_p1(p:PN)(h1:(VN.raw 10 p.n)=true)(h2:(RN.raw 10 p.d)=true):PCall P 153 [p.c,ci64 10] (.lit (.bool true)):=
 pcallT (.r 5 ((VRaw_t (p.n)).eqB h1) (.r 10 ((RRaw_t (p.d)).eqB h2) .nil)) (by kernel_rfl)
theorem rwp_p2(p:PN)(h1:(VN.raw 10 p.n)=true)(h2:(RN.raw 10 p.d)=false):PCall P 153 [p.c,ci64 10] (.lit (.bool false)):=
 pcallT (.r 5 ((VRaw_t (p.n)).eqB h1) (.r 10 ((RRaw_t (p.d)).eqB h2) .nil)) (by kernel_rfl)
theorem rwp_p3(p:PN)(h1:(VN.raw 10 p.n)=false):PCall P 153 [p.c,ci64 10] (.lit (.bool false)):=
 pcallT (.r 5 ((VRaw_t (p.n)).eqB h1) .nil) (by kernel_rfl)
end Go.Fw
open Go
namespace Go.Fw
set_option maxRecDepth 100000
noncomputable def nCmp(x y:RN):Int:=nSgn (nSub x y)
theorem FCmp_r(x y:RN)(hx:x.raw 100000=true)(hy:y.raw 100000=true):PCall P 167 [x.c,y.c] (ci64 (nCmp x y)):=
 fcm_p1 x y (RN.raw_mono hx (by decide)) (RN.raw_mono hy (by decide)) (RN.raw_mono (raw_sub hx hy) (by decide))
theorem PValR_r(p:PN)(hp:p.raw 1000000=true):PCall P 80 [p.c] (.lit (.bool p.ok)):=by
 obtain⟨hn,hd⟩:=PN.raw_iff.1 hp
 unfold PN.ok
 cases e1:p.n.ok
 · exact vo5_p4 p e1 hn
 · cases e2:zV p.n
   · cases e3:p.d.ok
     · exact vo5_p3 p e1 e2 e3 hn hd
     · exact vo5_p2 p e1 e2 e3 hn hd
   · exact vo5_p1 p e1 e2 hn
theorem PRaw_t(p:PN):PCall P 153 [p.c,ci64 10] (.lit (.bool (p.raw 10))):=by
 unfold PN.raw
 cases h1:p.n.raw 10
 · exact rwp_p3 p h1
 · cases h2:p.d.raw 10
   · exact rwp_p2 p h1 h2
   · exact rwp_p1 p h1 h2
def pl1(p:PN):CV:= .lst 1 (p.n.x.l++(p.n.y.l++(p.n.z.l++p.d.l)))
def plL(p:PN):List CV:=p.n.x.l++(p.n.y.l++(p.n.z.l++p.d.l))
def plM(p:PN):List MV:=own (plL p)
theorem WValM(t:Int)(b:Bool):PCall P 55 [.agg [ci64 t,.lit (.bool b)]] (.lit (.bool (validM t))):=WValid_spec t b
end Go.Fw
open Go IntKind
namespace Go.Fw
set_option maxRecDepth 100000
theorem few1_p1(p:PN)(h1:(PN.raw 10 p)=true):PCall P 73 [pl1 p] (.lit (.bool true)):=
 pcallT (.c (bq 0 1) (.c (lq 40 40) (.r 12 ((PRaw_t (p)).eqB h1) .nil))) (by kernel_rfl)
theorem few1_p2(p:PN)(h1:(PN.raw 10 p)=false):PCall P 73 [pl1 p] (.lit (.bool false)):=
 pcallT (.c (bq 0 1) (.c (lq 40 40) (.r 12 ((PRaw_t (p)).eqB h1) .nil))) (by kernel_rfl)
theorem sid_p1(p:PN)(v:VN)(h1:(p.ok)=true)(h2:(v.ok)=true)(s4_0:PN.raw 1000000 p=true)(s8_0:VN.raw 1000000 v=true)(s15_0:VN.raw 1000 p.n=true)(s15_1:VN.raw 1000 v=true)(s18_0:RN.raw 100000 (wDot p.n v)=true)(s18_1:RN.raw 100000 p.d=true):PCall P 93 [p.c,v.c] (.lit (.int .i64 (nCmp (wDot p.n v) p.d))):=
 pcallT (.r 4 ((PVal_r (p) s4_0).eqB h1) (.r 8 ((VVal (v) s8_0).eqB h2) (.r 15 (VDot_r (p.n) (v) s15_0 s15_1) (.r 18 (FCmp_r (wDot p.n v) (p.d) s18_0 s18_1) .nil)))) (by kernel_rfl)
theorem sid_p2(p:PN)(v:VN)(h1:(p.ok)=true)(h2:(v.ok)=false)(s4_0:PN.raw 1000000 p=true)(s8_0:VN.raw 1000000 v=true):PCall P 93 [p.c,v.c] (.lit (.int .i64 0)):=
 pcallT (.r 4 ((PVal_r (p) s4_0).eqB h1) (.r 8 ((VVal (v) s8_0).eqB h2) .nil)) (by kernel_rfl)
theorem sid_p3(p:PN)(v:VN)(h1:(p.ok)=false)(s4_0:PN.raw 1000000 p=true):PCall P 93 [p.c,v.c] (.lit (.int .i64 0)):=
 pcallT (.r 4 ((PVal_r (p) s4_0).eqB h1) .nil) (by kernel_rfl)
theorem mvP_p1(p:PN)(t:Int)(b:Bool)(h1:(p.ok)=true)(h2:(validM t)=true)(s5_0:PN.raw 1000000 p=true)(s16_0:raw3 100000 p.n.x p.n.y p.n.z=true):PCall P 102 [p.c,.agg [ci64 t,.lit (.bool b)]] (.tup [plR (nX p.n.x p.n.y p.n.z t b) (nY p.n.x p.n.y p.n.z t b) (nZ p.n.x p.n.y p.n.z) p.d,.lit (.int .i64 0)]):=
 pcallT (.r 5 ((PVal_r (p) s5_0).eqB h1) (.r 9 ((WValM (t) (b)).eqB h2) (.r 16 (WMov_r (p.n.x) (p.n.y) (p.n.z) (t) (b) h2 s16_0) (.c (lq 40 40) .nil)))) (by kernel_rfl)
theorem mvP_p2(p:PN)(t:Int)(b:Bool)(h1:(p.ok)=true)(h2:(validM t)=false)(s5_0:PN.raw 1000000 p=true):PCall P 102 [p.c,.agg [ci64 t,.lit (.bool b)]] (.tup [zeroPl,.lit (.int .i64 1)]):=
 pcallT (.r 5 ((PVal_r (p) s5_0).eqB h1) (.r 9 ((WValM (t) (b)).eqB h2) (.c (lq 40 40) .nil))) (by kernel_rfl)
theorem mvP_p3(p:PN)(t:Int)(b:Bool)(h1:(p.ok)=false)(s5_0:PN.raw 1000000 p=true):PCall P 102 [p.c,.agg [ci64 t,.lit (.bool b)]] (.tup [zeroPl,.lit (.int .i64 1)]):=
 pcallT (.r 5 ((PVal_r (p) s5_0).eqB h1) (.c (lq 40 40) .nil)) (by kernel_rfl)
theorem shP_p1(p:PN)(v:VN)(h1:(p.ok)=true)(h2:(v.ok)=true)(s5_0:PN.raw 1000000 p=true)(s9_0:VN.raw 1000000 v=true)(s20_0:VN.raw 1000 p.n=true)(s20_1:VN.raw 1000 v=true)(s21_0:RN.raw 1000000 p.d=true)(s21_1:RN.raw 1000000 (wDot p.n v)=true):PCall P 103 [p.c,v.c] (.tup [plR p.n.x p.n.y p.n.z (nAdd p.d (wDot p.n v)),.lit (.int .i64 0)]):=
 pcallT (.r 5 ((PVal_r (p) s5_0).eqB h1) (.r 9 ((VVal (v) s9_0).eqB h2) (.r 20 (VDot_r (p.n) (v) s20_0 s20_1) (.r 21 (FAdd_r (p.d) (wDot p.n v) s21_0 s21_1) (.c (lq 40 40) .nil))))) (by kernel_rfl)
theorem shP_p2(p:PN)(v:VN)(h1:(p.ok)=true)(h2:(v.ok)=false)(s5_0:PN.raw 1000000 p=true)(s9_0:VN.raw 1000000 v=true):PCall P 103 [p.c,v.c] (.tup [zeroPl,.lit (.int .i64 1)]):=
 pcallT (.r 5 ((PVal_r (p) s5_0).eqB h1) (.r 9 ((VVal (v) s9_0).eqB h2) (.c (lq 40 40) .nil))) (by kernel_rfl)
theorem shP_p3(p:PN)(v:VN)(h1:(p.ok)=false)(s5_0:PN.raw 1000000 p=true):PCall P 103 [p.c,v.c] (.tup [zeroPl,.lit (.int .i64 1)]):=
 pcallT (.r 5 ((PVal_r (p) s5_0).eqB h1) (.c (lq 40 40) .nil)) (by kernel_rfl)
theorem scP_p1(p:PN)(k:RN)(h1:(p.ok)=true)(h2:(k.ok)=true)(h3:decide (nSgn k≤0)=true)(s5_0:PN.raw 1000000 p=true)(s9_0 s15_0:RN.raw 1000000 k=true):PCall P 104 [p.c,k.c] (.tup [zeroPl,.lit (.int .i64 2)]):=
 pcallT (.r 5 ((PVal_r (p) s5_0).eqB h1) (.r 9 ((FVal_c (k) s9_0).eqB h2) (.r 15 (FSign_r (k) s15_0) (.b 18 h3 (.c (lq 40 40) .nil))))) (by kernel_rfl)
theorem scP_p2(p:PN)(k:RN)(h1:(p.ok)=true)(h2:(k.ok)=true)(h3:decide (nSgn k≤0)=false)(s5_0:PN.raw 1000000 p=true)(s9_0 s15_0:RN.raw 1000000 k=true)(s24_0:RN.raw 1000000 p.d=true)(s24_1:RN.raw 1000000 k=true):PCall P 104 [p.c,k.c] (.tup [plR p.n.x p.n.y p.n.z (nMul p.d k),.lit (.int .i64 0)]):=
 pcallT (.r 5 ((PVal_r (p) s5_0).eqB h1) (.r 9 ((FVal_c (k) s9_0).eqB h2) (.r 15 (FSign_r (k) s15_0) (.b 18 h3 (.r 24 (FMul_r (p.d) (k) s24_0 s24_1) (.c (lq 40 40) .nil)))))) (by kernel_rfl)
theorem scP_p3(p:PN)(k:RN)(h1:(p.ok)=true)(h2:(k.ok)=false)(s5_0:PN.raw 1000000 p=true)(s9_0:RN.raw 1000000 k=true):PCall P 104 [p.c,k.c] (.tup [zeroPl,.lit (.int .i64 1)]):=
 pcallT (.r 5 ((PVal_r (p) s5_0).eqB h1) (.r 9 ((FVal_c (k) s9_0).eqB h2) (.c (lq 40 40) .nil))) (by kernel_rfl)
theorem scP_p4(p:PN)(k:RN)(h1:(p.ok)=false)(s5_0:PN.raw 1000000 p=true):PCall P 104 [p.c,k.c] (.tup [zeroPl,.lit (.int .i64 1)]):=
 pcallT (.r 5 ((PVal_r (p) s5_0).eqB h1) (.c (lq 40 40) .nil)) (by kernel_rfl)
end Go.Fw
open Go
namespace Go.Fw
set_option maxRecDepth 100000
noncomputable def sideV(p:PN)(v:VN):Int:=if p.ok&&v.ok then nCmp (wDot p.n v) p.d else 0
noncomputable def wMove(v:VN)(t:Int)(b:Bool):VN:=⟨nX v.x v.y v.z t b,nY v.x v.y v.z t b,nZ v.x v.y v.z⟩
noncomputable def mvV(p:PN)(t:Int)(b:Bool):PN×Int:=if p.ok&&validM t then(⟨wMove p.n t b,p.d⟩,0)else(.zero,1)
noncomputable def shV(p:PN)(v:VN):PN×Int:=if p.ok&&v.ok then(⟨p.n,nAdd p.d (wDot p.n v)⟩,0)else(.zero,1)
noncomputable def scV(p:PN)(k:RN):PN×Int:=if p.ok&&k.ok then(if nSgn k≤0 then(.zero,2)else(⟨p.n,nMul p.d k⟩,0))else(.zero,1)
theorem raw_wDot{v w:VN}(hv:v.raw 1000=true)(hw:w.raw 1000=true):(wDot v w).raw 10000=true:=by
 refine ofO_raw ?_
 cases ev:toV v with
 |none=>exact Nat.zero_le _
 |some a=>
  cases ew:toV w with
  |none=>exact Nat.zero_le _
  |some b=>
   obtain⟨x,y,z⟩:=sz_toV ev hv
   obtain⟨x',y',z'⟩:=sz_toV ew hw
   have m1:=K.sz_mul a.x b.x
   have m2:=K.sz_mul a.y b.y
   have m3:=K.sz_mul a.z b.z
   have m4:=K.sz_add (a.x*b.x) (a.y*b.y)
   have m5:=K.sz_add (a.x*b.x+a.y*b.y) (a.z*b.z)
   show(a.x*b.x+a.y*b.y+a.z*b.z).sz≤10000
   omega
theorem Side_r(p:PN)(v:VN)(hp:p.raw 1000=true)(hv:v.raw 1000=true):PCall P 93 [p.c,v.c] (ci64 (sideV p v)):=by
 obtain⟨hn,hd⟩:=PN.raw_iff.1 hp
 have P1:=PN.raw_iff.2 ⟨VN.raw_mono hn (show 1000≤1000000 by decide),RN.raw_mono hd (show 1000≤1000000 by decide)⟩
 have V1:=VN.raw_mono hv (show 1000≤1000000 by decide)
 unfold sideV
 cases e1:p.ok
 · exact sid_p3 p v e1 P1
 · cases e2:v.ok
   · exact sid_p2 p v e1 e2 P1 V1
   · exact sid_p1 p v e1 e2 P1 V1 hn hv (RN.raw_mono (raw_wDot hn hv) (by decide)) (RN.raw_mono hd (by decide))
theorem Move_r(p:PN)(t:Int)(b:Bool)(hp:p.raw 1000=true):PCall P 102 [p.c,.agg [ci64 t,.lit (.bool b)]] (.tup [(mvV p t b).1.c,ci64 (mvV p t b).2]):=by
 obtain⟨hn,hd⟩:=PN.raw_iff.1 hp
 have P1:=PN.raw_iff.2 ⟨VN.raw_mono hn (show 1000≤1000000 by decide),RN.raw_mono hd (show 1000≤1000000 by decide)⟩
 unfold mvV
 cases e1:p.ok
 · exact mvP_p3 p t b e1 P1
 · cases e2:validM t
   · exact mvP_p2 p t b e1 e2 P1
   · exact mvP_p1 p t b e1 e2 P1 (VN.raw_mono hn (show 1000≤100000 by decide))
theorem Shift_r(p:PN)(v:VN)(hp:p.raw 1000=true)(hv:v.raw 1000=true):PCall P 103 [p.c,v.c] (.tup [(shV p v).1.c,ci64 (shV p v).2]):=by
 obtain⟨hn,hd⟩:=PN.raw_iff.1 hp
 have d1:=RN.raw_mono hd (show 1000≤1000000 by decide)
 have P1:=PN.raw_iff.2 ⟨VN.raw_mono hn (show 1000≤1000000 by decide),d1⟩
 have V1:=VN.raw_mono hv (show 1000≤1000000 by decide)
 unfold shV
 cases e1:p.ok
 · exact shP_p3 p v e1 P1
 · cases e2:v.ok
   · exact shP_p2 p v e1 e2 P1 V1
   · exact shP_p1 p v e1 e2 P1 V1 hn hv d1 (RN.raw_mono (raw_wDot hn hv) (by decide))
theorem Scale_r(p:PN)(k:RN)(hp:p.raw 1000=true)(hk:k.raw 1000=true):PCall P 104 [p.c,k.c] (.tup [(scV p k).1.c,ci64 (scV p k).2]):=by
 obtain⟨hn,hd⟩:=PN.raw_iff.1 hp
 have d1:=RN.raw_mono hd (show 1000≤1000000 by decide)
 have P1:=PN.raw_iff.2 ⟨VN.raw_mono hn (show 1000≤1000000 by decide),d1⟩
 have K1:=RN.raw_mono hk (show 1000≤1000000 by decide)
 unfold scV
 cases e1:p.ok
 · exact scP_p4 p k e1 P1
 · cases e2:k.ok
   · exact scP_p3 p k e1 e2 P1 K1
   · by_cases e3:nSgn k≤0
     · rw[if_pos e3];exact scP_p1 p k e1 e2 (decide_eq_true e3) P1 K1 K1
     · rw[if_neg e3];exact scP_p2 p k e1 e2 (decide_eq_false e3) P1 K1 K1 d1 K1
theorem RMove_r(v:VN)(t:Int)(b:Bool)(ht:validM t=true)(hv:v.raw 100000=true):PCall P 54 [v.c,.agg [ci64 t,.lit (.bool b)]] (wMove v t b).c:=RMov_r v.x v.y v.z t b ht hv
theorem few_pl(p:PN):PCall P 73 [pl1 p] (.lit (.bool (p.raw 10))):=by
 cases h:p.raw 10
 · exact few1_p2 p h
 · exact few1_p1 p h
theorem RValM(t:Int)(b:Bool):PCall P 56 [.agg [ci64 t,.lit (.bool b)]] (.lit (.bool (validM t))):=RValidM_spec t b
end Go.Fw
open Go
namespace Go.Fw
set_option maxRecDepth 100000
theorem lm0_p1(p:PN)(u:VN)(v:VN)(t:Int)(b:Bool)(g1:PN.raw 10 p=false)(o2:(plM p)=(plM p)):PCall P (22:FuncId) [p.c,CV.agg (u.x.l++(u.y.l++(u.z.l++(v.x.l++(v.y.l++v.z.l))))),CV.agg [ci64 t,CV.lit (Value.bool b)]] (CV.lit (Value.bool true)):=
 pcallT (.c (Go.Fw.awake5) (.c ((Go.Fw.few_pl (p)).eqB g1) (.c o2 (.o 4 (Or.r (CV.lit (Value.bool true))) (.o 9 (Or.k (CV.lit (Value.bool false)) [(plL p)]) .nil))))) (by kernel_rfl)
theorem lm1_p1(p:PN)(u:VN)(v:VN)(t:Int)(b:Bool)(g1:PN.raw 10 p=true)(g2:p.ok=false)(s13_0:PN.raw 1000000 p=true)(o2:(plM p)=(plM p)):PCall P (22:FuncId) [p.c,CV.agg (u.x.l++(u.y.l++(u.z.l++(v.x.l++(v.y.l++v.z.l))))),CV.agg [ci64 t,CV.lit (Value.bool b)]] (CV.lit (Value.bool true)):=
 pcallT (.c (Go.Fw.awake5) (.c ((Go.Fw.few_pl (p)).eqB g1) (.c o2 (.c ((Go.Fw.PValR_r (p) s13_0).eqB g2) (.o 4 (Or.r (CV.lit (Value.bool true))) (.o 9 (Or.k (CV.lit (Value.bool true)) [(plL p)]) (.o 13 (Or.r (CV.lit (Value.bool false))) .nil))))))) (by kernel_rfl)
theorem lm2_p1(p:PN)(u:VN)(v:VN)(t:Int)(b:Bool)(g1:PN.raw 10 p=true)(g2:p.ok=true)(g3:VN.raw 10 u=false)(s13_0:PN.raw 1000000 p=true)(o2:(plM p)=(plM p)):PCall P (22:FuncId) [p.c,CV.agg (u.x.l++(u.y.l++(u.z.l++(v.x.l++(v.y.l++v.z.l))))),CV.agg [ci64 t,CV.lit (Value.bool b)]] (CV.lit (Value.bool true)):=
 pcallT (.c (Go.Fw.awake5) (.c ((Go.Fw.few_pl (p)).eqB g1) (.c o2 (.c ((Go.Fw.PValR_r (p) s13_0).eqB g2) (.c (show(0:Int)≤(0:Int)∧(0:Int)<(2:Int)from(by decide)) (.c ((Go.Fw.VRaw_t (u)).eqB g3) (.o 4 (Or.r (CV.lit (Value.bool true))) (.o 9 (Or.k (CV.lit (Value.bool true)) [(plL p)]) (.o 13 (Or.r (CV.lit (Value.bool true))) (.o 19 (Or.r (CV.lit (Value.bool false))) .nil)))))))))) (by kernel_rfl)
theorem lm3_p1(p:PN)(u:VN)(v:VN)(t:Int)(b:Bool)(g1:PN.raw 10 p=true)(g2:p.ok=true)(g3:VN.raw 10 u=true)(g4:VN.raw 10 v=false)(s13_0:PN.raw 1000000 p=true)(o2:(plM p)=(plM p)):PCall P (22:FuncId) [p.c,CV.agg (u.x.l++(u.y.l++(u.z.l++(v.x.l++(v.y.l++v.z.l))))),CV.agg [ci64 t,CV.lit (Value.bool b)]] (CV.lit (Value.bool true)):=
 pcallT (.c (Go.Fw.awake5) (.c ((Go.Fw.few_pl (p)).eqB g1) (.c o2 (.c ((Go.Fw.PValR_r (p) s13_0).eqB g2) (.c (show(0:Int)≤(0:Int)∧(0:Int)<(2:Int)from(by decide)) (.c ((Go.Fw.VRaw_t (u)).eqB g3) (.c (show(0:Int)≤(1:Int)∧(1:Int)<(2:Int)from(by decide)) (.c ((Go.Fw.VRaw_t (v)).eqB g4) (.o 4 (Or.r (CV.lit (Value.bool true))) (.o 9 (Or.k (CV.lit (Value.bool true)) [(plL p)]) (.o 13 (Or.r (CV.lit (Value.bool true))) (.o 19 (Or.r (CV.lit (Value.bool true))) (.o 25 (Or.r (CV.lit (Value.bool false))) .nil))))))))))))) (by kernel_rfl)
theorem lm4_p1(p:PN)(u:VN)(v:VN)(t:Int)(b:Bool)(g1:PN.raw 10 p=true)(g2:p.ok=true)(g3:VN.raw 10 u=true)(g4:VN.raw 10 v=true)(g5:u.ok=false)(s13_0:PN.raw 1000000 p=true)(s31_0:VN.raw 1000000 u=true)(o2:(plM p)=(plM p)):PCall P (22:FuncId) [p.c,CV.agg (u.x.l++(u.y.l++(u.z.l++(v.x.l++(v.y.l++v.z.l))))),CV.agg [ci64 t,CV.lit (Value.bool b)]] (CV.lit (Value.bool true)):=
 pcallT (.c (Go.Fw.awake5) (.c ((Go.Fw.few_pl (p)).eqB g1) (.c o2 (.c ((Go.Fw.PValR_r (p) s13_0).eqB g2) (.c (show(0:Int)≤(0:Int)∧(0:Int)<(2:Int)from(by decide)) (.c ((Go.Fw.VRaw_t (u)).eqB g3) (.c (show(0:Int)≤(1:Int)∧(1:Int)<(2:Int)from(by decide)) (.c ((Go.Fw.VRaw_t (v)).eqB g4) (.c (show(0:Int)≤(0:Int)∧(0:Int)<(2:Int)from(by decide)) (.c ((Go.Fw.V4Val (u) s31_0).eqB g5) (.o 4 (Or.r (CV.lit (Value.bool true))) (.o 9 (Or.k (CV.lit (Value.bool true)) [(plL p)]) (.o 13 (Or.r (CV.lit (Value.bool true))) (.o 19 (Or.r (CV.lit (Value.bool true))) (.o 25 (Or.r (CV.lit (Value.bool true))) (.o 31 (Or.r (CV.lit (Value.bool false))) .nil)))))))))))))))) (by kernel_rfl)
theorem lm5_p1(p:PN)(u:VN)(v:VN)(t:Int)(b:Bool)(g1:PN.raw 10 p=true)(g2:p.ok=true)(g3:VN.raw 10 u=true)(g4:VN.raw 10 v=true)(g5:u.ok=true)(g6:v.ok=false)(s13_0:PN.raw 1000000 p=true)(s31_0:VN.raw 1000000 u=true)(s37_0:VN.raw 1000000 v=true)(o2:(plM p)=(plM p)):PCall P (22:FuncId) [p.c,CV.agg (u.x.l++(u.y.l++(u.z.l++(v.x.l++(v.y.l++v.z.l))))),CV.agg [ci64 t,CV.lit (Value.bool b)]] (CV.lit (Value.bool true)):=
 pcallT (.c (Go.Fw.awake5) (.c ((Go.Fw.few_pl (p)).eqB g1) (.c o2 (.c ((Go.Fw.PValR_r (p) s13_0).eqB g2) (.c (show(0:Int)≤(0:Int)∧(0:Int)<(2:Int)from(by decide)) (.c ((Go.Fw.VRaw_t (u)).eqB g3) (.c (show(0:Int)≤(1:Int)∧(1:Int)<(2:Int)from(by decide)) (.c ((Go.Fw.VRaw_t (v)).eqB g4) (.c (show(0:Int)≤(0:Int)∧(0:Int)<(2:Int)from(by decide)) (.c ((Go.Fw.V4Val (u) s31_0).eqB g5) (.c (show(0:Int)≤(1:Int)∧(1:Int)<(2:Int)from(by decide)) (.c ((Go.Fw.V4Val (v) s37_0).eqB g6) (.o 4 (Or.r (CV.lit (Value.bool true))) (.o 9 (Or.k (CV.lit (Value.bool true)) [(plL p)]) (.o 13 (Or.r (CV.lit (Value.bool true))) (.o 19 (Or.r (CV.lit (Value.bool true))) (.o 25 (Or.r (CV.lit (Value.bool true))) (.o 31 (Or.r (CV.lit (Value.bool true))) (.o 37 (Or.r (CV.lit (Value.bool false))) .nil))))))))))))))))))) (by kernel_rfl)
end Go.Fw
open Go
namespace Go.Fw
set_option maxRecDepth 100000
theorem lmap_p2(p:PN)(u:VN)(v:VN)(t:Int)(b:Bool)(g1:PN.raw 10 p=true)(g2:p.ok=true)(g3:VN.raw 10 u=true)(g4:VN.raw 10 v=true)(g5:u.ok=true)(g6:v.ok=true)(m1:((mvV p t b).snd==(0:Int))=true)(m2:(sideV (mvV p t b).fst (wMove u t b) != sideV p u)=false)(m3:validM t=true)(s1:((shV p v).snd != (0:Int))=false)(s2:(sideV (shV p v).fst (wAdd u v) != sideV p u)=false)(k1:decide (nSgn v.x≤(0:Int))=false)(k2:((scV p v.x).snd==(0:Int))=true)(h1:(!((mvV p t b).2==(0:Int))==true)=false)(s13_0:PN.raw 1000000 p=true)(s31_0:VN.raw 1000000 u=true)(s37_0:VN.raw 1000000 v=true)(s44_0:PN.raw 1000 p=true)(s44_1:VN.raw 1000 u=true)(s48_0:PN.raw 1000 p=true)(s62_0:VN.raw 100000 u=true)(s63_0:PN.raw 1000 (mvV p t b).fst=true)(s63_1:VN.raw 1000 (wMove u t b)=true)(s78_0:PN.raw 1000 p=true)(s78_1:VN.raw 1000 v=true)(s93_0:VN.raw 1000000 u=true)(s93_1:VN.raw 1000000 v=true)(s94_0:PN.raw 1000 (shV p v).fst=true)(s94_1:VN.raw 1000 (wAdd u v)=true)(s106_0:PN.raw 1000 p=true)(s106_1:RN.raw 1000 v.x=true)(s114_0:RN.raw 1000000 v.x=true)(s124_0:VN.raw 1000000 u=true)(s124_1:RN.raw 1000000 v.x=true)(s125_0:PN.raw 1000 (scV p v.x).fst=true)(s125_1:VN.raw 1000 (wScale u v.x)=true)(o2:(plM p)=(plM p)):PCall P (22:FuncId) [p.c,CV.agg (u.x.l++(u.y.l++(u.z.l++(v.x.l++(v.y.l++v.z.l))))),CV.agg [ci64 t,CV.lit (Value.bool b)]] (CV.lit (Value.bool (sideV (scV p v.x).fst (wScale u v.x)==sideV p u))):=
 pcallT (.c (Go.Fw.awake5) (.c ((Go.Fw.few_pl (p)).eqB g1) (.c o2 (.c ((Go.Fw.PValR_r (p) s13_0).eqB g2) (.c (show(0:Int)≤(0:Int)∧(0:Int)<(2:Int)from(by decide)) (.c ((Go.Fw.VRaw_t (u)).eqB g3) (.c (show(0:Int)≤(1:Int)∧(1:Int)<(2:Int)from(by decide)) (.c ((Go.Fw.VRaw_t (v)).eqB g4) (.c (show(0:Int)≤(0:Int)∧(0:Int)<(2:Int)from(by decide)) (.c ((Go.Fw.V4Val (u) s31_0).eqB g5) (.c (show(0:Int)≤(1:Int)∧(1:Int)<(2:Int)from(by decide)) (.c ((Go.Fw.V4Val (v) s37_0).eqB g6) (.c (show(0:Int)≤(0:Int)∧(0:Int)<(2:Int)from(by decide)) (.c (Go.Fw.Side_r (p) (u) s44_0 s44_1) (.c (Go.Fw.Move_r (p) (t) (b) s48_0) (.c (show 40≤40 from(by decide)) (.c m1 (.c (show(0:Int)≤(0:Int)∧(0:Int)<(2:Int)from(by decide)) (.c (Go.Fw.RMove_r (u) (t) (b) m3 s62_0) (.c (Go.Fw.Side_r ((mvV p t b).fst) (wMove u t b) s63_0 s63_1) (.c m2 (.c ((Go.Fw.RValM (t) (b)).eqB m3) (.c h1 (.c (show(0:Int)≤(1:Int)∧(1:Int)<(2:Int)from(by decide)) (.c (Go.Fw.Shift_r (p) (v) s78_0 s78_1) (.c (show 40≤40 from(by decide)) (.c s1 (.c (show(0:Int)≤(0:Int)∧(0:Int)<(2:Int)from(by decide)) (.c (show(0:Int)≤(1:Int)∧(1:Int)<(2:Int)from(by decide)) (.c (Go.Fw.V4Add_r (u) (v) s93_0 s93_1) (.c (Go.Fw.Side_r ((shV p v).fst) (wAdd u v) s94_0 s94_1) (.c s2 (.c (show(0:Int)≤(1:Int)∧(1:Int)<(2:Int)from(by decide)) (.c (show 10≤10 from(by decide)) (.c (Go.Fw.Scale_r (p) (v.x) s106_0 s106_1) (.c (show 40≤40 from(by decide)) (.c (Go.Fw.RSign_r (v.x) s114_0) (.c k1 (.c k2 (.c (show(0:Int)≤(0:Int)∧(0:Int)<(2:Int)from(by decide)) (.c (Go.Fw.V4Scale_r (u) (v.x) s124_0 s124_1) (.c (Go.Fw.Side_r ((scV p v.x).fst) (wScale u v.x) s125_0 s125_1) (.o 4 (Or.r (CV.lit (Value.bool true))) (.o 9 (Or.k (CV.lit (Value.bool true)) [(plL p)]) (.o 13 (Or.r (CV.lit (Value.bool true))) (.o 19 (Or.r (CV.lit (Value.bool true))) (.o 25 (Or.r (CV.lit (Value.bool true))) (.o 31 (Or.r (CV.lit (Value.bool true))) (.o 37 (Or.r (CV.lit (Value.bool true))) (.o 44 (Or.r (CV.lit (Value.int IntKind.i64 (sideV p u)))) (.o 48 (Or.r (CV.tup [plR (mvV p t b).fst.n.x (mvV p t b).fst.n.y (mvV p t b).fst.n.z (mvV p t b).fst.d,CV.lit (Value.int IntKind.i64 (mvV p t b).2)])) (.o 57 (Or.b true) (.o 62 (Or.r (vecR (wMove u t b).x (wMove u t b).y (wMove u t b).z)) (.o 63 (Or.r (CV.lit (Value.int IntKind.i64 (sideV (mvV p t b).fst (wMove u t b))))) (.o 67 (Or.b false) (.o 71 (Or.r (CV.lit (Value.bool true))) (.o 74 (Or.b false) (.o 78 (Or.r (CV.tup [plR (shV p v).fst.n.x (shV p v).fst.n.y (shV p v).fst.n.z (shV p v).fst.d,CV.lit (Value.int IntKind.i64 (shV p v).2)])) (.o 87 (Or.b false) (.o 93 (Or.r (vecR (wAdd u v).x (wAdd u v).y (wAdd u v).z)) (.o 94 (Or.r (CV.lit (Value.int IntKind.i64 (sideV (shV p v).fst (wAdd u v))))) (.o 98 (Or.b false) (.o 106 (Or.r (CV.tup [plR (scV p v.x).fst.n.x (scV p v.x).fst.n.y (scV p v.x).fst.n.z (scV p v.x).fst.d,CV.lit (Value.int IntKind.i64 (scV p v.x).2)])) (.o 114 (Or.r (CV.lit (Value.int IntKind.i64 (nSgn v.x)))) (.o 116 (Or.b false) (.o 119 (Or.b true) (.o 124 (Or.r (vecR (wScale u v.x).x (wScale u v.x).y (wScale u v.x).z)) (.o 125 (Or.r (CV.lit (Value.int IntKind.i64 (sideV (scV p v.x).fst (wScale u v.x))))) .nil)))))))))))))))))))))))))))))))))))))))))))))))))))))))))))))))))))) (by kernel_rfl)
theorem lman_p2(p:PN)(u:VN)(v:VN)(t:Int)(b:Bool)(g1:PN.raw 10 p=true)(g2:p.ok=true)(g3:VN.raw 10 u=true)(g4:VN.raw 10 v=true)(g5:u.ok=true)(g6:v.ok=true)(m1:((mvV p t b).snd==(0:Int))=true)(m2:(sideV (mvV p t b).fst (wMove u t b) != sideV p u)=false)(m3:validM t=true)(s1:((shV p v).snd != (0:Int))=false)(s2:(sideV (shV p v).fst (wAdd u v) != sideV p u)=false)(k1:decide (nSgn v.x≤(0:Int))=true)(h1:(!((mvV p t b).2==(0:Int))==true)=false)(s13_0:PN.raw 1000000 p=true)(s31_0:VN.raw 1000000 u=true)(s37_0:VN.raw 1000000 v=true)(s44_0:PN.raw 1000 p=true)(s44_1:VN.raw 1000 u=true)(s48_0:PN.raw 1000 p=true)(s62_0:VN.raw 100000 u=true)(s63_0:PN.raw 1000 (mvV p t b).fst=true)(s63_1:VN.raw 1000 (wMove u t b)=true)(s78_0:PN.raw 1000 p=true)(s78_1:VN.raw 1000 v=true)(s93_0:VN.raw 1000000 u=true)(s93_1:VN.raw 1000000 v=true)(s94_0:PN.raw 1000 (shV p v).fst=true)(s94_1:VN.raw 1000 (wAdd u v)=true)(s106_0:PN.raw 1000 p=true)(s106_1:RN.raw 1000 v.x=true)(s114_0:RN.raw 1000000 v.x=true)(o2:(plM p)=(plM p)):PCall P (22:FuncId) [p.c,CV.agg (u.x.l++(u.y.l++(u.z.l++(v.x.l++(v.y.l++v.z.l))))),CV.agg [ci64 t,CV.lit (Value.bool b)]] (CV.lit (Value.bool ((scV p v.x).2==(2:Int)))):=
 pcallT (.c (Go.Fw.awake5) (.c ((Go.Fw.few_pl (p)).eqB g1) (.c o2 (.c ((Go.Fw.PValR_r (p) s13_0).eqB g2) (.c (show(0:Int)≤(0:Int)∧(0:Int)<(2:Int)from(by decide)) (.c ((Go.Fw.VRaw_t (u)).eqB g3) (.c (show(0:Int)≤(1:Int)∧(1:Int)<(2:Int)from(by decide)) (.c ((Go.Fw.VRaw_t (v)).eqB g4) (.c (show(0:Int)≤(0:Int)∧(0:Int)<(2:Int)from(by decide)) (.c ((Go.Fw.V4Val (u) s31_0).eqB g5) (.c (show(0:Int)≤(1:Int)∧(1:Int)<(2:Int)from(by decide)) (.c ((Go.Fw.V4Val (v) s37_0).eqB g6) (.c (show(0:Int)≤(0:Int)∧(0:Int)<(2:Int)from(by decide)) (.c (Go.Fw.Side_r (p) (u) s44_0 s44_1) (.c (Go.Fw.Move_r (p) (t) (b) s48_0) (.c (show 40≤40 from(by decide)) (.c m1 (.c (show(0:Int)≤(0:Int)∧(0:Int)<(2:Int)from(by decide)) (.c (Go.Fw.RMove_r (u) (t) (b) m3 s62_0) (.c (Go.Fw.Side_r ((mvV p t b).fst) (wMove u t b) s63_0 s63_1) (.c m2 (.c ((Go.Fw.RValM (t) (b)).eqB m3) (.c h1 (.c (show(0:Int)≤(1:Int)∧(1:Int)<(2:Int)from(by decide)) (.c (Go.Fw.Shift_r (p) (v) s78_0 s78_1) (.c (show 40≤40 from(by decide)) (.c s1 (.c (show(0:Int)≤(0:Int)∧(0:Int)<(2:Int)from(by decide)) (.c (show(0:Int)≤(1:Int)∧(1:Int)<(2:Int)from(by decide)) (.c (Go.Fw.V4Add_r (u) (v) s93_0 s93_1) (.c (Go.Fw.Side_r ((shV p v).fst) (wAdd u v) s94_0 s94_1) (.c s2 (.c (show(0:Int)≤(1:Int)∧(1:Int)<(2:Int)from(by decide)) (.c (show 10≤10 from(by decide)) (.c (Go.Fw.Scale_r (p) (v.x) s106_0 s106_1) (.c (show 40≤40 from(by decide)) (.c (Go.Fw.RSign_r (v.x) s114_0) (.c k1 (.o 4 (Or.r (CV.lit (Value.bool true))) (.o 9 (Or.k (CV.lit (Value.bool true)) [(plL p)]) (.o 13 (Or.r (CV.lit (Value.bool true))) (.o 19 (Or.r (CV.lit (Value.bool true))) (.o 25 (Or.r (CV.lit (Value.bool true))) (.o 31 (Or.r (CV.lit (Value.bool true))) (.o 37 (Or.r (CV.lit (Value.bool true))) (.o 44 (Or.r (CV.lit (Value.int IntKind.i64 (sideV p u)))) (.o 48 (Or.r (CV.tup [plR (mvV p t b).fst.n.x (mvV p t b).fst.n.y (mvV p t b).fst.n.z (mvV p t b).fst.d,CV.lit (Value.int IntKind.i64 (mvV p t b).2)])) (.o 57 (Or.b true) (.o 62 (Or.r (vecR (wMove u t b).x (wMove u t b).y (wMove u t b).z)) (.o 63 (Or.r (CV.lit (Value.int IntKind.i64 (sideV (mvV p t b).fst (wMove u t b))))) (.o 67 (Or.b false) (.o 71 (Or.r (CV.lit (Value.bool true))) (.o 74 (Or.b false) (.o 78 (Or.r (CV.tup [plR (shV p v).fst.n.x (shV p v).fst.n.y (shV p v).fst.n.z (shV p v).fst.d,CV.lit (Value.int IntKind.i64 (shV p v).2)])) (.o 87 (Or.b false) (.o 93 (Or.r (vecR (wAdd u v).x (wAdd u v).y (wAdd u v).z)) (.o 94 (Or.r (CV.lit (Value.int IntKind.i64 (sideV (shV p v).fst (wAdd u v))))) (.o 98 (Or.b false) (.o 106 (Or.r (CV.tup [plR (scV p v.x).fst.n.x (scV p v.x).fst.n.y (scV p v.x).fst.n.z (scV p v.x).fst.d,CV.lit (Value.int IntKind.i64 (scV p v.x).2)])) (.o 114 (Or.r (CV.lit (Value.int IntKind.i64 (nSgn v.x)))) (.o 116 (Or.b true) .nil))))))))))))))))))))))))))))))))))))))))))))))))))))))))))))) (by kernel_rfl)
theorem lmbp_p2(p:PN)(u:VN)(v:VN)(t:Int)(b:Bool)(g1:PN.raw 10 p=true)(g2:p.ok=true)(g3:VN.raw 10 u=true)(g4:VN.raw 10 v=true)(g5:u.ok=true)(g6:v.ok=true)(m1:((mvV p t b).snd==(0:Int))=false)(m3:validM t=false)(s1:((shV p v).snd != (0:Int))=false)(s2:(sideV (shV p v).fst (wAdd u v) != sideV p u)=false)(k1:decide (nSgn v.x≤(0:Int))=false)(k2:((scV p v.x).snd==(0:Int))=true)(h1:(!((mvV p t b).2==(0:Int))==false)=false)(s13_0:PN.raw 1000000 p=true)(s31_0:VN.raw 1000000 u=true)(s37_0:VN.raw 1000000 v=true)(s44_0:PN.raw 1000 p=true)(s44_1:VN.raw 1000 u=true)(s48_0:PN.raw 1000 p=true)(s78_0:PN.raw 1000 p=true)(s78_1:VN.raw 1000 v=true)(s93_0:VN.raw 1000000 u=true)(s93_1:VN.raw 1000000 v=true)(s94_0:PN.raw 1000 (shV p v).fst=true)(s94_1:VN.raw 1000 (wAdd u v)=true)(s106_0:PN.raw 1000 p=true)(s106_1:RN.raw 1000 v.x=true)(s114_0:RN.raw 1000000 v.x=true)(s124_0:VN.raw 1000000 u=true)(s124_1:RN.raw 1000000 v.x=true)(s125_0:PN.raw 1000 (scV p v.x).fst=true)(s125_1:VN.raw 1000 (wScale u v.x)=true)(o2:(plM p)=(plM p)):PCall P (22:FuncId) [p.c,CV.agg (u.x.l++(u.y.l++(u.z.l++(v.x.l++(v.y.l++v.z.l))))),CV.agg [ci64 t,CV.lit (Value.bool b)]] (CV.lit (Value.bool (sideV (scV p v.x).fst (wScale u v.x)==sideV p u))):=
 pcallT (.c (Go.Fw.awake5) (.c ((Go.Fw.few_pl (p)).eqB g1) (.c o2 (.c ((Go.Fw.PValR_r (p) s13_0).eqB g2) (.c (show(0:Int)≤(0:Int)∧(0:Int)<(2:Int)from(by decide)) (.c ((Go.Fw.VRaw_t (u)).eqB g3) (.c (show(0:Int)≤(1:Int)∧(1:Int)<(2:Int)from(by decide)) (.c ((Go.Fw.VRaw_t (v)).eqB g4) (.c (show(0:Int)≤(0:Int)∧(0:Int)<(2:Int)from(by decide)) (.c ((Go.Fw.V4Val (u) s31_0).eqB g5) (.c (show(0:Int)≤(1:Int)∧(1:Int)<(2:Int)from(by decide)) (.c ((Go.Fw.V4Val (v) s37_0).eqB g6) (.c (show(0:Int)≤(0:Int)∧(0:Int)<(2:Int)from(by decide)) (.c (Go.Fw.Side_r (p) (u) s44_0 s44_1) (.c (Go.Fw.Move_r (p) (t) (b) s48_0) (.c (show 40≤40 from(by decide)) (.c m1 (.c ((Go.Fw.RValM (t) (b)).eqB m3) (.c h1 (.c (show(0:Int)≤(1:Int)∧(1:Int)<(2:Int)from(by decide)) (.c (Go.Fw.Shift_r (p) (v) s78_0 s78_1) (.c (show 40≤40 from(by decide)) (.c s1 (.c (show(0:Int)≤(0:Int)∧(0:Int)<(2:Int)from(by decide)) (.c (show(0:Int)≤(1:Int)∧(1:Int)<(2:Int)from(by decide)) (.c (Go.Fw.V4Add_r (u) (v) s93_0 s93_1) (.c (Go.Fw.Side_r ((shV p v).fst) (wAdd u v) s94_0 s94_1) (.c s2 (.c (show(0:Int)≤(1:Int)∧(1:Int)<(2:Int)from(by decide)) (.c (show 10≤10 from(by decide)) (.c (Go.Fw.Scale_r (p) (v.x) s106_0 s106_1) (.c (show 40≤40 from(by decide)) (.c (Go.Fw.RSign_r (v.x) s114_0) (.c k1 (.c k2 (.c (show(0:Int)≤(0:Int)∧(0:Int)<(2:Int)from(by decide)) (.c (Go.Fw.V4Scale_r (u) (v.x) s124_0 s124_1) (.c (Go.Fw.Side_r ((scV p v.x).fst) (wScale u v.x) s125_0 s125_1) (.o 4 (Or.r (CV.lit (Value.bool true))) (.o 9 (Or.k (CV.lit (Value.bool true)) [(plL p)]) (.o 13 (Or.r (CV.lit (Value.bool true))) (.o 19 (Or.r (CV.lit (Value.bool true))) (.o 25 (Or.r (CV.lit (Value.bool true))) (.o 31 (Or.r (CV.lit (Value.bool true))) (.o 37 (Or.r (CV.lit (Value.bool true))) (.o 44 (Or.r (CV.lit (Value.int IntKind.i64 (sideV p u)))) (.o 48 (Or.r (CV.tup [plR (mvV p t b).fst.n.x (mvV p t b).fst.n.y (mvV p t b).fst.n.z (mvV p t b).fst.d,CV.lit (Value.int IntKind.i64 (mvV p t b).2)])) (.o 57 (Or.b false) (.o 71 (Or.r (CV.lit (Value.bool false))) (.o 74 (Or.b false) (.o 78 (Or.r (CV.tup [plR (shV p v).fst.n.x (shV p v).fst.n.y (shV p v).fst.n.z (shV p v).fst.d,CV.lit (Value.int IntKind.i64 (shV p v).2)])) (.o 87 (Or.b false) (.o 93 (Or.r (vecR (wAdd u v).x (wAdd u v).y (wAdd u v).z)) (.o 94 (Or.r (CV.lit (Value.int IntKind.i64 (sideV (shV p v).fst (wAdd u v))))) (.o 98 (Or.b false) (.o 106 (Or.r (CV.tup [plR (scV p v.x).fst.n.x (scV p v.x).fst.n.y (scV p v.x).fst.n.z (scV p v.x).fst.d,CV.lit (Value.int IntKind.i64 (scV p v.x).2)])) (.o 114 (Or.r (CV.lit (Value.int IntKind.i64 (nSgn v.x)))) (.o 116 (Or.b false) (.o 119 (Or.b true) (.o 124 (Or.r (vecR (wScale u v.x).x (wScale u v.x).y (wScale u v.x).z)) (.o 125 (Or.r (CV.lit (Value.int IntKind.i64 (sideV (scV p v.x).fst (wScale u v.x))))) .nil))))))))))))))))))))))))))))))))))))))))))))))))))))))))))))) (by kernel_rfl)
theorem lmbn_p2(p:PN)(u:VN)(v:VN)(t:Int)(b:Bool)(g1:PN.raw 10 p=true)(g2:p.ok=true)(g3:VN.raw 10 u=true)(g4:VN.raw 10 v=true)(g5:u.ok=true)(g6:v.ok=true)(m1:((mvV p t b).snd==(0:Int))=false)(m3:validM t=false)(s1:((shV p v).snd != (0:Int))=false)(s2:(sideV (shV p v).fst (wAdd u v) != sideV p u)=false)(k1:decide (nSgn v.x≤(0:Int))=true)(h1:(!((mvV p t b).2==(0:Int))==false)=false)(s13_0:PN.raw 1000000 p=true)(s31_0:VN.raw 1000000 u=true)(s37_0:VN.raw 1000000 v=true)(s44_0:PN.raw 1000 p=true)(s44_1:VN.raw 1000 u=true)(s48_0:PN.raw 1000 p=true)(s78_0:PN.raw 1000 p=true)(s78_1:VN.raw 1000 v=true)(s93_0:VN.raw 1000000 u=true)(s93_1:VN.raw 1000000 v=true)(s94_0:PN.raw 1000 (shV p v).fst=true)(s94_1:VN.raw 1000 (wAdd u v)=true)(s106_0:PN.raw 1000 p=true)(s106_1:RN.raw 1000 v.x=true)(s114_0:RN.raw 1000000 v.x=true)(o2:(plM p)=(plM p)):PCall P (22:FuncId) [p.c,CV.agg (u.x.l++(u.y.l++(u.z.l++(v.x.l++(v.y.l++v.z.l))))),CV.agg [ci64 t,CV.lit (Value.bool b)]] (CV.lit (Value.bool ((scV p v.x).2==(2:Int)))):=
 pcallT (.c (Go.Fw.awake5) (.c ((Go.Fw.few_pl (p)).eqB g1) (.c o2 (.c ((Go.Fw.PValR_r (p) s13_0).eqB g2) (.c (show(0:Int)≤(0:Int)∧(0:Int)<(2:Int)from(by decide)) (.c ((Go.Fw.VRaw_t (u)).eqB g3) (.c (show(0:Int)≤(1:Int)∧(1:Int)<(2:Int)from(by decide)) (.c ((Go.Fw.VRaw_t (v)).eqB g4) (.c (show(0:Int)≤(0:Int)∧(0:Int)<(2:Int)from(by decide)) (.c ((Go.Fw.V4Val (u) s31_0).eqB g5) (.c (show(0:Int)≤(1:Int)∧(1:Int)<(2:Int)from(by decide)) (.c ((Go.Fw.V4Val (v) s37_0).eqB g6) (.c (show(0:Int)≤(0:Int)∧(0:Int)<(2:Int)from(by decide)) (.c (Go.Fw.Side_r (p) (u) s44_0 s44_1) (.c (Go.Fw.Move_r (p) (t) (b) s48_0) (.c (show 40≤40 from(by decide)) (.c m1 (.c ((Go.Fw.RValM (t) (b)).eqB m3) (.c h1 (.c (show(0:Int)≤(1:Int)∧(1:Int)<(2:Int)from(by decide)) (.c (Go.Fw.Shift_r (p) (v) s78_0 s78_1) (.c (show 40≤40 from(by decide)) (.c s1 (.c (show(0:Int)≤(0:Int)∧(0:Int)<(2:Int)from(by decide)) (.c (show(0:Int)≤(1:Int)∧(1:Int)<(2:Int)from(by decide)) (.c (Go.Fw.V4Add_r (u) (v) s93_0 s93_1) (.c (Go.Fw.Side_r ((shV p v).fst) (wAdd u v) s94_0 s94_1) (.c s2 (.c (show(0:Int)≤(1:Int)∧(1:Int)<(2:Int)from(by decide)) (.c (show 10≤10 from(by decide)) (.c (Go.Fw.Scale_r (p) (v.x) s106_0 s106_1) (.c (show 40≤40 from(by decide)) (.c (Go.Fw.RSign_r (v.x) s114_0) (.c k1 (.o 4 (Or.r (CV.lit (Value.bool true))) (.o 9 (Or.k (CV.lit (Value.bool true)) [(plL p)]) (.o 13 (Or.r (CV.lit (Value.bool true))) (.o 19 (Or.r (CV.lit (Value.bool true))) (.o 25 (Or.r (CV.lit (Value.bool true))) (.o 31 (Or.r (CV.lit (Value.bool true))) (.o 37 (Or.r (CV.lit (Value.bool true))) (.o 44 (Or.r (CV.lit (Value.int IntKind.i64 (sideV p u)))) (.o 48 (Or.r (CV.tup [plR (mvV p t b).fst.n.x (mvV p t b).fst.n.y (mvV p t b).fst.n.z (mvV p t b).fst.d,CV.lit (Value.int IntKind.i64 (mvV p t b).2)])) (.o 57 (Or.b false) (.o 71 (Or.r (CV.lit (Value.bool false))) (.o 74 (Or.b false) (.o 78 (Or.r (CV.tup [plR (shV p v).fst.n.x (shV p v).fst.n.y (shV p v).fst.n.z (shV p v).fst.d,CV.lit (Value.int IntKind.i64 (shV p v).2)])) (.o 87 (Or.b false) (.o 93 (Or.r (vecR (wAdd u v).x (wAdd u v).y (wAdd u v).z)) (.o 94 (Or.r (CV.lit (Value.int IntKind.i64 (sideV (shV p v).fst (wAdd u v))))) (.o 98 (Or.b false) (.o 106 (Or.r (CV.tup [plR (scV p v.x).fst.n.x (scV p v.x).fst.n.y (scV p v.x).fst.n.z (scV p v.x).fst.d,CV.lit (Value.int IntKind.i64 (scV p v.x).2)])) (.o 114 (Or.r (CV.lit (Value.int IntKind.i64 (nSgn v.x)))) (.o 116 (Or.b true) .nil)))))))))))))))))))))))))))))))))))))))))))))))))))))) (by kernel_rfl)
end Go.Fw
