/- A part of the proof that the law returns true for every input: an executor for the model's code, and what functions of the program compute. -/
import Derived.Test.YtcafjpldfnegiaaGreatDoorB11
import Derived.Test.YtcafjpldfnegiaaGreatDoorB15
import Derived.Test.YtcafjpldfnegiaaGreatDoorB39
import Derived.Test.YtcafjpldfnegiaaGreatDoorB40
import Derived.Test.YtcafjpldfnegiaaGreatDoorB42
import Derived.Test.YtcafjpldfnegiaaGreatDoorB44
import Derived.KernelRfl
open Go IntKind
namespace Go.Fw
set_option maxRecDepth 100000
theorem fcm_p1(x y:RN)(s5_0:RN.raw 1000000 x=true)(s5_1:RN.raw 1000000 y=true)(s6_0:RN.raw 1000000 (nSub x y)=true):PCall P 167 [x.c,y.c] (.lit (.int .i64 (nSgn (nSub x y)))):=
 pcallT (.r 5 (FSub_r (x) (y) s5_0 s5_1) (.r 6 (FSign_r (nSub x y) s6_0) .nil)) (by kernel_rfl)
theorem vo5_p1(p:PN)(h1:(p.n.ok)=true)(h2:(zV p.n)=true)(s4_0:VN.raw 1000000 p.n=true):PCall P 80 [p.c] (.lit (.bool false)):=
 pcallT (.r 4 ((V4Val (p.n) s4_0).eqB h1) (.r 8 ((V4Zero_r (p.n)).eqB h2) .nil)) (by kernel_rfl)
theorem vo5_p2(p:PN)(h1:(p.n.ok)=true)(h2:(zV p.n)=false)(h3:(p.d.ok)=true)(s4_0:VN.raw 1000000 p.n=true)(s14_0:RN.raw 1000000 p.d=true):PCall P 80 [p.c] (.lit (.bool true)):=
 pcallT (.r 4 ((V4Val (p.n) s4_0).eqB h1) (.r 8 ((V4Zero_r (p.n)).eqB h2) (.r 14 ((RVal_c (p.d) s14_0).eqB h3) .nil))) (by kernel_rfl)
theorem vo5_p3(p:PN)(h1:(p.n.ok)=true)(h2:(zV p.n)=false)(h3:(p.d.ok)=false)(s4_0:VN.raw 1000000 p.n=true)(s14_0:RN.raw 1000000 p.d=true):PCall P 80 [p.c] (.lit (.bool false)):=
 pcallT (.r 4 ((V4Val (p.n) s4_0).eqB h1) (.r 8 ((V4Zero_r (p.n)).eqB h2) (.r 14 ((RVal_c (p.d) s14_0).eqB h3) .nil))) (by kernel_rfl)
theorem vo5_p4(p:PN)(h1:(p.n.ok)=false)(s4_0:VN.raw 1000000 p.n=true):PCall P 80 [p.c] (.lit (.bool false)):=
 pcallT (.r 4 ((V4Val (p.n) s4_0).eqB h1) .nil) (by kernel_rfl)
theorem rwp_p1(p:PN)(h1:(VN.raw 10 p.n)=true)(h2:(RN.raw 10 p.d)=true):PCall P 153 [p.c,ci64 10] (.lit (.bool true)):=
 pcallT (.r 5 ((VRaw_t (p.n)).eqB h1) (.r 10 ((RRaw_t (p.d)).eqB h2) .nil)) (by kernel_rfl)
theorem rwp_p2(p:PN)(h1:(VN.raw 10 p.n)=true)(h2:(RN.raw 10 p.d)=false):PCall P 153 [p.c,ci64 10] (.lit (.bool false)):=
 pcallT (.r 5 ((VRaw_t (p.n)).eqB h1) (.r 10 ((RRaw_t (p.d)).eqB h2) .nil)) (by kernel_rfl)
theorem rwp_p3(p:PN)(h1:(VN.raw 10 p.n)=false):PCall P 153 [p.c,ci64 10] (.lit (.bool false)):=
 pcallT (.r 5 ((VRaw_t (p.n)).eqB h1) .nil) (by kernel_rfl)
end Go.Fw
open Go
namespace Go.Fw
set_option maxRecDepth 100000
noncomputable def nCmp(x y:RN):Int:=nSgn (nSub x y)
theorem FCmp_r(x y:RN)(hx:x.raw 100000=true)(hy:y.raw 100000=true):PCall P 167 [x.c,y.c] (ci64 (nCmp x y)):=
 fcm_p1 x y (RN.raw_mono hx (by decide)) (RN.raw_mono hy (by decide)) (RN.raw_mono (raw_sub hx hy) (by decide))
theorem PValR_r(p:PN)(hp:p.raw 1000000=true):PCall P 80 [p.c] (.lit (.bool p.ok)):=by
 obtain⟨hn,hd⟩:=PN.raw_iff.1 hp
 unfold PN.ok
 cases e1:p.n.ok
 · exact vo5_p4 p e1 hn
 · cases e2:zV p.n
   · cases e3:p.d.ok
     · exact vo5_p3 p e1 e2 e3 hn hd
     · exact vo5_p2 p e1 e2 e3 hn hd
   · exact vo5_p1 p e1 e2 hn
theorem PRaw_t(p:PN):PCall P 153 [p.c,ci64 10] (.lit (.bool (p.raw 10))):=by
 unfold PN.raw
 cases h1:p.n.raw 10
 · exact rwp_p3 p h1
 · cases h2:p.d.raw 10
   · exact rwp_p2 p h1 h2
   · exact rwp_p1 p h1 h2
def pl1(p:PN):CV:= .lst 1 (p.n.x.l++(p.n.y.l++(p.n.z.l++p.d.l)))
def plL(p:PN):List CV:=p.n.x.l++(p.n.y.l++(p.n.z.l++p.d.l))
def plM(p:PN):List MV:=own (plL p)
end Go.Fw
open Go IntKind
namespace Go.Fw
set_option maxRecDepth 100000
theorem few1_p1(p:PN)(h1:(PN.raw 10 p)=true):PCall P 73 [pl1 p] (.lit (.bool true)):=
 pcallT (.c (bq 0 1) (.c (lq 40 40) (.r 12 ((PRaw_t (p)).eqB h1) .nil))) (by kernel_rfl)
theorem few1_p2(p:PN)(h1:(PN.raw 10 p)=false):PCall P 73 [pl1 p] (.lit (.bool false)):=
 pcallT (.c (bq 0 1) (.c (lq 40 40) (.r 12 ((PRaw_t (p)).eqB h1) .nil))) (by kernel_rfl)
theorem sid_p1(p:PN)(v:VN)(h1:(p.ok)=true)(h2:(v.ok)=true)(s4_0:PN.raw 1000000 p=true)(s8_0:VN.raw 1000000 v=true)(s15_0:VN.raw 1000 p.n=true)(s15_1:VN.raw 1000 v=true)(s18_0:RN.raw 100000 (wDot p.n v)=true)(s18_1:RN.raw 100000 p.d=true):PCall P 93 [p.c,v.c] (.lit (.int .i64 (nCmp (wDot p.n v) p.d))):=
 pcallT (.r 4 ((PVal_r (p) s4_0).eqB h1) (.r 8 ((VVal (v) s8_0).eqB h2) (.r 15 (VDot_r (p.n) (v) s15_0 s15_1) (.r 18 (FCmp_r (wDot p.n v) (p.d) s18_0 s18_1) .nil)))) (by kernel_rfl)
theorem sid_p2(p:PN)(v:VN)(h1:(p.ok)=true)(h2:(v.ok)=false)(s4_0:PN.raw 1000000 p=true)(s8_0:VN.raw 1000000 v=true):PCall P 93 [p.c,v.c] (.lit (.int .i64 0)):=
 pcallT (.r 4 ((PVal_r (p) s4_0).eqB h1) (.r 8 ((VVal (v) s8_0).eqB h2) .nil)) (by kernel_rfl)
theorem sid_p3(p:PN)(v:VN)(h1:(p.ok)=false)(s4_0:PN.raw 1000000 p=true):PCall P 93 [p.c,v.c] (.lit (.int .i64 0)):=
 pcallT (.r 4 ((PVal_r (p) s4_0).eqB h1) .nil) (by kernel_rfl)
end Go.Fw
open Go
namespace Go.Fw
set_option maxRecDepth 100000
noncomputable def sideV(p:PN)(v:VN):Int:=if p.ok&&v.ok then nCmp (wDot p.n v) p.d else 0
theorem raw_wDot{v w:VN}(hv:v.raw 1000=true)(hw:w.raw 1000=true):(wDot v w).raw 10000=true:=by
 refine ofO_raw ?_
 cases ev:toV v with
 |none=>exact Nat.zero_le _
 |some a=>
  cases ew:toV w with
  |none=>exact Nat.zero_le _
  |some b=>
   obtain⟨x,y,z⟩:=sz_toV ev hv
   obtain⟨x',y',z'⟩:=sz_toV ew hw
   have m1:=K.sz_mul a.x b.x
   have m2:=K.sz_mul a.y b.y
   have m3:=K.sz_mul a.z b.z
   have m4:=K.sz_add (a.x*b.x) (a.y*b.y)
   have m5:=K.sz_add (a.x*b.x+a.y*b.y) (a.z*b.z)
   show(a.x*b.x+a.y*b.y+a.z*b.z).sz≤10000
   omega
theorem Side_r(p:PN)(v:VN)(hp:p.raw 1000=true)(hv:v.raw 1000=true):PCall P 93 [p.c,v.c] (ci64 (sideV p v)):=by
 obtain⟨hn,hd⟩:=PN.raw_iff.1 hp
 have P1:=PN.raw_iff.2 ⟨VN.raw_mono hn (show 1000≤1000000 by decide),RN.raw_mono hd (show 1000≤1000000 by decide)⟩
 have V1:=VN.raw_mono hv (show 1000≤1000000 by decide)
 unfold sideV
 cases e1:p.ok
 · exact sid_p3 p v e1 P1
 · cases e2:v.ok
   · exact sid_p2 p v e1 e2 P1 V1
   · exact sid_p1 p v e1 e2 P1 V1 hn hv (RN.raw_mono (raw_wDot hn hv) (by decide)) (RN.raw_mono hd (by decide))
theorem few_pl(p:PN):PCall P 73 [pl1 p] (.lit (.bool (p.raw 10))):=by
 cases h:p.raw 10
 · exact few1_p2 p h
 · exact few1_p1 p h
end Go.Fw
open Go
namespace Go.Fw
set_option maxRecDepth 100000
theorem RN.l_inj{x y:RN}(h:x.l=y.l):x=y:=by
 obtain⟨b0,s0,b1,s1,b2,s2,b3,s3,b4,s4⟩:=x
 obtain⟨c0,t0,c1,t1,c2,t2,c3,t3,c4,t4⟩:=y
 unfold RN.l at h
 simp only[List.cons.injEq,and_true,cstr,CV.lit.injEq,Value.bool.injEq,Value.string.injEq]at h
 obtain⟨rfl,h0,rfl,h1,rfl,h2,rfl,h3,rfl,h4⟩:=h
 subst h0 h1 h2 h3 h4
 rfl
theorem ok_kN{x:RN}(h:x.ok=true): ∃k,x=kN k:=by
 obtain⟨k,_,e⟩:=toO_k h
 refine⟨k,RN.l_inj ?_⟩
 rw[e,kN_eq,RN.ofK_l]
noncomputable def kV(a b c:K):VN:=⟨kN a,kN b,kN c⟩
theorem ok_kV{v:VN}(h:v.ok=true): ∃a b c,v=kV a b c:=by
 obtain⟨x,y,z⟩:=v
 have h:ok3 x y z=true:=h
 unfold ok3 at h
 simp only[Bool.and_eq_true]at h
 obtain⟨h1,h2,h3⟩:=h
 obtain⟨a,rfl⟩:=ok_kN h1
 obtain⟨b,rfl⟩:=ok_kN h2
 obtain⟨c,rfl⟩:=ok_kN h3
 exact⟨a,b,c,rfl⟩
theorem kV_ok(a b c:K):(kV a b c).ok=true:=by
 show ok3 (kN a) (kN b) (kN c)=true
 unfold ok3
 rw[kN_ok,kN_ok,kN_ok];rfl
theorem wDot_kV(a b c a' b' c':K):wDot (kV a b c) (kV a' b' c')=kN (a*a'+b*b'+c*c'):=by
 unfold wDot kV
 rw[toV_k,toV_k,kN_eq];rfl
theorem wScale_kV(a b c k:K):wScale (kV a b c) (kN k)=kV (a*k) (b*k) (c*k):=wScale_k a b c k
theorem nCmp_k(a b:K):nCmp (kN a) (kN b)=K.sgn (a-b):=by unfold nCmp;rw[nSub_k,nSgn_k]
theorem and3(x y z:Bool):(x&&(y&&(z&&true)))=true↔x=true∧y=true∧z=true:=by cases x<;>cases y<;>cases z<;>simp
theorem zV_kV(a b c:K):zV (kV a b c)=true↔a=0∧b=0∧c=0:=by
 unfold zV kV
 rw[oV_x,oV_y,oV_z,oN_k]
 dsimp only
 refine(and3 (rnB (kN a) (kN (K.ofInt 0))) (rnB (kN b) (kN (K.ofInt 0))) (rnB (kN c) (kN (K.ofInt 0)))).trans ?_
 exact and_congr (rnB_k _ _) (and_congr (rnB_k _ _) (rnB_k _ _))
noncomputable def kP(a b c d:K):PN:=⟨kV a b c,kN d⟩
theorem kP_ok{a b c d:K}:(kP a b c d).ok=true↔ ¬(a=0∧b=0∧c=0):=by
 unfold PN.ok kP
 dsimp only
 rw[kV_ok,kN_ok,Bool.true_and,Bool.and_true,←zV_kV,Bool.not_eq_true',Bool.not_eq_true]
theorem ok_parts{n:VN}{d:RN}(h:(PN.mk n d).ok=true):n.ok=true∧d.ok=true:=by
 unfold PN.ok at h
 dsimp only at h
 generalize n.ok=x at*
 generalize d.ok=y at*
 generalize zV n=w at*
 revert h
 cases x<;>cases y<;>cases w<;>simp
theorem ok_kP{p:PN}(h:p.ok=true): ∃a b c d,p=kP a b c d:=by
 obtain⟨h1,h3⟩:=ok_parts (n:=p.n) (d:=p.d) h
 obtain⟨a,b,c,e⟩:=ok_kV h1
 obtain⟨k,e'⟩:=ok_kN h3
 refine⟨a,b,c,k,?_⟩
 unfold kP
 rw[←e,←e']
theorem sideV_k{a b c d x y z:K}(h: ¬(a=0∧b=0∧c=0)):sideV (kP a b c d) (kV x y z)=K.sgn (a*x+b*y+c*z-d):=by
 unfold sideV
 rw[kP_ok.2 h,kV_ok,Bool.true_and,if_pos rfl]
 unfold kP
 rw[wDot_kV,nCmp_k]
end Go.Fw
open Go IntKind
namespace Go.Fw
set_option maxRecDepth 100000
theorem vng_p1(v:VN)(s2_0 s2_1 s2_2:(-9223372036854775808:Int)≤0∧(0:Int)≤9223372036854775807)(s4_0:VN.raw 1000000 (oV (0:Int) (0:Int) (0:Int))=true)(s4_1:VN.raw 1000000 v=true):PCall P 169 [v.c] (vecR (wSub (oV (0:Int) (0:Int) (0:Int)) v).x (wSub (oV (0:Int) (0:Int) (0:Int)) v).y (wSub (oV (0:Int) (0:Int) (0:Int)) v).z):=
 pcallT (.r 2 (VOf_r ((0:Int)) ((0:Int)) ((0:Int)) s2_0 s2_1 s2_2) (.r 4 (VSub_r (oV (0:Int) (0:Int) (0:Int)) (v) s4_0 s4_1) (.c (lq 30 30) .nil))) (by kernel_rfl)
end Go.Fw
open Go
namespace Go.Fw
set_option maxRecDepth 100000
noncomputable def wOpp(v:VN):VN:=wSub (oV 0 0 0) v
theorem oV_0:oV 0 0 0=kV 0 0 0:=by
 have e: ∀v:VN,v=⟨v.x,v.y,v.z⟩:=fun _=>rfl
 rw[e (oV 0 0 0),oV_x,oV_y,oV_z,oN_k];rfl
theorem VNeg_r(v:VN)(hv:v.raw 1000000=true):PCall P 169 [v.c] (wOpp v).c:=by
 refine vng_p1 v (by decide) (by decide) (by decide) ?_ hv
 refine VN.raw_mono (n:=10) ?_ (by decide)
 rw[oV_0]
 exact raw3_iff.2 ⟨raw_kN sz_0,raw_kN sz_0,raw_kN sz_0⟩
theorem wSub_kV(a b c a' b' c':K):wSub (kV a b c) (kV a' b' c')=kV (a-a') (b-b') (c-c'):=by
 unfold wSub kV
 rw[toV_k,toV_k,kN_eq,kN_eq,kN_eq];rfl
theorem k_0sub(a:K):0-a= -a:=(show ∀ρ:Nat→K,0-ρ 0= -ρ 0 from fun ρ=>CR.ring ρ rfl) (CR.vr [a])
theorem wOpp_kV(a b c:K):wOpp (kV a b c)=kV (-a) (-b) (-c):=by
 unfold wOpp
 rw[oV_0,wSub_kV,k_0sub,k_0sub,k_0sub]
theorem nSgn_kx(a b c:K):nSgn (kV a b c).x=K.sgn a:=nSgn_k a
theorem nSgn_ky(a b c:K):nSgn (kV a b c).y=K.sgn b:=nSgn_k b
theorem nSgn_kz(a b c:K):nSgn (kV a b c).z=K.sgn c:=nSgn_k c
theorem Can_ok(p:PN)(hp:p.raw 1000=true)(hok:p.ok=true):PCall P 91 [p.c] (.tup [(can p).1.c,ci64 (can p).2]):=by
 refine Can_r p hp hok ?_
 obtain⟨a,b,c,d,rfl⟩:=ok_kP hok
 have nz:=kP_ok.1 hok
 intro h1 h2 h3
 have e1:K.sgn a=0:=by rw[←nSgn_kx a b c];exact h1
 have e2:K.sgn b=0:=by rw[←nSgn_ky a b c];exact h2
 have e3:K.sgn c=0:=by rw[←nSgn_kz a b c];exact h3
 exact nz ⟨K.sgn_zero.1 e1,K.sgn_zero.1 e2,K.sgn_zero.1 e3⟩
def kAbs(x:K):K:=if K.sgn x<0 then-x else x
theorem k_nn'(x:K): - -x=x:=(show ∀ρ:Nat→K,- -ρ 0=ρ 0 from fun ρ=>CR.ring ρ rfl) (CR.vr [x])
theorem nAbs_k(x:K):nAbs (kN x)=kN (kAbs x):=by
 unfold nAbs kAbs
 rw[nSgn_k]
 split
 · rw[nNeg_k]
 · rw[nNeg_k,nNeg_k,k_nn']
theorem kAbs_ne{x:K}(h:x≠0):kAbs x≠0:=by
 unfold kAbs
 split
 · intro e
   apply h
   rw[←k_nn' x,e]
   exact(show ∀ρ:Nat→K,-(0:K)=0 from fun ρ=>CR.ring ρ rfl) (CR.vr [x])
 · exact h
def kInv(x:K):K:=K.div (K.ofInt 1) (kAbs x)
theorem canK_k{x:K}(h:x≠0):canK (kN x)=kN (kInv x):=by
 unfold canK kInv
 rw[nAbs_k,oN_k,nDiv_k _ _ (fun e=>kAbs_ne h (K.sgn_zero.1 e))]
theorem kInv_eq{x z:K}(h:x≠0)(hz:kAbs x*z=1):kInv x=z:=K.div_eq (kAbs_ne h) hz
theorem kInv_mul{x:K}(h:x≠0):kAbs x*kInv x=1:=K.mul_div _ (kAbs_ne h)
def lead(a b c:K):K:=if K.sgn a≠0 then a else if K.sgn b≠0 then b else c
theorem lead_ne{a b c:K}(h: ¬(a=0∧b=0∧c=0)):lead a b c≠0:=by
 unfold lead
 split
 · rename_i h1;exact fun e=>h1 (K.sgn_zero.2 e)
 · rename_i h1
   split
   · rename_i h2;exact fun e=>h2 (K.sgn_zero.2 e)
   · rename_i h2
     intro e
     exact h ⟨K.sgn_zero.1 (Decidable.of_not_not h1),K.sgn_zero.1 (Decidable.of_not_not h2),e⟩
theorem canBy_k{a b c d x:K}(h:x≠0):canBy (kP a b c d) (kN x)=kP (a*kInv x) (b*kInv x) (c*kInv x) (d*kInv x):=by
 unfold canBy
 rw[canK_k h]
 unfold kP
 dsimp only
 rw[wScale_kV,nMul_k]
theorem can_k{a b c d:K}(h: ¬(a=0∧b=0∧c=0)):can (kP a b c d)=(kP (a*kInv (lead a b c)) (b*kInv (lead a b c)) (c*kInv (lead a b c)) (d*kInv (lead a b c)),0):=by
 have hl:=lead_ne h
 have e1:nSgn (kP a b c d).n.x=K.sgn a:=nSgn_kx a b c
 have e2:nSgn (kP a b c d).n.y=K.sgn b:=nSgn_ky a b c
 have e3:nSgn (kP a b c d).n.z=K.sgn c:=nSgn_kz a b c
 unfold can
 rw[e1,e2,e3]
 unfold lead at hl ⊢
 by_cases h1:K.sgn a≠0
 · rw[if_pos h1]at hl ⊢
   rw[if_pos h1,show(kP a b c d).n.x=kN a from rfl,canBy_k hl]
 · rw[if_neg h1]at hl ⊢
   rw[if_neg h1]
   by_cases h2:K.sgn b≠0
   · rw[if_pos h2]at hl ⊢
     rw[if_pos h2,show(kP a b c d).n.y=kN b from rfl,canBy_k hl]
   · rw[if_neg h2]at hl ⊢
     rw[if_neg h2,if_pos (fun e=>hl (K.sgn_zero.1 e)),show(kP a b c d).n.z=kN c from rfl,canBy_k hl]
end Go.Fw
open Go IntKind
namespace Go.Fw
set_option maxRecDepth 100000
theorem opP_p1(p:PN)(h1:(p.ok)=true)(s4_0:PN.raw 1000000 p=true)(s9_0:VN.raw 1000000 p.n=true)(s12_0:RN.raw 1000000 p.d=true):PCall P 92 [p.c] (.tup [plR (wOpp p.n).x (wOpp p.n).y (wOpp p.n).z (nNeg p.d),.lit (.int .i64 0)]):=
 pcallT (.r 4 ((PVal_r (p) s4_0).eqB h1) (.r 9 (VNeg_r (p.n) s9_0) (.r 12 (FNeg_r (p.d) s12_0) (.c (lq 40 40) .nil)))) (by kernel_rfl)
theorem opP_p2(p:PN)(h1:(p.ok)=false)(s4_0:PN.raw 1000000 p=true):PCall P 92 [p.c] (.tup [zeroPl,.lit (.int .i64 1)]):=
 pcallT (.r 4 ((PVal_r (p) s4_0).eqB h1) (.c (lq 40 40) .nil)) (by kernel_rfl)
end Go.Fw
open Go
namespace Go.Fw
set_option maxRecDepth 100000
noncomputable def opV(p:PN):PN×Int:=if p.ok then(⟨wOpp p.n,nNeg p.d⟩,0)else(.zero,1)
theorem Opp_r(p:PN)(hp:p.raw 1000000=true):PCall P 92 [p.c] (.tup [(opV p).1.c,ci64 (opV p).2]):=by
 obtain⟨hn,hd⟩:=PN.raw_iff.1 hp
 unfold opV
 cases e1:p.ok
 · exact opP_p2 p e1 hp
 · exact opP_p1 p e1 hp hn hd
theorem Can_ok2(n:VN)(d:RN)(hp:(PN.mk n d).raw 1000=true)(hok:(PN.mk n d).ok=true):PCall P 91 [plR n.x n.y n.z d] (.tup [(can ⟨n,d⟩).1.c,ci64 (can ⟨n,d⟩).2]):=Can_ok ⟨n,d⟩ hp hok
end Go.Fw
open Go IntKind
namespace Go.Fw
set_option maxRecDepth 100000
theorem lc0_p1(p:PN)(k:RN)(v:VN)(g1:PN.raw 10 p=false)(o2:(plM p)=(plM p)):PCall P 18 [p.c,k.c,v.c] (.lit (.bool true)):=
 pcallT (.c (awake5) (.c ((few_pl (p)).eqB g1) (.c o2 (.o 4 (.r (.lit (.bool true))) (.o 9 (.k (.lit (.bool false)) [(plL p)]) .nil))))) (by kernel_rfl)
theorem lc1_p1(p:PN)(k:RN)(v:VN)(g1:PN.raw 10 p=true)(g2:p.ok=false)(s13_0:PN.raw 1000000 p=true)(o2:(plM p)=(plM p)):PCall P 18 [p.c,k.c,v.c] (.lit (.bool true)):=
 pcallT (.c (awake5) (.c ((few_pl (p)).eqB g1) (.c o2 (.c ((PValR_r (p) s13_0).eqB g2) (.o 4 (.r (.lit (.bool true))) (.o 9 (.k (.lit (.bool true)) [(plL p)]) (.o 13 (.r (.lit (.bool false))) .nil))))))) (by kernel_rfl)
theorem lc2_p1(p:PN)(k:RN)(v:VN)(g1:PN.raw 10 p=true)(g2:p.ok=true)(g3:RN.raw 10 k=false)(s13_0:PN.raw 1000000 p=true)(o2:(plM p)=(plM p)):PCall P 18 [p.c,k.c,v.c] (.lit (.bool true)):=
 pcallT (.c (awake5) (.c ((few_pl (p)).eqB g1) (.c o2 (.c ((PValR_r (p) s13_0).eqB g2) (.c ((RRaw_t (k)).eqB g3) (.o 4 (.r (.lit (.bool true))) (.o 9 (.k (.lit (.bool true)) [(plL p)]) (.o 13 (.r (.lit (.bool true))) (.o 18 (.r (.lit (.bool false))) .nil))))))))) (by kernel_rfl)
theorem lc3_p1(p:PN)(k:RN)(v:VN)(g1:PN.raw 10 p=true)(g2:p.ok=true)(g3:RN.raw 10 k=true)(g4:decide (nSgn k≤0)=true)(s13_0:PN.raw 1000000 p=true)(s23_0:RN.raw 1000000 k=true)(o2:(plM p)=(plM p)):PCall P 18 [p.c,k.c,v.c] (.lit (.bool true)):=
 pcallT (.c (awake5) (.c ((few_pl (p)).eqB g1) (.c o2 (.c ((PValR_r (p) s13_0).eqB g2) (.c ((RRaw_t (k)).eqB g3) (.c (RSign_r (k) s23_0) (.o 4 (.r (.lit (.bool true))) (.o 9 (.k (.lit (.bool true)) [(plL p)]) (.o 13 (.r (.lit (.bool true))) (.o 18 (.r (.lit (.bool true))) (.o 23 (.r (.lit (.int .i64 (nSgn k)))) (.b 26 g4 .nil)))))))))))) (by kernel_rfl)
theorem lc4_p1(p:PN)(k:RN)(v:VN)(g1:PN.raw 10 p=true)(g2:p.ok=true)(g3:RN.raw 10 k=true)(g4:decide (nSgn k≤0)=false)(g5:VN.raw 10 v=false)(s13_0:PN.raw 1000000 p=true)(s23_0:RN.raw 1000000 k=true)(o2:(plM p)=(plM p)):PCall P 18 [p.c,k.c,v.c] (.lit (.bool true)):=
 pcallT (.c (awake5) (.c ((few_pl (p)).eqB g1) (.c o2 (.c ((PValR_r (p) s13_0).eqB g2) (.c ((RRaw_t (k)).eqB g3) (.c (RSign_r (k) s23_0) (.o 4 (.r (.lit (.bool true))) (.o 9 (.k (.lit (.bool true)) [(plL p)]) (.o 13 (.r (.lit (.bool true))) (.o 18 (.r (.lit (.bool true))) (.o 23 (.r (.lit (.int .i64 (nSgn k)))) (.b 26 g4 (.c ((VRaw_t (v)).eqB g5) (.o 28 (.r (.lit (.bool false))) .nil)))))))))))))) (by kernel_rfl)
end Go.Fw
open Go IntKind
namespace Go.Fw
set_option maxRecDepth 100000
theorem lcm_p1(p:PN)(k:RN)(v:VN)(g1:PN.raw 10 p=true)(g2:p.ok=true)(g3:RN.raw 10 k=true)(g4:decide (nSgn k≤0)=false)(g5:VN.raw 10 v=true)(e0:((can p).snd==0)=true)(e1:((can (PN.mk (wScale p.n k) (nMul p.d k))).snd==0)=true)(e2:((can (can p).fst).snd==0)=true)(e3:((opV p).snd==0)=true)(e4:((can (opV p).fst).snd==0)=true)(e5:((opV (can p).fst).snd==0)=true)(q0:(rnB (can p).fst.n.x (can (PN.mk (wScale p.n k) (nMul p.d k))).fst.n.x&&(rnB (can p).fst.n.y (can (PN.mk (wScale p.n k) (nMul p.d k))).fst.n.y&&(rnB (can p).fst.n.z (can (PN.mk (wScale p.n k) (nMul p.d k))).fst.n.z&&true))&&(rnB (can p).fst.d (can (PN.mk (wScale p.n k) (nMul p.d k))).fst.d&&true))=true)(q1:(rnB (can p).fst.n.x (can (can p).fst).fst.n.x&&(rnB (can p).fst.n.y (can (can p).fst).fst.n.y&&(rnB (can p).fst.n.z (can (can p).fst).fst.n.z&&true))&&(rnB (can p).fst.d (can (can p).fst).fst.d&&true))=true)(q2:(rnB (can (opV p).fst).fst.n.x (opV (can p).fst).fst.n.x&&(rnB (can (opV p).fst).fst.n.y (opV (can p).fst).fst.n.y&&(rnB (can (opV p).fst).fst.n.z (opV (can p).fst).fst.n.z&&true))&&(rnB (can (opV p).fst).fst.d (opV (can p).fst).fst.d&&true))=true)(r1:(sideV (opV p).fst v==i64.wrap ((0:Int)-sideV p v))=true)(s13_0:PN.raw 1000000 p=true)(s23_0:RN.raw 1000000 k=true)(s33_0:PN.raw 1000 p=true)(s43_0:VN.raw 1000000 p.n=true)(s43_1:RN.raw 1000000 k=true)(s47_0:RN.raw 1000000 p.d=true)(s47_1:RN.raw 1000000 k=true)(s49_0:PN.raw 1000 (PN.mk (wScale p.n k) (nMul p.d k))=true)(s49_1:(PN.mk (wScale p.n k) (nMul p.d k)).ok=true)(s57_0:PN.raw 1000 (can p).fst=true)(s57_1:(can p).fst.ok=true)(s65_0:PN.raw 1000000 p=true)(s73_0:PN.raw 1000 (opV p).fst=true)(s73_1:(opV p).fst.ok=true)(s81_0:PN.raw 1000000 (can p).fst=true)(s128_0:PN.raw 1000 (opV p).fst=true)(s128_1:VN.raw 1000 v=true)(s131_0:PN.raw 1000 p=true)(s131_1:VN.raw 1000 v=true)(s138_0:PN.raw 1000 (can p).fst=true)(s138_1:VN.raw 1000 v=true)(s141_0:PN.raw 1000 p=true)(s141_1:VN.raw 1000 v=true)(o2:(plM p)=(plM p)):PCall P 18 [p.c,k.c,v.c] (.lit (.bool (sideV (can p).fst v==sideV p v))):=
 pcallT (.c (awake5) (.c ((few_pl (p)).eqB g1) (.c o2 (.c ((PValR_r (p) s13_0).eqB g2) (.c ((RRaw_t (k)).eqB g3) (.c (RSign_r (k) s23_0) (.c g4 (.c ((VRaw_t (v)).eqB g5) (.c (Can_ok (p) s33_0 g2) (.c (lq 40 40) (.c (V4Scale_r (p.n) (k) s43_0 s43_1) (.c (RMul_r (p.d) (k) s47_0 s47_1) (.c (Can_ok2 (wScale p.n k) (nMul p.d k) s49_0 s49_1) (.c (lq 40 40) (.c (Can_ok ((can p).fst) s57_0 s57_1) (.c (lq 40 40) (.c (Opp_r (p) s65_0) (.c (lq 40 40) (.c (Can_ok ((opV p).fst) s73_0 s73_1) (.c (lq 40 40) (.c (Opp_r ((can p).fst) s81_0) (.c (lq 40 40) (.c e0 (.c e1 (.c e2 (.c e3 (.c e4 (.c e5 (.c q0 (.c q1 (.c q2 (.c (Side_r ((opV p).fst) (v) s128_0 s128_1) (.c (Side_r (p) (v) s131_0 s131_1) (.c r1 (.c (Side_r ((can p).fst) (v) s138_0 s138_1) (.c (Side_r (p) (v) s141_0 s141_1) (.o 4 (.r (.lit (.bool true))) (.o 9 (.k (.lit (.bool true)) [(plL p)]) (.o 13 (.r (.lit (.bool true))) (.o 18 (.r (.lit (.bool true))) (.o 23 (.r (.lit (.int .i64 (nSgn k)))) (.o 26 (.b false) (.o 28 (.r (.lit (.bool true))) (.o 33 (.r (.tup [plR (can p).fst.n.x (can p).fst.n.y (can p).fst.n.z (can p).fst.d,.lit (.int .i64 (can p).2)])) (.o 43 (.r (vecR (wScale p.n k).x (wScale p.n k).y (wScale p.n k).z)) (.o 47 (.r (RN.c (nMul p.d k))) (.o 49 (.r (.tup [plR (can (PN.mk (wScale p.n k) (nMul p.d k))).fst.n.x (can (PN.mk (wScale p.n k) (nMul p.d k))).fst.n.y (can (PN.mk (wScale p.n k) (nMul p.d k))).fst.n.z (can (PN.mk (wScale p.n k) (nMul p.d k))).fst.d,.lit (.int .i64 (can (PN.mk (wScale p.n k) (nMul p.d k))).2)])) (.o 57 (.r (.tup [plR (can (can p).fst).fst.n.x (can (can p).fst).fst.n.y (can (can p).fst).fst.n.z (can (can p).fst).fst.d,.lit (.int .i64 (can (can p).fst).2)])) (.o 65 (.r (.tup [plR (opV p).fst.n.x (opV p).fst.n.y (opV p).fst.n.z (opV p).fst.d,.lit (.int .i64 (opV p).2)])) (.o 73 (.r (.tup [plR (can (opV p).fst).fst.n.x (can (opV p).fst).fst.n.y (can (opV p).fst).fst.n.z (can (opV p).fst).fst.d,.lit (.int .i64 (can (opV p).fst).2)])) (.o 81 (.r (.tup [plR (opV (can p).fst).fst.n.x (opV (can p).fst).fst.n.y (opV (can p).fst).fst.n.z (opV (can p).fst).fst.d,.lit (.int .i64 (opV (can p).fst).2)])) (.o 90 (.b true) (.o 94 (.b true) (.o 98 (.b true) (.o 102 (.b true) (.o 106 (.b true) (.o 110 (.b true) (.o 115 (.b true) (.o 120 (.b true) (.o 125 (.b true) (.o 128 (.r (.lit (.int .i64 (sideV (opV p).fst v)))) (.o 131 (.r (.lit (.int .i64 (sideV p v)))) (.o 135 (.b true) (.o 138 (.r (.lit (.int .i64 (sideV (can p).fst v)))) (.o 141 (.r (.lit (.int .i64 (sideV p v)))) .nil))))))))))))))))))))))))))))))))))))))))))))))))))))))))))))))))) (by kernel_rfl)
end Go.Fw
open Go
namespace Go.Fw
set_option maxRecDepth 100000
theorem pl_zero_raw(n:Nat):PN.zero.raw n=true:=by
 refine PN.raw_mono (n:=0) ?_ (Nat.zero_le _)
 kernel_rfl
theorem raw_wScale{v:VN}{k:RN}{n:Nat}(hv:v.raw n=true)(hk:k.raw n=true):(wScale v k).raw (n+n+1)=true:=by
 refine ofV_raw ?_
 have hk':=osz_toO hk
 cases ev:toV v with
 |none=>exact Nat.zero_le _
 |some a=>
  cases ew:toO k with
  |none=>exact Nat.zero_le _
  |some b=>
   rw[ew]at hk'
   have hk':b.sz≤n:=hk'
   obtain⟨x,y,z⟩:=sz_toV ev hv
   have m1:=K.sz_mul a.x b
   have m2:=K.sz_mul a.y b
   have m3:=K.sz_mul a.z b
   show max (a.x*b).sz (max (a.y*b).sz (a.z*b).sz)≤n+n+1
   omega
end Go.Fw
open Go
namespace Go.Fw
set_option maxRecDepth 100000
theorem pl_refl{A B:PN}(h:A=B):(rnB A.n.x B.n.x&&(rnB A.n.y B.n.y&&(rnB A.n.z B.n.z&&true))&&(rnB A.d B.d&&true))=true:=by
 subst h
 rw[rnB_iff.2 rfl,rnB_iff.2 rfl,rnB_iff.2 rfl,rnB_iff.2 rfl];rfl
theorem k_neg_mul(x y:K): -x*y= -(x*y):=(show ∀ρ:Nat→K,-ρ 0*ρ 1= -(ρ 0*ρ 1)from fun ρ=>CR.ring ρ rfl) (CR.vr [x,y])
theorem sgn_pos_mul{x k:K}(hk:K.sgn k=1):K.sgn (x*k)=K.sgn x:=by rw[K.sgn_mul,hk,Int.mul_one]
theorem sgn_negK(x:K):K.sgn (-x)= -K.sgn x:=Sg.neg x
theorem kAbs_pos{x k:K}(hk:K.sgn k=1):kAbs (x*k)=kAbs x*k:=by
 unfold kAbs
 rw[sgn_pos_mul hk]
 split
 · rw[k_neg_mul]
 · rfl
theorem kAbs_neg(x:K):kAbs (-x)=kAbs x:=by
 unfold kAbs
 rw[sgn_negK,k_nn']
 rcases K.sgn_vals x with h|h|h<;>rw[h]
 · rfl
 · rw[K.sgn_zero.1 h];rfl
 · rfl
theorem sgn_kAbs{x:K}(h:x≠0):K.sgn (kAbs x)=1:=by
 unfold kAbs
 rcases K.sgn_vals x with h1|h1|h1
 · rw[if_pos (by rw[h1];decide),sgn_negK,h1];rfl
 · exact absurd (K.sgn_zero.1 h1) h
 · rw[if_neg (by rw[h1];decide),h1]
theorem sgn_kInv{x:K}(h:x≠0):K.sgn (kInv x)=1:=by
 have e:=congrArg K.sgn (kInv_mul h)
 rw[K.sgn_mul,sgn_kAbs h,Int.one_mul,show K.sgn (1:K)=1 by kernel_rfl]at e
 exact e
theorem mul_ne{x k:K}(h:x≠0)(hk:K.sgn k=1):x*k≠0:=fun e=>h (K.sgn_zero.1 (by rw[←sgn_pos_mul hk,e];exact K.sgn_zero.2 rfl))
theorem kInv_scale{x k:K}(h:x≠0)(hk:K.sgn k=1):k*kInv (x*k)=kInv x:=by
 refine(kInv_eq h ?_).symm
 rw[←K.mul_assoc,←kAbs_pos hk]
 exact kInv_mul (mul_ne h hk)
theorem kInv_neg(x:K):kInv (-x)=kInv x:=by unfold kInv;rw[kAbs_neg]
theorem lead_scale{a b c k:K}(hk:K.sgn k=1):lead (a*k) (b*k) (c*k)=lead a b c*k:=by
 unfold lead
 rw[sgn_pos_mul hk,sgn_pos_mul hk]
 split
 · rfl
 · split<;>rfl
theorem lead_neg(a b c:K):lead (-a) (-b) (-c)= -lead a b c:=by
 unfold lead
 rw[sgn_negK,sgn_negK]
 by_cases h1:K.sgn a≠0
 · rw[if_pos h1,if_pos (by omega)]
 · rw[if_neg h1,if_neg (by omega)]
   by_cases h2:K.sgn b≠0
   · rw[if_pos h2,if_pos (by omega)]
   · rw[if_neg h2,if_neg (by omega)]
theorem nz_scale{a b c k:K}(h: ¬(a=0∧b=0∧c=0))(hk:K.sgn k=1): ¬(a*k=0∧b*k=0∧c*k=0):=fun⟨h1,h2,h3⟩=>by
 have z: ∀{x:K},x*k=0→x=0:=fun e=>Decidable.by_contra fun n=>mul_ne n hk e
 exact h ⟨z h1,z h2,z h3⟩
theorem can_scale{a b c d k:K}(h: ¬(a=0∧b=0∧c=0))(hk:K.sgn k=1):can (kP (a*k) (b*k) (c*k) (d*k))=can (kP a b c d):=by
 rw[can_k (nz_scale h hk),can_k h,lead_scale hk]
 have e:=kInv_scale (lead_ne h) hk
 rw[K.mul_assoc,K.mul_assoc,K.mul_assoc,K.mul_assoc,e]
theorem nz_neg{a b c:K}(h: ¬(a=0∧b=0∧c=0)): ¬(-a=0∧ -b=0∧ -c=0):=fun⟨h1,h2,h3⟩=>by
 have z: ∀{x:K},-x=0→x=0:=fun {x} e=>by rw[←k_nn' x,e];rfl
 exact h ⟨z h1,z h2,z h3⟩
theorem opV_k{a b c d:K}(h: ¬(a=0∧b=0∧c=0)):opV (kP a b c d)=(kP (-a) (-b) (-c) (-d),0):=by
 unfold opV
 rw[kP_ok.2 h,if_pos rfl]
 unfold kP
 dsimp only
 rw[wOpp_kV,nNeg_k]
theorem can_neg{a b c d:K}(h: ¬(a=0∧b=0∧c=0)):can (kP (-a) (-b) (-c) (-d))=(kP (-(a*kInv (lead a b c))) (-(b*kInv (lead a b c))) (-(c*kInv (lead a b c))) (-(d*kInv (lead a b c))),0):=by
 rw[can_k (nz_neg h),lead_neg,kInv_neg,k_neg_mul,k_neg_mul,k_neg_mul,k_neg_mul]
end Go.Fw
open Go
namespace Go.Fw
set_option maxRecDepth 100000
theorem raw_canKn{x:RN}{n:Nat}(h1:1≤n)(hx:x.raw n=true):(canK x).raw (8*n+7)=true:=raw_div (RN.raw_mono raw_one h1) (raw_abs hx)
theorem raw_canBy{p:PN}{x:RN}{n:Nat}(h1:1≤n)(hp:p.raw n=true)(hx:x.raw n=true):(canBy p x).raw (16*n+15)=true:=by
 obtain⟨hn,hd⟩:=PN.raw_iff.1 hp
 have hk:=raw_canKn h1 hx
 have b1:=raw_wScale (VN.raw_mono hn (show n≤8*n+7 by omega)) hk
 have b2:=raw_mul (RN.raw_mono hd (show n≤8*n+7 by omega)) hk
 exact PN.raw_iff.2 ⟨VN.raw_mono b1 (by omega),RN.raw_mono b2 (by omega)⟩
theorem raw_can{p:PN}{n:Nat}(h1:1≤n)(hp:p.raw n=true):(can p).1.raw (16*n+15)=true:=by
 obtain⟨hn,_⟩:=PN.raw_iff.1 hp
 obtain⟨hx,hy,hz⟩:=raw3_iff.1 hn
 unfold can
 split
 · exact raw_canBy h1 hp hx
 · split
   · exact raw_canBy h1 hp hy
   · split
     · exact raw_canBy h1 hp hz
     · exact pl_zero_raw _
theorem side_scaled{a b c d k:K}(h: ¬(a=0∧b=0∧c=0))(hk:K.sgn k=1)(v:VN):sideV (kP (a*k) (b*k) (c*k) (d*k)) v=sideV (kP a b c d) v:=by
 cases hv:v.ok
 · unfold sideV
   rw[hv,Bool.and_false,Bool.and_false,if_neg (by decide),if_neg (by decide)]
 · obtain⟨x,y,z,rfl⟩:=ok_kV hv
   rw[sideV_k (nz_scale h hk),sideV_k h]
   have e:a*k*x+b*k*y+c*k*z-d*k=(a*x+b*y+c*z-d)*k:=
    (show ∀ρ:Nat→K,ρ 0*ρ 7*ρ 4+ρ 1*ρ 7*ρ 5+ρ 2*ρ 7*ρ 6-ρ 3*ρ 7=(ρ 0*ρ 4+ρ 1*ρ 5+ρ 2*ρ 6-ρ 3)*ρ 7 from fun ρ=>CR.ring ρ rfl) (CR.vr [a,b,c,d,x,y,z,k])
   rw[e,sgn_pos_mul hk]
theorem side_neg{a b c d:K}(h: ¬(a=0∧b=0∧c=0))(v:VN):sideV (kP (-a) (-b) (-c) (-d)) v=IntKind.i64.wrap (0-sideV (kP a b c d) v):=by
 cases hv:v.ok
 · unfold sideV
   rw[hv,Bool.and_false,Bool.and_false,if_neg (by decide),if_neg (by decide)];rfl
 · obtain⟨x,y,z,rfl⟩:=ok_kV hv
   rw[sideV_k (nz_neg h),sideV_k h]
   have e: -a*x+ -b*y+ -c*z- -d= -(a*x+b*y+c*z-d):=
    (show ∀ρ:Nat→K,-ρ 0*ρ 4+ -ρ 1*ρ 5+ -ρ 2*ρ 6- -ρ 3= -(ρ 0*ρ 4+ρ 1*ρ 5+ρ 2*ρ 6-ρ 3)from fun ρ=>CR.ring ρ rfl) (CR.vr [a,b,c,d,x,y,z])
   rw[e,sgn_negK]
   rcases K.sgn_vals (a*x+b*y+c*z-d)with h1|h1|h1<;>rw[h1]<;>rfl
theorem canon_true(p:PN)(k:RN)(v:VN):PCall P 18 [p.c,k.c,v.c] (.lit (.bool true)):=by
 cases g1:p.raw 10
 · exact lc0_p1 p k v g1 rfl
 have P6:p.raw 1000000=true:=PN.raw_mono g1 (by decide)
 cases g2:p.ok
 · exact lc1_p1 p k v g1 g2 P6 rfl
 cases g3:k.raw 10
 · exact lc2_p1 p k v g1 g2 g3 P6 rfl
 have K6:k.raw 1000000=true:=RN.raw_mono g3 (by decide)
 by_cases g4t:decide (nSgn k≤0)=true
 · exact lc3_p1 p k v g1 g2 g3 g4t P6 K6 rfl
 have g4:decide (nSgn k≤0)=false:=Bool.eq_false_iff.2 g4t
 cases g5:v.raw 10
 · exact lc4_p1 p k v g1 g2 g3 g4 g5 P6 K6 rfl
 have P3:p.raw 1000=true:=PN.raw_mono g1 (by decide)
 have V3:v.raw 1000=true:=VN.raw_mono g5 (by decide)
 obtain⟨pn,pd⟩:=PN.raw_iff.1 g1
 have rC:=raw_can (by decide) g1
 have rC3:(can p).1.raw 1000=true:=PN.raw_mono rC (by decide)
 have rC6:(can p).1.raw 1000000=true:=PN.raw_mono rC (by decide)
 have rS:(PN.mk (wScale p.n k) (nMul p.d k)).raw 1000=true:=PN.raw_iff.2 ⟨VN.raw_mono (raw_wScale pn g3) (by decide),RN.raw_mono (raw_mul pd g3) (by decide)⟩
 have ks: ¬nSgn k≤0:=of_decide_eq_false g4
 have kok:k.ok=true:=by
  cases e:k.ok
  · refine absurd ?_ ks
    unfold nSgn
    rw[toO_bad e];decide
  · rfl
 obtain⟨m,rfl⟩:=ok_kN kok
 have hm:K.sgn m=1:=by
  rw[nSgn_k]at ks
  rcases K.sgn_vals m with h|h|h
  · rw[h]at ks;exact absurd (by decide) ks
  · rw[h]at ks;exact absurd (by decide) ks
  · exact h
 obtain⟨a,b,c,d,rfl⟩:=ok_kP g2
 have nz:=kP_ok.1 g2
 have hi:=sgn_kInv (lead_ne nz)
 have eS:PN.mk (wScale (kP a b c d).n (kN m)) (nMul (kP a b c d).d (kN m))=kP (a*m) (b*m) (c*m) (d*m):=by
  unfold kP
  dsimp only
  rw[wScale_kV,nMul_k]
 have c1:=can_k (d:=d) nz
 have c2:can (PN.mk (wScale (kP a b c d).n (kN m)) (nMul (kP a b c d).d (kN m)))=can (kP a b c d):=by rw[eS];exact can_scale nz hm
 have c3:can (can (kP a b c d)).1=can (kP a b c d):=by
  rw[c1]
  exact(can_scale nz hi).trans c1
 have o1:=opV_k (d:=d) nz
 have o2:can (opV (kP a b c d)).1=opV (can (kP a b c d)).1:=by
  rw[o1,c1]
  exact(can_neg nz).trans (opV_k (nz_scale nz hi)).symm
 have okC:(can (kP a b c d)).1.ok=true:=by rw[c1];exact kP_ok.2 (nz_scale nz hi)
 have rO:(opV (kP a b c d)).1.raw 1000=true:=by
  rw[show(opV (kP a b c d)).1=⟨wOpp (kP a b c d).n,nNeg (kP a b c d).d⟩ by unfold opV;rw[g2,if_pos rfl]]
  have z:(oV 0 0 0).raw 10=true:=by rw[oV_0];exact raw3_iff.2 ⟨raw_kN sz_0,raw_kN sz_0,raw_kN sz_0⟩
  exact PN.raw_iff.2 ⟨VN.raw_mono (raw_wSub z pn) (by decide),RN.raw_mono (raw_neg pd) (by decide)⟩
 have okO:(opV (kP a b c d)).1.ok=true:=by rw[o1];exact kP_ok.2 (nz_neg nz)
 have z1:(can (kP a b c d)).2=0:=by rw[c1]
 have z3:(opV (kP a b c d)).2=0:=by rw[o1]
 have z5:(opV (can (kP a b c d)).1).2=0:=by rw[c1];exact congrArg Prod.snd (opV_k (nz_scale nz hi))
 have s1:sideV (opV (kP a b c d)).1 v=IntKind.i64.wrap (0-sideV (kP a b c d) v):=by rw[o1];exact side_neg nz v
 have s2:sideV (can (kP a b c d)).1 v=sideV (kP a b c d) v:=by rw[c1];exact side_scaled nz hi v
 exact(lcm_p1 _ _ v g1 g2 g3 g4 g5 (beq_iff_eq.2 z1) (beq_iff_eq.2 (by rw[c2];exact z1)) (beq_iff_eq.2 (by rw[c3];exact z1)) (beq_iff_eq.2 z3) (beq_iff_eq.2 (by rw[o2];exact z5)) (beq_iff_eq.2 z5)
  (pl_refl (by rw[c2])) (pl_refl (by rw[c3])) (pl_refl (by rw[o2])) (beq_iff_eq.2 s1) P6 K6 P3 (VN.raw_mono pn (by decide)) K6 (RN.raw_mono pd (by decide)) K6 rS (by rw[eS];exact kP_ok.2 (nz_scale nz hm)) rC3 okC P6 rO okO rC6 rO V3 P3 V3 rC3 V3 P3 V3 rfl).eqB (beq_iff_eq.2 s2)
end Go.Fw
open Go Go.Proofs Go.Proofs.YtcafjpldfnegiaaGreatDoor
namespace Go.Fw
set_option maxRecDepth 100000
def RN.v(x:RN):List Value:=[.bool x.b0,.string x.s0,.bool x.b1,.string x.s1,.bool x.b2,.string x.s2,.bool x.b3,.string x.s3,.bool x.b4,.string x.s4]
abbrev numK:List CT:=[.b,.s,.b,.s,.b,.s,.b,.s,.b,.s]
abbrev vecK:List CT:=[.b,.s,.b,.s,.b,.s,.b,.s,.b,.s,.b,.s,.b,.s,.b,.s,.b,.s,.b,.s,.b,.s,.b,.s,.b,.s,.b,.s,.b,.s]
theorem num_open{ts:List CT}{l:List Value}(h:CTs (.b:: .s:: .b:: .s:: .b:: .s:: .b:: .s:: .b:: .s::ts) l): ∃(x:RN) (m:List Value),l=x.v++m∧CTs ts m:=by
 simp only[CTs,CT.ok]at h
 obtain⟨_,_,rfl,⟨b0,rfl⟩,_,_,rfl,⟨s0,rfl⟩,_,_,rfl,⟨b1,rfl⟩,_,_,rfl,⟨s1,rfl⟩,_,_,rfl,⟨b2,rfl⟩,_,_,rfl,⟨s2,rfl⟩,_,_,rfl,⟨b3,rfl⟩,_,_,rfl,⟨s3,rfl⟩,_,_,rfl,⟨b4,rfl⟩,_,m,rfl,⟨s4,rfl⟩,hm⟩:=h
 exact⟨⟨b0,s0,b1,s1,b2,s2,b3,s3,b4,s4⟩,m,rfl,hm⟩
theorem vec_open{ts:List CT}{l:List Value}(h:CTs (vecK++ts) l): ∃(x y z:RN) (m:List Value),l=x.v++(y.v++(z.v++m))∧CTs ts m:=by
 obtain⟨x,m1,rfl,h1⟩:=num_open h
 obtain⟨y,m2,rfl,h2⟩:=num_open h1
 obtain⟨z,m3,rfl,h3⟩:=num_open h2
 exact⟨x,y,z,m3,rfl,h3⟩
theorem vec_open'{l:List Value}(h:CTs vecK l): ∃x y z:RN,l=x.v++(y.v++z.v):=by
 obtain⟨x,y,z,m,rfl,h4⟩:=vec_open (ts:=[]) h
 obtain rfl:m=[]:=h4
 exact⟨x,y,z,by simp⟩
theorem vecT:flatTy Tryz.prog 8 51=some vecK:=by kernel_rfl
theorem rep_vec(I:Imm)(x y z:RN):CV.rep I (vecR x y z) (.agg (x.v++(y.v++z.v)).toArray):=rep_agg I (x.v++(y.v++z.v))
end Go.Fw
open Go Go.Proofs Go.Proofs.YtcafjpldfnegiaaGreatDoor
namespace Go.Fw
set_option maxRecDepth 100000
theorem planeT:flatTy Tryz.prog 8 99=some (vecK++numK):=by kernel_rfl
theorem plane_open{l:List Value}(h:CTs (vecK++numK) l): ∃x y z d:RN,l=x.v++(y.v++(z.v++d.v)):=by
 obtain⟨x,y,z,m,rfl,hm⟩:=vec_open h
 obtain⟨d,m',rfl,hm'⟩:=num_open (ts:=[]) hm
 obtain rfl:m'=[]:=hm'
 exact⟨x,y,z,d,by simp⟩
theorem rep_plane(I:Imm)(x y z d:RN):CV.rep I (plR x y z d) (.agg (x.v++(y.v++(z.v++d.v))).toArray):=rep_agg I (x.v++(y.v++(z.v++d.v)))
end Go.Fw
open Go Go.Proofs Go.Proofs.YtcafjpldfnegiaaGreatDoor
namespace Go.Fw
set_option maxRecDepth 100000
theorem numT:flatTy Tryz.prog 8 39=some numK:=by kernel_rfl
theorem num_open'{l:List Value}(h:CTs numK l): ∃x:RN,l=x.v:=by
 obtain⟨x,m,rfl,hm⟩:=num_open (ts:=[]) h
 obtain rfl:m=[]:=hm
 exact⟨x,by simp⟩
theorem rep_num(I:Imm)(x:RN):CV.rep I x.c (.agg x.v.toArray):=rep_agg I x.v
end Go.Fw
open Go
namespace Go.Fw
set_option maxRecDepth 100000
theorem canon_law(x y z d k a b c:RN):PCall P 18 [plR x y z d,k.c,vecR a b c] (.lit (.bool true)):=
 canon_true ⟨⟨x,y,z⟩,d⟩ k ⟨a,b,c⟩
end Go.Fw
open Go Go.Proofs Go.Proofs.YtcafjpldfnegiaaGreatDoor
namespace Go.Fw
open Go.ChangeShapes Go.WideShapes Go.ChangeAt Go.RowKit
set_option maxRecDepth 100000
theorem lawCall18 {H : Type} {enc : TypeId × Value → H} (W : World) (base : Nat) (args : Array Value) (ds gs : List (DataW H)) (before : List MemPlace)
    (hval: ∀(j:Nat) t v,Tryz.f18.params[j]?=some t→args[j]?=some v→Value.okWide Tryz.prog W .any base t v)
    (hW:DataW.Whole enc Tryz.prog Tryz.f18.params.toList Rows.planeCanonicalSpec.vars false W args.toList ds gs before):
    Calls Tryz.prog 18 args W fun e W'=>e= .returned (.bool true)∧Below W.heap.size W W':=by
 obtain⟨p,q,hA,hV,_,_,_⟩:=hW
 rw[Tryz.params18]at hA hval
 obtain⟨v0,vs0,d0,ds0,p0,q0,ha0,hd0,_,h0,r0⟩:=trodAll_cons hA
 obtain⟨v1,vs1,d1,ds1,p1,q1,ha1,hd1,_,h1,r1⟩:=trodAll_cons r0
 obtain⟨v2,vs2,d2,ds2,p2,q2,ha2,hd2,_,h2,r2⟩:=trodAll_cons r1
 obtain⟨hz,hzd,_⟩:=trodAll_nil r2
 subst hz ha2 ha1
 obtain rfl:args= #[v0,v1,v2]:=by cases args;simp_all
 obtain⟨cs0,rfl,hc0⟩:=open_flat 8 planeT (by kernel_rfl) (hval 0 99 v0 rfl rfl) h0
 obtain⟨x0,y0,z0,d0,rfl⟩:=plane_open hc0
 obtain⟨cs1,rfl,hc1⟩:=open_flat 8 numT (by kernel_rfl) (hval 1 39 v1 rfl rfl) h1
 obtain⟨x1,rfl⟩:=num_open' hc1
 obtain⟨cs2,rfl,hc2⟩:=open_flat 8 vecT (by kernel_rfl) (hval 2 51 v2 rfl rfl) h2
 obtain⟨x2,y2,z2,rfl⟩:=vec_open' hc2
 exact law_call (canon_law x0 y0 z0 d0 x1 x2 y2 z2) ⟨_,_,rfl,rep_plane _ _ _ _ _,⟨_,_,rfl,rep_num _ _,⟨_,_,rfl,rep_vec _ _ _ _,rfl⟩⟩⟩
end Go.Fw
