/- A part of the proof that the law returns true for every input: an executor for the model's code, and what functions of the program compute. -/
import Derived.Test.YtcafjpldfnegiaaGreatDoorB11
import Derived.Test.YtcafjpldfnegiaaGreatDoorB15
import Derived.Test.YtcafjpldfnegiaaGreatDoorB40
import Derived.Test.YtcafjpldfnegiaaGreatDoorB44
import Derived.KernelRfl
open Go IntKind
namespace Go.Fw
set_option maxRecDepth 100000
theorem zlM(x y:RN)(s5_0:RN.raw 1000000 x=true)(s5_1:RN.raw 1000000 y=true)(s6_0:RN.raw 1000000 (z6x x y)=true):PCall P 167 [x.c,y.c] (.lit (.int .i64 (z1y (z6x x y)))):=
 j3 (.r 5 (zgT (x) (y) s5_0 s5_1) (.r 6 (z2i (z6x x y) s6_0) .nil)) (by kernel_rfl)
theorem zls(p:PN)(h1:(p.n.ok)=true)(h2:(zV p.n)=true)(s4_0:VN.raw 1000000 p.n=true):PCall P 80 [p.c] (.lit (.bool false)):=
 j3 (.r 4 ((z1Y (p.n) s4_0).eqB h1) (.r 8 ((z7E (p.n)).eqB h2) .nil)) (by kernel_rfl)
theorem znR(p:PN)(h1:(p.n.ok)=true)(h2:(zV p.n)=false)(h3:(p.d.ok)=true)(s4_0:VN.raw 1000000 p.n=true)(s14_0:RN.raw 1000000 p.d=true):PCall P 80 [p.c] (.lit (.bool true)):=
 j3 (.r 4 ((z1Y (p.n) s4_0).eqB h1) (.r 8 ((z7E (p.n)).eqB h2) (.r 14 ((z06 (p.d) s14_0).eqB h3) .nil))) (by kernel_rfl)
theorem zme(p:PN)(h1:(p.n.ok)=true)(h2:(zV p.n)=false)(h3:(p.d.ok)=false)(s4_0:VN.raw 1000000 p.n=true)(s14_0:RN.raw 1000000 p.d=true):PCall P 80 [p.c] (.lit (.bool false)):=
 j3 (.r 4 ((z1Y (p.n) s4_0).eqB h1) (.r 8 ((z7E (p.n)).eqB h2) (.r 14 ((z06 (p.d) s14_0).eqB h3) .nil))) (by kernel_rfl)
theorem zlZ(p:PN)(h1:(p.n.ok)=false)(s4_0:VN.raw 1000000 p.n=true):PCall P 80 [p.c] (.lit (.bool false)):=
 j3 (.r 4 ((z1Y (p.n) s4_0).eqB h1) .nil) (by kernel_rfl)
theorem zkU(p:PN)(h1:(VN.raw 10 p.n)=true)(h2:(RN.raw 10 p.d)=true):PCall P 153 [p.c,j6 10] (.lit (.bool true)):=
 j3 (.r 5 ((zdF (p.n)).eqB h1) (.r 10 ((z2z (p.d)).eqB h2) .nil)) (by kernel_rfl)
theorem zmh(p:PN)(h1:(VN.raw 10 p.n)=true)(h2:(RN.raw 10 p.d)=false):PCall P 153 [p.c,j6 10] (.lit (.bool false)):=
 j3 (.r 5 ((zdF (p.n)).eqB h1) (.r 10 ((z2z (p.d)).eqB h2) .nil)) (by kernel_rfl)
theorem zl4(p:PN)(h1:(VN.raw 10 p.n)=false):PCall P 153 [p.c,j6 10] (.lit (.bool false)):=
 j3 (.r 5 ((zdF (p.n)).eqB h1) .nil) (by kernel_rfl)
end Go.Fw
open Go
namespace Go.Fw
set_option maxRecDepth 100000
noncomputable def zkM(x y:RN):Int:=z1y (z6x x y)
theorem zln(x y:RN)(hx:x.raw 100000=true)(hy:y.raw 100000=true):PCall P 167 [x.c,y.c] (j6 (zkM x y)):=
 zlM x y (RN.raw_mono hx (by decide)) (RN.raw_mono hy (by decide)) (RN.raw_mono (zdu hx hy) (by decide))
theorem z0B(p:PN)(hp:p.raw 1000000=true):PCall P 80 [p.c] (.lit (.bool p.ok)):=by
 obtain⟨hn,hd⟩:=PN.raw_iff.1 hp
 unfold PN.ok
 cases e1:p.n.ok
 · exact zlZ p e1 hn
 · cases e2:zV p.n
   · cases e3:p.d.ok
     · exact zme p e1 e2 e3 hn hd
     · exact znR p e1 e2 e3 hn hd
   · exact zls p e1 e2 hn
theorem z46(p:PN):PCall P 153 [p.c,j6 10] (.lit (.bool (p.raw 10))):=by
 unfold PN.raw
 cases h1:p.n.raw 10
 · exact zl4 p h1
 · cases h2:p.d.raw 10
   · exact zmh p h1 h2
   · exact zkU p h1 h2
end Go.Fw
open Go
namespace Go.Fw
set_option maxRecDepth 100000
noncomputable def z5h(p:PN)(v:VN):Int:=if p.ok&&v.ok then zkM (z7X p.n v) p.d else 0
end Go.Fw
open Go
namespace Go.Fw
set_option maxRecDepth 100000
theorem z7i{n:VN}{d:RN}(h:(PN.mk n d).ok=true):n.ok=true∧d.ok=true:=by
 unfold PN.ok at h
 dsimp only at h
 generalize n.ok=x at*
 generalize d.ok=y at*
 generalize zV n=w at*
 revert h
 cases x<;>cases y<;>cases w<;>simp
end Go.Fw
open Go
namespace Go.Fw
set_option maxRecDepth 100000
theorem z5o{v w:VN}{n:Nat}(hv:v.raw n=true)(hw:w.raw n=true):(z1b v w).raw (n+n+1)=true:=by
 refine z3z ?_
 cases ev:toV v with
 |none=>exact Nat.zero_le _
 |some a=>
  cases ew:toV w with
  |none=>exact Nat.zero_le _
  |some b=>
   obtain⟨x,y,z⟩:=z0q ev hv
   obtain⟨x',y',z'⟩:=z0q ew hw
   have m1:=K.sz_add a.x b.x
   have m2:=K.sz_add a.y b.y
   have m3:=K.sz_add a.z b.z
   show max (a.x+b.x).sz (max (a.y+b.y).sz (a.z+b.z).sz)≤n+n+1
   omega
theorem z3a{v:VN}{k:RN}{n:Nat}(hv:v.raw n=true)(hk:k.raw n=true):(J2 v k).raw (n+n+1)=true:=by
 refine z3z ?_
 have hk':=z1j hk
 cases ev:toV v with
 |none=>exact Nat.zero_le _
 |some a=>
  cases ew:toO k with
  |none=>exact Nat.zero_le _
  |some b=>
   rw[ew]at hk'
   have hk':b.sz≤n:=hk'
   obtain⟨x,y,z⟩:=z0q ev hv
   have m1:=K.sz_mul a.x b
   have m2:=K.sz_mul a.y b
   have m3:=K.sz_mul a.z b
   show max (a.x*b).sz (max (a.y*b).sz (a.z*b).sz)≤n+n+1
   omega
theorem z6r{v w:VN}{n:Nat}(hv:v.raw n=true)(hw:w.raw n=true):(z7X v w).raw (6*n+5)=true:=by
 refine z16 ?_
 cases ev:toV v with
 |none=>exact Nat.zero_le _
 |some a=>
  cases ew:toV w with
  |none=>exact Nat.zero_le _
  |some b=>
   obtain⟨x,y,z⟩:=z0q ev hv
   obtain⟨x',y',z'⟩:=z0q ew hw
   have m1:=K.sz_mul a.x b.x
   have m2:=K.sz_mul a.y b.y
   have m3:=K.sz_mul a.z b.z
   have m4:=K.sz_add (a.x*b.x) (a.y*b.y)
   have m5:=K.sz_add (a.x*b.x+a.y*b.y) (a.z*b.z)
   show(a.x*b.x+a.y*b.y+a.z*b.z).sz≤6*n+5
   omega
end Go.Fw
open Go
namespace Go.Fw
set_option maxRecDepth 100000
theorem zgK(v w:VN)(hv:v.raw 10000=true)(hw:w.raw 10000=true):PCall P 149 [v.c,w.c] (z7X v w).c:=by
 have hm:(z5l v w).raw 100000=true:=by
  refine z3z ?_
  cases ev:toV v with
  |none=>exact Nat.zero_le _
  |some a=>
   cases ew:toV w with
   |none=>exact Nat.zero_le _
   |some b=>
    obtain⟨x,y,z⟩:=z0q ev hv
    obtain⟨x',y',z'⟩:=z0q ew hw
    have m1:=K.sz_mul a.x b.x
    have m2:=K.sz_mul a.y b.y
    have m3:=K.sz_mul a.z b.z
    show max (a.x*b.x).sz (max (a.y*b.y).sz (a.z*b.z).sz)≤100000
    omega
 obtain⟨h1,h2,h3⟩:=z0A.1 hm
 have h:=zkd v w (VN.raw_mono hv (by decide)) (VN.raw_mono hw (by decide)) (RN.raw_mono h1 (by decide)) (RN.raw_mono h2 (by decide)) (RN.raw_mono (zii h1 h2) (by decide)) (RN.raw_mono h3 (by decide))
 rwa[zbw]at h
def pl3(a b c:PN):CV:= .lst 3 (a.n.x.l++(a.n.y.l++(a.n.z.l++(a.d.l++(b.n.x.l++(b.n.y.l++(b.n.z.l++(b.d.l++(c.n.x.l++(c.n.y.l++(c.n.z.l++c.d.l)))))))))))
def p3L(a b c:PN):List CV:=a.n.x.l++(a.n.y.l++(a.n.z.l++(a.d.l++(b.n.x.l++(b.n.y.l++(b.n.z.l++(b.d.l++(c.n.x.l++(c.n.y.l++(c.n.z.l++c.d.l))))))))))
def p3M(a b c:PN):List MV:=own (p3L a b c)
end Go.Fw
open Go IntKind
namespace Go.Fw
set_option maxRecDepth 100000
theorem zn4(u v w:VN)(s7_0:VN.raw 1000 v=true)(s7_1:VN.raw 1000 w=true)(s8_0:VN.raw 10000 u=true)(s8_1:VN.raw 10000 (J0 v w)=true):PCall P 175 [u.c,v.c,w.c] (RN.c (z7X u (J0 v w))):=
 j3 (.r 7 (z5u (v) (w) s7_0 s7_1) (.r 8 (zgK (u) (J0 v w) s8_0 s8_1) (.c (lq 10 10) .nil))) (by kernel_rfl)
theorem zn6(a b c:PN)(g1:a.ok=true)(g2:b.ok=true)(g3:c.ok=true)(s12_0:PN.raw 1000000 a=true)(s25_0:PN.raw 1000000 b=true)(s38_0:PN.raw 1000000 c=true):PCall P 174 [pl3 a b c] (.lit (.bool false)):=
 j3 (.c (bq 0 3) (.c (lq 40 40) (.r 12 ((z1N (a) s12_0).eqB g1) (.c (bq 1 3) (.c (lq 40 40) (.r 25 ((z1N (b) s25_0).eqB g2) (.c (bq 2 3) (.c (lq 40 40) (.r 38 ((z1N (c) s38_0).eqB g3) .nil))))))))) (by kernel_rfl)
theorem zoX(u v w:VN)(g1:u.ok=true)(g2:v.ok=true)(g3:w.ok=true)(s5_0:VN.raw 1000000 u=true)(s9_0:VN.raw 1000000 v=true)(s14_0:VN.raw 1000000 w=true)(s21_0:VN.raw 1000 v=true)(s21_1:VN.raw 1000 w=true)(s22_0:VN.raw 1000 u=true)(s22_1:VN.raw 1000 (J0 v w)=true):PCall P 100 [u.c,v.c,w.c] (RN.c (z7X u (J0 v w))):=
 j3 (.r 5 ((z1Y (u) s5_0).eqB g1) (.r 9 ((z1Y (v) s9_0).eqB g2) (.r 14 ((z1Y (w) s14_0).eqB g3) (.r 21 (z49 (v) (w) s21_0 s21_1) (.r 22 (zh4 (u) (J0 v w) s22_0 s22_1) (.c (lq 10 10) .nil)))))) (by kernel_rfl)
end Go.Fw
open Go
namespace Go.Fw
set_option maxRecDepth 100000
theorem zqm(a b c:PN)(g1:a.ok=true)(g2:b.ok=true)(g3:c.ok=true)(h1:a.raw 1000000=true)(h2:b.raw 1000000=true)(h3:c.raw 1000000=true):PCall P 174 [pl3 a b c] (.lit (.bool false)):=zn6 a b c g1 g2 g3 h1 h2 h3
noncomputable def U1(u v w:VN):RN:=z7X u (J0 v w)
theorem zgv(u v w:VN)(hu:u.raw 1000=true)(hv:v.raw 1000=true)(hw:w.raw 1000=true):PCall P 175 [u.c,v.c,w.c] (U1 u v w).c:=
 zn4 u v w hv hw (VN.raw_mono hu (by decide)) (VN.raw_mono (z27 hv hw) (by decide))
theorem zgx(u v w:VN)(g1:u.ok=true)(g2:v.ok=true)(g3:w.ok=true)(hu:u.raw 200=true)(hv:v.raw 200=true)(hw:w.raw 200=true):PCall P 100 [u.c,v.c,w.c] (U1 u v w).c:=by
 have m: ∀{x:VN},x.raw 200=true→x.raw 1000000=true:=fun h=>VN.raw_mono h (by decide)
 have n: ∀{x:VN},x.raw 200=true→x.raw 1000=true:=fun h=>VN.raw_mono h (by decide)
 exact zoX u v w g1 g2 g3 (m hu) (m hv) (m hw) (n hv) (n hw) (n hu) (VN.raw_mono (z27 hv hw) (by decide))
end Go.Fw
open Go IntKind
namespace Go.Fw
set_option maxRecDepth 100000
theorem zlg(a b c:PN)(g1:a.ok=true)(g2:b.ok=true)(g3:c.ok=true)(h1:(z1y (U1 a.n b.n c.n)==0)=true)(s9_0:PN.raw 1000000 a=true)(s9_1:PN.raw 1000000 b=true)(s9_2:PN.raw 1000000 c=true)(s17_0:VN.raw 1000 a.n=true)(s17_1:VN.raw 1000 b.n=true)(s17_2:VN.raw 1000 c.n=true)(s21_0:RN.raw 1000000 (U1 a.n b.n c.n)=true)(o1:(p3M a b c)=(p3M a b c)):PCall P 96 [a.c,b.c,c.c] (.tup [z0s,.lit (.int .i64 11)]):=
 j3 (.c (zqm (a) (b) (c) g1 g2 g3 s9_0 s9_1 s9_2) (.c o1 (.c (zgv (a.n) (b.n) (c.n) s17_0 s17_1 s17_2) (.c (lq 10 10) (.c (z2i (U1 a.n b.n c.n) s21_0) (.o 9 (.k (.lit (.bool false)) [(p3L a b c)]) (.o 17 (.r (RN.c (U1 a.n b.n c.n))) (.o 21 (.r (.lit (.int .i64 (z1y (U1 a.n b.n c.n))))) (.b 23 h1 (.c (lq 30 30) .nil)))))))))) (by kernel_rfl)
theorem zoT(a b c:PN)(g1:a.ok=true)(g2:b.ok=true)(g3:c.ok=true)(h1:(z1y (U1 a.n b.n c.n)==0)=false)(s9_0:PN.raw 1000000 a=true)(s9_1:PN.raw 1000000 b=true)(s9_2:PN.raw 1000000 c=true)(s17_0:VN.raw 1000 a.n=true)(s17_1:VN.raw 1000 b.n=true)(s17_2:VN.raw 1000 c.n=true)(s21_0:RN.raw 1000000 (U1 a.n b.n c.n)=true)(s28_0:VN.raw 1000 b.n=true)(s28_1:VN.raw 1000 c.n=true)(s31_0:VN.raw 1000000 (J0 b.n c.n)=true)(s31_1:RN.raw 1000000 a.d=true)(s38_0:VN.raw 1000 c.n=true)(s38_1:VN.raw 1000 a.n=true)(s41_0:VN.raw 1000000 (J0 c.n a.n)=true)(s41_1:RN.raw 1000000 b.d=true)(s48_0:VN.raw 1000 a.n=true)(s48_1:VN.raw 1000 b.n=true)(s51_0:VN.raw 1000000 (J0 a.n b.n)=true)(s51_1:RN.raw 1000000 c.d=true)(s56_0:VN.raw 1000000 (J2 (J0 b.n c.n) a.d)=true)(s56_1:VN.raw 1000000 (J2 (J0 c.n a.n) b.d)=true)(s58_0:VN.raw 1000000 (z1b (J2 (J0 b.n c.n) a.d) (J2 (J0 c.n a.n) b.d))=true)(s58_1:VN.raw 1000000 (J2 (J0 a.n b.n) c.d)=true)(s59_0:(-9223372036854775808:Int)≤1∧(1:Int)≤9223372036854775807)(s61_0:RN.raw 1000000 (oN (1:Int))=true)(s61_1:RN.raw 1000000 (U1 a.n b.n c.n)=true)(s62_0:VN.raw 1000000 (z1b (z1b (J2 (J0 b.n c.n) a.d) (J2 (J0 c.n a.n) b.d)) (J2 (J0 a.n b.n) c.d))=true)(s62_1:RN.raw 1000000 (z0G (oN (1:Int)) (U1 a.n b.n c.n)).fst=true)(o1:(p3M a b c)=(p3M a b c)):PCall P 96 [a.c,b.c,c.c] (.tup [z71 (J2 (z1b (z1b (J2 (J0 b.n c.n) a.d) (J2 (J0 c.n a.n) b.d)) (J2 (J0 a.n b.n) c.d)) (z0G (oN (1:Int)) (U1 a.n b.n c.n)).fst).x (J2 (z1b (z1b (J2 (J0 b.n c.n) a.d) (J2 (J0 c.n a.n) b.d)) (J2 (J0 a.n b.n) c.d)) (z0G (oN (1:Int)) (U1 a.n b.n c.n)).fst).y (J2 (z1b (z1b (J2 (J0 b.n c.n) a.d) (J2 (J0 c.n a.n) b.d)) (J2 (J0 a.n b.n) c.d)) (z0G (oN (1:Int)) (U1 a.n b.n c.n)).fst).z,.lit (.int .i64 0)]):=
 j3 (.c (zqm (a) (b) (c) g1 g2 g3 s9_0 s9_1 s9_2) (.c o1 (.c (zgv (a.n) (b.n) (c.n) s17_0 s17_1 s17_2) (.c (lq 10 10) (.c (z2i (U1 a.n b.n c.n) s21_0) (.o 9 (.k (.lit (.bool false)) [(p3L a b c)]) (.o 17 (.r (RN.c (U1 a.n b.n c.n))) (.o 21 (.r (.lit (.int .i64 (z1y (U1 a.n b.n c.n))))) (.b 23 h1 (.c (z5u (b.n) (c.n) s28_0 s28_1) (.c (z4i (J0 b.n c.n) (a.d) s31_0 s31_1) (.c (lq 30 30) (.c (z5u (c.n) (a.n) s38_0 s38_1) (.c (z4i (J0 c.n a.n) (b.d) s41_0 s41_1) (.c (lq 30 30) (.c (z5u (a.n) (b.n) s48_0 s48_1) (.c (z4i (J0 a.n b.n) (c.d) s51_0 s51_1) (.c (lq 30 30) (.c (zgu (J2 (J0 b.n c.n) a.d) (J2 (J0 c.n a.n) b.d) s56_0 s56_1) (.c (zgu (z1b (J2 (J0 b.n c.n) a.d) (J2 (J0 c.n a.n) b.d)) (J2 (J0 a.n b.n) c.d) s58_0 s58_1) (.c (zaI ((1:Int)) s59_0) (.c (zak (oN (1:Int)) (U1 a.n b.n c.n) s61_0 s61_1) (.c (z4i (z1b (z1b (J2 (J0 b.n c.n) a.d) (J2 (J0 c.n a.n) b.d)) (J2 (J0 a.n b.n) c.d)) ((z0G (oN (1:Int)) (U1 a.n b.n c.n)).fst) s62_0 s62_1) (.c (lq 30 30) (.o 28 (.r (z71 (J0 b.n c.n).x (J0 b.n c.n).y (J0 b.n c.n).z)) (.o 31 (.r (z71 (J2 (J0 b.n c.n) a.d).x (J2 (J0 b.n c.n) a.d).y (J2 (J0 b.n c.n) a.d).z)) (.o 38 (.r (z71 (J0 c.n a.n).x (J0 c.n a.n).y (J0 c.n a.n).z)) (.o 41 (.r (z71 (J2 (J0 c.n a.n) b.d).x (J2 (J0 c.n a.n) b.d).y (J2 (J0 c.n a.n) b.d).z)) (.o 48 (.r (z71 (J0 a.n b.n).x (J0 a.n b.n).y (J0 a.n b.n).z)) (.o 51 (.r (z71 (J2 (J0 a.n b.n) c.d).x (J2 (J0 a.n b.n) c.d).y (J2 (J0 a.n b.n) c.d).z)) (.o 56 (.r (z71 (z1b (J2 (J0 b.n c.n) a.d) (J2 (J0 c.n a.n) b.d)).x (z1b (J2 (J0 b.n c.n) a.d) (J2 (J0 c.n a.n) b.d)).y (z1b (J2 (J0 b.n c.n) a.d) (J2 (J0 c.n a.n) b.d)).z)) (.o 58 (.r (z71 (z1b (z1b (J2 (J0 b.n c.n) a.d) (J2 (J0 c.n a.n) b.d)) (J2 (J0 a.n b.n) c.d)).x (z1b (z1b (J2 (J0 b.n c.n) a.d) (J2 (J0 c.n a.n) b.d)) (J2 (J0 a.n b.n) c.d)).y (z1b (z1b (J2 (J0 b.n c.n) a.d) (J2 (J0 c.n a.n) b.d)) (J2 (J0 a.n b.n) c.d)).z)) (.o 59 (.r (RN.c (oN (1:Int)))) (.o 61 (.r (RN.c (z0G (oN (1:Int)) (U1 a.n b.n c.n)).fst)) (.o 62 (.r (z71 (J2 (z1b (z1b (J2 (J0 b.n c.n) a.d) (J2 (J0 c.n a.n) b.d)) (J2 (J0 a.n b.n) c.d)) (z0G (oN (1:Int)) (U1 a.n b.n c.n)).fst).x (J2 (z1b (z1b (J2 (J0 b.n c.n) a.d) (J2 (J0 c.n a.n) b.d)) (J2 (J0 a.n b.n) c.d)) (z0G (oN (1:Int)) (U1 a.n b.n c.n)).fst).y (J2 (z1b (z1b (J2 (J0 b.n c.n) a.d) (J2 (J0 c.n a.n) b.d)) (J2 (J0 a.n b.n) c.d)) (z0G (oN (1:Int)) (U1 a.n b.n c.n)).fst).z)) .nil))))))))))))))))))))))))))))))))))) (by kernel_rfl)
end Go.Fw
open Go
namespace Go.Fw
set_option maxRecDepth 100000
noncomputable def ziJ(a b c:PN):VN:=z1b (z1b (J2 (J0 b.n c.n) a.d) (J2 (J0 c.n a.n) b.d)) (J2 (J0 a.n b.n) c.d)
noncomputable def z8X(a b c:PN):VN×Int:=if z1y (U1 a.n b.n c.n)=0 then(.zero,11)else(J2 (ziJ a b c) (z0G (oN 1) (U1 a.n b.n c.n)).1,0)
theorem z5H{a b c:PN}(ha:a.raw 10=true)(hb:b.raw 10=true)(hc:c.raw 10=true):(ziJ a b c).raw 400=true∧(U1 a.n b.n c.n).raw 400=true:=by
 obtain⟨na,da⟩:=PN.raw_iff.1 ha
 obtain⟨nb,db⟩:=PN.raw_iff.1 hb
 obtain⟨nc,dc⟩:=PN.raw_iff.1 hc
 have cr: ∀{x y:VN},x.raw 10=true→y.raw 10=true→(J0 x y).raw 43=true:=fun h k=>z27 (n:=10) h k
 have sc: ∀{x:VN} {k:RN},x.raw 43=true→k.raw 10=true→(J2 x k).raw 87=true:=fun h k=>z3a (n:=43) h (RN.raw_mono k (by decide))
 have x:=sc (cr nb nc) da
 have y:=sc (cr nc na) db
 have z:=sc (cr na nb) dc
 have s:=z5o x y
 have t:=z5o s (VN.raw_mono z (by decide))
 exact⟨VN.raw_mono t (by decide),RN.raw_mono (z6r (VN.raw_mono na (show 10≤43 by decide)) (cr nb nc)) (by decide)⟩
theorem zld(a b c:PN)(g1:a.ok=true)(g2:b.ok=true)(g3:c.ok=true)(ha:a.raw 10=true)(hb:b.raw 10=true)(hc:c.raw 10=true):PCall P 96 [a.c,b.c,c.c] (.tup [(z8X a b c).1.c,j6 (z8X a b c).2]):=by
 obtain⟨r1,r2⟩:=z5H ha hb hc
 obtain⟨na,da⟩:=PN.raw_iff.1 ha
 obtain⟨nb,db⟩:=PN.raw_iff.1 hb
 obtain⟨nc,dc⟩:=PN.raw_iff.1 hc
 have m6: ∀{x:PN},x.raw 10=true→x.raw 1000000=true:=fun h=>PN.raw_mono h (by decide)
 have v3: ∀{x:VN},x.raw 10=true→x.raw 1000=true:=fun h=>VN.raw_mono h (by decide)
 have k6: ∀{x:RN},x.raw 10=true→x.raw 1000000=true:=fun h=>RN.raw_mono h (by decide)
 have cr: ∀{x y:VN},x.raw 10=true→y.raw 10=true→(J0 x y).raw 43=true:=fun h k=>z27 (n:=10) h k
 have cr6: ∀{x y:VN},x.raw 10=true→y.raw 10=true→(J0 x y).raw 1000000=true:=fun h k=>VN.raw_mono (cr h k) (by decide)
 have sc: ∀{x:VN} {k:RN},x.raw 43=true→k.raw 10=true→(J2 x k).raw 87=true:=fun h k=>z3a (n:=43) h (RN.raw_mono k (by decide))
 have sc6: ∀{x:VN} {k:RN},x.raw 43=true→k.raw 10=true→(J2 x k).raw 1000000=true:=fun h k=>VN.raw_mono (sc h k) (by decide)
 have d6:(U1 a.n b.n c.n).raw 1000000=true:=RN.raw_mono r2 (by decide)
 unfold z8X
 by_cases h:z1y (U1 a.n b.n c.n)=0
 · rw[if_pos h]
   exact zlg a b c g1 g2 g3 (beq_iff_eq.2 h) (m6 ha) (m6 hb) (m6 hc) (v3 na) (v3 nb) (v3 nc) d6 rfl
 · rw[if_neg h]
   exact zoT a b c g1 g2 g3 (beq_false_of_ne h) (m6 ha) (m6 hb) (m6 hc) (v3 na) (v3 nb) (v3 nc) d6 (v3 nb) (v3 nc) (cr6 nb nc) (k6 da) (v3 nc) (v3 na) (cr6 nc na) (k6 db) (v3 na) (v3 nb) (cr6 na nb) (k6 dc) (sc6 (cr nb nc) da) (sc6 (cr nc na) db)
    (VN.raw_mono (z5o (sc (cr nb nc) da) (sc (cr nc na) db)) (by decide)) (sc6 (cr na nb) dc) (by decide) (RN.raw_mono z3p (by decide)) d6 (VN.raw_mono r1 (by decide)) (RN.raw_mono (z7b (RN.raw_mono z3p (by decide)) r2) (by decide)) rfl
end Go.Fw
open Go
namespace Go.Fw
set_option maxRecDepth 100000
theorem zfC(a b c d:Int)(h: ∃n,1≤n∧n≤500000000∧By4 n a b c d):PCall P 130 [.agg [.lit (.bool false),.lit (.string (bytesOf 1)),.lit (.bool false),.lit (.string ⟨#[]⟩),.lit (.bool false),.lit (.string ⟨#[]⟩),.lit (.bool false),.lit (.string ⟨#[]⟩)],c4C a b c d] (c4C a b c d):=by
 obtain⟨n,h1,hn,hb⟩:=h
 have z:By n 0:=by unfold By;exact Nat.pow_pos (by decide)
 have o:By n 1:=(show By 1 1 by unfold By;decide).mono h1
 have:=z3Z 1 0 0 0 a b c d ⟨n,hn,⟨o,z,z,z⟩,hb⟩
 rw[show 1*a+2*0*b+3*0*c+6*0*d=a by omega,show 1*b+0*a+3*0*d+3*0*c=b by omega,show 1*c+0*a+2*0*d+2*0*b=c by omega,show 1*d+0*a+0*c+0*b=d by omega]at this
 exact this
structure Q4 where
 a:Int
 b:Int
 c:Int
 d:Int
namespace Q4
def mul(x y:Q4):Q4:=⟨x.a*y.a+2*x.b*y.b+3*x.c*y.c+6*x.d*y.d,x.a*y.b+x.b*y.a+3*x.c*y.d+3*x.d*y.c,x.a*y.c+x.c*y.a+2*x.b*y.d+2*x.d*y.b,x.a*y.d+x.d*y.a+x.b*y.c+x.c*y.b⟩
def Sm(n:Nat)(x:Q4):Prop:=By4 n x.a x.b x.c x.d
end Q4
noncomputable def Y2(x y:Q4):Q4:=Classical.choose (⟨Q4.mul x y,rfl⟩: ∃z,z=Q4.mul x y)
theorem z5E(x y:Q4):Y2 x y=Q4.mul x y:=Classical.choose_spec (⟨Q4.mul x y,rfl⟩: ∃z,z=Q4.mul x y)
theorem z7k (a0 a1 a2 a3 b0 b1 b2 b3 : Int) (hp : ∃ n, n ≤ 500000000 ∧ Q4.Sm n ⟨a0, a1, a2, a3⟩ ∧ Q4.Sm n ⟨b0, b1, b2, b3⟩) : PCall P 130 [c4C a0 a1 a2 a3, c4C b0 b1 b2 b3]
    (c4C (Y2 ⟨a0,a1,a2,a3⟩ ⟨b0,b1,b2,b3⟩).a (Y2 ⟨a0,a1,a2,a3⟩ ⟨b0,b1,b2,b3⟩).b (Y2 ⟨a0,a1,a2,a3⟩ ⟨b0,b1,b2,b3⟩).c (Y2 ⟨a0,a1,a2,a3⟩ ⟨b0,b1,b2,b3⟩).d):=by
 rw[z5E]
 exact z3Z a0 a1 a2 a3 b0 b1 b2 b3 hp
theorem zfO (A : Q4) (b0 b1 b2 b3 : Int) (hp : ∃ n, n ≤ 500000000 ∧ Q4.Sm n A ∧ Q4.Sm n ⟨b0, b1, b2, b3⟩) : PCall P 130 [c4C A.a A.b A.c A.d, c4C b0 b1 b2 b3]
    (c4C (Y2 A ⟨b0,b1,b2,b3⟩).a (Y2 A ⟨b0,b1,b2,b3⟩).b (Y2 A ⟨b0,b1,b2,b3⟩).c (Y2 A ⟨b0,b1,b2,b3⟩).d):=z7k A.a A.b A.c A.d b0 b1 b2 b3 hp
theorem zal (a0 a1 a2 a3 : Int) (B : Q4) (hp : ∃ n, n ≤ 500000000 ∧ Q4.Sm n ⟨a0, a1, a2, a3⟩ ∧ Q4.Sm n B) : PCall P 130 [c4C a0 a1 a2 a3, c4C B.a B.b B.c B.d]
    (c4C (Y2 ⟨a0,a1,a2,a3⟩ B).a (Y2 ⟨a0,a1,a2,a3⟩ B).b (Y2 ⟨a0,a1,a2,a3⟩ B).c (Y2 ⟨a0,a1,a2,a3⟩ B).d):=z7k a0 a1 a2 a3 B.a B.b B.c B.d hp
end Go.Fw
open Go IntKind
namespace Go.Fw
set_option maxRecDepth 100000
theorem zeG(x y:K)(g:(y.sgn==0)=false)(s5_0:x.sz≤1000000)(s9_0 s15_0:y.sz≤1000000)(s19_0:(-9223372036854775808:Int)≤1∧(1:Int)≤9223372036854775807)(s125_0: ∃n,1≤n∧n≤500000000∧By4 n y.c0 (-y.c1) y.c2 (-y.c3))(s231_0: ∃n,n≤500000000∧Q4.Sm n {a:=y.c0,b:= -y.c1,c:=y.c2,d:= -y.c3}∧Q4.Sm n {a:=y.c0,b:=y.c1,c:= -y.c2,d:= -y.c3})(s337_0: ∃n,n≤500000000∧Q4.Sm n (Y2 {a:=y.c0,b:= -y.c1,c:=y.c2,d:= -y.c3} {a:=y.c0,b:=y.c1,c:= -y.c2,d:= -y.c3})∧Q4.Sm n {a:=y.c0,b:= -y.c1,c:= -y.c2,d:=y.c3})(s349_0: ∃n,n≤500000000∧Q4.Sm n {a:=y.c0,b:=y.c1,c:=y.c2,d:=y.c3}∧Q4.Sm n (Y2 (Y2 {a:=y.c0,b:= -y.c1,c:=y.c2,d:= -y.c3} {a:=y.c0,b:=y.c1,c:= -y.c2,d:= -y.c3}) {a:=y.c0,b:= -y.c1,c:= -y.c2,d:=y.c3}))(s355_0: ∃n,n≤500000000∧Q4.Sm n {a:=x.c0,b:=x.c1,c:=x.c2,d:=x.c3}∧Q4.Sm n (Y2 (Y2 {a:=y.c0,b:= -y.c1,c:=y.c2,d:= -y.c3} {a:=y.c0,b:=y.c1,c:= -y.c2,d:= -y.c3}) {a:=y.c0,b:= -y.c1,c:= -y.c2,d:=y.c3}))(s369_0:Two (Y2 {a:=x.c0,b:=x.c1,c:=x.c2,d:=x.c3} (Y2 (Y2 {a:=y.c0,b:= -y.c1,c:=y.c2,d:= -y.c3} {a:=y.c0,b:=y.c1,c:= -y.c2,d:= -y.c3}) {a:=y.c0,b:= -y.c1,c:= -y.c2,d:=y.c3})).a y.d)(s385_0:Two (Y2 {a:=x.c0,b:=x.c1,c:=x.c2,d:=x.c3} (Y2 (Y2 {a:=y.c0,b:= -y.c1,c:=y.c2,d:= -y.c3} {a:=y.c0,b:=y.c1,c:= -y.c2,d:= -y.c3}) {a:=y.c0,b:= -y.c1,c:= -y.c2,d:=y.c3})).b y.d)(s401_0:Two (Y2 {a:=x.c0,b:=x.c1,c:=x.c2,d:=x.c3} (Y2 (Y2 {a:=y.c0,b:= -y.c1,c:=y.c2,d:= -y.c3} {a:=y.c0,b:=y.c1,c:= -y.c2,d:= -y.c3}) {a:=y.c0,b:= -y.c1,c:= -y.c2,d:=y.c3})).c y.d)(s417_0:Two (Y2 {a:=x.c0,b:=x.c1,c:=x.c2,d:=x.c3} (Y2 (Y2 {a:=y.c0,b:= -y.c1,c:=y.c2,d:= -y.c3} {a:=y.c0,b:=y.c1,c:= -y.c2,d:= -y.c3}) {a:=y.c0,b:= -y.c1,c:= -y.c2,d:=y.c3})).d y.d)(s432_0:Two (Y2 {a:=y.c0,b:=y.c1,c:=y.c2,d:=y.c3} (Y2 (Y2 {a:=y.c0,b:= -y.c1,c:=y.c2,d:= -y.c3} {a:=y.c0,b:=y.c1,c:= -y.c2,d:= -y.c3}) {a:=y.c0,b:= -y.c1,c:= -y.c2,d:=y.c3})).a x.d)(s433_0:(Y2 {a:=y.c0,b:=y.c1,c:=y.c2,d:=y.c3} (Y2 (Y2 {a:=y.c0,b:= -y.c1,c:=y.c2,d:= -y.c3} {a:=y.c0,b:=y.c1,c:= -y.c2,d:= -y.c3}) {a:=y.c0,b:= -y.c1,c:= -y.c2,d:=y.c3})).a*x.d≠0)(s433_1:SmlZ ((Y2 {a:=x.c0,b:=x.c1,c:=x.c2,d:=x.c3} (Y2 (Y2 {a:=y.c0,b:= -y.c1,c:=y.c2,d:= -y.c3} {a:=y.c0,b:=y.c1,c:= -y.c2,d:= -y.c3}) {a:=y.c0,b:= -y.c1,c:= -y.c2,d:=y.c3})).a*y.d))(s433_2:SmlZ ((Y2 {a:=x.c0,b:=x.c1,c:=x.c2,d:=x.c3} (Y2 (Y2 {a:=y.c0,b:= -y.c1,c:=y.c2,d:= -y.c3} {a:=y.c0,b:=y.c1,c:= -y.c2,d:= -y.c3}) {a:=y.c0,b:= -y.c1,c:= -y.c2,d:=y.c3})).b*y.d))(s433_3:SmlZ ((Y2 {a:=x.c0,b:=x.c1,c:=x.c2,d:=x.c3} (Y2 (Y2 {a:=y.c0,b:= -y.c1,c:=y.c2,d:= -y.c3} {a:=y.c0,b:=y.c1,c:= -y.c2,d:= -y.c3}) {a:=y.c0,b:= -y.c1,c:= -y.c2,d:=y.c3})).c*y.d))(s433_4:SmlZ ((Y2 {a:=x.c0,b:=x.c1,c:=x.c2,d:=x.c3} (Y2 (Y2 {a:=y.c0,b:= -y.c1,c:=y.c2,d:= -y.c3} {a:=y.c0,b:=y.c1,c:= -y.c2,d:= -y.c3}) {a:=y.c0,b:= -y.c1,c:= -y.c2,d:=y.c3})).d*y.d))(s433_5:SmlZ ((Y2 {a:=y.c0,b:=y.c1,c:=y.c2,d:=y.c3} (Y2 (Y2 {a:=y.c0,b:= -y.c1,c:=y.c2,d:= -y.c3} {a:=y.c0,b:=y.c1,c:= -y.c2,d:= -y.c3}) {a:=y.c0,b:= -y.c1,c:= -y.c2,d:=y.c3})).a*x.d)):PCall P 161 [Z0 x,Z0 y] (.tup [Z0 (K.of ((Y2 {a:=x.c0,b:=x.c1,c:=x.c2,d:=x.c3} (Y2 (Y2 {a:=y.c0,b:= -y.c1,c:=y.c2,d:= -y.c3} {a:=y.c0,b:=y.c1,c:= -y.c2,d:= -y.c3}) {a:=y.c0,b:= -y.c1,c:= -y.c2,d:=y.c3})).a*y.d) ((Y2 {a:=x.c0,b:=x.c1,c:=x.c2,d:=x.c3} (Y2 (Y2 {a:=y.c0,b:= -y.c1,c:=y.c2,d:= -y.c3} {a:=y.c0,b:=y.c1,c:= -y.c2,d:= -y.c3}) {a:=y.c0,b:= -y.c1,c:= -y.c2,d:=y.c3})).b*y.d) ((Y2 {a:=x.c0,b:=x.c1,c:=x.c2,d:=x.c3} (Y2 (Y2 {a:=y.c0,b:= -y.c1,c:=y.c2,d:= -y.c3} {a:=y.c0,b:=y.c1,c:= -y.c2,d:= -y.c3}) {a:=y.c0,b:= -y.c1,c:= -y.c2,d:=y.c3})).c*y.d) ((Y2 {a:=x.c0,b:=x.c1,c:=x.c2,d:=x.c3} (Y2 (Y2 {a:=y.c0,b:= -y.c1,c:=y.c2,d:= -y.c3} {a:=y.c0,b:=y.c1,c:= -y.c2,d:= -y.c3}) {a:=y.c0,b:= -y.c1,c:= -y.c2,d:=y.c3})).d*y.d) ((Y2 {a:=y.c0,b:=y.c1,c:=y.c2,d:=y.c3} (Y2 (Y2 {a:=y.c0,b:= -y.c1,c:=y.c2,d:= -y.c3} {a:=y.c0,b:=y.c1,c:= -y.c2,d:= -y.c3}) {a:=y.c0,b:= -y.c1,c:= -y.c2,d:=y.c3})).a*x.d)),.lit (.int .i64 0)]):=
 j3 (.r 5 (z0i (x) s5_0) (.r 9 (z0i (y) s9_0) (.r 15 (z94 (y) s15_0) (.b 18 g (.r 19 (X5 ((1:Int)) s19_0) (.c (lq 8 8) (.c (lq 8 8) (.c (bq 1 4) (.r 70 (z07 (y.c1)) (.c (bq 1 4) (.c (lq 4 8) (.c (bq 3 4) (.r 113 (z07 (y.c3)) (.c (bq 3 4) (.c (lq 8 8) (.r 125 (zfC (y.c0) (-y.c1) (y.c2) (-y.c3) s125_0) (.c (lq 8 8) (.c (lq 8 8) (.c (bq 2 4) (.r 194 (z07 (y.c2)) (.c (bq 2 4) (.c (lq 6 8) (.c (bq 3 4) (.r 219 (z07 (y.c3)) (.c (bq 3 4) (.c (lq 8 8) (.r 231 (z7k (y.c0) (-y.c1) (y.c2) (-y.c3) (y.c0) (y.c1) (-y.c2) (-y.c3) s231_0) (.c (lq 8 8) (.c (lq 8 8) (.c (bq 1 4) (.r 282 (z07 (y.c1)) (.c (bq 1 4) (.c (lq 4 8) (.c (bq 2 4) (.r 307 (z07 (y.c2)) (.c (bq 2 4) (.c (lq 6 8) (.r 337 (zfO (Y2 {a:=y.c0,b:= -y.c1,c:=y.c2,d:= -y.c3} {a:=y.c0,b:=y.c1,c:= -y.c2,d:= -y.c3}) (y.c0) (-y.c1) (-y.c2) (y.c3) s337_0) (.c (lq 8 8) (.r 349 (zal (y.c0) (y.c1) (y.c2) (y.c3) (Y2 (Y2 {a:=y.c0,b:= -y.c1,c:=y.c2,d:= -y.c3} {a:=y.c0,b:=y.c1,c:= -y.c2,d:= -y.c3}) {a:=y.c0,b:= -y.c1,c:= -y.c2,d:=y.c3}) s349_0) (.c (lq 8 8) (.r 355 (zal (x.c0) (x.c1) (x.c2) (x.c3) (Y2 (Y2 {a:=y.c0,b:= -y.c1,c:=y.c2,d:= -y.c3} {a:=y.c0,b:=y.c1,c:= -y.c2,d:= -y.c3}) {a:=y.c0,b:= -y.c1,c:= -y.c2,d:=y.c3}) s355_0) (.c (lq 8 8) (.c (bq 0 4) (.r 369 (z5a ((Y2 {a:=x.c0,b:=x.c1,c:=x.c2,d:=x.c3} (Y2 (Y2 {a:=y.c0,b:= -y.c1,c:=y.c2,d:= -y.c3} {a:=y.c0,b:=y.c1,c:= -y.c2,d:= -y.c3}) {a:=y.c0,b:= -y.c1,c:= -y.c2,d:=y.c3})).a) (y.d) s369_0) (.c (bq 0 4) (.c (lq 2 8) (.c (bq 1 4) (.r 385 (z5a ((Y2 {a:=x.c0,b:=x.c1,c:=x.c2,d:=x.c3} (Y2 (Y2 {a:=y.c0,b:= -y.c1,c:=y.c2,d:= -y.c3} {a:=y.c0,b:=y.c1,c:= -y.c2,d:= -y.c3}) {a:=y.c0,b:= -y.c1,c:= -y.c2,d:=y.c3})).b) (y.d) s385_0) (.c (bq 1 4) (.c (lq 4 8) (.c (bq 2 4) (.r 401 (z5a ((Y2 {a:=x.c0,b:=x.c1,c:=x.c2,d:=x.c3} (Y2 (Y2 {a:=y.c0,b:= -y.c1,c:=y.c2,d:= -y.c3} {a:=y.c0,b:=y.c1,c:= -y.c2,d:= -y.c3}) {a:=y.c0,b:= -y.c1,c:= -y.c2,d:=y.c3})).c) (y.d) s401_0) (.c (bq 2 4) (.c (lq 6 8) (.c (bq 3 4) (.r 417 (z5a ((Y2 {a:=x.c0,b:=x.c1,c:=x.c2,d:=x.c3} (Y2 (Y2 {a:=y.c0,b:= -y.c1,c:=y.c2,d:= -y.c3} {a:=y.c0,b:=y.c1,c:= -y.c2,d:= -y.c3}) {a:=y.c0,b:= -y.c1,c:= -y.c2,d:=y.c3})).d) (y.d) s417_0) (.c (bq 3 4) (.c (lq 8 8) (.c (bq 0 4) (.r 432 (z5a ((Y2 {a:=y.c0,b:=y.c1,c:=y.c2,d:=y.c3} (Y2 (Y2 {a:=y.c0,b:= -y.c1,c:=y.c2,d:= -y.c3} {a:=y.c0,b:=y.c1,c:= -y.c2,d:= -y.c3}) {a:=y.c0,b:= -y.c1,c:= -y.c2,d:=y.c3})).a) (x.d) s432_0) (.r 433 (z8B ((Y2 {a:=x.c0,b:=x.c1,c:=x.c2,d:=x.c3} (Y2 (Y2 {a:=y.c0,b:= -y.c1,c:=y.c2,d:= -y.c3} {a:=y.c0,b:=y.c1,c:= -y.c2,d:= -y.c3}) {a:=y.c0,b:= -y.c1,c:= -y.c2,d:=y.c3})).a*y.d) ((Y2 {a:=x.c0,b:=x.c1,c:=x.c2,d:=x.c3} (Y2 (Y2 {a:=y.c0,b:= -y.c1,c:=y.c2,d:= -y.c3} {a:=y.c0,b:=y.c1,c:= -y.c2,d:= -y.c3}) {a:=y.c0,b:= -y.c1,c:= -y.c2,d:=y.c3})).b*y.d) ((Y2 {a:=x.c0,b:=x.c1,c:=x.c2,d:=x.c3} (Y2 (Y2 {a:=y.c0,b:= -y.c1,c:=y.c2,d:= -y.c3} {a:=y.c0,b:=y.c1,c:= -y.c2,d:= -y.c3}) {a:=y.c0,b:= -y.c1,c:= -y.c2,d:=y.c3})).c*y.d) ((Y2 {a:=x.c0,b:=x.c1,c:=x.c2,d:=x.c3} (Y2 (Y2 {a:=y.c0,b:= -y.c1,c:=y.c2,d:= -y.c3} {a:=y.c0,b:=y.c1,c:= -y.c2,d:= -y.c3}) {a:=y.c0,b:= -y.c1,c:= -y.c2,d:=y.c3})).d*y.d) ((Y2 {a:=y.c0,b:=y.c1,c:=y.c2,d:=y.c3} (Y2 (Y2 {a:=y.c0,b:= -y.c1,c:=y.c2,d:= -y.c3} {a:=y.c0,b:=y.c1,c:= -y.c2,d:= -y.c3}) {a:=y.c0,b:= -y.c1,c:= -y.c2,d:=y.c3})).a*x.d) s433_0 s433_1 s433_2 s433_3 s433_4 s433_5) (.c (lq 10 10) .nil))))))))))))))))))))))))))))))))))))))))))))))))))))))))))))))) (by kernel_rfl)
end Go.Fw
open Go
namespace Go.Fw
set_option maxRecDepth 100000
def oq(A:Q4)(d:Int):K:=K.of A.a A.b A.c A.d d
theorem z9Q{A B:Q4}{d e:Int}(hd:d≠0)(he:e≠0):oq A d*oq B e=oq (Q4.mul A B) (d*e):=K.mul_of hd he
def qK(x:K):Q4:=⟨x.c0,x.c1,x.c2,x.c3⟩
theorem zkx(x:K):oq (qK x) x.d=x:=K.of_self x
def cj1(y:Q4):Q4:=⟨y.a,-y.b,y.c,-y.d⟩
def cj2(y:Q4):Q4:=⟨y.a,y.b,-y.c,-y.d⟩
def cj3(y:Q4):Q4:=⟨y.a,-y.b,-y.c,y.d⟩
def z0T(y:Q4):Q4:=Q4.mul (Q4.mul (cj1 y) (cj2 y)) (cj3 y)
theorem zay(y:Q4):(Q4.mul y (z0T y)).b=0∧(Q4.mul y (z0T y)).c=0∧(Q4.mul y (z0T y)).d=0:=by
 obtain⟨a,b,c,d⟩:=y
 refine⟨?_,?_,?_⟩
 · show a*_+b*_+3*c*_+3*d*_=0
   simp only[z0T,Q4.mul,cj1,cj2,cj3]
   grind
 · show a*_+c*_+2*b*_+2*d*_=0
   simp only[z0T,Q4.mul,cj1,cj2,cj3]
   grind
 · show a*_+d*_+b*_+c*_=0
   simp only[z0T,Q4.mul,cj1,cj2,cj3]
   grind
theorem zlE(x y c:Q4):Q4.mul y (Q4.mul x c)=Q4.mul x (Q4.mul y c):=by
 obtain⟨a,b,e,d⟩:=x
 obtain⟨a',b',e',d'⟩:=y
 obtain⟨p,q,r,s⟩:=c
 simp only[Q4.mul,Q4.mk.injEq]
 refine⟨?_,?_,?_,?_⟩<;>grind
theorem zaE{A:Q4}(h:oq A 1=0):A.a=0∧A.b=0∧A.c=0∧A.d=0:=by
 obtain⟨s,_,h0,h1,h2,h3,_⟩:=K.of_spec A.a A.b A.c A.d (d:=1) (by decide)
 have e:K.of A.a A.b A.c A.d 1=0:=h
 rw[e]at h0 h1 h2 h3
 exact⟨h0.trans (Int.mul_zero s),h1.trans (Int.mul_zero s),h2.trans (Int.mul_zero s),h3.trans (Int.mul_zero s)⟩
theorem zac{y:K}(h0:y.c0=0)(h1:y.c1=0)(h2:y.c2=0)(h3:y.c3=0):y=0:=by
 refine K.cross ?_ ?_ ?_ ?_
 · rw[h0,Int.zero_mul];exact(Int.zero_mul y.d).symm
 · rw[h1,Int.zero_mul];exact(Int.zero_mul y.d).symm
 · rw[h2,Int.zero_mul];exact(Int.zero_mul y.d).symm
 · rw[h3,Int.zero_mul];exact(Int.zero_mul y.d).symm
theorem z9J{x y:K}(hx:x≠0)(hy:y≠0):x*y≠0:=fun e=>by
 have:K.sgn (x*y)=0:=K.sgn_zero.2 e
 rw[K.sgn_mul]at this
 rcases Int.mul_eq_zero.1 this with h|h
 · exact hx (K.sgn_zero.1 h)
 · exact hy (K.sgn_zero.1 h)
theorem zc6(y:Q4):oq (Q4.mul y (z0T y)) 1=oq y 1*((oq (cj1 y) 1*oq (cj2 y) 1)*oq (cj3 y) 1):=by
 have o:(1:Int)≠0:=by decide
 have e1:oq (cj1 y) 1*oq (cj2 y) 1=oq (Q4.mul (cj1 y) (cj2 y)) 1:=z9Q o o
 have e2:oq (Q4.mul (cj1 y) (cj2 y)) 1*oq (cj3 y) 1=oq (z0T y) 1:=z9Q o o
 have e3:oq y 1*oq (z0T y) 1=oq (Q4.mul y (z0T y)) 1:=z9Q o o
 rw[e1,e2,e3]
theorem zcj{y:K}(h:y≠0):(Q4.mul (qK y) (z0T (qK y))).a≠0:=by
 intro e
 obtain⟨h1,h2,h3⟩:=zay (qK y)
 have z:oq (Q4.mul (qK y) (z0T (qK y))) 1=0:=by
  unfold oq
  rw[e,h1,h2,h3];kernel_rfl
 rw[zc6]at z
 have n0:oq (qK y) 1≠0:=fun z=>by obtain⟨a,b,c,d⟩:=zaE z;exact h (zac a b c d)
 have n1:oq (cj1 (qK y)) 1≠0:=fun z=>by obtain⟨a,b,c,d⟩:=zaE z;exact h (zac a (Int.neg_eq_zero.1 b) c (Int.neg_eq_zero.1 d))
 have n2:oq (cj2 (qK y)) 1≠0:=fun z=>by obtain⟨a,b,c,d⟩:=zaE z;exact h (zac a b (Int.neg_eq_zero.1 c) (Int.neg_eq_zero.1 d))
 have n3:oq (cj3 (qK y)) 1≠0:=fun z=>by obtain⟨a,b,c,d⟩:=zaE z;exact h (zac a (Int.neg_eq_zero.1 b) (Int.neg_eq_zero.1 c) d)
 exact z9J n0 (z9J (z9J n1 n2) n3) z
def z3d(A:Q4)(k:Int):Q4:=⟨A.a*k,A.b*k,A.c*k,A.d*k⟩
theorem zpz{x n:Q4}(h1:n.b=0)(h2:n.c=0)(h3:n.d=0):Q4.mul x n=z3d x n.a:=by
 obtain⟨a,b,c,d⟩:=x
 obtain⟨p,q,r,s⟩:=n
 simp only at h1 h2 h3
 subst h1 h2 h3
 simp only[Q4.mul,z3d,Q4.mk.injEq]
 refine⟨?_,?_,?_,?_⟩<;>grind
theorem z9B(x y:Q4)(k:Int):Q4.mul x (z3d y k)=z3d (Q4.mul x y) k:=by
 obtain⟨a,b,c,d⟩:=x
 obtain⟨p,q,r,s⟩:=y
 simp only[Q4.mul,z3d,Q4.mk.injEq]
 refine⟨?_,?_,?_,?_⟩<;>grind
theorem zjF{x y:K}(h:y≠0):oq (z3d (Q4.mul (qK x) (z0T (qK y))) y.d) ((Q4.mul (qK y) (z0T (qK y))).a*x.d)=K.div x y:=by
 have hN:=zcj h
 have yd:y.d≠0:=by have:=y.pos;omega
 have xd:x.d≠0:=by have:=x.pos;omega
 have hE:(Q4.mul (qK y) (z0T (qK y))).a*x.d≠0:=fun e=>by
  rcases Int.mul_eq_zero.1 e with e|e
  · exact hN e
  · exact xd e
 refine(K.div_eq h ?_).symm
 obtain⟨h1,h2,h3⟩:=zay (qK y)
 have e1:y*oq (z3d (Q4.mul (qK x) (z0T (qK y))) y.d) ((Q4.mul (qK y) (z0T (qK y))).a*x.d)=oq (Q4.mul (qK y) (z3d (Q4.mul (qK x) (z0T (qK y))) y.d)) (y.d*((Q4.mul (qK y) (z0T (qK y))).a*x.d)):=by
  have:=z9Q (A:=qK y) (B:=z3d (Q4.mul (qK x) (z0T (qK y))) y.d) yd hE
  rw[zkx]at this
  exact this
 rw[e1,z9B,zlE,zpz h1 h2 h3]
 generalize (Q4.mul (qK y) (z0T (qK y))).a=N at*
 have:=K.of_scale (s:=y.d*N) (a0:=x.c0) (a1:=x.c1) (a2:=x.c2) (a3:=x.c3) (d:=x.d) (fun e=>by
  rcases Int.mul_eq_zero.1 e with e|e
  · exact yd e
  · exact hN e) xd
 rw[K.of_self]at this
 refine Eq.trans ?_ this
 show K.of (x.c0*N*y.d) (x.c1*N*y.d) (x.c2*N*y.d) (x.c3*N*y.d) (y.d*(N*x.d))=_
 have c: ∀t:Int,t*N*y.d=y.d*N*t:=fun t=>by grind
 rw[c,c,c,c,show y.d*(N*x.d)=y.d*N*x.d by grind]
end Go.Fw
