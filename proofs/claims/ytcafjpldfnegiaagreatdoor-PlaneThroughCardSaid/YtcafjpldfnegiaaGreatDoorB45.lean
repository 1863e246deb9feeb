/- A part of the proof that the law returns true for every input: an executor for the model's code, and what functions of the program compute. -/
import Derived.Test.YtcafjpldfnegiaaGreatDoorB11
import Derived.Test.YtcafjpldfnegiaaGreatDoorB15
import Derived.Test.YtcafjpldfnegiaaGreatDoorB39
import Derived.Test.YtcafjpldfnegiaaGreatDoorB43
import Derived.Test.YtcafjpldfnegiaaGreatDoorB44
import Derived.KernelRfl
open Go
namespace Go.Fw
set_option maxRecDepth 100000
theorem thP_p1(p:VN)(q:VN)(r:VN)(h1:(p.ok)=true)(h2:(q.ok)=true)(h3:(r.ok)=true)(h4:(zV (wCross (wSub q p) (wSub r p)))=true)(s6_0:VN.raw 1000000 p=true)(s10_0:VN.raw 1000000 q=true)(s15_0:VN.raw 1000000 r=true)(s21_0:VN.raw 1000000 q=true)(s21_1:VN.raw 1000000 p=true)(s24_0:VN.raw 1000000 r=true)(s24_1:VN.raw 1000000 p=true)(s25_0:VN.raw 1000 (wSub q p)=true)(s25_1:VN.raw 1000 (wSub r p)=true):PCall P (94:FuncId) [p.c,q.c,r.c] (CV.tup [zeroPl,CV.lit (Value.int IntKind.i64 (11:Int))]):=
 pcallR (ors:=[(6,Or.r (CV.lit (Value.bool true))),(10,Or.r (CV.lit (Value.bool true))),(15,Or.r (CV.lit (Value.bool true))),(21,Or.r (vecR (wSub q p).x (wSub q p).y (wSub q p).z)),(24,Or.r (vecR (wSub r p).x (wSub r p).y (wSub r p).z)),(25,Or.r (vecR (wCross (wSub q p) (wSub r p)).x (wCross (wSub q p) (wSub r p)).y (wCross (wSub q p) (wSub r p)).z)),(29,Or.r (CV.lit (Value.bool true)))]) (by kernel_rfl) (.cons ((Go.Fw.VVal (p) s6_0).eqB h1) (.cons ((Go.Fw.VVal (q) s10_0).eqB h2) (.cons ((Go.Fw.VVal (r) s15_0).eqB h3) (.cons (Go.Fw.VSub_r (q) (p) s21_0 s21_1) (.cons (Go.Fw.VSub_r (r) (p) s24_0 s24_1) (.cons (Go.Fw.VCross_r (wSub q p) (wSub r p) s25_0 s25_1) (.cons (show 30≤30 from(by decide)) (.cons ((Go.Fw.VZero_r (wCross (wSub q p) (wSub r p))).eqB h4) (.cons (show 40≤40 from(by decide)) .nil)))))))))
theorem thP_p2(p:VN)(q:VN)(r:VN)(h1:(p.ok)=true)(h2:(q.ok)=true)(h3:(r.ok)=true)(h4:(zV (wCross (wSub q p) (wSub r p)))=false)(s6_0:VN.raw 1000000 p=true)(s10_0:VN.raw 1000000 q=true)(s15_0:VN.raw 1000000 r=true)(s21_0:VN.raw 1000000 q=true)(s21_1:VN.raw 1000000 p=true)(s24_0:VN.raw 1000000 r=true)(s24_1:VN.raw 1000000 p=true)(s25_0:VN.raw 1000 (wSub q p)=true)(s25_1:VN.raw 1000 (wSub r p)=true)(s34_0:VN.raw 1000 (wCross (wSub q p) (wSub r p))=true)(s34_1:VN.raw 1000 p=true):PCall P (94:FuncId) [p.c,q.c,r.c] (CV.tup [plR (wCross (wSub q p) (wSub r p)).x (wCross (wSub q p) (wSub r p)).y (wCross (wSub q p) (wSub r p)).z (wDot (wCross (wSub q p) (wSub r p)) p),CV.lit (Value.int IntKind.i64 (0:Int))]):=
 pcallR (ors:=[(6,Or.r (CV.lit (Value.bool true))),(10,Or.r (CV.lit (Value.bool true))),(15,Or.r (CV.lit (Value.bool true))),(21,Or.r (vecR (wSub q p).x (wSub q p).y (wSub q p).z)),(24,Or.r (vecR (wSub r p).x (wSub r p).y (wSub r p).z)),(25,Or.r (vecR (wCross (wSub q p) (wSub r p)).x (wCross (wSub q p) (wSub r p)).y (wCross (wSub q p) (wSub r p)).z)),(29,Or.r (CV.lit (Value.bool false))),(34,Or.r (RN.c (wDot (wCross (wSub q p) (wSub r p)) p)))]) (by kernel_rfl) (.cons ((Go.Fw.VVal (p) s6_0).eqB h1) (.cons ((Go.Fw.VVal (q) s10_0).eqB h2) (.cons ((Go.Fw.VVal (r) s15_0).eqB h3) (.cons (Go.Fw.VSub_r (q) (p) s21_0 s21_1) (.cons (Go.Fw.VSub_r (r) (p) s24_0 s24_1) (.cons (Go.Fw.VCross_r (wSub q p) (wSub r p) s25_0 s25_1) (.cons (show 30≤30 from(by decide)) (.cons ((Go.Fw.VZero_r (wCross (wSub q p) (wSub r p))).eqB h4) (.cons (Go.Fw.VDot_r (wCross (wSub q p) (wSub r p)) (p) s34_0 s34_1) (.cons (show 40≤40 from(by decide)) .nil))))))))))
theorem thP_p3(p:VN)(q:VN)(r:VN)(h1:(p.ok)=true)(h2:(q.ok)=true)(h3:(r.ok)=false)(s6_0:VN.raw 1000000 p=true)(s10_0:VN.raw 1000000 q=true)(s15_0:VN.raw 1000000 r=true):PCall P (94:FuncId) [p.c,q.c,r.c] (CV.tup [zeroPl,CV.lit (Value.int IntKind.i64 (1:Int))]):=
 pcallR (ors:=[(6,Or.r (CV.lit (Value.bool true))),(10,Or.r (CV.lit (Value.bool true))),(15,Or.r (CV.lit (Value.bool false)))]) (by kernel_rfl) (.cons ((Go.Fw.VVal (p) s6_0).eqB h1) (.cons ((Go.Fw.VVal (q) s10_0).eqB h2) (.cons ((Go.Fw.VVal (r) s15_0).eqB h3) (.cons (show 40≤40 from(by decide)) .nil))))
theorem thP_p4(p:VN)(q:VN)(r:VN)(h1:(p.ok)=true)(h2:(q.ok)=false)(s6_0:VN.raw 1000000 p=true)(s10_0:VN.raw 1000000 q=true):PCall P (94:FuncId) [p.c,q.c,r.c] (CV.tup [zeroPl,CV.lit (Value.int IntKind.i64 (1:Int))]):=
 pcallR (ors:=[(6,Or.r (CV.lit (Value.bool true))),(10,Or.r (CV.lit (Value.bool false)))]) (by kernel_rfl) (.cons ((Go.Fw.VVal (p) s6_0).eqB h1) (.cons ((Go.Fw.VVal (q) s10_0).eqB h2) (.cons (show 40≤40 from(by decide)) .nil)))
theorem thP_p5(p:VN)(q:VN)(r:VN)(h1:(p.ok)=false)(s6_0:VN.raw 1000000 p=true):PCall P (94:FuncId) [p.c,q.c,r.c] (CV.tup [zeroPl,CV.lit (Value.int IntKind.i64 (1:Int))]):=
 pcallR (ors:=[(6,Or.r (CV.lit (Value.bool false)))]) (by kernel_rfl) (.cons ((Go.Fw.VVal (p) s6_0).eqB h1) (.cons (show 40≤40 from(by decide)) .nil))
theorem v4Z_p1(v:VN)(s3_0:(-9223372036854775808:Int)≤(0:Int)∧(0:Int)≤(9223372036854775807:Int))(s3_1:(-9223372036854775808:Int)≤(0:Int)∧(0:Int)≤(9223372036854775807:Int))(s3_2:(-9223372036854775808:Int)≤(0:Int)∧(0:Int)≤(9223372036854775807:Int)):PCall P (66:FuncId) [v.c] (CV.lit (Value.bool (rnB v.x (oV (0:Int) (0:Int) (0:Int)).x&&(rnB v.y (oV (0:Int) (0:Int) (0:Int)).y&&(rnB v.z (oV (0:Int) (0:Int) (0:Int)).z&&true))))):=
 pcallR (ors:=[(3,Or.r (vecR (oV (0:Int) (0:Int) (0:Int)).x (oV (0:Int) (0:Int) (0:Int)).y (oV (0:Int) (0:Int) (0:Int)).z))]) (by kernel_rfl) (.cons (Go.Fw.V4Of_r ((0:Int)) ((0:Int)) ((0:Int)) s3_0 s3_1 s3_2) .nil)
end Go.Fw
open Go
namespace Go.Fw
set_option maxRecDepth 100000
theorem V4Zero_r(v:VN):PCall P 66 [v.c] (.lit (.bool (zV v))):=v4Z_p1 v (by decide) (by decide) (by decide)
noncomputable def thr(p q r:VN):PN×Int:=
 if p.ok&&(q.ok&&r.ok)then
  if zV (wCross (wSub q p) (wSub r p))then(.zero,11)else(⟨wCross (wSub q p) (wSub r p),wDot (wCross (wSub q p) (wSub r p)) p⟩,0)
 else(.zero,1)
theorem raw_wSub{v w:VN}{n:Nat}(hv:v.raw n=true)(hw:w.raw n=true):(wSub v w).raw (n+n+1)=true:=by
 refine ofV_raw ?_
 cases ev:toV v with
 |none=>exact Nat.zero_le _
 |some a=>
  cases ew:toV w with
  |none=>exact Nat.zero_le _
  |some b=>
   obtain⟨x,y,z⟩:=sz_toV ev hv
   obtain⟨x',y',z'⟩:=sz_toV ew hw
   have m1:=K.sz_sub a.x b.x
   have m2:=K.sz_sub a.y b.y
   have m3:=K.sz_sub a.z b.z
   show max (a.x-b.x).sz (max (a.y-b.y).sz (a.z-b.z).sz)≤n+n+1
   omega
theorem raw_wCross{v w:VN}{n:Nat}(hv:v.raw n=true)(hw:w.raw n=true):(wCross v w).raw (n+n+n+n+3)=true:=by
 refine ofV_raw ?_
 cases ev:toV v with
 |none=>exact Nat.zero_le _
 |some a=>
  cases ew:toV w with
  |none=>exact Nat.zero_le _
  |some b=>
   obtain⟨x,y,z⟩:=sz_toV ev hv
   obtain⟨x',y',z'⟩:=sz_toV ew hw
   have key: ∀c d e f:K,c.sz≤n→d.sz≤n→e.sz≤n→f.sz≤n→(c*d-e*f).sz≤n+n+n+n+3:=by
    intro c d e f h1 h2 h3 h4
    have m1:=K.sz_mul c d
    have m2:=K.sz_mul e f
    have m3:=K.sz_sub (c*d) (e*f)
    omega
   have k1:=key a.y b.z a.z b.y y z' z y'
   have k2:=key a.z b.x a.x b.z z x' x z'
   have k3:=key a.x b.y a.y b.x x y' y x'
   show max (a.y*b.z-a.z*b.y).sz (max (a.z*b.x-a.x*b.z).sz (a.x*b.y-a.y*b.x).sz)≤_
   omega
theorem thr_of {f : Nat} (p q r : VN) (hp : p.raw 20 = true) (hq : q.raw 20 = true) (hr : r.raw 20 = true)
    (h1:p.ok=true→q.ok=true→r.ok=true→zV (wCross (wSub q p) (wSub r p))=true→PCall P f [p.c,q.c,r.c] (.tup [zeroPl,ci64 11]))
    (h2:p.ok=true→q.ok=true→r.ok=true→zV (wCross (wSub q p) (wSub r p))=false→(wSub q p).raw 1000=true→(wSub r p).raw 1000=true→(wCross (wSub q p) (wSub r p)).raw 1000=true→
     PCall P f [p.c,q.c,r.c] (.tup [PN.c ⟨wCross (wSub q p) (wSub r p),wDot (wCross (wSub q p) (wSub r p)) p⟩,ci64 0]))
    (h3:p.ok=true→q.ok=true→r.ok=false→PCall P f [p.c,q.c,r.c] (.tup [zeroPl,ci64 1]))
    (h4:p.ok=true→q.ok=false→PCall P f [p.c,q.c,r.c] (.tup [zeroPl,ci64 1]))
    (h5:p.ok=false→PCall P f [p.c,q.c,r.c] (.tup [zeroPl,ci64 1])):PCall P f [p.c,q.c,r.c] (.tup [(thr p q r).1.c,ci64 (thr p q r).2]):=by
 have b1:=raw_wSub hq hp
 have b2:=raw_wSub hr hp
 have b3:=raw_wCross b1 b2
 unfold thr
 cases e1:p.ok
 · exact h5 e1
 · cases e2:q.ok
   · exact h4 e1 e2
   · cases e3:r.ok
     · exact h3 e1 e2 e3
     · cases e4:zV (wCross (wSub q p) (wSub r p))
       · exact h2 e1 e2 e3 e4 (VN.raw_mono b1 (by decide)) (VN.raw_mono b2 (by decide)) (VN.raw_mono b3 (by decide))
       · exact h1 e1 e2 e3 e4
theorem Through_r(p q r:VN)(hp:p.raw 20=true)(hq:q.raw 20=true)(hr:r.raw 20=true):PCall P 94 [p.c,q.c,r.c] (.tup [(thr p q r).1.c,ci64 (thr p q r).2]):=by
 have P1:=VN.raw_mono hp (show 20≤1000000 by decide)
 have Q1:=VN.raw_mono hq (show 20≤1000000 by decide)
 have R1:=VN.raw_mono hr (show 20≤1000000 by decide)
 have P2:=VN.raw_mono hp (show 20≤1000 by decide)
 have b1:=VN.raw_mono (raw_wSub hq hp) (show 20+20+1≤1000 by decide)
 have b2:=VN.raw_mono (raw_wSub hr hp) (show 20+20+1≤1000 by decide)
 exact thr_of p q r hp hq hr (fun e1 e2 e3 e4=>thP_p1 p q r e1 e2 e3 e4 P1 Q1 R1 Q1 P1 R1 P1 b1 b2) (fun e1 e2 e3 e4 k1 k2 k3=>thP_p2 p q r e1 e2 e3 e4 P1 Q1 R1 Q1 P1 R1 P1 k1 k2 k3 P2)
  (fun e1 e2 e3=>thP_p3 p q r e1 e2 e3 P1 Q1 R1) (fun e1 e2=>thP_p4 p q r e1 e2 P1 Q1) (fun e1=>thP_p5 p q r e1 P1)
end Go.Fw
open Go
namespace Go.Fw
set_option maxRecDepth 100000
theorem thR_p1(p:VN)(q:VN)(r:VN)(h1:(p.ok)=true)(h2:(q.ok)=true)(h3:(r.ok)=true)(h4:(zV (wCross (wSub q p) (wSub r p)))=true)(s6_0:VN.raw 1000000 p=true)(s10_0:VN.raw 1000000 q=true)(s15_0:VN.raw 1000000 r=true)(s21_0:VN.raw 1000000 q=true)(s21_1:VN.raw 1000000 p=true)(s24_0:VN.raw 1000000 r=true)(s24_1:VN.raw 1000000 p=true)(s25_0:VN.raw 1000 (wSub q p)=true)(s25_1:VN.raw 1000 (wSub r p)=true):PCall P (95:FuncId) [p.c,q.c,r.c] (CV.tup [zeroPl,CV.lit (Value.int IntKind.i64 (11:Int))]):=
 pcallR (ors:=[(6,Or.r (CV.lit (Value.bool true))),(10,Or.r (CV.lit (Value.bool true))),(15,Or.r (CV.lit (Value.bool true))),(21,Or.r (vecR (wSub q p).x (wSub q p).y (wSub q p).z)),(24,Or.r (vecR (wSub r p).x (wSub r p).y (wSub r p).z)),(25,Or.r (vecR (wCross (wSub q p) (wSub r p)).x (wCross (wSub q p) (wSub r p)).y (wCross (wSub q p) (wSub r p)).z)),(29,Or.r (CV.lit (Value.bool true)))]) (by kernel_rfl) (.cons ((Go.Fw.V4Val (p) s6_0).eqB h1) (.cons ((Go.Fw.V4Val (q) s10_0).eqB h2) (.cons ((Go.Fw.V4Val (r) s15_0).eqB h3) (.cons (Go.Fw.V4Sub_r (q) (p) s21_0 s21_1) (.cons (Go.Fw.V4Sub_r (r) (p) s24_0 s24_1) (.cons (Go.Fw.V4Cross_r (wSub q p) (wSub r p) s25_0 s25_1) (.cons (show 30≤30 from(by decide)) (.cons ((Go.Fw.V4Zero_r (wCross (wSub q p) (wSub r p))).eqB h4) (.cons (show 40≤40 from(by decide)) .nil)))))))))
theorem thR_p2(p:VN)(q:VN)(r:VN)(h1:(p.ok)=true)(h2:(q.ok)=true)(h3:(r.ok)=true)(h4:(zV (wCross (wSub q p) (wSub r p)))=false)(s6_0:VN.raw 1000000 p=true)(s10_0:VN.raw 1000000 q=true)(s15_0:VN.raw 1000000 r=true)(s21_0:VN.raw 1000000 q=true)(s21_1:VN.raw 1000000 p=true)(s24_0:VN.raw 1000000 r=true)(s24_1:VN.raw 1000000 p=true)(s25_0:VN.raw 1000 (wSub q p)=true)(s25_1:VN.raw 1000 (wSub r p)=true)(s34_0:VN.raw 1000 (wCross (wSub q p) (wSub r p))=true)(s34_1:VN.raw 1000 p=true):PCall P (95:FuncId) [p.c,q.c,r.c] (CV.tup [plR (wCross (wSub q p) (wSub r p)).x (wCross (wSub q p) (wSub r p)).y (wCross (wSub q p) (wSub r p)).z (wDot (wCross (wSub q p) (wSub r p)) p),CV.lit (Value.int IntKind.i64 (0:Int))]):=
 pcallR (ors:=[(6,Or.r (CV.lit (Value.bool true))),(10,Or.r (CV.lit (Value.bool true))),(15,Or.r (CV.lit (Value.bool true))),(21,Or.r (vecR (wSub q p).x (wSub q p).y (wSub q p).z)),(24,Or.r (vecR (wSub r p).x (wSub r p).y (wSub r p).z)),(25,Or.r (vecR (wCross (wSub q p) (wSub r p)).x (wCross (wSub q p) (wSub r p)).y (wCross (wSub q p) (wSub r p)).z)),(29,Or.r (CV.lit (Value.bool false))),(34,Or.r (RN.c (wDot (wCross (wSub q p) (wSub r p)) p)))]) (by kernel_rfl) (.cons ((Go.Fw.V4Val (p) s6_0).eqB h1) (.cons ((Go.Fw.V4Val (q) s10_0).eqB h2) (.cons ((Go.Fw.V4Val (r) s15_0).eqB h3) (.cons (Go.Fw.V4Sub_r (q) (p) s21_0 s21_1) (.cons (Go.Fw.V4Sub_r (r) (p) s24_0 s24_1) (.cons (Go.Fw.V4Cross_r (wSub q p) (wSub r p) s25_0 s25_1) (.cons (show 30≤30 from(by decide)) (.cons ((Go.Fw.V4Zero_r (wCross (wSub q p) (wSub r p))).eqB h4) (.cons (Go.Fw.V4Dot_r (wCross (wSub q p) (wSub r p)) (p) s34_0 s34_1) (.cons (show 40≤40 from(by decide)) .nil))))))))))
theorem thR_p3(p:VN)(q:VN)(r:VN)(h1:(p.ok)=true)(h2:(q.ok)=true)(h3:(r.ok)=false)(s6_0:VN.raw 1000000 p=true)(s10_0:VN.raw 1000000 q=true)(s15_0:VN.raw 1000000 r=true):PCall P (95:FuncId) [p.c,q.c,r.c] (CV.tup [zeroPl,CV.lit (Value.int IntKind.i64 (1:Int))]):=
 pcallR (ors:=[(6,Or.r (CV.lit (Value.bool true))),(10,Or.r (CV.lit (Value.bool true))),(15,Or.r (CV.lit (Value.bool false)))]) (by kernel_rfl) (.cons ((Go.Fw.V4Val (p) s6_0).eqB h1) (.cons ((Go.Fw.V4Val (q) s10_0).eqB h2) (.cons ((Go.Fw.V4Val (r) s15_0).eqB h3) (.cons (show 40≤40 from(by decide)) .nil))))
theorem thR_p4(p:VN)(q:VN)(r:VN)(h1:(p.ok)=true)(h2:(q.ok)=false)(s6_0:VN.raw 1000000 p=true)(s10_0:VN.raw 1000000 q=true):PCall P (95:FuncId) [p.c,q.c,r.c] (CV.tup [zeroPl,CV.lit (Value.int IntKind.i64 (1:Int))]):=
 pcallR (ors:=[(6,Or.r (CV.lit (Value.bool true))),(10,Or.r (CV.lit (Value.bool false)))]) (by kernel_rfl) (.cons ((Go.Fw.V4Val (p) s6_0).eqB h1) (.cons ((Go.Fw.V4Val (q) s10_0).eqB h2) (.cons (show 40≤40 from(by decide)) .nil)))
theorem thR_p5(p:VN)(q:VN)(r:VN)(h1:(p.ok)=false)(s6_0:VN.raw 1000000 p=true):PCall P (95:FuncId) [p.c,q.c,r.c] (CV.tup [zeroPl,CV.lit (Value.int IntKind.i64 (1:Int))]):=
 pcallR (ors:=[(6,Or.r (CV.lit (Value.bool false)))]) (by kernel_rfl) (.cons ((Go.Fw.V4Val (p) s6_0).eqB h1) (.cons (show 40≤40 from(by decide)) .nil))
end Go.Fw
open Go
namespace Go.Fw
set_option maxRecDepth 100000
theorem rwT_p1(x:RN)(h1:(decide ((↑x.s0.size:Int)>(10:Int)))=true):PCall P (74:FuncId) [x.c,ci64 (10:Int)] (CV.lit (Value.bool false)):=
 pcallR (ors:=[(15,Or.b true)]) (by kernel_rfl) (.cons (show(0:Int)≤(0:Int)∧(0:Int)<(4:Int)from(by decide)) (.cons h1 .nil))
theorem rwT_p2(x:RN)(h1:(decide ((↑x.s0.size:Int)>(10:Int)))=false)(h2:(decide ((↑x.s1.size:Int)>(10:Int)))=true):PCall P (74:FuncId) [x.c,ci64 (10:Int)] (CV.lit (Value.bool false)):=
 pcallR (ors:=[(15,Or.b false),(31,Or.b true)]) (by kernel_rfl) (.cons (show(0:Int)≤(0:Int)∧(0:Int)<(4:Int)from(by decide)) (.cons h1 (.cons (show(0:Int)≤(1:Int)∧(1:Int)<(4:Int)from(by decide)) (.cons h2 .nil))))
theorem rwT_p3(x:RN)(h1:(decide ((↑x.s0.size:Int)>(10:Int)))=false)(h2:(decide ((↑x.s1.size:Int)>(10:Int)))=false)(h3:(decide ((↑x.s2.size:Int)>(10:Int)))=true):PCall P (74:FuncId) [x.c,ci64 (10:Int)] (CV.lit (Value.bool false)):=
 pcallR (ors:=[(15,Or.b false),(31,Or.b false),(47,Or.b true)]) (by kernel_rfl) (.cons (show(0:Int)≤(0:Int)∧(0:Int)<(4:Int)from(by decide)) (.cons h1 (.cons (show(0:Int)≤(1:Int)∧(1:Int)<(4:Int)from(by decide)) (.cons h2 (.cons (show(0:Int)≤(2:Int)∧(2:Int)<(4:Int)from(by decide)) (.cons h3 .nil))))))
theorem rwT_p4(x:RN)(h1:(decide ((↑x.s0.size:Int)>(10:Int)))=false)(h2:(decide ((↑x.s1.size:Int)>(10:Int)))=false)(h3:(decide ((↑x.s2.size:Int)>(10:Int)))=false)(h4:(decide ((↑x.s3.size:Int)>(10:Int)))=true):PCall P (74:FuncId) [x.c,ci64 (10:Int)] (CV.lit (Value.bool false)):=
 pcallR (ors:=[(15,Or.b false),(31,Or.b false),(47,Or.b false),(63,Or.b true)]) (by kernel_rfl) (.cons (show(0:Int)≤(0:Int)∧(0:Int)<(4:Int)from(by decide)) (.cons h1 (.cons (show(0:Int)≤(1:Int)∧(1:Int)<(4:Int)from(by decide)) (.cons h2 (.cons (show(0:Int)≤(2:Int)∧(2:Int)<(4:Int)from(by decide)) (.cons h3 (.cons (show(0:Int)≤(3:Int)∧(3:Int)<(4:Int)from(by decide)) (.cons h4 .nil))))))))
theorem rwT_p5(x:RN)(h1:(decide ((↑x.s0.size:Int)>(10:Int)))=false)(h2:(decide ((↑x.s1.size:Int)>(10:Int)))=false)(h3:(decide ((↑x.s2.size:Int)>(10:Int)))=false)(h4:(decide ((↑x.s3.size:Int)>(10:Int)))=false):PCall P (74:FuncId) [x.c,ci64 (10:Int)] (CV.lit (Value.bool (decide ((↑x.s4.size:Int)≤(10:Int))))):=
 pcallR (ors:=[(15,Or.b false),(31,Or.b false),(47,Or.b false),(63,Or.b false)]) (by kernel_rfl) (.cons (show(0:Int)≤(0:Int)∧(0:Int)<(4:Int)from(by decide)) (.cons h1 (.cons (show(0:Int)≤(1:Int)∧(1:Int)<(4:Int)from(by decide)) (.cons h2 (.cons (show(0:Int)≤(2:Int)∧(2:Int)<(4:Int)from(by decide)) (.cons h3 (.cons (show(0:Int)≤(3:Int)∧(3:Int)<(4:Int)from(by decide)) (.cons h4 .nil))))))))
end Go.Fw
open Go
namespace Go.Fw
set_option maxRecDepth 100000
theorem RRaw_t(x:RN):PCall P 74 [x.c,ci64 10] (.lit (.bool (x.raw 10))):=by
 have big: ∀{n:Nat},¬n≤10→decide ((n:Int)>10)=true:=fun h=>decide_eq_true (by omega)
 have sml: ∀{n:Nat},n≤10→decide ((n:Int)>10)=false:=fun h=>decide_eq_false (by omega)
 unfold RN.raw
 by_cases h0:x.s0.size≤10
 · by_cases h1:x.s1.size≤10
   · by_cases h2:x.s2.size≤10
     · by_cases h3:x.s3.size≤10
       · refine(rwT_p5 x (sml h0) (sml h1) (sml h2) (sml h3)).eqB ?_
         rw[decide_eq_true h0,decide_eq_true h1,decide_eq_true h2,decide_eq_true h3,Bool.true_and,Bool.true_and,Bool.true_and,Bool.true_and,decide_eq_decide]
         omega
       · refine(rwT_p4 x (sml h0) (sml h1) (sml h2) (big h3)).eqB ?_
         simp[h3]
     · refine(rwT_p3 x (sml h0) (sml h1) (big h2)).eqB ?_
       simp[h2]
   · refine(rwT_p2 x (sml h0) (big h1)).eqB ?_
     simp[h1]
 · refine(rwT_p1 x (big h0)).eqB ?_
   simp[h0]
theorem awake5:PCall P 72 [] (.lit (.bool true)):=by
 have h:=awk5_p1 (by show(rnB (oN 4) (oV 4 0 3).x&&(rnB (oN 0) (oV 4 0 3).y&&(rnB (oN 3) (oV 4 0 3).z&&true)))=true;rw[oV_x,oV_y,oV_z,rnB_iff.2 rfl,rnB_iff.2 rfl,rnB_iff.2 rfl];rfl) one_t (by decide) (by decide) (by decide) (by decide) (by decide) (by decide)
 rw[rnB_iff.2 rfl]at h
 exact h
theorem ThroughR_r(p q r:VN)(hp:p.raw 20=true)(hq:q.raw 20=true)(hr:r.raw 20=true):PCall P 95 [p.c,q.c,r.c] (.tup [(thr p q r).1.c,ci64 (thr p q r).2]):=by
 have P1:=VN.raw_mono hp (show 20≤1000000 by decide)
 have Q1:=VN.raw_mono hq (show 20≤1000000 by decide)
 have R1:=VN.raw_mono hr (show 20≤1000000 by decide)
 have P2:=VN.raw_mono hp (show 20≤1000 by decide)
 have b1:=VN.raw_mono (raw_wSub hq hp) (show 20+20+1≤1000 by decide)
 have b2:=VN.raw_mono (raw_wSub hr hp) (show 20+20+1≤1000 by decide)
 exact thr_of p q r hp hq hr (fun e1 e2 e3 e4=>thR_p1 p q r e1 e2 e3 e4 P1 Q1 R1 Q1 P1 R1 P1 b1 b2) (fun e1 e2 e3 e4 k1 k2 k3=>thR_p2 p q r e1 e2 e3 e4 P1 Q1 R1 Q1 P1 R1 P1 k1 k2 k3 P2)
  (fun e1 e2 e3=>thR_p3 p q r e1 e2 e3 P1 Q1 R1) (fun e1 e2=>thR_p4 p q r e1 e2 P1 Q1) (fun e1=>thR_p5 p q r e1 P1)
end Go.Fw
open Go
namespace Go.Fw
set_option maxRecDepth 100000
theorem rvT_p1(v:VN)(h1:(RN.raw 10 v.x)=true)(h2:(RN.raw 10 v.y)=true)(h3:(RN.raw 10 v.z)=true):PCall P (90:FuncId) [v.c,ci64 (10:Int)] (CV.lit (Value.bool true)):=
 pcallR (ors:=[(5,Or.r (CV.lit (Value.bool true))),(10,Or.r (CV.lit (Value.bool true))),(16,Or.r (CV.lit (Value.bool true)))]) (by kernel_rfl) (.cons ((Go.Fw.RRaw_t (v.x)).eqB h1) (.cons ((Go.Fw.RRaw_t (v.y)).eqB h2) (.cons ((Go.Fw.RRaw_t (v.z)).eqB h3) .nil)))
theorem rvT_p2(v:VN)(h1:(RN.raw 10 v.x)=true)(h2:(RN.raw 10 v.y)=true)(h3:(RN.raw 10 v.z)=false):PCall P (90:FuncId) [v.c,ci64 (10:Int)] (CV.lit (Value.bool false)):=
 pcallR (ors:=[(5,Or.r (CV.lit (Value.bool true))),(10,Or.r (CV.lit (Value.bool true))),(16,Or.r (CV.lit (Value.bool false)))]) (by kernel_rfl) (.cons ((Go.Fw.RRaw_t (v.x)).eqB h1) (.cons ((Go.Fw.RRaw_t (v.y)).eqB h2) (.cons ((Go.Fw.RRaw_t (v.z)).eqB h3) .nil)))
theorem rvT_p3(v:VN)(h1:(RN.raw 10 v.x)=true)(h2:(RN.raw 10 v.y)=false):PCall P (90:FuncId) [v.c,ci64 (10:Int)] (CV.lit (Value.bool false)):=
 pcallR (ors:=[(5,Or.r (CV.lit (Value.bool true))),(10,Or.r (CV.lit (Value.bool false)))]) (by kernel_rfl) (.cons ((Go.Fw.RRaw_t (v.x)).eqB h1) (.cons ((Go.Fw.RRaw_t (v.y)).eqB h2) .nil))
theorem rvT_p4(v:VN)(h1:(RN.raw 10 v.x)=false):PCall P (90:FuncId) [v.c,ci64 (10:Int)] (CV.lit (Value.bool false)):=
 pcallR (ors:=[(5,Or.r (CV.lit (Value.bool false)))]) (by kernel_rfl) (.cons ((Go.Fw.RRaw_t (v.x)).eqB h1) .nil)
end Go.Fw
open Go
namespace Go.Fw
set_option maxRecDepth 100000
theorem VRaw_t(v:VN):PCall P 90 [v.c,ci64 10] (.lit (.bool (v.raw 10))):=by
 unfold VN.raw raw3
 cases h1:v.x.raw 10
 · exact rvT_p4 v h1
 · cases h2:v.y.raw 10
   · exact rvT_p3 v h1 h2
   · cases h3:v.z.raw 10
     · exact rvT_p2 v h1 h2 h3
     · exact rvT_p1 v h1 h2 h3
end Go.Fw
open Go
namespace Go.Fw
set_option maxRecDepth 100000
theorem lw19_p1(u:VN)(v:VN)(w:VN)(h1:(VN.raw 10 u)=true)(h2:(VN.raw 10 v)=true)(h3:(VN.raw 10 w)=true)(h4:(rnB (thr u v w).fst.n.x (thr u v w).fst.n.x&&(rnB (thr u v w).fst.n.y (thr u v w).fst.n.y&&(rnB (thr u v w).fst.n.z (thr u v w).fst.n.z&&true))&&(rnB (thr u v w).fst.d (thr u v w).fst.d&&true))=true)(s24_0:VN.raw 20 u=true)(s24_1:VN.raw 20 v=true)(s24_2:VN.raw 20 w=true)(s34_0:VN.raw 20 u=true)(s34_1:VN.raw 20 v=true)(s34_2:VN.raw 20 w=true):PCall P (19:FuncId) [u.c,v.c,w.c] (CV.lit (Value.bool ((thr u v w).2==(thr u v w).2))):=
 pcallR (ors:=[(4,Or.r (CV.lit (Value.bool true))),(8,Or.r (CV.lit (Value.bool true))),(12,Or.r (CV.lit (Value.bool true))),(17,Or.r (CV.lit (Value.bool true))),(24,Or.r (CV.tup [plR (thr u v w).fst.n.x (thr u v w).fst.n.y (thr u v w).fst.n.z (thr u v w).fst.d,CV.lit (Value.int IntKind.i64 (thr u v w).2)])),(34,Or.r (CV.tup [plR (thr u v w).fst.n.x (thr u v w).fst.n.y (thr u v w).fst.n.z (thr u v w).fst.d,CV.lit (Value.int IntKind.i64 (thr u v w).2)])),(44,Or.b true)]) (by kernel_rfl) (.cons (Go.Fw.awake5) (.cons ((Go.Fw.VRaw_t (u)).eqB h1) (.cons ((Go.Fw.VRaw_t (v)).eqB h2) (.cons ((Go.Fw.VRaw_t (w)).eqB h3) (.cons (Go.Fw.Through_r (u) (v) (w) s24_0 s24_1 s24_2) (.cons (show 40≤40 from(by decide)) (.cons (Go.Fw.ThroughR_r (u) (v) (w) s34_0 s34_1 s34_2) (.cons (show 40≤40 from(by decide)) (.cons h4 .nil)))))))))
theorem lw19_p3(u:VN)(v:VN)(w:VN)(h1:(VN.raw 10 u)=true)(h2:(VN.raw 10 v)=true)(h3:(VN.raw 10 w)=false):PCall P (19:FuncId) [u.c,v.c,w.c] (CV.lit (Value.bool true)):=
 pcallR (ors:=[(4,Or.r (CV.lit (Value.bool true))),(8,Or.r (CV.lit (Value.bool true))),(12,Or.r (CV.lit (Value.bool true))),(17,Or.r (CV.lit (Value.bool false)))]) (by kernel_rfl) (.cons (Go.Fw.awake5) (.cons ((Go.Fw.VRaw_t (u)).eqB h1) (.cons ((Go.Fw.VRaw_t (v)).eqB h2) (.cons ((Go.Fw.VRaw_t (w)).eqB h3) .nil))))
theorem lw19_p4(u:VN)(v:VN)(w:VN)(h1:(VN.raw 10 u)=true)(h2:(VN.raw 10 v)=false):PCall P (19:FuncId) [u.c,v.c,w.c] (CV.lit (Value.bool true)):=
 pcallR (ors:=[(4,Or.r (CV.lit (Value.bool true))),(8,Or.r (CV.lit (Value.bool true))),(12,Or.r (CV.lit (Value.bool false)))]) (by kernel_rfl) (.cons (Go.Fw.awake5) (.cons ((Go.Fw.VRaw_t (u)).eqB h1) (.cons ((Go.Fw.VRaw_t (v)).eqB h2) .nil)))
theorem lw19_p5(u:VN)(v:VN)(w:VN)(h1:(VN.raw 10 u)=false):PCall P (19:FuncId) [u.c,v.c,w.c] (CV.lit (Value.bool true)):=
 pcallR (ors:=[(4,Or.r (CV.lit (Value.bool true))),(8,Or.r (CV.lit (Value.bool false)))]) (by kernel_rfl) (.cons (Go.Fw.awake5) (.cons ((Go.Fw.VRaw_t (u)).eqB h1) .nil))
end Go.Fw
open Go
namespace Go.Fw
set_option maxRecDepth 100000
theorem through_true(x y z x' y' z' x'' y'' z'':RN):PCall P 19 [vecR x y z,vecR x' y' z',vecR x'' y'' z''] (.lit (.bool true)):=by
 have key: ∀u v w:VN,PCall P 19 [u.c,v.c,w.c] (.lit (.bool true)):=by
  intro u v w
  cases h1:u.raw 10
  · exact lw19_p5 u v w h1
  · cases h2:v.raw 10
    · exact lw19_p4 u v w h1 h2
    · cases h3:w.raw 10
      · exact lw19_p3 u v w h1 h2 h3
      · have r1:=VN.raw_mono h1 (show 10≤20 by decide)
        have r2:=VN.raw_mono h2 (show 10≤20 by decide)
        have r3:=VN.raw_mono h3 (show 10≤20 by decide)
        refine(lw19_p1 u v w h1 h2 h3 ?_ r1 r2 r3 r1 r2 r3).eqB (beq_self_eq_true _)
        rw[rnB_iff.2 rfl,rnB_iff.2 rfl,rnB_iff.2 rfl,rnB_iff.2 rfl];rfl
 exact key ⟨x,y,z⟩ ⟨x',y',z'⟩ ⟨x'',y'',z''⟩
end Go.Fw
open Go Go.Proofs Go.Proofs.YtcafjpldfnegiaaGreatDoor
namespace Go.Fw
set_option maxRecDepth 100000
def RN.v(x:RN):List Value:=[.bool x.b0,.string x.s0,.bool x.b1,.string x.s1,.bool x.b2,.string x.s2,.bool x.b3,.string x.s3,.bool x.b4,.string x.s4]
abbrev vecK:List CT:=[.b,.s,.b,.s,.b,.s,.b,.s,.b,.s,.b,.s,.b,.s,.b,.s,.b,.s,.b,.s,.b,.s,.b,.s,.b,.s,.b,.s,.b,.s]
theorem num_open{ts:List CT}{l:List Value}(h:CTs (.b:: .s:: .b:: .s:: .b:: .s:: .b:: .s:: .b:: .s::ts) l): ∃(x:RN) (m:List Value),l=x.v++m∧CTs ts m:=by
 simp only[CTs,CT.ok]at h
 obtain⟨_,_,rfl,⟨b0,rfl⟩,_,_,rfl,⟨s0,rfl⟩,_,_,rfl,⟨b1,rfl⟩,_,_,rfl,⟨s1,rfl⟩,_,_,rfl,⟨b2,rfl⟩,_,_,rfl,⟨s2,rfl⟩,_,_,rfl,⟨b3,rfl⟩,_,_,rfl,⟨s3,rfl⟩,_,_,rfl,⟨b4,rfl⟩,_,m,rfl,⟨s4,rfl⟩,hm⟩:=h
 exact⟨⟨b0,s0,b1,s1,b2,s2,b3,s3,b4,s4⟩,m,rfl,hm⟩
theorem vec_open{ts:List CT}{l:List Value}(h:CTs (vecK++ts) l): ∃(x y z:RN) (m:List Value),l=x.v++(y.v++(z.v++m))∧CTs ts m:=by
 obtain⟨x,m1,rfl,h1⟩:=num_open h
 obtain⟨y,m2,rfl,h2⟩:=num_open h1
 obtain⟨z,m3,rfl,h3⟩:=num_open h2
 exact⟨x,y,z,m3,rfl,h3⟩
theorem vec_open'{l:List Value}(h:CTs vecK l): ∃x y z:RN,l=x.v++(y.v++z.v):=by
 obtain⟨x,y,z,m,rfl,h4⟩:=vec_open (ts:=[]) h
 obtain rfl:m=[]:=h4
 exact⟨x,y,z,by simp⟩
theorem vecT:flatTy Tryz.prog 8 51=some vecK:=by kernel_rfl
theorem rep_vec(I:Imm)(x y z:RN):CV.rep I (vecR x y z) (.agg (x.v++(y.v++z.v)).toArray):=rep_agg I (x.v++(y.v++z.v))
end Go.Fw
open Go Go.Proofs Go.Proofs.YtcafjpldfnegiaaGreatDoor
namespace Go.Fw
open Go.ChangeShapes Go.WideShapes Go.ChangeAt Go.RowKit
set_option maxRecDepth 100000
theorem lawCall19 {H : Type} {enc : TypeId × Value → H} (W : World) (base : Nat) (args : Array Value) (ds gs : List (DataW H)) (before : List MemPlace)
    (hval: ∀(j:Nat) t v,Tryz.f19.params[j]?=some t→args[j]?=some v→Value.okWide Tryz.prog W .any base t v)
    (hW:DataW.Whole enc Tryz.prog Tryz.f19.params.toList Rows.planeThroughSpec.vars false W args.toList ds gs before):
    Calls Tryz.prog 19 args W fun e W'=>e= .returned (.bool true)∧Below W.heap.size W W':=by
 obtain⟨p,q,hA,hV,_,_,_⟩:=hW
 rw[Tryz.params19]at hA hval
 obtain⟨v0,vs0,d0,ds0,p0,q0,ha0,hd0,_,h0,r0⟩:=trodAll_cons hA
 obtain⟨v1,vs1,d1,ds1,p1,q1,ha1,hd1,_,h1,r1⟩:=trodAll_cons r0
 obtain⟨v2,vs2,d2,ds2,p2,q2,ha2,hd2,_,h2,r2⟩:=trodAll_cons r1
 obtain⟨hz,hzd,_⟩:=trodAll_nil r2
 subst hz ha2 ha1
 obtain rfl:args= #[v0,v1,v2]:=by cases args;simp_all
 obtain⟨cs0,rfl,hc0⟩:=open_flat 8 vecT (by kernel_rfl) (hval 0 51 v0 rfl rfl) h0
 obtain⟨x0,y0,z0,rfl⟩:=vec_open' hc0
 obtain⟨cs1,rfl,hc1⟩:=open_flat 8 vecT (by kernel_rfl) (hval 1 51 v1 rfl rfl) h1
 obtain⟨x1,y1,z1,rfl⟩:=vec_open' hc1
 obtain⟨cs2,rfl,hc2⟩:=open_flat 8 vecT (by kernel_rfl) (hval 2 51 v2 rfl rfl) h2
 obtain⟨x2,y2,z2,rfl⟩:=vec_open' hc2
 exact law_call (through_true x0 y0 z0 x1 y1 z1 x2 y2 z2) ⟨_,_,rfl,rep_vec _ _ _ _,⟨_,_,rfl,rep_vec _ _ _ _,⟨_,_,rfl,rep_vec _ _ _ _,rfl⟩⟩⟩
end Go.Fw
