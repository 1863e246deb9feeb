/- A part of the proof that the law returns true for every input: an executor for the model's code, and what functions of the program compute. -/
import Derived.Test.YtcafjpldfnegiaaDoorB11
import Derived.Test.YtcafjpldfnegiaaDoorB15
import Derived.Test.YtcafjpldfnegiaaDoorB27
import Derived.KernelRfl
import Derived.Maps.Range
import Derived.WideMake
import Derived.Tactics
import Derived.Tactics2
import Derived.Laws.Sem
open Go IntKind
namespace Go.Fw
set_option maxRecDepth 100000
theorem zdG(x:K)(a:Smk x):PCall P 42 [Z1 x] (.agg [.lit (.bool (decide (-x.c0<0))),.lit (.string (bytesOf (-x.c0).natAbs)),.lit (.bool (decide (-x.c1<0))),.lit (.string (bytesOf (-x.c1).natAbs)),.lit (.bool (decide (-x.c2<0))),.lit (.string (bytesOf (-x.c2).natAbs)),.lit (.bool (decide (-x.c3<0))),.lit (.string (bytesOf (-x.c3).natAbs)),.lit (.bool (decide (x.d<0))),.lit (.string (bytesOf x.d.natAbs))]):=
 j3 (.r 3 (X3 x a) (.c (bq 0 4) (.r 17 (z03 x.c0) (.c (bq 0 4) (.c (lq 2 10) (.c (bq 1 4) (.r 33 (z03 x.c1) (.c (bq 1 4) (.c (lq 4 10) (.c (bq 2 4) (.r 49 (z03 x.c2) (.c (bq 2 4) (.c (lq 6 10) (.c (bq 3 4) (.r 65 (z03 x.c3) (.c (bq 3 4) (.c (lq 8 10) (.c (lq 10 10) .nil)))))))))))))))))) (by kernel_rfl)
theorem zee(x y:K)(a:Smk x)(e:Smk y)(f:SmlZ x.c0)(g:SmlZ y.d)(i:Sml (x.c0.natAbs*y.d.natAbs))(j:SmlZ y.c0)(k:SmlZ x.d)(l:Sml (y.c0.natAbs*x.d.natAbs))(m:SmlZ (x.c0*y.d))(n:SmlZ (y.c0*x.d))(o:Sml ((x.c0*y.d).natAbs+(y.c0*x.d).natAbs))(p:SmlZ x.c1)(q:SmlZ y.d)(s:Sml (x.c1.natAbs*y.d.natAbs))(t:SmlZ y.c1)(u:SmlZ x.d)(v:Sml (y.c1.natAbs*x.d.natAbs))(w:SmlZ (x.c1*y.d))(z:SmlZ (y.c1*x.d))(a0:Sml ((x.c1*y.d).natAbs+(y.c1*x.d).natAbs))(a1:SmlZ x.c2)(a2:SmlZ y.d)(a3:Sml (x.c2.natAbs*y.d.natAbs))(a4:SmlZ y.c2)(a5:SmlZ x.d)(a6:Sml (y.c2.natAbs*x.d.natAbs))(a7:SmlZ (x.c2*y.d))(a8:SmlZ (y.c2*x.d))(a9:Sml ((x.c2*y.d).natAbs+(y.c2*x.d).natAbs))(aa:SmlZ x.c3)(ab:SmlZ y.d)(ac:Sml (x.c3.natAbs*y.d.natAbs))(ad:SmlZ y.c3)(ae:SmlZ x.d)(af:Sml (y.c3.natAbs*x.d.natAbs))(ag:SmlZ (x.c3*y.d))(ah:SmlZ (y.c3*x.d))(ai:Sml ((x.c3*y.d).natAbs+(y.c3*x.d).natAbs))(aj:SmlZ x.d)(ak:SmlZ y.d)(al:Sml (x.d.natAbs*y.d.natAbs))(am:SmlZ (x.c0*y.d+y.c0*x.d))(an:SmlZ (x.c1*y.d+y.c1*x.d))(ao:SmlZ (x.c2*y.d+y.c2*x.d))(ap:SmlZ (x.c3*y.d+y.c3*x.d))(aq:SmlZ (x.d*y.d))(ar:x.d*y.d≠0):PCall P 21 [Z1 x,Z1 y] (.agg [.lit (.bool (decide ((K.of (x.c0*y.d+y.c0*x.d) (x.c1*y.d+y.c1*x.d) (x.c2*y.d+y.c2*x.d) (x.c3*y.d+y.c3*x.d) (x.d*y.d)).c0<0))),.lit (.string (bytesOf (K.of (x.c0*y.d+y.c0*x.d) (x.c1*y.d+y.c1*x.d) (x.c2*y.d+y.c2*x.d) (x.c3*y.d+y.c3*x.d) (x.d*y.d)).c0.natAbs)),.lit (.bool (decide ((K.of (x.c0*y.d+y.c0*x.d) (x.c1*y.d+y.c1*x.d) (x.c2*y.d+y.c2*x.d) (x.c3*y.d+y.c3*x.d) (x.d*y.d)).c1<0))),.lit (.string (bytesOf (K.of (x.c0*y.d+y.c0*x.d) (x.c1*y.d+y.c1*x.d) (x.c2*y.d+y.c2*x.d) (x.c3*y.d+y.c3*x.d) (x.d*y.d)).c1.natAbs)),.lit (.bool (decide ((K.of (x.c0*y.d+y.c0*x.d) (x.c1*y.d+y.c1*x.d) (x.c2*y.d+y.c2*x.d) (x.c3*y.d+y.c3*x.d) (x.d*y.d)).c2<0))),.lit (.string (bytesOf (K.of (x.c0*y.d+y.c0*x.d) (x.c1*y.d+y.c1*x.d) (x.c2*y.d+y.c2*x.d) (x.c3*y.d+y.c3*x.d) (x.d*y.d)).c2.natAbs)),.lit (.bool (decide ((K.of (x.c0*y.d+y.c0*x.d) (x.c1*y.d+y.c1*x.d) (x.c2*y.d+y.c2*x.d) (x.c3*y.d+y.c3*x.d) (x.d*y.d)).c3<0))),.lit (.string (bytesOf (K.of (x.c0*y.d+y.c0*x.d) (x.c1*y.d+y.c1*x.d) (x.c2*y.d+y.c2*x.d) (x.c3*y.d+y.c3*x.d) (x.d*y.d)).c3.natAbs)),.lit (.bool (decide ((K.of (x.c0*y.d+y.c0*x.d) (x.c1*y.d+y.c1*x.d) (x.c2*y.d+y.c2*x.d) (x.c3*y.d+y.c3*x.d) (x.d*y.d)).d<0))),.lit (.string (bytesOf (K.of (x.c0*y.d+y.c0*x.d) (x.c1*y.d+y.c1*x.d) (x.c2*y.d+y.c2*x.d) (x.c3*y.d+y.c3*x.d) (x.d*y.d)).d.natAbs))]):=
 j3 (.r 4 (X3 x a) (.r 8 (X3 y e) (.c (bq 0 4) (.r 26 (W1 x.c0 y.d f g i) (.c (bq 0 4) (.r 33 (W1 y.c0 x.d j k l) (.r 34 (z0Q (x.c0*y.d) (y.c0*x.d) m n o) (.c (bq 0 4) (.c (lq 2 8) (.c (bq 1 4) (.r 51 (W1 x.c1 y.d p q s) (.c (bq 1 4) (.r 58 (W1 y.c1 x.d t u v) (.r 59 (z0Q (x.c1*y.d) (y.c1*x.d) w z a0) (.c (bq 1 4) (.c (lq 4 8) (.c (bq 2 4) (.r 76 (W1 x.c2 y.d a1 a2 a3) (.c (bq 2 4) (.r 83 (W1 y.c2 x.d a4 a5 a6) (.r 84 (z0Q (x.c2*y.d) (y.c2*x.d) a7 a8 a9) (.c (bq 2 4) (.c (lq 6 8) (.c (bq 3 4) (.r 101 (W1 x.c3 y.d aa ab ac) (.c (bq 3 4) (.r 108 (W1 y.c3 x.d ad ae af) (.r 109 (z0Q (x.c3*y.d) (y.c3*x.d) ag ah ai) (.c (bq 3 4) (.c (lq 8 8) (.r 122 (W1 x.d y.d aj ak al) (.r 123 (z4Z (x.c0*y.d+y.c0*x.d) (x.c1*y.d+y.c1*x.d) (x.c2*y.d+y.c2*x.d) (x.c3*y.d+y.c3*x.d) (x.d*y.d) am an ao ap aq ar) (.c (lq 10 10) .nil))))))))))))))))))))))))))))))))) (by kernel_rfl)
theorem zcN(x y:K)(a:Smk x)(e:Smk y)(f:x.sz+y.sz+2<1073741824):PCall P 23 [Z1 x,Z1 y] (.agg [.lit (.bool (decide ((x*y).c0<0))),.lit (.string (bytesOf (x*y).c0.natAbs)),.lit (.bool (decide ((x*y).c1<0))),.lit (.string (bytesOf (x*y).c1.natAbs)),.lit (.bool (decide ((x*y).c2<0))),.lit (.string (bytesOf (x*y).c2.natAbs)),.lit (.bool (decide ((x*y).c3<0))),.lit (.string (bytesOf (x*y).c3.natAbs)),.lit (.bool (decide ((x*y).d<0))),.lit (.string (bytesOf (x*y).d.natAbs))]):=
 j3 (.r 4 (X3 x a) (.r 8 (X3 y e) (.r 14 (z0N x y f) (.c (lq 10 10) .nil)))) (by kernel_rfl)
theorem zdv(x y:K)(h1:(decide (y.c0<0)==false&&(bytesOf y.c0.natAbs==bytesOf 0&&true)&&(decide (y.c1<0)==false&&(bytesOf y.c1.natAbs==bytesOf 0&&true)&&(decide (y.c2<0)==false&&(bytesOf y.c2.natAbs==bytesOf 0&&true)&&(decide (y.c3<0)==false&&(bytesOf y.c3.natAbs==bytesOf 0&&true)&&true)))&&(decide (y.d<0)==false&&(bytesOf y.d.natAbs==bytesOf 1&&true)&&true))=true)(a:Smk x)(e:Smk y)(f:(-9223372036854775808:Int)≤0∧(0:Int)≤9223372036854775807):PCall P 17 [Z1 x,Z1 y] (.tup [.agg [.lit (.bool false),.lit (.string {data:= #[]}),.lit (.bool false),.lit (.string {data:= #[]}),.lit (.bool false),.lit (.string {data:= #[]}),.lit (.bool false),.lit (.string {data:= #[]}),.lit (.bool false),.lit (.string {data:= #[]})],.lit (.int .i64 10)]):=
 j3 (.r 5 (X3 x a) (.r 9 (X3 y e) (.r 15 (X9 (0:Int) f) (.b 18 h1 (.c (lq 10 10) .nil))))) (by kernel_rfl)
theorem zdA(x y:K)(h1:(decide (y.c0<0)==false&&(bytesOf y.c0.natAbs==bytesOf 0&&true)&&(decide (y.c1<0)==false&&(bytesOf y.c1.natAbs==bytesOf 0&&true)&&(decide (y.c2<0)==false&&(bytesOf y.c2.natAbs==bytesOf 0&&true)&&(decide (y.c3<0)==false&&(bytesOf y.c3.natAbs==bytesOf 0&&true)&&true)))&&(decide (y.d<0)==false&&(bytesOf y.d.natAbs==bytesOf 1&&true)&&true))=false)(a:Smk x)(e:Smk y)(f:(-9223372036854775808:Int)≤0∧(0:Int)≤9223372036854775807)(g:y.sz+y.conj2.sz+2<1073741824)(i:(y*y.conj2).sz+(y*y.conj2).conj1.sz+2<1073741824)(j:SmlZ (y*y.conj2*(y*y.conj2).conj1).d)(k:SmlZ (y*y.conj2*(y*y.conj2).conj1).c0)(l:(y*y.conj2*(y*y.conj2).conj1).c0≠0)(m:x.sz+y.conj2.sz+2<1073741824)(n:(y*y.conj2).conj1.sz+(K.of (y*y.conj2*(y*y.conj2).conj1).d (0:Int) (0:Int) (0:Int) (y*y.conj2*(y*y.conj2).conj1).c0).sz+2<1073741824)(o:(x*y.conj2).sz+((y*y.conj2).conj1*K.of (y*y.conj2*(y*y.conj2).conj1).d (0:Int) (0:Int) (0:Int) (y*y.conj2*(y*y.conj2).conj1).c0).sz+2<1073741824):PCall P 17 [Z1 x,Z1 y] (.tup [.agg [.lit (.bool (decide ((x*y.conj2*((y*y.conj2).conj1*K.of (y*y.conj2*(y*y.conj2).conj1).d (0:Int) (0:Int) (0:Int) (y*y.conj2*(y*y.conj2).conj1).c0)).c0<0))),.lit (.string (bytesOf (x*y.conj2*((y*y.conj2).conj1*K.of (y*y.conj2*(y*y.conj2).conj1).d (0:Int) (0:Int) (0:Int) (y*y.conj2*(y*y.conj2).conj1).c0)).c0.natAbs)),.lit (.bool (decide ((x*y.conj2*((y*y.conj2).conj1*K.of (y*y.conj2*(y*y.conj2).conj1).d (0:Int) (0:Int) (0:Int) (y*y.conj2*(y*y.conj2).conj1).c0)).c1<0))),.lit (.string (bytesOf (x*y.conj2*((y*y.conj2).conj1*K.of (y*y.conj2*(y*y.conj2).conj1).d (0:Int) (0:Int) (0:Int) (y*y.conj2*(y*y.conj2).conj1).c0)).c1.natAbs)),.lit (.bool (decide ((x*y.conj2*((y*y.conj2).conj1*K.of (y*y.conj2*(y*y.conj2).conj1).d (0:Int) (0:Int) (0:Int) (y*y.conj2*(y*y.conj2).conj1).c0)).c2<0))),.lit (.string (bytesOf (x*y.conj2*((y*y.conj2).conj1*K.of (y*y.conj2*(y*y.conj2).conj1).d (0:Int) (0:Int) (0:Int) (y*y.conj2*(y*y.conj2).conj1).c0)).c2.natAbs)),.lit (.bool (decide ((x*y.conj2*((y*y.conj2).conj1*K.of (y*y.conj2*(y*y.conj2).conj1).d (0:Int) (0:Int) (0:Int) (y*y.conj2*(y*y.conj2).conj1).c0)).c3<0))),.lit (.string (bytesOf (x*y.conj2*((y*y.conj2).conj1*K.of (y*y.conj2*(y*y.conj2).conj1).d (0:Int) (0:Int) (0:Int) (y*y.conj2*(y*y.conj2).conj1).c0)).c3.natAbs)),.lit (.bool (decide ((x*y.conj2*((y*y.conj2).conj1*K.of (y*y.conj2*(y*y.conj2).conj1).d (0:Int) (0:Int) (0:Int) (y*y.conj2*(y*y.conj2).conj1).c0)).d<0))),.lit (.string (bytesOf (x*y.conj2*((y*y.conj2).conj1*K.of (y*y.conj2*(y*y.conj2).conj1).d (0:Int) (0:Int) (0:Int) (y*y.conj2*(y*y.conj2).conj1).c0)).d.natAbs))],.lit (.int .i64 0)]):=
 j3 (.r 5 (X3 x a) (.r 9 (X3 y e) (.r 15 (X9 (0:Int) f) (.b 18 h1 (.r 20 (zaq y) (.c (lq 10 10) (.r 25 (z0N y y.conj2 g) (.c (lq 10 10) (.r 29 (zbi (y*y.conj2)) (.c (lq 10 10) (.r 34 (z0N (y*y.conj2) ((y*y.conj2).conj1) i) (.c (lq 10 10) (.c (bq 0 4) (.r 43 (zcw ((y*y.conj2*(y*y.conj2).conj1).d) ((y*y.conj2*(y*y.conj2).conj1).c0) j k l) (.c (lq 10 10) (.r 48 (z0N x y.conj2 m) (.r 51 (z0N ((y*y.conj2).conj1) (K.of (y*y.conj2*(y*y.conj2).conj1).d (0:Int) (0:Int) (0:Int) (y*y.conj2*(y*y.conj2).conj1).c0) n) (.r 52 (z0N (x*y.conj2) ((y*y.conj2).conj1*K.of (y*y.conj2*(y*y.conj2).conj1).d (0:Int) (0:Int) (0:Int) (y*y.conj2*(y*y.conj2).conj1).c0) o) (.c (lq 10 10) .nil))))))))))))))))))) (by kernel_rfl)
theorem zaQ(z:Int):(decide (z<0)==false&&(bytesOf z.natAbs==bytesOf 0&&true))=decide (z=0):=by
 rw[z23,Bool.and_true]
 by_cases h:z=0
 · subst h;rfl
 · rw[decide_eq_false (p:=z.natAbs=0) (by omega),decide_eq_false h,Bool.and_false]
theorem zgN(z:Int):(decide (z<0)==false&&(bytesOf z.natAbs==bytesOf 1&&true))=decide (z=1):=by
 rw[z23,Bool.and_true]
 by_cases h:z=1
 · subst h;rfl
 · rw[decide_eq_false h]
   by_cases h2:z<0
   · rw[decide_eq_true h2];rfl
   · rw[decide_eq_false (p:=z.natAbs=1) (by omega),Bool.and_false]
def eqK(x y:K):Bool:=decide (x.c0=y.c0)&&(decide (x.c1=y.c1)&&(decide (x.c2=y.c2)&&(decide (x.c3=y.c3)&&true)))&&(decide (x.d=y.d)&&true)
theorem zfW(x y:K):eqK x y=decide (x=y):=by
 unfold eqK
 by_cases h:x=y
 · subst h;simp
 · rw[decide_eq_false h]
   have: ¬(x.c0=y.c0∧x.c1=y.c1∧x.c2=y.c2∧x.c3=y.c3∧x.d=y.d):=fun e=>h (K.ext e.1 e.2.1 e.2.2.1 e.2.2.2.1 e.2.2.2.2)
   simp only[Bool.and_true,Bool.and_eq_false_iff,decide_eq_false_iff_not]
   by_cases a:x.c0=y.c0<;>by_cases b:x.c1=y.c1<;>by_cases c:x.c2=y.c2<;>by_cases d:x.c3=y.c3<;>by_cases e:x.d=y.d<;>simp_all
theorem z8T(x:K)(h:Smk x):PCall P 42 [Z1 x] (Z1 (-x)):=zdG x h
theorem z4K(x y:K)(h:x.sz+y.sz+2<1073741824):PCall P 23 [Z1 x,Z1 y] (Z1 (x*y)):=zcN x y (by simp only[Smk];omega) (by simp only[Smk];omega) h
theorem z4w(x y:K)(h:x.sz+y.sz+2<1073741824):PCall P 21 [Z1 x,Z1 y] (Z1 (x+y)):=by
 obtain⟨a0,a1,a2,a3,ad⟩:=SmlZ.sz (x:=x) (by omega)
 obtain⟨b0,b1,b2,b3,bd⟩:=SmlZ.sz (x:=y) (by omega)
 obtain⟨x0,x1,x2,x3,xd⟩:=K.sz_lt x
 obtain⟨y0,y1,y2,y3,yd⟩:=K.sz_lt y
 have hw:256^(x.sz+y.sz+1)=256*256^(x.sz+y.sz):=by rw[Nat.pow_succ,Nat.mul_comm]
 have m1: ∀c:Int,c.natAbs<256^x.sz→(c*y.d).natAbs<256^(x.sz+y.sz):=fun c hc=>by rw[Int.natAbs_mul];exact K.mul_lt_pow hc yd
 have m2: ∀c:Int,c.natAbs<256^y.sz→(c*x.d).natAbs<256^(x.sz+y.sz):=fun c hc=>by rw[Int.natAbs_mul,Nat.add_comm];exact K.mul_lt_pow hc xd
 have s1: ∀c:Int,c.natAbs<256^x.sz→SmlZ (c*y.d):=fun c hc=>Sml.of_lt (m1 c hc) (by omega)
 have s2: ∀c:Int,c.natAbs<256^y.sz→SmlZ (c*x.d):=fun c hc=>Sml.of_lt (m2 c hc) (by omega)
 have t1: ∀c:Int,c.natAbs<256^x.sz→Sml (c.natAbs*y.d.natAbs):=fun c hc=>by rw[←Int.natAbs_mul];exact s1 c hc
 have t2: ∀c:Int,c.natAbs<256^y.sz→Sml (c.natAbs*x.d.natAbs):=fun c hc=>by rw[←Int.natAbs_mul];exact s2 c hc
 have u: ∀c c':Int,c.natAbs<256^x.sz→c'.natAbs<256^y.sz→Sml ((c*y.d).natAbs+(c'*x.d).natAbs):=fun c c' hc hc'=>Sml.of_lt (k:=x.sz+y.sz+1) (by have:=m1 c hc;have:=m2 c' hc';omega) (by omega)
 have v: ∀c c':Int,c.natAbs<256^x.sz→c'.natAbs<256^y.sz→SmlZ (c*y.d+c'*x.d):=fun c c' hc hc'=>(u c c' hc hc').mono (Int.natAbs_add_le _ _)
 exact zee x y (by simp only[Smk];omega) (by simp only[Smk];omega) a0 bd (t1 _ x0) b0 ad (t2 _ y0) (s1 _ x0) (s2 _ y0) (u _ _ x0 y0) a1 bd (t1 _ x1) b1 ad (t2 _ y1) (s1 _ x1) (s2 _ y1) (u _ _ x1 y1)
  a2 bd (t1 _ x2) b2 ad (t2 _ y2) (s1 _ x2) (s2 _ y2) (u _ _ x2 y2) a3 bd (t1 _ x3) b3 ad (t2 _ y3) (s1 _ x3) (s2 _ y3) (u _ _ x3 y3) ad bd (t1 _ xd) (v _ _ x0 y0) (v _ _ x1 y1) (v _ _ x2 y2) (v _ _ x3 y3) (s1 _ xd) (Int.mul_ne_zero x.d_ne y.d_ne)
theorem z5H(y:K):(decide (y.c0<(0:Int))==false&&(bytesOf y.c0.natAbs==bytesOf 0&&true)&&(decide (y.c1<(0:Int))==false&&(bytesOf y.c1.natAbs==bytesOf 0&&true)&&(decide (y.c2<(0:Int))==false&&(bytesOf y.c2.natAbs==bytesOf 0&&true)&&(decide (y.c3<(0:Int))==false&&(bytesOf y.c3.natAbs==bytesOf 0&&true)&&true)))&&(decide (y.d<(0:Int))==false&&(bytesOf y.d.natAbs==bytesOf 1&&true)&&true))=decide (y=0):=by
 rw[zaQ,zaQ,zaQ,zaQ,zgN,←zfW];rfl
theorem zbH(x y:K)(hy:y≠0)(h:x.sz+7*y.sz+20<1073741824):PCall P 17 [Z1 x,Z1 y] (.tup [Z1 (K.div x y),J1 0]):=by
 have h1:=K.sz_mul y (K.conj2 y)
 rw[K.sz_conj2]at h1
 have h2:=K.sz_mul x (K.conj2 y)
 rw[K.sz_conj2]at h2
 have h3:=K.sz_mul (K.conj1 (y*K.conj2 y)) (K.of (K.nrm y).d 0 0 0 (K.nrm y).c0)
 rw[K.sz_conj1]at h3
 have h4:=K.sz_inv y
 have h5:=K.sz_nrm y
 obtain⟨n0,n1,n2,n3,nd⟩:=SmlZ.sz (x:=K.nrm y) (by omega)
 exact zdA x y (by rw[z5H];simpa using hy) (by simp only[Smk];omega) (by simp only[Smk];omega) (by decide) (by rw[K.sz_conj2];omega) (by rw[K.sz_conj1];omega) nd n0 (K.nrm_ne hy) (by rw[K.sz_conj2];omega)
  (by rw[K.sz_conj1];show _+K.sz (K.of (K.nrm y).d 0 0 0 (K.nrm y).c0)+2<_;omega) (by show _+K.sz (_*K.of (K.nrm y).d 0 0 0 (K.nrm y).c0)+2<_;omega)
theorem zfP(x:K)(hx:Smk x):PCall P 17 [Z1 x,Z1 0] (.tup [n5C 0 0 0 0 0,J1 10]):=zdv x 0 (by rw[z5H];rfl) hx (by decide) (by decide)
end Go.Fw
namespace Go.Fw.K
def r2:K:=⟨0,1,0,0,1,by decide,by decide⟩
def r3:K:=⟨0,0,1,0,1,by decide,by decide⟩
def r6:K:=⟨0,0,0,1,1,by decide,by decide⟩
end Go.Fw.K
namespace Go.Fw
theorem zcP:PCall P 72 [J1 2] (Z1 K.r2):=z9V 2 rfl (by decide) (by decide)
theorem zdt:PCall P 72 [J1 3] (Z1 K.r3):=zbj 3 rfl rfl (by decide) (by decide)
theorem zdY:PCall P 72 [J1 6] (Z1 K.r6):=za5 6 rfl rfl rfl (by decide) (by decide)
open Go.ChangeMaps
set_option maxRecDepth 100000
noncomputable def U4:Code:=match(Go.Proofs.Tryd.f61).body with|some c=>c|none=> .skip
noncomputable def reg2:Code:=z6a [true,true,false,false] U4
noncomputable def reg3:Code:=z6a [true,true,false,true,true,true,false] U4
noncomputable def reg4:Code:=z6a [true,true,false,true,true,true,true,true,true,false] U4
noncomputable def zbF:Code:=z6a [true,true,false,true,true,true,true,true,true,true] U4
noncomputable def zhu:Code:=z6a [true,true,true,false] U4
noncomputable def zhx:Code:=z6a [true,true,true,true,false] U4
noncomputable def z1f:Code:= .seq reg3 (.seq (.cond (.tmp 23) .skip (.exit 0)) (.block 1 (.seq reg4 zbF)))
theorem z7z:U4= .seq (z6a [false] U4) (.seq (z6a [true,false] U4) (.seq (.seq reg2 (.block 0 (.loop z1f))) (.seq zhu (.seq zhx .ret)))):=by kernel_rfl
theorem zdR {P : Program} (w : World) (mty kt et : TypeId) (r clock : Nat) (s : Int) (val : Value) (es : Array MapEntry) (hm : P.underlying mty = some (.map kt et)) (hk : P.underlying kt = some (.int .i64)) (hb : w.heap[r]? = some (.map es clock))
    (hf:Instr.findNow (.int .i64) (.int .i64 s) es.toList 0=some none):
    (Instr.mapUpdate mty (.map (some r)) (.int .i64 s) val).run P w= .ok () {w with heap:=w.heap.setIfInBounds r (.map (es.push {key:= .int .i64 s,val:=val,born:=clock}) (clock+1))}:=by
 have hc:(Instr.checkKey false 10000 kt (.int .i64 s)).run P w= .ok () w:=MapKept.run_checkKey (k:= .int .i64 s) hk (by simp[MapKept.IsKey]) false 9999
 simp[Instr.mapUpdate,run_underlying hm,MapKept.run_getObj_map hb,hc,MapKept.run_findKey hk hf,MapKept.run_setObj_map _ hb,Result.andThen]
theorem zcW(h:Array Obj)(x y:Obj):(h.push x).setIfInBounds h.size y=h.push y:=by
 apply Array.toList_inj.1;simp
def z0A(n2 n3 n6:Int):Array MapEntry:= #[⟨.int .i64 2,.int .i64 n2,0⟩,⟨.int .i64 3,.int .i64 n3,1⟩,⟨.int .i64 6,.int .i64 n6,2⟩]
theorem z6o {P : Program} (w : World) (clock : Nat) (s : Int) (val : Value) (es : Array MapEntry) (hm : P.underlying 108 = some (.map 3 3)) (hk : P.underlying 3 = some (.int .i64))
    (hf:Instr.findNow (.int .i64) (.int .i64 s) es.toList 0=some none):
    (Instr.mapUpdate 108 (.map (some w.heap.size)) (.int .i64 s) val).run P (w.alloc (.map es clock))= .ok () (w.alloc (.map (es.push {key:= .int .i64 s,val:=val,born:=clock}) (clock+1))):=by
 rw[zdR (P:=P) _ 108 3 3 w.heap.size clock s val es hm hk (heap_alloc_new w _) hf]
 show Result.ok () ({w.alloc (.map es clock)with heap:=(w.heap.push (.map es clock)).setIfInBounds w.heap.size _}:World)=_
 rw[zcW];rfl
theorem zdV (a : Act) (w : World) (n2 n3 n6 : Int) (hz : a.tmps.size = 42) (h1 : a.tmps[1]'(by omega) = .int .i64 n2) (h2 : a.tmps[2]'(by omega) = .int .i64 n3) (h3 : a.tmps[3]'(by omega) = .int .i64 n6) :
    reg2.wp P (fun e a' w'=>e= .normal∧a'.defers=a.defers∧(∃x16 x17 x18 x19 x20,a'.tmps=((((((a.tmps.setIfInBounds 16 x16).setIfInBounds 17 x17).setIfInBounds 18 x18).setIfInBounds 19 x19).setIfInBounds 20 x20).setIfInBounds 21 (.pointer (some ⟨w.heap.size+1,0,none⟩))))∧
     w'=(w.alloc (.map (z0A n2 n3 n6) 3)).alloc (.mapIter (some w.heap.size) 3 #[] 3)) a w:=by
 have hmm:=fun t w=>run_makeMap_plain (P:=P) w t
 have hu:=Go.Proofs.Tryd.underlying108
 have hk:=Go.Proofs.Tryd.underlying3
 have hup0:=fun(w:World) (val:Value)=>z6o (P:=P) w 0 2 val #[] hu hk rfl
 have hup1:=fun(w:World) (v1 val:Value)=>z6o (P:=P) w 1 3 val #[⟨.int .i64 2,v1,0⟩] hu hk rfl
 have hup2:=fun(w:World) (v1 v2 val:Value)=>z6o (P:=P) w 2 6 val #[⟨.int .i64 2,v1,0⟩,⟨.int .i64 3,v2,1⟩] hu hk rfl
 have hrg:=fun(w:World) es=>run_range_map (P:=P) (w.alloc (.map es 3)) 108 3 3 w.heap.size es 3 hu (heap_alloc_new w _)
 unfold reg2 U4
 unfold Go.Proofs.Tryd.f61
 dsimp only[z6a]
 go_wp2
 exact⟨⟨_,_,_,_,_,rfl⟩,rfl⟩
theorem zaM (a : Act) (w : World) (r : Nat) (hz : a.tmps.size = 42) (h21 : a.tmps[21]'(by omega) = .pointer (some ⟨r, 0, none⟩))
    (hrun: ∀ty,(Instr.next (.pointer (some ⟨r,0,none⟩)) false ty).run P w= .ok (.tuple #[.bool false]) w):
    reg3.wp P (fun e a' w'=>e= .normal∧a'.defers=a.defers∧(∃x22,a'.tmps=((a.tmps.setIfInBounds 22 x22).setIfInBounds 23 (.bool false)))∧w'=w) a w:=by
 unfold reg3 U4
 unfold Go.Proofs.Tryd.f61
 dsimp only[z6a]
 go_wp2
 exact⟨_,rfl⟩
theorem zb1 (a : Act) (w w2 : World) (r : Nat) (x y : Value) (hz : a.tmps.size = 42) (h21 : a.tmps[21]'(by omega) = .pointer (some ⟨r, 0, none⟩))
    (hrun: ∀ty,(Instr.next (.pointer (some ⟨r,0,none⟩)) false ty).run P w= .ok (.tuple #[.bool true,x,y]) w2):
    reg3.wp P (fun e a' w'=>e= .normal∧a'.defers=a.defers∧(∃x22,a'.tmps=((a.tmps.setIfInBounds 22 x22).setIfInBounds 23 (.bool true)))∧w'=w2) a w:=by
 unfold reg3 U4
 unfold Go.Proofs.Tryd.f61
 dsimp only[z6a]
 go_wp2
 exact⟨_,rfl⟩
theorem zc8 (a : Act) (w : World) (r : Nat) (x y : Value) (hz : a.tmps.size = 42) (h21 : a.tmps[21]'(by omega) = .pointer (some ⟨r, 0, none⟩))
    (hrun:(Instr.entry (.pointer (some ⟨r,0,none⟩))).run P w= .ok (.tuple #[x,y]) w):
    reg4.wp P (fun e a' w'=>e= .normal∧a'.defers=a.defers∧(∃x24 x25 x26,a'.tmps=(((((a.tmps.setIfInBounds 24 x24).setIfInBounds 25 x25).setIfInBounds 26 x26).setIfInBounds 12 x).setIfInBounds 13 y))∧w'=w) a w:=by
 unfold reg4 U4
 unfold Go.Proofs.Tryd.f61
 dsimp only[z6a]
 go_wp2
 exact⟨_,_,_,rfl⟩
def z6K(r:Nat):MV:= .cv (.lit (.pointer (some ⟨r,0,none⟩)))
def tmN(a n2 n3 n6 d:Int)(k v it t:MV):List MV:=
 [.cv (J1 a),.cv (J1 n2),.cv (J1 n3),.cv (J1 n6),.cv (J1 d),.unk,.unk,.unk,.unk,.unk,.ptr 0 0,.ptr 1 0,k,v,.unk,.unk,.unk,.unk,.unk,.unk,.unk,it,.unk,t,
  .unk,.unk,.unk,.unk,.unk,.unk,.unk,.unk,.unk,.unk,.unk,.unk,.unk,.unk,.unk,.unk,.unk,.unk]
def ZN:List MV:=(List.replicate 5 [MV.cv (.lit (.bool false)),MV.cv (.lit (.string ⟨#[]⟩))]).flatten
noncomputable def hpN(acc:K):List Blk:=[some ZN,some (MV.cv (Z1 acc)).cells]
theorem z3d{I:Imm}{p:Pl}{tm:List MV}{a:Act}(h:MV.repL I p tm a.tmps.toList){n:Nat}(hn:tm.length=n):a.tmps.size=n∧ ∀(i:Nat) (v:Value) (hi:i<a.tmps.size),tm[i]?=some (.cv (.lit v))→a.tmps[i]=v:=by
 have hl:=MV.repL_length h
 simp only[Array.length_toList]at hl
 refine⟨by omega,fun i v hi hv=>?_⟩
 obtain⟨y,hy,hr⟩:=MV.repL_get h hv
 simp only[Array.getElem?_toList]at hy
 rw[Array.getElem?_eq_getElem hi]at hy
 cases hy
 exact J2 hr
theorem z0C{I:Imm}{p:Pl}(y:Value):MV.rep I p .unk y:=trivial
theorem z21{I:Imm}{p:Pl}(y:Value):MV.rep I p (.cv (.lit y)) y:=by simp[MV.rep,CV.rep]
theorem zhc{w w1:World}(h:w1=w∨w1=w.drew)(r:Nat)(o o':Obj)(hr:w.heap[r]?=some o'):(setBlock w1 r o).heap[r]?=some o∧(∀x,x≠r→(setBlock w1 r o).heap[x]?=w.heap[x]?)∧(setBlock w1 r o).heap.size=w.heap.size:=by
 have h1:w1.heap=w.heap:=by rcases h with h|h<;>rw[h]<;>rfl
 have h2:(setBlock w1 r o).heap=w.heap.setIfInBounds r o:=by show w1.heap.setIfInBounds r o=_;rw[h1]
 rw[h2]
 have:=MapKept.heap_set (o':=o) hr
 exact⟨this.1,this.2,Array.size_setIfInBounds⟩
theorem HRel.iter {w0 : Start} {hp : List Blk} {I : Imm} {p : Pl} {w w1 : World} (H : HRel w0 hp I p w) {r : Nat} {q : Option Nat} {s c : Nat} {n : Array Nat} (hr : w.heap[r]? = some (.mapIter q s n c)) (hw : w1 = w ∨ w1 = w.drew) (ho : w0.own r) (hp' : ∀ i κ, p i ≠ some (r, κ)) (o : Obj) :
    HRel w0 hp I p (setBlock w1 r o):=by
 obtain⟨e1,e2,e3⟩:=zhc hw r o _ hr
 refine⟨⟨?_,?_,?_,by rw[e3];exact H.below.size,fun k hk=>?_⟩,fun b cs hb=>?_,H.imf,fun i cells hi=>?_,H.inj⟩
 · rcases hw with rfl|rfl<;>exact H.below.os
 · rcases hw with rfl|rfl<;>exact H.below.tape
 · rcases hw with rfl|rfl<;>exact H.below.output
 · rw[e2 k (fun e=>hk (e ▸ ho))];exact H.below.block k hk
 · obtain⟨c',T,fz,g1,g2⟩:=H.im b cs hb
   refine⟨c',T,fz,?_,g2⟩
   rw[e2 b (fun e=>by rw[e,hr]at g1;cases g1)];exact g1
 · obtain⟨b,κ,c',T,g1,g2,g3⟩:=H.live i cells hi
   exact⟨b,κ,c',T,g1,by rw[e2 b (fun e=>hp' i κ (e ▸ g1))];exact g2,g3⟩
theorem HRel.allocO{w0:Start}{hp:List Blk}{I:Imm}{p:Pl}{w:World}(H:HRel w0 hp I p w)(o:Obj):HRel w0 hp I p (w.alloc o):=by
 refine⟨H.below.alloc o,H.im.alloc o,H.imf,fun i cells hi=>?_,H.inj⟩
 obtain⟨b,κ,c',T,g1,g2,g3⟩:=H.live i cells hi
 have hlt:b<w.heap.size:=by
  rcases Nat.lt_or_ge b w.heap.size with g|g
  · exact g
  · rw[Array.getElem?_eq_none g]at g2;cases g2
 exact⟨b,κ,c',T,g1,(heap_alloc_old w o hlt).trans g2,g3⟩
theorem zdo{w0:Start}{s:St}{I:Imm}{p:Pl}{a:Act}{w:World}(h:SRel w0 s I p a w)(hB:z2d s p)(hl:z1P s.hp=true){i b κ:Nat}(hi:p i=some (b,κ)):b<w.heap.size∧w0.own b:=by
 have hil:i<s.hp.length:=by
  rcases Nat.lt_or_ge i s.hp.length with g|g
  · exact g
  · rw[hB i g]at hi;cases hi
 obtain⟨c,hc⟩:=z0S _ i hl hil
 obtain⟨b',κ',c',T,g1,g2,_,_,g5,_⟩:=h.hp.live i c hc
 rw[g1]at hi;cases hi
 refine⟨?_,g5⟩
 rcases Nat.lt_or_ge b w.heap.size with g|g
 · exact g
 · rw[Array.getElem?_eq_none g]at g2;cases g2
theorem zdW {R : Goal} {k : List Item} {hp : List Blk} {a n2 n3 n6 d : Int} (hl : z1P hp = true)
    (h: ∀r,OkX P 61 k ⟨tmN a n2 n3 n6 d .unk .unk (z6K r) .unk,hp⟩ R (XI r (z0A n2 n3 n6) 3 #[])):Ok P 61 (.code reg2::k) ⟨tmN a n2 n3 n6 d .unk .unk .unk .unk,hp⟩ R:=by
 intro w0 I p act w b cs h1 h2 h3 h31 h32 h4 h5
 obtain⟨hz,hg⟩:=z3d h4.tm (n:=42) rfl
 obtain⟨a',w1,⟨g1,⟨x16,x17,x18,x19,x20,g2⟩,g3⟩,hst⟩:=z0T (P:=P) (b:=b) (k:=k) (cs:=cs) (zdV act w n2 n3 n6 hz (hg 1 _ (by omega) rfl) (hg 2 _ (by omega) rfl) (hg 3 _ (by omega) rfl))
 subst g3
 have htm:MV.repL I p (tmN a n2 n3 n6 d .unk .unk (z6K (w.heap.size+1)) .unk) a'.tmps.toList:=by
  rw[g2]
  simp only[Array.toList_setIfInBounds]
  exact MV.repL_set (MV.repL_set (MV.repL_set (MV.repL_set (MV.repL_set (MV.repL_set h4.tm 16 (z0C x16)) 17 (z0C x17)) 18 (z0C x18)) 19 (z0C x19)) 20 (z0C x20)) 21 (z21 _)
 have hlv:=fun {i b κ:Nat}=>zdo h4 h5 hl (i:=i) (b:=b) (κ:=κ)
 obtain⟨e,w',fr,k1,k2,k3⟩:=h (w.heap.size+1) w0 I p a' _ b cs h1 h2 h3 h31 h32 ⟨htm,by rw[g1];exact h4.defers,(h4.hp.allocO _).allocO _⟩ h5
  ⟨⟨w.heap.size, (heap_alloc_old (w.alloc (.map (z0A n2 n3 n6) 3)) _ (by show w.heap.size < (w.heap.push _).size; rw [Array.size_push]; omega)).trans (heap_alloc_new w _), by
      have:=heap_alloc_new (w.alloc (.map (z0A n2 n3 n6) 3)) (.mapIter (some w.heap.size) 3 #[] 3)
      rw[show(w.alloc (.map (z0A n2 n3 n6) 3)).heap.size=w.heap.size+1 from Array.size_push _]at this
      exact this,fun i κ hi=>absurd (hlv hi).1 (by omega)⟩,
   fun i κ hi=>absurd (hlv hi).1 (by omega),.inl (Nat.le_succ_of_le h4.hp.below.size),fun i b κ hi=>(hlv hi).2⟩
 exact⟨e,w',fr,k1,.of_steps hst k2,k3⟩
theorem z8q {k : List Item} {hp : List Blk} {a n2 n3 n6 d : Int} {r : Nat}
    (w0:Start) (I:Imm) (p:Pl) (act:Act) (w:World) (h4:SRel w0 ⟨tmN a n2 n3 n6 d .unk .unk (z6K r) .unk,hp⟩ I p act w)
    (hrun: ∀ty,(Instr.next (.pointer (some ⟨r,0,none⟩)) false ty).run P w= .ok (.tuple #[.bool false]) w) (b:Frame) (cs:List Frame):
    ∃a',SRel w0 ⟨tmN a n2 n3 n6 d .unk .unk (z6K r) (.cv (.lit (.bool false))),hp⟩ I p a' w∧Steps P (lone (b.at act (.code reg3::k)) cs w) (lone (b.at a' k) cs w):=by
 obtain⟨hz,hg⟩:=z3d h4.tm (n:=42) rfl
 obtain⟨a',w1,⟨g1,⟨x22,g2⟩,g3⟩,hst⟩:=z0T (P:=P) (b:=b) (k:=k) (cs:=cs) (zaM act w r hz (hg 21 _ (by omega) rfl) hrun)
 subst g3
 refine⟨a',⟨?_,by rw[g1];exact h4.defers,h4.hp⟩,hst⟩
 rw[g2]
 simp only[Array.toList_setIfInBounds]
 exact MV.repL_set (MV.repL_set h4.tm 22 (z0C x22)) 23 (z21 _)
theorem z8G {_R : Goal} {k : List Item} {hp : List Blk} {a n2 n3 n6 d : Int} {r : Nat} {seen : Array Nat} {es : Array MapEntry} {e : MapEntry}
    (w0:Start) (I:Imm) (p:Pl) (act:Act) (w w1:World) (h4:SRel w0 ⟨tmN a n2 n3 n6 d .unk .unk (z6K r) .unk,hp⟩ I p act w) (hX:XI r es 3 seen w0 p w) (hw:w1=w∨w1=w.drew)
    (hrun: ∀ty bm,w.heap[bm]?=some (.map es 3)→w.heap[r]?=some (.mapIter (some bm) 3 seen 3)→(Instr.next (.pointer (some ⟨r,0,none⟩)) false ty).run P w= .ok (.tuple #[.bool true,e.key,e.val]) (setBlock w1 r (.mapIter (some bm) 3 (seen.push e.born) 3))) (b:Frame) (cs:List Frame):
    ∃a' w',SRel w0 ⟨tmN a n2 n3 n6 d .unk .unk (z6K r) (.cv (.lit (.bool true))),hp⟩ I p a' w'∧XI r es 3 (seen.push e.born) w0 p w'∧Steps P (lone (b.at act (.code reg3::k)) cs w) (lone (b.at a' k) cs w'):=by
 obtain⟨hz,hg⟩:=z3d h4.tm (n:=42) rfl
 obtain⟨bm,m1,m2,m3⟩:=hX.m
 obtain⟨a',w2,⟨g1,⟨x22,g2⟩,g3⟩,hst⟩:=z0T (P:=P) (b:=b) (k:=k) (cs:=cs) (zb1 act w _ r e.key e.val hz (hg 21 _ (by omega) rfl) (fun ty=>hrun ty bm m1 m2))
 subst g3
 obtain⟨e1,e2,_⟩:=zhc hw r (.mapIter (some bm) 3 (seen.push e.born) 3) _ m2
 refine⟨a',_,⟨?_,by rw[g1];exact h4.defers,h4.hp.iter m2 hw hX.own hX.pr _⟩,⟨⟨bm,(e2 bm (fun h=>by rw[h,m2]at m1;cases m1)).trans m1,e1,m3⟩,hX.pr,hX.own,hX.ps⟩,hst⟩
 rw[g2]
 simp only[Array.toList_setIfInBounds]
 exact MV.repL_set (MV.repL_set h4.tm 22 (z0C x22)) 23 (z21 _)
theorem zce {R : Goal} {k : List Item} {hp : List Blk} {a n2 n3 n6 d : Int} {r : Nat} {seen : Array Nat} {es : Array MapEntry} {e : MapEntry} (he : e ∈ es.toList) (hn : (es.toList.map (·.born)).Nodup)
    (h:OkX P 61 k ⟨tmN a n2 n3 n6 d (.cv (.lit e.key)) (.cv (.lit e.val)) (z6K r) (.cv (.lit (.bool true))),hp⟩ R (XI r es 3 (seen.push e.born))):
    OkX P 61 (.code reg4::k) ⟨tmN a n2 n3 n6 d .unk .unk (z6K r) (.cv (.lit (.bool true))),hp⟩ R (XI r es 3 (seen.push e.born)):=by
 intro w0 I p act w b cs h1 h2 h3 h31 h32 h4 h5 h6
 obtain⟨hz,hg⟩:=z3d h4.tm (n:=42) rfl
 obtain⟨bm,m1,m2,m3⟩:=h6.m
 obtain⟨a',w2,⟨g1,⟨x24,x25,x26,g2⟩,g3⟩,hst⟩:=z0T (P:=P) (b:=b) (k:=k) (cs:=cs) (zc8 act w r e.key e.val hz (hg 21 _ (by omega) rfl) (run_entry_at w r bm 3 seen es 3 e m2 m1 he hn))
 subst g3
 have htm:MV.repL I p (tmN a n2 n3 n6 d (.cv (.lit e.key)) (.cv (.lit e.val)) (z6K r) (.cv (.lit (.bool true)))) a'.tmps.toList:=by
  rw[g2]
  simp only[Array.toList_setIfInBounds]
  exact MV.repL_set (MV.repL_set (MV.repL_set (MV.repL_set (MV.repL_set h4.tm 24 (z0C x24)) 25 (z0C x25)) 26 (z0C x26)) 12 (z21 _)) 13 (z21 _)
 obtain⟨e,w',fr,k1,k2,k3⟩:=h w0 I p a' _ b cs h1 h2 h3 h31 h32 ⟨htm,by rw[g1];exact h4.defers,h4.hp⟩ h5 h6
 exact⟨e,w',fr,k1,.of_steps hst k2,k3⟩
end Go.Fw
