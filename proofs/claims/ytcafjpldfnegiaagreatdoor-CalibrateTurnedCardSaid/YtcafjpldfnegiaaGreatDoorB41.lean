/- A part of the proof that the law returns true for every input: an executor for the model's code, and what functions of the program compute. -/
import Derived.Test.YtcafjpldfnegiaaGreatDoorB11
import Derived.Test.YtcafjpldfnegiaaGreatDoorB15
import Derived.Test.YtcafjpldfnegiaaGreatDoorB22
import Derived.Test.YtcafjpldfnegiaaGreatDoorB40
import Derived.KernelRfl
open Go
namespace Go.Fw
set_option maxRecDepth 100000
theorem z1a(z:Int):(z.sign==(0:Int))=decide (z=0):=by
 rw[Bool.eq_iff_iff,beq_iff_eq,decide_eq_true_eq]
 exact Int.sign_eq_zero_iff_zero
section
variable{X Y:Nat→Int}{p q:Nat}(hp:p+q+2<1073741824)(hX: ∀i,(X i).natAbs<256^p)(hY: ∀i,(Y i).natAbs<256^q)
include hp hX hY
theorem z4L {R : Goal} (hn : J0 R.n [0, 1, 2, 3] = true) (i j t : Nat) (hi : i < 4) (hj : j < 4) (ht : t ≤ 20) (C : Nat → Int) (hC : ∀ k, (C k).natAbs ≤ t * 6 * 256 ^ (p + q))
    (hR:Ok P 130 (loopHead P 130 1) (zdV X Y (z1F X Y i j C) i (j+1)) R):Ok P 130 (loopHead P 130 1) (zdV X Y C i j) R:=by
 have hii:(0:Int)≤(i:Int)∧(i:Int)<4:=by omega
 have hjj:(0:Int)≤(j:Int)∧(j:Int)<4:=by omega
 by_cases ha:X i=0
 · rw[z2L C (by rw[ha,Int.zero_mul])]at hR
   exact okS (zp7 X Y C i j hi hj) rfl (.cons hii (.cons (z05 _) (.cons (by rw[z1a];exact decide_eq_true ha) (.cons (z02 _) (.cons (z02 _) (.cons (z02 _) (.cons (z02 _) .nil))))))) hn hR
 · by_cases hb:Y j=0
   · rw[z2L C (by rw[hb,Int.mul_zero])]at hR
     exact okS (zoT X Y C i j hi hj) rfl (.cons hii (.cons (z05 _) (.cons (by rw[z1a];exact decide_eq_false ha) (.cons hjj (.cons (z05 _) (.cons (by rw[z1a];exact decide_eq_true hb) (.cons (z02 _) (.cons (z02 _) (.cons (z02 _) (.cons (z02 _) .nil)))))))))) hn hR
   · have hm:=z3e hX hY i j
     obtain⟨s1,s2⟩:=zcI i hi j hj
     have hw:256^(p+q+1)=256*256^(p+q):=by rw[Nat.pow_succ,Nat.mul_comm]
     have hf:(sq4 i j*(X i*Y j)).natAbs<6*256^(p+q)+1:=by
      rw[Int.natAbs_mul]
      have:(sq4 i j).natAbs≤6:=by omega
      have:=Nat.mul_le_mul this (Nat.le_of_lt hm)
      omega
     have smX:SmlZ (X i):=Sml.of_lt (hX i) (by omega)
     have smY:SmlZ (Y j):=Sml.of_lt (hY j) (by omega)
     have smM:Sml ((X i).natAbs*(Y j).natAbs):=by rw[←Int.natAbs_mul];exact Sml.of_lt hm (by omega)
     have smS:SmlZ (sq4 i j):=z1K (by omega)
     have smM':SmlZ (X i*Y j):=Sml.of_lt hm (by omega)
     have hCk:=hC (i^^^j)
     have ht6:t*6*256^(p+q)≤120*256^(p+q):=Nat.mul_le_mul_right _ (by omega)
     have hpp:0<256^(p+q):=Nat.pow_pos (by decide)
     have smF:SmlZ (sq4 i j*(X i*Y j)):=Sml.of_lt (k:=p+q+1) (by omega) (by omega)
     have smF2:Sml ((sq4 i j).natAbs*(X i*Y j).natAbs):=by rw[←Int.natAbs_mul];exact smF
     have smC:SmlZ (C (i^^^j)):=Sml.of_lt (k:=p+q+1) (by omega) (by omega)
     have smA:Sml ((C (i^^^j)).natAbs+(sq4 i j*(X i*Y j)).natAbs):=Sml.of_lt (k:=p+q+1) (by omega) (by omega)
     have hx4:i^^^j<4:=Nat.xor_lt_two_pow (n:=2) (by simpa using hi) (by simpa using hj)
     exact okS (zoX X Y C i j hi hj) rfl (.cons hii (.cons (z05 _) (.cons (by rw[z1a];exact decide_eq_false ha) (.cons hjj (.cons (z05 _) (.cons (by rw[z1a];exact decide_eq_false hb) (.cons (W7 _ (by omega)) (.cons hii (.cons hjj
      (.cons (Y0 _ _ smX smY smM) (.cons (Y0 _ _ smS smM' smF2) (.cons (Nat.le_refl _) (.cons (by omega) (.cons (z0u _ _ smC smF smA) (.cons (by omega) (.cons (by omega) (.cons (z02 _) (.cons (z02 _) (.cons (z02 _) (.cons (z02 _) .nil)))))))))))))))))))) hn hR
theorem z3z {R : Goal} (hn : J0 R.n [0, 1, 2, 3] = true) (i t : Nat) (hi : i < 4) (ht : t ≤ 16) (C : Nat → Int) (hC : ∀ k, (C k).natAbs ≤ t * 6 * 256 ^ (p + q))
    (hR:Ok P 130 (loopHead P 130 0) (zkw X Y (z1F X Y i 3 (z1F X Y i 2 (z1F X Y i 1 (z1F X Y i 0 C)))) (i+1)) R):Ok P 130 (loopHead P 130 0) (zkw X Y C i) R:=by
 have b0:=z0L hX hY i 0 t hi (by decide) C hC
 have b1:=z0L hX hY i 1 (t+1) hi (by decide) _ b0
 have b2:=z0L hX hY i 2 (t+2) hi (by decide) _ b1
 have cv: ∀C:Nat→Int,Ps [CvL (cl4 X),CvL (cl4 Y),CvL (cl4 (fun _=>0)),CvL (cl4 C)]:=fun C=> .cons (z02 _) (.cons (z02 _) (.cons (z02 _) (.cons (z02 _) .nil)))
 refine okS (zoV X Y C i hi) rfl (cv _) hn ?_
 refine z4L hp hX hY hn i 0 t hi (by decide) (by omega) C hC ?_
 refine z4L hp hX hY hn i 1 (t+1) hi (by decide) (by omega) _ b0 ?_
 refine z4L hp hX hY hn i 2 (t+2) hi (by decide) (by omega) _ b1 ?_
 refine z4L hp hX hY hn i 3 (t+3) hi (by decide) (by omega) _ b2 ?_
 exact okS (zoZ X Y _ i hi) rfl (cv _) hn hR
theorem zg1 : PCall P 130 [c4C (X 0) (X 1) (X 2) (X 3), c4C (Y 0) (Y 1) (Y 2) (Y 3)]
    (c4C (X 0*Y 0+2*X 1*Y 1+3*X 2*Y 2+6*X 3*Y 3) (X 0*Y 1+X 1*Y 0+3*X 2*Y 3+3*X 3*Y 2) (X 0*Y 2+X 2*Y 0+2*X 1*Y 3+2*X 3*Y 1) (X 0*Y 3+X 3*Y 0+X 1*Y 2+X 2*Y 1)):=by
 have c0: ∀k:Nat,((fun _=>0:Nat→Int) k).natAbs≤0*6*256^(p+q):=by intro k;simp
 have c1:=z25 hX hY 0 0 (by decide) _ c0
 have c2:=z25 hX hY 1 4 (by decide) _ c1
 have c3:=z25 hX hY 2 8 (by decide) _ c2
 refine V6 (z7z (zoU X Y) rfl (.cons (z02 _) (.cons (z02 _) (.cons (z02 _) (.cons (z02 _) .nil)))) ?_)
 refine z3z hp hX hY rfl 0 0 (by decide) (by decide) _ c0 ?_
 refine z3z hp hX hY rfl 1 4 (by decide) (by decide) _ c1 ?_
 refine z3z hp hX hY rfl 2 8 (by decide) (by decide) _ c2 ?_
 refine z3z hp hX hY rfl 3 12 (by decide) (by decide) _ c3 ?_
 generalize hC:z1F X Y 3 3 _=C at*
 have e0:C 0=X 0*Y 0+2*X 1*Y 1+3*X 2*Y 2+6*X 3*Y 3:=by
  have:C 0=0+1*(X 0*Y 0)+2*(X 1*Y 1)+3*(X 2*Y 2)+6*(X 3*Y 3):=by rw[←hC];rfl
  rw[this];grind
 have e1:C 1=X 0*Y 1+X 1*Y 0+3*X 2*Y 3+3*X 3*Y 2:=by
  have:C 1=0+1*(X 0*Y 1)+1*(X 1*Y 0)+3*(X 2*Y 3)+3*(X 3*Y 2):=by rw[←hC];rfl
  rw[this];grind
 have e2:C 2=X 0*Y 2+X 2*Y 0+2*X 1*Y 3+2*X 3*Y 1:=by
  have:C 2=0+1*(X 0*Y 2)+2*(X 1*Y 3)+1*(X 2*Y 0)+2*(X 3*Y 1):=by rw[←hC];rfl
  rw[this];grind
 have e3:C 3=X 0*Y 3+X 3*Y 0+X 1*Y 2+X 2*Y 1:=by
  have:C 3=0+1*(X 0*Y 3)+1*(X 1*Y 2)+1*(X 2*Y 1)+1*(X 3*Y 0):=by rw[←hC];rfl
  rw[this];grind
 refine okR (zpq X Y C) (.cons (Nat.le_refl _) .nil) ?_
 rw[←e0,←e1,←e2,←e3]
 rfl
end
end Go.Fw
open Go
namespace Go.Fw
set_option maxRecDepth 100000
def f4(a b c d:Int):Nat→Int
 |0=>a
 |1=>b
 |2=>c
 |_=>d
def By4(n:Nat)(a b c d:Int):Prop:=By n a∧By n b∧By n c∧By n d
theorem By4.f{n:Nat}{a b c d:Int}(h:By4 n a b c d)(i:Nat):(f4 a b c d i).natAbs<256^n:=by
 obtain⟨h0,h1,h2,h3⟩:=h
 match i with
 |0=>exact h0
 |1=>exact h1
 |2=>exact h2
 |n+3=>exact h3
theorem z9U (a0 a1 a2 a3 b0 b1 b2 b3 : Int) (hp : ∃ n, n ≤ 500000000 ∧ By4 n a0 a1 a2 a3 ∧ By4 n b0 b1 b2 b3) : PCall P 130 [c4C a0 a1 a2 a3, c4C b0 b1 b2 b3]
    (c4C (a0*b0+2*a1*b1+3*a2*b2+6*a3*b3) (a0*b1+a1*b0+3*a2*b3+3*a3*b2) (a0*b2+a2*b0+2*a1*b3+2*a3*b1) (a0*b3+a3*b0+a1*b2+a2*b1)):=by
 obtain⟨n,hn,ha,hb⟩:=hp
 exact zg1 (X:=f4 a0 a1 a2 a3) (Y:=f4 b0 b1 b2 b3) (p:=n) (q:=n) (by omega) ha.f hb.f
end Go.Fw
open Go IntKind
namespace Go.Fw
set_option maxRecDepth 100000
theorem zlA(x y:K)(g1:z7I x=false)(s4_0:x.sz≤1000000)(s8_0:y.sz≤1000000)(s26_0: ∃n,n≤500000000∧By4 n x.c0 x.c1 x.c2 x.c3∧By4 n y.c0 y.c1 y.c2 y.c3)(s31_0:Sml x.d.natAbs)(s31_1:Sml y.d.natAbs)(s31_2:Sml (x.d.natAbs*y.d.natAbs))(s32_0:x.d*y.d≠0)(s32_1:SmlZ (x.c0*y.c0+2*x.c1*y.c1+3*x.c2*y.c2+6*x.c3*y.c3))(s32_2:SmlZ (x.c0*y.c1+x.c1*y.c0+3*x.c2*y.c3+3*x.c3*y.c2))(s32_3:SmlZ (x.c0*y.c2+x.c2*y.c0+2*x.c1*y.c3+2*x.c3*y.c1))(s32_4:SmlZ (x.c0*y.c3+x.c3*y.c0+x.c1*y.c2+x.c2*y.c1))(s32_5:SmlZ (x.d*y.d)):PCall P 38 [Q9 x,Q9 y] (Q9 (K.of (x.c0*y.c0+2*x.c1*y.c1+3*x.c2*y.c2+6*x.c3*y.c3) (x.c0*y.c1+x.c1*y.c0+3*x.c2*y.c3+3*x.c3*y.c2) (x.c0*y.c2+x.c2*y.c0+2*x.c1*y.c3+2*x.c3*y.c1) (x.c0*y.c3+x.c3*y.c0+x.c1*y.c2+x.c2*y.c1) (x.d*y.d))):=
 j6 (.r 4 (z3D (x) s4_0) (.r 8 (z3D (y) s8_0) (.r 13 (z4l (x)) (.c (lq 5 5) (.b 21 g1 (.r 26 (z9U (x.c0) (x.c1) (x.c2) (x.c3) (y.c0) (y.c1) (y.c2) (y.c3) s26_0) (.r 31 (Y0 (x.d) (y.d) s31_0 s31_1 s31_2) (.r 32 (z9y (x.c0*y.c0+2*x.c1*y.c1+3*x.c2*y.c2+6*x.c3*y.c3) (x.c0*y.c1+x.c1*y.c0+3*x.c2*y.c3+3*x.c3*y.c2) (x.c0*y.c2+x.c2*y.c0+2*x.c1*y.c3+2*x.c3*y.c1) (x.c0*y.c3+x.c3*y.c0+x.c1*y.c2+x.c2*y.c1) (x.d*y.d) s32_0 s32_1 s32_2 s32_3 s32_4 s32_5) (.c (lq 10 10) .nil))))))))) (by kernel_rfl)
theorem zoG(x y:K)(g1:z7I x=true)(g2:z7I y=false)(s4_0:x.sz≤1000000)(s8_0:y.sz≤1000000)(s36_0: ∃n,n≤500000000∧By4 n x.c0 x.c1 x.c2 x.c3∧By4 n y.c0 y.c1 y.c2 y.c3)(s41_0:Sml x.d.natAbs)(s41_1:Sml y.d.natAbs)(s41_2:Sml (x.d.natAbs*y.d.natAbs))(s42_0:x.d*y.d≠0)(s42_1:SmlZ (x.c0*y.c0+2*x.c1*y.c1+3*x.c2*y.c2+6*x.c3*y.c3))(s42_2:SmlZ (x.c0*y.c1+x.c1*y.c0+3*x.c2*y.c3+3*x.c3*y.c2))(s42_3:SmlZ (x.c0*y.c2+x.c2*y.c0+2*x.c1*y.c3+2*x.c3*y.c1))(s42_4:SmlZ (x.c0*y.c3+x.c3*y.c0+x.c1*y.c2+x.c2*y.c1))(s42_5:SmlZ (x.d*y.d)):PCall P 38 [Q9 x,Q9 y] (Q9 (K.of (x.c0*y.c0+2*x.c1*y.c1+3*x.c2*y.c2+6*x.c3*y.c3) (x.c0*y.c1+x.c1*y.c0+3*x.c2*y.c3+3*x.c3*y.c2) (x.c0*y.c2+x.c2*y.c0+2*x.c1*y.c3+2*x.c3*y.c1) (x.c0*y.c3+x.c3*y.c0+x.c1*y.c2+x.c2*y.c1) (x.d*y.d))):=
 j6 (.r 4 (z3D (x) s4_0) (.r 8 (z3D (y) s8_0) (.r 13 (z4l (x)) (.c (lq 5 5) (.b 21 g1 (.r 23 (z4l (y)) (.c (lq 5 5) (.b 31 g2 (.r 36 (z9U (x.c0) (x.c1) (x.c2) (x.c3) (y.c0) (y.c1) (y.c2) (y.c3) s36_0) (.r 41 (Y0 (x.d) (y.d) s41_0 s41_1 s41_2) (.r 42 (z9y (x.c0*y.c0+2*x.c1*y.c1+3*x.c2*y.c2+6*x.c3*y.c3) (x.c0*y.c1+x.c1*y.c0+3*x.c2*y.c3+3*x.c3*y.c2) (x.c0*y.c2+x.c2*y.c0+2*x.c1*y.c3+2*x.c3*y.c1) (x.c0*y.c3+x.c3*y.c0+x.c1*y.c2+x.c2*y.c1) (x.d*y.d) s42_0 s42_1 s42_2 s42_3 s42_4 s42_5) (.c (lq 10 10) .nil)))))))))))) (by kernel_rfl)
end Go.Fw
open Go
namespace Go.Fw
set_option maxRecDepth 100000
theorem zfv {n : Nat} (hn : n + n + 1 < 1073741824) {a0 a1 a2 a3 b0 b1 b2 b3 : Int} (ha : By4 n a0 a1 a2 a3) (hb : By4 n b0 b1 b2 b3) :
    SmlZ (a0*b0+2*a1*b1+3*a2*b2+6*a3*b3)∧SmlZ (a0*b1+a1*b0+3*a2*b3+3*a3*b2)∧SmlZ (a0*b2+a2*b0+2*a1*b3+2*a3*b1)∧SmlZ (a0*b3+a3*b0+a1*b2+a2*b1):=by
 obtain⟨x0,x1,x2,x3⟩:=ha
 obtain⟨y0,y1,y2,y3⟩:=hb
 have c:=fun(k a b:Int)=>Int.mul_assoc k a b
 have key: ∀{a b:Int},By n a→By n b→(a*b).natAbs<256^(n+n):=fun ha hb=>ha.mul hb
 obtain⟨M,hM⟩: ∃M,M=256^(n+n):=⟨_,rfl⟩
 have fin: ∀z:Int,z.natAbs<256*M→SmlZ z:=fun z hz=>Sml.of_lt (k:=n+n+1) (by rw[Nat.pow_succ,←hM,Nat.mul_comm];exact hz) hn
 refine⟨fin _ ?_,fin _ ?_,fin _ ?_,fin _ ?_⟩
 · have h1:=key x0 y0;have h2:=key x1 y1;have h3:=key x2 y2;have h4:=key x3 y3
   rw[←hM]at h1 h2 h3 h4
   rw[c,c,c];omega
 · have h1:=key x0 y1;have h2:=key x1 y0;have h3:=key x2 y3;have h4:=key x3 y2
   rw[←hM]at h1 h2 h3 h4
   rw[c,c];omega
 · have h1:=key x0 y2;have h2:=key x2 y0;have h3:=key x1 y3;have h4:=key x3 y1
   rw[←hM]at h1 h2 h3 h4
   rw[c,c];omega
 · have h1:=key x0 y3;have h2:=key x3 y0;have h3:=key x1 y2;have h4:=key x2 y1
   rw[←hM]at h1 h2 h3 h4
   omega
theorem zad(x y:K)(hx:x.sz≤1000000)(hy:y.sz≤1000000):PCall P 38 [Q9 x,Q9 y] (Q9 (x*y)):=by
 have hxs:=hx
 have hys:=hy
 obtain⟨x0,x1,x2,x3,xd⟩:=By.of_sz hx
 obtain⟨y0,y1,y2,y3,yd⟩:=By.of_sz hy
 have L:(1000000:Nat)<1073741824:=by decide
 have L2:(1000000:Nat)+1000000<1073741824:=by decide
 have hb:By4 1000000 x.c0 x.c1 x.c2 x.c3:=⟨x0,x1,x2,x3⟩
 have hb':By4 1000000 y.c0 y.c1 y.c2 y.c3:=⟨y0,y1,y2,y3⟩
 obtain⟨s0,s1,s2,s3⟩:=zfv (by decide) hb hb'
 have hex: ∃n,n≤500000000∧By4 n x.c0 x.c1 x.c2 x.c3∧By4 n y.c0 y.c1 y.c2 y.c3:=⟨1000000,by decide,hb,hb'⟩
 have dn:x.d*y.d≠0:=Int.mul_ne_zero x.d_ne y.d_ne
 cases h1:z7I x
 · exact zlA x y h1 hxs hys hex (xd.sml L) (yd.sml L) (xd.sm2 yd L2) dn s0 s1 s2 s3 ((xd.mul yd).sml L2)
 · cases h2:z7I y
   · exact zoG x y h1 h2 hxs hys hex (xd.sml L) (yd.sml L) (xd.sm2 yd L2) dn s0 s1 s2 s3 ((xd.mul yd).sml L2)
   · exact zkN x y (z3t h1) (z3t h2)
theorem zme(x y:K)(hx:x.sz≤1000000)(hy:y.sz≤1000000):PCall P 39 [Q9 x,Q9 y] (Q9 (x-y)):=zmd x y hy hx (by rw[K.sz_neg];exact hy)
end Go.Fw
open Go IntKind
namespace Go.Fw
set_option maxRecDepth 100000
theorem ziG(x y:K)(s5_0:Smk y)(s6_0:x.sz+(-y).sz+2<1073741824):PCall P 135 [Q9 x,Q9 y] (Q9 (x+ -y)):=
 j6 (.r 5 (zc7 (y) s5_0) (.r 6 (z6q (x) (-y) s6_0) (.c (lq 10 10) .nil))) (by kernel_rfl)
end Go.Fw
open Go
namespace Go.Fw
theorem zmq(x y:K)(h:x.sz+y.sz+2<1073741824):PCall P 135 [Q9 x,Q9 y] (Q9 (x-y)):=ziG x y (by simp only[Smk];omega) (by rw[K.sz_neg];exact h)
end Go.Fw
open Go
namespace Go.Fw
set_option maxRecDepth 100000
theorem z9H{x:K}(h:zkx x=true):x.sz≤1:=by
 simp only[zkx,Bool.and_eq_true,decide_eq_true_eq]at h
 rw[K.sz_le]
 exact⟨h.1.1.1.1,h.1.1.1.2,h.1.1.2,h.1.2,h.2⟩
theorem zcr(i:Int):(X9 i).sz≤1:=by
 obtain⟨a,ha⟩:=zkn i
 rw[z67 ha];exact z9H (znL a).1
theorem zca(i:Int):(U0 i).sz≤1:=by
 obtain⟨a,ha⟩:=zkn i
 rw[z6e ha];exact z9H (znL a).2
end Go.Fw
open Go
namespace Go.Fw
set_option maxRecDepth 100000
def z24:List CV:=[.lit (.bool false),X6 ⟨#[]⟩,.lit (.bool false),X6 ⟨#[]⟩,.lit (.bool false),X6 ⟨#[]⟩,.lit (.bool false),X6 ⟨#[]⟩,.lit (.bool false),X6 ⟨#[]⟩]
def z2p:CV:= .agg (z24++(z24++z24))
end Go.Fw
open Go
namespace Go.Fw
set_option maxRecDepth 100000
def zdW(n:Nat)(x y z:RN):Bool:=x.raw n&&(y.raw n&&z.raw n)
def ok3(x y z:RN):Bool:=x.ok&&(y.ok&&z.ok)
theorem z0a{n:Nat}{x y z:RN}:zdW n x y z=true↔x.raw n=true∧y.raw n=true∧z.raw n=true:=by simp[zdW]
theorem RN.raw_mono{x:RN}{n m:Nat}(h:x.raw n=true)(hm:n≤m):x.raw m=true:=by
 unfold RN.raw at h ⊢
 simp only[Bool.and_eq_true,decide_eq_true_eq]at h ⊢
 omega
theorem zoe(x y z:RN)(h:zdW 1000000 x y z=true):PCall P 138 [z3J x y z] (.lit (.bool (ok3 x y z))):=by
 obtain⟨hx,hy,hz⟩:=z0a.1 h
 unfold ok3
 cases ex:x.ok
 · exact zn7 x y z ex hx
 · cases ey:y.ok
   · exact zmF x y z ex ey hx hy
   · cases ez:z.ok
     · exact znm x y z ex ey ez hx hy hz
     · exact zow x y z ex ey ez hx hy hz
theorem zpa(x y z:K)(hx:x.sz≤1000000)(hy:y.sz≤1000000)(hz:z.sz≤1000000):PCall P 138 [z5Z x y z] (.lit (.bool true)):=by
 have:=zoe (.ofK x) (.ofK y) (.ofK z) (z0a.2 ⟨RN.ofK_raw x hx,RN.ofK_raw y hy,RN.ofK_raw z hz⟩)
 unfold ok3 at this
 rw[RN.ofK_ok,RN.ofK_ok,RN.ofK_ok]at this
 exact this
end Go.Fw
open Go IntKind
namespace Go.Fw
set_option maxRecDepth 100000
theorem zib(x y z:RN)(i:Int)(g:ok3 x y z=false)(s3_0:zdW 1000000 x y z=true):PCall P 50 [z3J x y z,j5 i] z2p:=
 j6 (.r 3 ((zoe (x) (y) (z) s3_0).eqB g) (.c (lq 30 30) .nil)) (by kernel_rfl)
theorem zja(x y z:K)(i:Int)(s3_0:x.sz≤1000000)(s3_1:y.sz≤1000000)(s3_2:z.sz≤1000000)(s17_0:(X9 i).sz≤1000000)(s17_1:x.sz≤1000000)(s21_0:(U0 i).sz≤1000000)(s21_1:y.sz≤1000000)(s22_0:(X9 i*x).sz≤1000000)(s22_1:(U0 i*y).sz≤1000000)(s26_0:(U0 i).sz≤1000000)(s26_1:x.sz≤1000000)(s30_0:(X9 i).sz≤1000000)(s30_1:y.sz≤1000000)(s31_0:(U0 i*x).sz≤1000000)(s31_1:(X9 i*y).sz≤1000000):PCall P 50 [z5Z x y z,j5 i] (z5Z (X9 i*x-U0 i*y) (U0 i*x+X9 i*y) z):=
 j6 (.r 3 (zpa (x) (y) (z) s3_0 s3_1 s3_2) (.r 7 (z88 (i)) (.r 9 (zci (i)) (.c (lq 10 10) (.c (lq 10 10) (.r 17 (zad (X9 i) (x) s17_0 s17_1) (.r 21 (zad (U0 i) (y) s21_0 s21_1) (.r 22 (zme (X9 i*x) (U0 i*y) s22_0 s22_1) (.r 26 (zad (U0 i) (x) s26_0 s26_1) (.r 30 (zad (X9 i) (y) s30_0 s30_1) (.r 31 (zd9 (U0 i*x) (X9 i*y) s31_0 s31_1) (.c (lq 30 30) .nil)))))))))))) (by kernel_rfl)
end Go.Fw
open Go
namespace Go.Fw
set_option maxRecDepth 100000
theorem z2R{a b:ByteArray}(h:X6 a=X6 b):a=b:=by injection h with h;injection h
theorem zpz{x:RN}{k:K}{n:Nat}(h:x.l=zb4 k)(hr:x.raw n=true):k.sz≤n:=by
 unfold RN.l zb4 at h
 simp only[List.cons.injEq,and_true]at h
 obtain⟨_,e0,_,e1,_,e2,_,e3,_,e4⟩:=h
 have f0:=z2R e0
 have f1:=z2R e1
 have f2:=z2R e2
 have f3:=z2R e3
 have f4:=z2R e4
 unfold RN.raw at hr
 simp only[Bool.and_eq_true,decide_eq_true_eq]at hr
 rw[f0,f1,f2,f3,f4]at hr
 exact K.sz_le.2 ⟨V5.1 hr.1.1.1.1,V5.1 hr.1.1.1.2,V5.1 hr.1.1.2,V5.1 hr.1.2,V5.1 hr.2⟩
def RN.zero:RN:=⟨false,⟨#[]⟩,false,⟨#[]⟩,false,⟨#[]⟩,false,⟨#[]⟩,false,⟨#[]⟩⟩
theorem zjQ(x y z:RN)(i:Int)(g:ok3 x y z=false)(h:zdW 1000000 x y z=true):PCall P 50 [z3J x y z,j5 i] z2p:=zib x y z i g h
theorem zi7 (x y z : K) (i : Int) (hx : x.sz ≤ 100000) (hy : y.sz ≤ 100000) (hz : z.sz ≤ 100000) :
    PCall P 50 [z5Z x y z,j5 i] (z5Z (x*X9 i-y*U0 i) (x*U0 i+y*X9 i) z):=by
 have c:=zcr i
 have s:=zca i
 have m1:=K.sz_mul (X9 i) x
 have m2:=K.sz_mul (U0 i) y
 have m3:=K.sz_mul (U0 i) x
 have m4:=K.sz_mul (X9 i) y
 rw[K.mul_comm x,K.mul_comm y,K.mul_comm x,K.mul_comm y]
 exact zja x y z i (by omega) (by omega) (by omega) (by omega) (by omega) (by omega) (by omega) (by omega) (by omega) (by omega) (by omega) (by omega) (by omega) (by omega) (by omega)
end Go.Fw
open Go
namespace Go.Fw
set_option maxRecDepth 100000
theorem z2l{a b:Int}(h1:CV.lit (.bool (decide (a<0)))=CV.lit (.bool (decide (b<0))))(h2:X6 (bytesOf a.natAbs)=X6 (bytesOf b.natAbs)):a=b:=by
 have e2:=z5l (z2R h2)
 injection h1 with h1
 injection h1 with h1
 rw[decide_eq_decide]at h1
 omega
theorem zeQ{x y:K}(h:zb4 x=zb4 y):x=y:=by
 unfold zb4 at h
 simp only[List.cons.injEq,and_true]at h
 obtain⟨a0,b0,a1,b1,a2,b2,a3,b3,a4,b4⟩:=h
 have e0:=z2l a0 b0
 have e1:=z2l a1 b1
 have e2:=z2l a2 b2
 have e3:=z2l a3 b3
 have e4:=z2l a4 b4
 cases x
 cases y
 simp only at e0 e1 e2 e3 e4
 subst e0 e1 e2 e3 e4
 rfl
noncomputable def toO(x:RN):Option K:=if h:x.ok=true then some (RN.ok_k h).choose else none
def ofO:Option K→RN
 |none=> .zero
 |some k=> .ofK k
theorem zia{x:RN}(h:x.ok=true): ∃k,toO x=some k∧x.l=zb4 k:=⟨(RN.ok_k h).choose,dif_pos h,(RN.ok_k h).choose_spec⟩
theorem zbI{x:RN}(h:x.ok=false):toO x=none:=dif_neg (by rw[h];decide)
theorem z6R(k:K):toO (.ofK k)=some k:=by
 obtain⟨k',h1,h2⟩:=zia (RN.ofK_ok k)
 rw[RN.ofK_l]at h2
 rw[h1,zeQ h2]
theorem z4Z:toO .zero=none:=zbI (by decide)
theorem z8R(o:Option K):toO (ofO o)=o:=by
 cases o with
 |none=>exact z4Z
 |some k=>exact z6R k
theorem z2d{x:RN}{k:K}(h:toO x=some k):x.ok=true∧x.l=zb4 k:=by
 cases e:x.ok
 · rw[zbI e]at h;cases h
 · obtain⟨k',h1,h2⟩:=zia e
   rw[h1]at h
   injection h with h
   subst h
   exact⟨rfl,h2⟩
theorem z1k{x:RN}(h:toO x=none):x.ok=false:=by
 cases e:x.ok
 · rfl
 · obtain⟨k',h1,_⟩:=zia e
   rw[h1]at h;cases h
theorem zi3{x:RN}{k:K}(h:x.l=zb4 k):x.c=Q9 k:=by
 show CV.agg x.l=_
 rw[h];rfl
def osz:Option K→Nat
 |none=>0
 |some k=>k.sz
theorem z5E{o:Option K}{n:Nat}(h:osz o≤n):(ofO o).raw n=true:=by
 cases o with
 |none=>
  show RN.raw n .zero=true
  have h0:decide ((⟨#[]⟩:ByteArray).size≤n)=true:=decide_eq_true (Nat.zero_le _)
  show(decide ((⟨#[]⟩:ByteArray).size≤n)&&decide ((⟨#[]⟩:ByteArray).size≤n)&&decide ((⟨#[]⟩:ByteArray).size≤n)&&decide ((⟨#[]⟩:ByteArray).size≤n)&&decide ((⟨#[]⟩:ByteArray).size≤n))=true
  generalize decide ((⟨#[]⟩:ByteArray).size≤n)=q at h0
  subst h0;rfl
 |some k=>exact RN.ofK_raw k h
theorem z5d{x:RN}{n:Nat}(h:x.raw n=true):osz (toO x)≤n:=by
 cases e:toO x with
 |none=>exact Nat.zero_le _
 |some k=>exact zpz (z2d e).2 h
def zps:Option K→Option K→Option K
 |some x,some y=>some (x+y)
 |_,_=>none
theorem zbm(x y:Option K):osz (zps x y)≤osz x+osz y+1:=by
 cases x<;>cases y<;>first|exact Nat.zero_le _|exact K.sz_add _ _
end Go.Fw
open Go IntKind
namespace Go.Fw
set_option maxRecDepth 100000
theorem zh1(x y:RN)(g:x.ok=false)(s4_0:RN.raw 1000000 x=true):PCall P 37 [x.c,y.c] (.agg z24):=
 j6 (.r 4 ((z2c (x) s4_0).eqB g) (.c (lq 10 10) .nil)) (by kernel_rfl)
theorem zi2(x y:RN)(g:x.ok=true)(g2:y.ok=false)(s4_0:RN.raw 1000000 x=true)(s8_0:RN.raw 1000000 y=true):PCall P 37 [x.c,y.c] (.agg z24):=
 j6 (.r 4 ((z2c (x) s4_0).eqB g) (.r 8 ((z2c (y) s8_0).eqB g2) (.c (lq 10 10) .nil))) (by kernel_rfl)
end Go.Fw
open Go
namespace Go.Fw
set_option maxRecDepth 100000
theorem z2V{x:RN}{k:K}{n:Nat}(h:toO x=some k)(hx:x.raw n=true):k.sz≤n:=zpz (z2d h).2 hx
noncomputable def z3c(x y:RN):RN:=ofO (zps (toO x) (toO y))
theorem zkV(x y:RN)(hx:x.raw 1000000=true)(hy:y.raw 1000000=true):PCall P 37 [x.c,y.c] (z3c x y).c:=by
 unfold z3c
 cases ex:toO x with
 |none=>exact zh1 x y (z1k ex) hx
 |some k=>
  cases ey:toO y with
  |none=>exact zi2 x y (z2d ex).1 (z1k ey) hx hy
  |some l=>
   rw[zi3 (z2d ex).2,zi3 (z2d ey).2]
   exact zd9 k l (z2V ex hx) (z2V ey hy)
theorem zmj{x y z:RN}{k l m:K}(hx:toO x=some k)(hy:toO y=some l)(hz:toO z=some m):z3J x y z=z5Z k l m:=by
 unfold z3J z5Z
 rw[(z2d hx).2,(z2d hy).2,(z2d hz).2]
theorem zeA{x y z:RN}(h:toO x=none∨toO y=none∨toO z=none):ok3 x y z=false:=by
 unfold ok3
 rcases h with h|h|h<;>rw[z1k h]<;>simp
abbrev rnB(x y:RN):Bool:=x.b0==y.b0&&(x.s0==y.s0&&true)&&(x.b1==y.b1&&(x.s1==y.s1&&true)&&(x.b2==y.b2&&(x.s2==y.s2&&true)&&(x.b3==y.b3&&(x.s3==y.s3&&true)&&true)))&&(x.b4==y.b4&&(x.s4==y.s4&&true)&&true)
theorem zcz{x y:RN}:rnB x y=true↔x=y:=by
 cases x
 cases y
 simp only[rnB,zgq,Bool.and_eq_true,beq_iff_eq,and_true,RN.mk.injEq,decide_eq_true_eq]
 constructor
 · rintro⟨⟨h0,h1,h2,h3⟩,h4⟩
   exact⟨h0.1,h0.2,h1.1,h1.2,h2.1,h2.2,h3.1,h3.2,h4.1,h4.2⟩
 · rintro⟨a,b,c,d,e,f,g,h,i,j⟩
   exact⟨⟨⟨a,b⟩,⟨c,d⟩,⟨e,f⟩,⟨g,h⟩⟩,i,j⟩
end Go.Fw
open Go
namespace Go.Fw
set_option maxRecDepth 100000
theorem zhK{x y:RN}{n:Nat}(hx:x.raw n=true)(hy:y.raw n=true):(z3c x y).raw (n+n+1)=true:=by
 have h1:=z5d hx
 have h2:=z5d hy
 have h3:=zbm (toO x) (toO y)
 exact z5E (by omega)
end Go.Fw
open Go
namespace Go.Fw
set_option maxRecDepth 100000
structure VN where
 x:RN
 y:RN
 z:RN
namespace VN
def c(v:VN):CV:=z3J v.x v.y v.z
def raw(n:Nat)(v:VN):Bool:=zdW n v.x v.y v.z
def ok(v:VN):Bool:=ok3 v.x v.y v.z
def zero:VN:=⟨.zero,.zero,.zero⟩
theorem raw_mono{v:VN}{n m:Nat}(h:v.raw n=true)(hm:n≤m):v.raw m=true:=by
 obtain⟨hx,hy,hz⟩:=z0a.1 h
 exact z0a.2 ⟨RN.raw_mono hx hm,RN.raw_mono hy hm,RN.raw_mono hz hm⟩
end VN
structure V3 where
 x:K
 y:K
 z:K
def V3.c(v:V3):CV:=z5Z v.x v.y v.z
def V3.sz(v:V3):Nat:=max v.x.sz (max v.y.sz v.z.sz)
noncomputable def toV(v:VN):Option V3:=match toO v.x,toO v.y,toO v.z with
 |some x,some y,some z=>some ⟨x,y,z⟩
 |_,_,_=>none
def ofV:Option V3→VN
 |none=> .zero
 |some v=>⟨.ofK v.x,.ofK v.y,.ofK v.z⟩
theorem zcA(o:Option V3):toV (ofV o)=o:=by
 cases o with
 |none=>unfold toV ofV VN.zero;simp only[z4Z]
 |some v=>unfold toV ofV;simp only[z6R]
theorem z7q{v:VN}{k:V3}(h:toV v=some k):toO v.x=some k.x∧toO v.y=some k.y∧toO v.z=some k.z:=by
 unfold toV at h
 split at h
 · rename_i x y z h1 h2 h3
   injection h with h
   subst h
   exact⟨h1,h2,h3⟩
 · cases h
theorem z3x{v:VN}(h:toV v=none):v.ok=false:=by
 unfold toV at h
 split at h
 · cases h
 · rename_i hx
   refine zeA ?_
   cases e1:toO v.x with
   |none=>exact .inl rfl
   |some a=>
    cases e2:toO v.y with
    |none=>exact .inr (.inl rfl)
    |some b=>
     cases e3:toO v.z with
     |none=>exact .inr (.inr rfl)
     |some c=>exact(hx a b c e1 e2 e3).elim
theorem zdu{v:VN}{k:V3}(h:toV v=some k):v.ok=true:=by
 obtain⟨h1,h2,h3⟩:=z7q h
 show ok3 v.x v.y v.z=true
 unfold ok3
 rw[(z2d h1).1,(z2d h2).1,(z2d h3).1];rfl
theorem zdN{v:VN}{k:V3}(h:toV v=some k):v.c=k.c:=by
 obtain⟨h1,h2,h3⟩:=z7q h
 exact zmj h1 h2 h3
theorem z2X{v:VN}{k:V3}{n:Nat}(h:toV v=some k)(hr:v.raw n=true):k.x.sz≤n∧k.y.sz≤n∧k.z.sz≤n:=by
 obtain⟨h1,h2,h3⟩:=z7q h
 obtain⟨a,b,c⟩:=z0a.1 hr
 exact⟨z2V h1 a,z2V h2 b,z2V h3 c⟩
def vsz:Option V3→Nat
 |none=>0
 |some v=>v.sz
theorem z7j{o:Option V3}{n:Nat}(h:vsz o≤n):(ofV o).raw n=true:=by
 cases o with
 |none=>exact z0a.2 ⟨z5E (o:=none) (Nat.zero_le _),z5E (o:=none) (Nat.zero_le _),z5E (o:=none) (Nat.zero_le _)⟩
 |some v=>
  have h':max v.x.sz (max v.y.sz v.z.sz)≤n:=h
  exact z0a.2 ⟨RN.ofK_raw v.x (by omega),RN.ofK_raw v.y (by omega),RN.ofK_raw v.z (by omega)⟩
end Go.Fw
open Go IntKind
namespace Go.Fw
set_option maxRecDepth 100000
theorem zhJ(a b c:Int)(s2_0:(-9223372036854775808:Int)≤a∧a≤9223372036854775807)(s4_0:(-9223372036854775808:Int)≤b∧b≤9223372036854775807)(s6_0:(-9223372036854775808:Int)≤c∧c≤9223372036854775807):PCall P 63 [j5 a,j5 b,j5 c] (z5Z (K.ofInt a) (K.ofInt b) (K.ofInt c)):=
 j6 (.r 2 (z3R (a) s2_0) (.r 4 (z3R (b) s4_0) (.r 6 (z3R (c) s6_0) (.c (lq 30 30) .nil)))) (by kernel_rfl)
end Go.Fw
open Go
namespace Go.Fw
set_option maxRecDepth 100000
namespace V3
def add(a b:V3):V3:=⟨a.x+b.x,a.y+b.y,a.z+b.z⟩
def sub(a b:V3):V3:=⟨a.x-b.x,a.y-b.y,a.z-b.z⟩
def neg(a:V3):V3:=⟨-a.x,-a.y,-a.z⟩
def scale(a:V3)(k:K):V3:=⟨a.x*k,a.y*k,a.z*k⟩
def dot(a b:V3):K:=a.x*b.x+a.y*b.y+a.z*b.z
def cross(a b:V3):V3:=⟨a.y*b.z-a.z*b.y,a.z*b.x-a.x*b.z,a.x*b.y-a.y*b.x⟩
end V3
def o2{α β γ:Type}(f:α→β→γ):Option α→Option β→Option γ
 |some a,some b=>some (f a b)
 |_,_=>none
noncomputable def z0t(v w:VN):VN:=ofV (o2 V3.add (toV v) (toV w))
noncomputable def J8(v:VN)(k:RN):VN:=ofV (o2 V3.scale (toV v) (toO k))
noncomputable def zi0(v w:VN):RN:=ofO (o2 V3.dot (toV v) (toV w))
noncomputable def z3E(v w:VN):VN:=ofV (o2 V3.cross (toV v) (toV w))
end Go.Fw
open Go IntKind
namespace Go.Fw
set_option maxRecDepth 100000
theorem zjs(x y:RN)(g:x.ok=false)(s4_0:RN.raw 1000000 x=true):PCall P 137 [x.c,y.c] (.agg z24):=
 j6 (.r 4 ((z5j (x) s4_0).eqB g) (.c (lq 10 10) .nil)) (by kernel_rfl)
theorem zjq(x y:RN)(g:x.ok=true)(g2:y.ok=false)(s4_0:RN.raw 1000000 x=true)(s8_0:RN.raw 1000000 y=true):PCall P 137 [x.c,y.c] (.agg z24):=
 j6 (.r 4 ((z5j (x) s4_0).eqB g) (.r 8 ((z5j (y) s8_0).eqB g2) (.c (lq 10 10) .nil))) (by kernel_rfl)
theorem zks(x:RN)(g:x.ok=false)(s3_0:RN.raw 1000000 x=true):PCall P 146 [x.c] (.lit (.int .i64 0)):=
 j6 (.r 3 ((z5j (x) s3_0).eqB g) .nil) (by kernel_rfl)
theorem zhn(x y:RN)(g:x.ok=false)(s5_0:RN.raw 1000000 x=true):PCall P 147 [x.c,y.c] (.tup [.agg z24,.lit (.int .i64 1)]):=
 j6 (.r 5 ((z5j (x) s5_0).eqB g) (.c (lq 10 10) .nil)) (by kernel_rfl)
theorem zji(x y:RN)(g:x.ok=true)(g2:y.ok=false)(s5_0:RN.raw 1000000 x=true)(s9_0:RN.raw 1000000 y=true):PCall P 147 [x.c,y.c] (.tup [.agg z24,.lit (.int .i64 1)]):=
 j6 (.r 5 ((z5j (x) s5_0).eqB g) (.r 9 ((z5j (y) s9_0).eqB g2) (.c (lq 10 10) .nil))) (by kernel_rfl)
end Go.Fw
open Go
namespace Go.Fw
set_option maxRecDepth 100000
theorem zgz(x y:RN)(hx:x.raw 1000000=true)(hy:y.raw 1000000=true):PCall P 137 [x.c,y.c] (z3c x y).c:=by
 unfold z3c
 cases ex:toO x with
 |none=>exact zjs x y (z1k ex) hx
 |some k=>
  cases ey:toO y with
  |none=>exact zjq x y (z2d ex).1 (z1k ey) hx hy
  |some l=>
   have a:=z2V ex hx
   have b:=z2V ey hy
   rw[zi3 (z2d ex).2,zi3 (z2d ey).2]
   exact z6q k l (by omega)
end Go.Fw
open Go IntKind
namespace Go.Fw
set_option maxRecDepth 100000
theorem zlN(a b c:Int)(h1:(a==b)=true):PCall P 208 [j5 a,j5 b,j5 c] (.lit (.int .i64 a)):=
 j6 (.b 4 h1 .nil) (by kernel_rfl)
theorem znN(a b c:Int)(h1:(a==b)=false)(h2:(b==0)=true):PCall P 208 [j5 a,j5 b,j5 c] (.lit (.int .i64 a)):=
 j6 (.b 4 h1 (.b 9 h2 .nil)) (by kernel_rfl)
theorem zon(a b c:Int)(h1:(a==b)=false)(h2:(b==0)=false)(h3:(a==0)=true):PCall P 208 [j5 a,j5 b,j5 c] (.lit (.int .i64 b)):=
 j6 (.b 4 h1 (.b 9 h2 (.b 13 h3 .nil))) (by kernel_rfl)
theorem zkP(a b c:Int)(h1:(a==b)=false)(h2:(b==0)=false)(h3:(a==0)=false):PCall P 208 [j5 a,j5 b,j5 c] (.lit (.int .i64 (i64.wrap (a*c)))):=
 j6 (.b 4 h1 (.b 9 h2 (.b 13 h3 .nil))) (by kernel_rfl)
theorem zmo(k a b:Int)(s4_0:(-9223372036854775808:Int)≤k∧k≤9223372036854775807)(s7_0:SmlZ a)(s7_1:SmlZ b)(s7_2:Sml (a.natAbs*b.natAbs))(s8_0:SmlZ k)(s8_1:SmlZ (a*b))(s8_2:Sml (k.natAbs*(a*b).natAbs)):PCall P 210 [j5 k,J6 a,J6 b] (.agg [.lit (.bool (decide (k*(a*b)<0))),.lit (.string (bytesOf (k*(a*b)).natAbs))]):=
 j6 (.r 4 (z1b (k) s4_0) (.r 7 (z01 (a) (b) s7_0 s7_1 s7_2) (.r 8 (z01 (k) (a*b) s8_0 s8_1 s8_2) (.c (lq 2 2) .nil)))) (by kernel_rfl)
end Go.Fw
open Go
namespace Go.Fw
set_option maxRecDepth 100000
def z6t(a b c:Int):Int:=if a=b∨b=0 then a else if a=0 then b else a*c
theorem z2z(a b c:Int)(ha: -1≤a∧a≤1)(hc: -1≤c∧c≤1):PCall P 208 [j5 a,j5 b,j5 c] (j5 (z6t a b c)):=by
 unfold z6t
 by_cases h1:a=b
 · rw[if_pos (.inl h1)]
   exact zlN a b c (by simp[h1])
 · by_cases h2:b=0
   · rw[if_pos (.inr h2)]
     exact znN a b c (by simp[h1]) (by simp[h2])
   · rw[if_neg (by rintro(h|h)<;>contradiction)]
     by_cases h3:a=0
     · rw[if_pos h3]
       exact zon a b c (by simp[h1]) (by simp[h2]) (by simp[h3])
     · rw[if_neg h3]
       have:=zkP a b c (by simp[h1]) (by simp[h2]) (by simp[h3])
       have hw:IntKind.i64.wrap (a*c)=a*c:=by
        have:a= -1∨a=1:=by omega
        rcases this with h|h<;>rw[h]<;>exact w64 (by omega)
       rwa[hw]at this
theorem z8U(k a b:Int){n m:Nat}(hk: -100≤k∧k≤100)(ha:By n a)(hb:By m b)(hn:n+m+1<1073741824):PCall P 210 [j5 k,J6 a,J6 b] (J6 (k*(a*b))):=by
 have hk':By 1 k:=by unfold By;omega
 have hab:=ha.mul hb
 exact zmo k a b (by omega) (ha.sml (by omega)) (hb.sml (by omega)) (ha.sm2 hb (by omega)) (hk'.sml (by decide)) (hab.sml (by omega)) (hk'.sm2 hab (by omega))
end Go.Fw
open Go IntKind
namespace Go.Fw
set_option maxRecDepth 100000
theorem zll(a b:Int)(s5_0:SmlZ a)(s5_1:SmlZ b)(s5_2:Sml (a.natAbs+b.natAbs)):PCall P 246 [J6 a,J6 b] (.lit (.int .i64 (a-b).sign)):=
 j6 (.r 5 (zae (a) (b) s5_0 s5_1 s5_2) (.r 6 (z0O (a-b)) .nil)) (by kernel_rfl)
end Go.Fw
open Go
namespace Go.Fw
set_option maxRecDepth 100000
def Two(a b:Int):Prop:= ∃n,n≤500000000∧By n a∧By n b
theorem z1Z(k a b:Int)(hk: -100≤k∧k≤100)(h:Two a b):PCall P 210 [j5 k,J6 a,J6 b] (J6 (k*(a*b))):=by
 obtain⟨n,hn,ha,hb⟩:=h
 exact z8U k a b hk ha hb (by omega)
theorem zct(a b:Int)(h:Two a b):PCall P 246 [J6 a,J6 b] (j5 (a-b).sign):=by
 obtain⟨n,hn,ha,hb⟩:=h
 exact zll a b (ha.sml (by omega)) (hb.sml (by omega)) (ha.sma hb (by omega))
theorem zot(a b:Int)(h:Two a b):PCall P 203 [J6 a,J6 b] (J6 (a*b)):=by
 obtain⟨n,hn,ha,hb⟩:=h
 exact z01 a b (ha.sml (by omega)) (hb.sml (by omega)) (ha.sm2 hb (by omega))
theorem zgj(a b:Int)(h:Two a b):PCall P 202 [J6 a,J6 b] (J6 (a+b)):=by
 obtain⟨n,hn,ha,hb⟩:=h
 exact z1S a b (ha.sml (by omega)) (hb.sml (by omega)) (ha.sma hb (by omega))
theorem zgk(a b:Int)(h:Two a b):PCall P 209 [J6 a,J6 b] (J6 (a-b)):=by
 obtain⟨n,hn,ha,hb⟩:=h
 exact zae a b (ha.sml (by omega)) (hb.sml (by omega)) (ha.sma hb (by omega))
end Go.Fw
open Go IntKind
namespace Go.Fw
set_option maxRecDepth 100000
theorem zlB(a b:Int)(s9_0:Two a a)(s12_0:(-100:Int)≤2∧(2:Int)≤100)(s12_1:Two b b)(s13_0:Two (a*a) ((2:Int)*(b*b)))(s14_0:(-1:Int)≤a.sign∧a.sign≤1)(s14_1:(-1:Int)≤(a*a-2*(b*b)).sign∧(a*a-2*(b*b)).sign≤1):PCall P 207 [J6 a,J6 b] (.lit (.int .i64 (z6t a.sign b.sign (a*a-2*(b*b)).sign))):=
 j6 (.r 4 (z0O (a)) (.r 6 (z0O (b)) (.r 9 (zot (a) (a) s9_0) (.r 12 (z1Z ((2:Int)) (b) (b) s12_0 s12_1) (.r 13 (zct (a*a) ((2:Int)*(b*b)) s13_0) (.r 14 (z2z (a.sign) (b.sign) ((a*a-2*(b*b)).sign) s14_0 s14_1) .nil)))))) (by kernel_rfl)
end Go.Fw
open Go
namespace Go.Fw
set_option maxRecDepth 100000
def sg2(a b:Int):Int:=z6t a.sign b.sign (a*a-2*(b*b)).sign
theorem z50(a:Int): -1≤a.sign∧a.sign≤1:=by
 rcases Int.lt_trichotomy a 0 with h|h|h
 · rw[Int.sign_eq_neg_one_of_neg h];decide
 · rw[h];decide
 · rw[Int.sign_eq_one_of_pos h];decide
theorem zgV{a b c:Int}(ha: -1≤a∧a≤1)(hb: -1≤b∧b≤1)(hc: -1≤c∧c≤1): -1≤z6t a b c∧z6t a b c≤1:=by
 unfold z6t
 split
 · exact ha
 · split
   · exact hb
   · have:a= -1∨a=0∨a=1:=by omega
     rcases this with h|h|h<;>rw[h]<;>omega
theorem zgg(a b:Int): -1≤sg2 a b∧sg2 a b≤1:=zgV (z50 a) (z50 b) (z50 _)
def zbj(a b:Int):Prop:= ∃n,n≤100000000∧By n a∧By n b
theorem By.two{a:Int}{n:Nat}(h:By n a):By (n+1) (2*a):=by
 have:By 1 2:=by unfold By;decide
 have:=this.mul h
 rwa[Nat.add_comm]at this
theorem z11(a b:Int)(h:zbj a b):PCall P 207 [J6 a,J6 b] (j5 (sg2 a b)):=by
 obtain⟨n,hn,ha,hb⟩:=h
 exact zlB a b ⟨n,by omega,ha,ha⟩ (by decide) ⟨n,by omega,hb,hb⟩ ⟨n+n+1,by omega,(ha.mul ha).mono (by omega),(hb.mul hb).two⟩ (z50 _) (z50 _)
end Go.Fw
