/- A part of the proof that the law returns true for every input: an executor for the model's code, and what functions of the program compute. -/
import Derived.Test.YtcafjpldfnegiaaGreatDoorB11
import Derived.Test.YtcafjpldfnegiaaGreatDoorB15
import Derived.Test.YtcafjpldfnegiaaGreatDoorB40
import Derived.KernelRfl
open Go
namespace Go.Fw
set_option maxRecDepth 100000
theorem z1u(z:Int):(z.sign==(0:Int))=decide (z=0):=by
 rw[Bool.eq_iff_iff,beq_iff_eq,decide_eq_true_eq]
 exact Int.sign_eq_zero_iff_zero
section
variable{X Y:Nat→Int}{p q:Nat}(hp:p+q+2<1073741824)(hX: ∀i,(X i).natAbs<256^p)(hY: ∀i,(Y i).natAbs<256^q)
include hp hX hY
theorem z5r {R : Goal} (hn : J0 R.n [0, 1, 2, 3] = true) (i j t : Nat) (hi : i < 4) (hj : j < 4) (ht : t ≤ 20) (C : Nat → Int) (hC : ∀ k, (C k).natAbs ≤ t * 6 * 256 ^ (p + q))
    (hR:Ok P 130 (loopHead P 130 1) (zeL X Y (z27 X Y i j C) i (j+1)) R):Ok P 130 (loopHead P 130 1) (zeL X Y C i j) R:=by
 have hii:(0:Int)≤(i:Int)∧(i:Int)<4:=by omega
 have hjj:(0:Int)≤(j:Int)∧(j:Int)<4:=by omega
 by_cases ha:X i=0
 · rw[z3e C (by rw[ha,Int.zero_mul])]at hR
   exact okS (zrY X Y C i j hi hj) rfl (.cons hii (.cons (Q5 _) (.cons (by rw[z1u];exact decide_eq_true ha) (.cons (z0g _) (.cons (z0g _) (.cons (z0g _) (.cons (z0g _) .nil))))))) hn hR
 · by_cases hb:Y j=0
   · rw[z3e C (by rw[hb,Int.mul_zero])]at hR
     exact okS (zrC X Y C i j hi hj) rfl (.cons hii (.cons (Q5 _) (.cons (by rw[z1u];exact decide_eq_false ha) (.cons hjj (.cons (Q5 _) (.cons (by rw[z1u];exact decide_eq_true hb) (.cons (z0g _) (.cons (z0g _) (.cons (z0g _) (.cons (z0g _) .nil)))))))))) hn hR
   · have hm:=z3C hX hY i j
     obtain⟨s1,s2⟩:=zdx i hi j hj
     have hw:256^(p+q+1)=256*256^(p+q):=by rw[Nat.pow_succ,Nat.mul_comm]
     have hf:(sq4 i j*(X i*Y j)).natAbs<6*256^(p+q)+1:=by
      rw[Int.natAbs_mul]
      have:(sq4 i j).natAbs≤6:=by omega
      have:=Nat.mul_le_mul this (Nat.le_of_lt hm)
      omega
     have smX:SmlZ (X i):=Sml.of_lt (hX i) (by omega)
     have smY:SmlZ (Y j):=Sml.of_lt (hY j) (by omega)
     have smM:Sml ((X i).natAbs*(Y j).natAbs):=by rw[←Int.natAbs_mul];exact Sml.of_lt hm (by omega)
     have smS:SmlZ (sq4 i j):=z2d (by omega)
     have smM':SmlZ (X i*Y j):=Sml.of_lt hm (by omega)
     have hCk:=hC (i^^^j)
     have ht6:t*6*256^(p+q)≤120*256^(p+q):=Nat.mul_le_mul_right _ (by omega)
     have hpp:0<256^(p+q):=Nat.pow_pos (by decide)
     have smF:SmlZ (sq4 i j*(X i*Y j)):=Sml.of_lt (k:=p+q+1) (by omega) (by omega)
     have smF2:Sml ((sq4 i j).natAbs*(X i*Y j).natAbs):=by rw[←Int.natAbs_mul];exact smF
     have smC:SmlZ (C (i^^^j)):=Sml.of_lt (k:=p+q+1) (by omega) (by omega)
     have smA:Sml ((C (i^^^j)).natAbs+(sq4 i j*(X i*Y j)).natAbs):=Sml.of_lt (k:=p+q+1) (by omega) (by omega)
     have hx4:i^^^j<4:=Nat.xor_lt_two_pow (n:=2) (by simpa using hi) (by simpa using hj)
     exact okS (zrW X Y C i j hi hj) rfl (.cons hii (.cons (Q5 _) (.cons (by rw[z1u];exact decide_eq_false ha) (.cons hjj (.cons (Q5 _) (.cons (by rw[z1u];exact decide_eq_false hb) (.cons (Y7 _ (by omega)) (.cons hii (.cons hjj
      (.cons (Y2 _ _ smX smY smM) (.cons (Y2 _ _ smS smM' smF2) (.cons (Nat.le_refl _) (.cons (by omega) (.cons (z0C _ _ smC smF smA) (.cons (by omega) (.cons (by omega) (.cons (z0g _) (.cons (z0g _) (.cons (z0g _) (.cons (z0g _) .nil)))))))))))))))))))) hn hR
theorem z4l {R : Goal} (hn : J0 R.n [0, 1, 2, 3] = true) (i t : Nat) (hi : i < 4) (ht : t ≤ 16) (C : Nat → Int) (hC : ∀ k, (C k).natAbs ≤ t * 6 * 256 ^ (p + q))
    (hR:Ok P 130 (loopHead P 130 0) (zm7 X Y (z27 X Y i 3 (z27 X Y i 2 (z27 X Y i 1 (z27 X Y i 0 C)))) (i+1)) R):Ok P 130 (loopHead P 130 0) (zm7 X Y C i) R:=by
 have b0:=z10 hX hY i 0 t hi (by decide) C hC
 have b1:=z10 hX hY i 1 (t+1) hi (by decide) _ b0
 have b2:=z10 hX hY i 2 (t+2) hi (by decide) _ b1
 have cv: ∀C:Nat→Int,Ps [CvL (cl4 X),CvL (cl4 Y),CvL (cl4 (fun _=>0)),CvL (cl4 C)]:=fun C=> .cons (z0g _) (.cons (z0g _) (.cons (z0g _) (.cons (z0g _) .nil)))
 refine okS (zsg X Y C i hi) rfl (cv _) hn ?_
 refine z5r hp hX hY hn i 0 t hi (by decide) (by omega) C hC ?_
 refine z5r hp hX hY hn i 1 (t+1) hi (by decide) (by omega) _ b0 ?_
 refine z5r hp hX hY hn i 2 (t+2) hi (by decide) (by omega) _ b1 ?_
 refine z5r hp hX hY hn i 3 (t+3) hi (by decide) (by omega) _ b2 ?_
 exact okS (zrT X Y _ i hi) rfl (cv _) hn hR
theorem zfZ : PCall P 130 [c4C (X 0) (X 1) (X 2) (X 3), c4C (Y 0) (Y 1) (Y 2) (Y 3)]
    (c4C (X 0*Y 0+2*X 1*Y 1+3*X 2*Y 2+6*X 3*Y 3) (X 0*Y 1+X 1*Y 0+3*X 2*Y 3+3*X 3*Y 2) (X 0*Y 2+X 2*Y 0+2*X 1*Y 3+2*X 3*Y 1) (X 0*Y 3+X 3*Y 0+X 1*Y 2+X 2*Y 1)):=by
 have c0: ∀k:Nat,((fun _=>0:Nat→Int) k).natAbs≤0*6*256^(p+q):=by intro k;simp
 have c1:=z2A hX hY 0 0 (by decide) _ c0
 have c2:=z2A hX hY 1 4 (by decide) _ c1
 have c3:=z2A hX hY 2 8 (by decide) _ c2
 refine z00 (z8G (zs4 X Y) rfl (.cons (z0g _) (.cons (z0g _) (.cons (z0g _) (.cons (z0g _) .nil)))) ?_)
 refine z4l hp hX hY rfl 0 0 (by decide) (by decide) _ c0 ?_
 refine z4l hp hX hY rfl 1 4 (by decide) (by decide) _ c1 ?_
 refine z4l hp hX hY rfl 2 8 (by decide) (by decide) _ c2 ?_
 refine z4l hp hX hY rfl 3 12 (by decide) (by decide) _ c3 ?_
 generalize hC:z27 X Y 3 3 _=C at*
 have e0:C 0=X 0*Y 0+2*X 1*Y 1+3*X 2*Y 2+6*X 3*Y 3:=by
  have:C 0=0+1*(X 0*Y 0)+2*(X 1*Y 1)+3*(X 2*Y 2)+6*(X 3*Y 3):=by rw[←hC];rfl
  rw[this];grind
 have e1:C 1=X 0*Y 1+X 1*Y 0+3*X 2*Y 3+3*X 3*Y 2:=by
  have:C 1=0+1*(X 0*Y 1)+1*(X 1*Y 0)+3*(X 2*Y 3)+3*(X 3*Y 2):=by rw[←hC];rfl
  rw[this];grind
 have e2:C 2=X 0*Y 2+X 2*Y 0+2*X 1*Y 3+2*X 3*Y 1:=by
  have:C 2=0+1*(X 0*Y 2)+2*(X 1*Y 3)+1*(X 2*Y 0)+2*(X 3*Y 1):=by rw[←hC];rfl
  rw[this];grind
 have e3:C 3=X 0*Y 3+X 3*Y 0+X 1*Y 2+X 2*Y 1:=by
  have:C 3=0+1*(X 0*Y 3)+1*(X 1*Y 2)+1*(X 2*Y 1)+1*(X 3*Y 0):=by rw[←hC];rfl
  rw[this];grind
 refine okR (zs3 X Y C) (.cons (Nat.le_refl _) .nil) ?_
 rw[←e0,←e1,←e2,←e3]
 rfl
end
end Go.Fw
open Go
namespace Go.Fw
set_option maxRecDepth 100000
def f4(a b c d:Int):Nat→Int
 |0=>a
 |1=>b
 |2=>c
 |_=>d
def By4(n:Nat)(a b c d:Int):Prop:=By n a∧By n b∧By n c∧By n d
theorem By4.f{n:Nat}{a b c d:Int}(h:By4 n a b c d)(i:Nat):(f4 a b c d i).natAbs<256^n:=by
 obtain⟨h0,h1,h2,h3⟩:=h
 match i with
 |0=>exact h0
 |1=>exact h1
 |2=>exact h2
 |n+3=>exact h3
theorem z3Y (a0 a1 a2 a3 b0 b1 b2 b3 : Int) (hp : ∃ n, n ≤ 500000000 ∧ By4 n a0 a1 a2 a3 ∧ By4 n b0 b1 b2 b3) : PCall P 130 [c4C a0 a1 a2 a3, c4C b0 b1 b2 b3]
    (c4C (a0*b0+2*a1*b1+3*a2*b2+6*a3*b3) (a0*b1+a1*b0+3*a2*b3+3*a3*b2) (a0*b2+a2*b0+2*a1*b3+2*a3*b1) (a0*b3+a3*b0+a1*b2+a2*b1)):=by
 obtain⟨n,hn,ha,hb⟩:=hp
 exact zfZ (X:=f4 a0 a1 a2 a3) (Y:=f4 b0 b1 b2 b3) (p:=n) (q:=n) (by omega) ha.f hb.f
end Go.Fw
open Go IntKind
namespace Go.Fw
set_option maxRecDepth 100000
theorem zr4(x y:K)(g1:z8R x=false)(s4_0:x.sz≤1000000)(s8_0:y.sz≤1000000)(s26_0: ∃n,n≤500000000∧By4 n x.c0 x.c1 x.c2 x.c3∧By4 n y.c0 y.c1 y.c2 y.c3)(s31_0:Sml x.d.natAbs)(s31_1:Sml y.d.natAbs)(s31_2:Sml (x.d.natAbs*y.d.natAbs))(s32_0:x.d*y.d≠0)(s32_1:SmlZ (x.c0*y.c0+2*x.c1*y.c1+3*x.c2*y.c2+6*x.c3*y.c3))(s32_2:SmlZ (x.c0*y.c1+x.c1*y.c0+3*x.c2*y.c3+3*x.c3*y.c2))(s32_3:SmlZ (x.c0*y.c2+x.c2*y.c0+2*x.c1*y.c3+2*x.c3*y.c1))(s32_4:SmlZ (x.c0*y.c3+x.c3*y.c0+x.c1*y.c2+x.c2*y.c1))(s32_5:SmlZ (x.d*y.d)):PCall P 38 [Q8 x,Q8 y] (Q8 (K.of (x.c0*y.c0+2*x.c1*y.c1+3*x.c2*y.c2+6*x.c3*y.c3) (x.c0*y.c1+x.c1*y.c0+3*x.c2*y.c3+3*x.c3*y.c2) (x.c0*y.c2+x.c2*y.c0+2*x.c1*y.c3+2*x.c3*y.c1) (x.c0*y.c3+x.c3*y.c0+x.c1*y.c2+x.c2*y.c1) (x.d*y.d))):=
 j3 (.r 4 (z0n (x) s4_0) (.r 8 (z0n (y) s8_0) (.r 13 (z4S (x)) (.c (lq 5 5) (.b 21 g1 (.r 26 (z3Y (x.c0) (x.c1) (x.c2) (x.c3) (y.c0) (y.c1) (y.c2) (y.c3) s26_0) (.r 31 (Y2 (x.d) (y.d) s31_0 s31_1 s31_2) (.r 32 (z8H (x.c0*y.c0+2*x.c1*y.c1+3*x.c2*y.c2+6*x.c3*y.c3) (x.c0*y.c1+x.c1*y.c0+3*x.c2*y.c3+3*x.c3*y.c2) (x.c0*y.c2+x.c2*y.c0+2*x.c1*y.c3+2*x.c3*y.c1) (x.c0*y.c3+x.c3*y.c0+x.c1*y.c2+x.c2*y.c1) (x.d*y.d) s32_0 s32_1 s32_2 s32_3 s32_4 s32_5) (.c (lq 10 10) .nil))))))))) (by kernel_rfl)
theorem zmh(x y:K)(g1:z8R x=true)(g2:z8R y=false)(s4_0:x.sz≤1000000)(s8_0:y.sz≤1000000)(s36_0: ∃n,n≤500000000∧By4 n x.c0 x.c1 x.c2 x.c3∧By4 n y.c0 y.c1 y.c2 y.c3)(s41_0:Sml x.d.natAbs)(s41_1:Sml y.d.natAbs)(s41_2:Sml (x.d.natAbs*y.d.natAbs))(s42_0:x.d*y.d≠0)(s42_1:SmlZ (x.c0*y.c0+2*x.c1*y.c1+3*x.c2*y.c2+6*x.c3*y.c3))(s42_2:SmlZ (x.c0*y.c1+x.c1*y.c0+3*x.c2*y.c3+3*x.c3*y.c2))(s42_3:SmlZ (x.c0*y.c2+x.c2*y.c0+2*x.c1*y.c3+2*x.c3*y.c1))(s42_4:SmlZ (x.c0*y.c3+x.c3*y.c0+x.c1*y.c2+x.c2*y.c1))(s42_5:SmlZ (x.d*y.d)):PCall P 38 [Q8 x,Q8 y] (Q8 (K.of (x.c0*y.c0+2*x.c1*y.c1+3*x.c2*y.c2+6*x.c3*y.c3) (x.c0*y.c1+x.c1*y.c0+3*x.c2*y.c3+3*x.c3*y.c2) (x.c0*y.c2+x.c2*y.c0+2*x.c1*y.c3+2*x.c3*y.c1) (x.c0*y.c3+x.c3*y.c0+x.c1*y.c2+x.c2*y.c1) (x.d*y.d))):=
 j3 (.r 4 (z0n (x) s4_0) (.r 8 (z0n (y) s8_0) (.r 13 (z4S (x)) (.c (lq 5 5) (.b 21 g1 (.r 23 (z4S (y)) (.c (lq 5 5) (.b 31 g2 (.r 36 (z3Y (x.c0) (x.c1) (x.c2) (x.c3) (y.c0) (y.c1) (y.c2) (y.c3) s36_0) (.r 41 (Y2 (x.d) (y.d) s41_0 s41_1 s41_2) (.r 42 (z8H (x.c0*y.c0+2*x.c1*y.c1+3*x.c2*y.c2+6*x.c3*y.c3) (x.c0*y.c1+x.c1*y.c0+3*x.c2*y.c3+3*x.c3*y.c2) (x.c0*y.c2+x.c2*y.c0+2*x.c1*y.c3+2*x.c3*y.c1) (x.c0*y.c3+x.c3*y.c0+x.c1*y.c2+x.c2*y.c1) (x.d*y.d) s42_0 s42_1 s42_2 s42_3 s42_4 s42_5) (.c (lq 10 10) .nil)))))))))))) (by kernel_rfl)
end Go.Fw
open Go
namespace Go.Fw
set_option maxRecDepth 100000
theorem zgt {n : Nat} (hn : n + n + 1 < 1073741824) {a0 a1 a2 a3 b0 b1 b2 b3 : Int} (ha : By4 n a0 a1 a2 a3) (hb : By4 n b0 b1 b2 b3) :
    SmlZ (a0*b0+2*a1*b1+3*a2*b2+6*a3*b3)∧SmlZ (a0*b1+a1*b0+3*a2*b3+3*a3*b2)∧SmlZ (a0*b2+a2*b0+2*a1*b3+2*a3*b1)∧SmlZ (a0*b3+a3*b0+a1*b2+a2*b1):=by
 obtain⟨x0,x1,x2,x3⟩:=ha
 obtain⟨y0,y1,y2,y3⟩:=hb
 have c:=fun(k a b:Int)=>Int.mul_assoc k a b
 have key: ∀{a b:Int},By n a→By n b→(a*b).natAbs<256^(n+n):=fun ha hb=>ha.mul hb
 obtain⟨M,hM⟩: ∃M,M=256^(n+n):=⟨_,rfl⟩
 have fin: ∀z:Int,z.natAbs<256*M→SmlZ z:=fun z hz=>Sml.of_lt (k:=n+n+1) (by rw[Nat.pow_succ,←hM,Nat.mul_comm];exact hz) hn
 refine⟨fin _ ?_,fin _ ?_,fin _ ?_,fin _ ?_⟩
 · have h1:=key x0 y0;have h2:=key x1 y1;have h3:=key x2 y2;have h4:=key x3 y3
   rw[←hM]at h1 h2 h3 h4
   rw[c,c,c];omega
 · have h1:=key x0 y1;have h2:=key x1 y0;have h3:=key x2 y3;have h4:=key x3 y2
   rw[←hM]at h1 h2 h3 h4
   rw[c,c];omega
 · have h1:=key x0 y2;have h2:=key x2 y0;have h3:=key x1 y3;have h4:=key x3 y1
   rw[←hM]at h1 h2 h3 h4
   rw[c,c];omega
 · have h1:=key x0 y3;have h2:=key x3 y0;have h3:=key x1 y2;have h4:=key x2 y1
   rw[←hM]at h1 h2 h3 h4
   omega
theorem z30(x y:K)(hx:x.sz≤1000000)(hy:y.sz≤1000000):PCall P 38 [Q8 x,Q8 y] (Q8 (x*y)):=by
 have hxs:=hx
 have hys:=hy
 obtain⟨x0,x1,x2,x3,xd⟩:=By.of_sz hx
 obtain⟨y0,y1,y2,y3,yd⟩:=By.of_sz hy
 have L:(1000000:Nat)<1073741824:=by decide
 have L2:(1000000:Nat)+1000000<1073741824:=by decide
 have hb:By4 1000000 x.c0 x.c1 x.c2 x.c3:=⟨x0,x1,x2,x3⟩
 have hb':By4 1000000 y.c0 y.c1 y.c2 y.c3:=⟨y0,y1,y2,y3⟩
 obtain⟨s0,s1,s2,s3⟩:=zgt (by decide) hb hb'
 have hex: ∃n,n≤500000000∧By4 n x.c0 x.c1 x.c2 x.c3∧By4 n y.c0 y.c1 y.c2 y.c3:=⟨1000000,by decide,hb,hb'⟩
 have dn:x.d*y.d≠0:=Int.mul_ne_zero x.d_ne y.d_ne
 cases h1:z8R x
 · exact zr4 x y h1 hxs hys hex (xd.sml L) (yd.sml L) (xd.sm2 yd L2) dn s0 s1 s2 s3 ((xd.mul yd).sml L2)
 · cases h2:z8R y
   · exact zmh x y h1 h2 hxs hys hex (xd.sml L) (yd.sml L) (xd.sm2 yd L2) dn s0 s1 s2 s3 ((xd.mul yd).sml L2)
   · exact zoY x y (z4i h1) (z4i h2)
theorem zok(x y:K)(hx:x.sz≤1000000)(hy:y.sz≤1000000):PCall P 39 [Q8 x,Q8 y] (Q8 (x-y)):=znl x y hy hx (by rw[K.sz_neg];exact hy)
end Go.Fw
open Go IntKind
namespace Go.Fw
set_option maxRecDepth 100000
theorem zix(x y:K)(s5_0:Smk y)(s6_0:x.sz+(-y).sz+2<1073741824):PCall P 135 [Q8 x,Q8 y] (Q8 (x+ -y)):=
 j3 (.r 5 (z8g (y) s5_0) (.r 6 (za2 (x) (-y) s6_0) (.c (lq 10 10) .nil))) (by kernel_rfl)
theorem zhh(x y z:K)(s4_0:Smk x)(s8_0:Smk y)(s13_0:Smk z):PCall P 134 [z1l x y z] (.lit (.bool true)):=
 j3 (.r 4 (z01 (x) s4_0) (.r 8 (z01 (y) s8_0) (.r 13 (z01 (z) s13_0) .nil))) (by kernel_rfl)
end Go.Fw
open Go
namespace Go.Fw
theorem za1(x y:K)(h:x.sz+y.sz+2<1073741824):PCall P 135 [Q8 x,Q8 y] (Q8 (x-y)):=zix x y (by simp only[Smk];omega) (by rw[K.sz_neg];exact h)
end Go.Fw
open Go IntKind
namespace Go.Fw
set_option maxRecDepth 100000
theorem znK(x y z:K)(i:Int)(s3_0:Smk x)(s3_1:Smk y)(s3_2:Smk z)(s17_0:x.sz+(X2 i).sz+2<1073741824)(s21_0:y.sz+(X6 i).sz+2<1073741824)(s22_0:(x*X2 i).sz+(y*X6 i).sz+2<1073741824)(s26_0:x.sz+(X6 i).sz+2<1073741824)(s30_0:y.sz+(X2 i).sz+2<1073741824)(s31_0:(x*X6 i).sz+(y*X2 i).sz+2<1073741824):PCall P 49 [z1l x y z,j6 i] (z1l (x*X2 i-y*X6 i) (x*X6 i+y*X2 i) z):=
 j3 (.r 3 (zhh (x) (y) (z) s3_0 s3_1 s3_2) (.r 7 (z69 (i)) (.r 9 (z8U (i)) (.c (lq 10 10) (.c (lq 10 10) (.r 17 (z3Z (x) (X2 i) s17_0) (.r 21 (z3Z (y) (X6 i) s21_0) (.r 22 (za1 (x*X2 i) (y*X6 i) s22_0) (.r 26 (z3Z (x) (X6 i) s26_0) (.r 30 (z3Z (y) (X2 i) s30_0) (.r 31 (za2 (x*X6 i) (y*X2 i) s31_0) (.c (lq 30 30) .nil)))))))))))) (by kernel_rfl)
theorem zo5(x y z:K)(s3_0:Smk x)(s3_1:Smk y)(s3_2:Smk z)(s8_0:Smk y):PCall P 51 [z1l x y z] (z1l x (-y) z):=
 j3 (.r 3 (zhh (x) (y) (z) s3_0 s3_1 s3_2) (.r 8 (z8g (y) s8_0) (.c (lq 20 30) (.c (lq 30 30) .nil)))) (by kernel_rfl)
end Go.Fw
open Go
namespace Go.Fw
set_option maxRecDepth 100000
theorem zav{x:K}(h:zm6 x=true):x.sz≤1:=by
 simp only[zm6,Bool.and_eq_true,decide_eq_true_eq]at h
 rw[K.sz_le]
 exact⟨h.1.1.1.1,h.1.1.1.2,h.1.1.2,h.1.2,h.2⟩
theorem zdm(i:Int):(X2 i).sz≤1:=by
 obtain⟨a,ha⟩:=zso i
 rw[zou ha];exact zav (zpM a).1
theorem zer(i:Int):(X6 i).sz≤1:=by
 obtain⟨a,ha⟩:=zso i
 rw[zri ha];exact zav (zpM a).2
theorem zeH (x y z : K) (i : Int) (hx : x.sz ≤ 1000000) (hy : y.sz ≤ 1000000) (hz : z.sz ≤ 1000000) :
    PCall P 49 [z1l x y z,j6 i] (z1l (x*X2 i-y*X6 i) (x*X6 i+y*X2 i) z):=by
 have c:=zdm i
 have s:=zer i
 have m1:=K.sz_mul x (X2 i)
 have m2:=K.sz_mul y (X6 i)
 have m3:=K.sz_mul x (X6 i)
 have m4:=K.sz_mul y (X2 i)
 exact znK x y z i (by simp only[Smk];omega) (by simp only[Smk];omega) (by simp only[Smk];omega) (by omega) (by omega) (by omega) (by omega) (by omega) (by omega)
theorem zko(x y z:K)(hx:x.sz≤1000000)(hy:y.sz≤1000000)(hz:z.sz≤1000000):PCall P 51 [z1l x y z] (z1l x (-y) z):=
 zo5 x y z (by simp only[Smk];omega) (by simp only[Smk];omega) (by simp only[Smk];omega) (by simp only[Smk];omega)
end Go.Fw
open Go IntKind
namespace Go.Fw
set_option maxRecDepth 100000
theorem zmg(x y z:K)(t:Int)(b:Bool)(h1:(U1 t)=true)(h2:(b)=true)(s11_0:x.sz≤1000000)(s11_1:y.sz≤1000000)(s11_2:z.sz≤1000000)(s16_0:x.sz≤1000000)(s16_1:(-y).sz≤1000000)(s16_2:z.sz≤1000000):PCall P 53 [z1l x y z,.agg [j6 t,.lit (.bool b)]] (.agg [.lit (.bool (decide ((x*X2 t- -y*X6 t).c0<0))),.lit (.string (bytesOf (x*X2 t- -y*X6 t).c0.natAbs)),.lit (.bool (decide ((x*X2 t- -y*X6 t).c1<0))),.lit (.string (bytesOf (x*X2 t- -y*X6 t).c1.natAbs)),.lit (.bool (decide ((x*X2 t- -y*X6 t).c2<0))),.lit (.string (bytesOf (x*X2 t- -y*X6 t).c2.natAbs)),.lit (.bool (decide ((x*X2 t- -y*X6 t).c3<0))),.lit (.string (bytesOf (x*X2 t- -y*X6 t).c3.natAbs)),.lit (.bool (decide ((x*X2 t- -y*X6 t).d<0))),.lit (.string (bytesOf (x*X2 t- -y*X6 t).d.natAbs)),.lit (.bool (decide ((x*X6 t+ -y*X2 t).c0<0))),.lit (.string (bytesOf (x*X6 t+ -y*X2 t).c0.natAbs)),.lit (.bool (decide ((x*X6 t+ -y*X2 t).c1<0))),.lit (.string (bytesOf (x*X6 t+ -y*X2 t).c1.natAbs)),.lit (.bool (decide ((x*X6 t+ -y*X2 t).c2<0))),.lit (.string (bytesOf (x*X6 t+ -y*X2 t).c2.natAbs)),.lit (.bool (decide ((x*X6 t+ -y*X2 t).c3<0))),.lit (.string (bytesOf (x*X6 t+ -y*X2 t).c3.natAbs)),.lit (.bool (decide ((x*X6 t+ -y*X2 t).d<0))),.lit (.string (bytesOf (x*X6 t+ -y*X2 t).d.natAbs)),.lit (.bool (decide (z.c0<0))),.lit (.string (bytesOf z.c0.natAbs)),.lit (.bool (decide (z.c1<0))),.lit (.string (bytesOf z.c1.natAbs)),.lit (.bool (decide (z.c2<0))),.lit (.string (bytesOf z.c2.natAbs)),.lit (.bool (decide (z.c3<0))),.lit (.string (bytesOf z.c3.natAbs)),.lit (.bool (decide (z.d<0))),.lit (.string (bytesOf z.d.natAbs))]):=
 j3 (.r 4 ((z0V (t) (b)).eqB h1) (.b 9 h2 (.r 11 (zko (x) (y) (z) s11_0 s11_1 s11_2) (.c (lq 30 30) (.r 16 (zeH (x) (-y) (z) (t) s16_0 s16_1 s16_2) (.c (lq 30 30) .nil)))))) (by kernel_rfl)
theorem zox(x y z:K)(t:Int)(b:Bool)(h1:(U1 t)=true)(h2:(b)=false)(s13_0:x.sz≤1000000)(s13_1:y.sz≤1000000)(s13_2:z.sz≤1000000):PCall P 53 [z1l x y z,.agg [j6 t,.lit (.bool b)]] (.agg [.lit (.bool (decide ((x*X2 t-y*X6 t).c0<0))),.lit (.string (bytesOf (x*X2 t-y*X6 t).c0.natAbs)),.lit (.bool (decide ((x*X2 t-y*X6 t).c1<0))),.lit (.string (bytesOf (x*X2 t-y*X6 t).c1.natAbs)),.lit (.bool (decide ((x*X2 t-y*X6 t).c2<0))),.lit (.string (bytesOf (x*X2 t-y*X6 t).c2.natAbs)),.lit (.bool (decide ((x*X2 t-y*X6 t).c3<0))),.lit (.string (bytesOf (x*X2 t-y*X6 t).c3.natAbs)),.lit (.bool (decide ((x*X2 t-y*X6 t).d<0))),.lit (.string (bytesOf (x*X2 t-y*X6 t).d.natAbs)),.lit (.bool (decide ((x*X6 t+y*X2 t).c0<0))),.lit (.string (bytesOf (x*X6 t+y*X2 t).c0.natAbs)),.lit (.bool (decide ((x*X6 t+y*X2 t).c1<0))),.lit (.string (bytesOf (x*X6 t+y*X2 t).c1.natAbs)),.lit (.bool (decide ((x*X6 t+y*X2 t).c2<0))),.lit (.string (bytesOf (x*X6 t+y*X2 t).c2.natAbs)),.lit (.bool (decide ((x*X6 t+y*X2 t).c3<0))),.lit (.string (bytesOf (x*X6 t+y*X2 t).c3.natAbs)),.lit (.bool (decide ((x*X6 t+y*X2 t).d<0))),.lit (.string (bytesOf (x*X6 t+y*X2 t).d.natAbs)),.lit (.bool (decide (z.c0<0))),.lit (.string (bytesOf z.c0.natAbs)),.lit (.bool (decide (z.c1<0))),.lit (.string (bytesOf z.c1.natAbs)),.lit (.bool (decide (z.c2<0))),.lit (.string (bytesOf z.c2.natAbs)),.lit (.bool (decide (z.c3<0))),.lit (.string (bytesOf z.c3.natAbs)),.lit (.bool (decide (z.d<0))),.lit (.string (bytesOf z.d.natAbs))]):=
 j3 (.r 4 ((z0V (t) (b)).eqB h1) (.b 9 h2 (.r 13 (zeH (x) (y) (z) (t) s13_0 s13_1 s13_2) (.c (lq 30 30) .nil)))) (by kernel_rfl)
end Go.Fw
open Go
namespace Go.Fw
set_option maxRecDepth 100000
def mvX(x y:K)(t:Int)(b:Bool):K:=x*X2 t-(if b then-y else y)*X6 t
def mvY(x y:K)(t:Int)(b:Bool):K:=x*X6 t+(if b then-y else y)*X2 t
def z09:List CV:=[.lit (.bool false),Y3 ⟨#[]⟩,.lit (.bool false),Y3 ⟨#[]⟩,.lit (.bool false),Y3 ⟨#[]⟩,.lit (.bool false),Y3 ⟨#[]⟩,.lit (.bool false),Y3 ⟨#[]⟩]
def V4:CV:= .agg (z09++(z09++z09))
theorem zia (x y z : K) (t : Int) (b : Bool) (ht : U1 t = true) (hx : x.sz ≤ 1000000) (hy : y.sz ≤ 1000000) (hz : z.sz ≤ 1000000) :
    PCall P 53 [z1l x y z,.agg [j6 t,.lit (.bool b)]] (z1l (mvX x y t b) (mvY x y t b) z):=by
 cases b with
 |true=>exact zmg x y z t true ht rfl hx hy hz hx (by rw[K.sz_neg];exact hy) hz
 |false=>exact zox x y z t false ht rfl hx hy hz
end Go.Fw
open Go
namespace Go.Fw
set_option maxRecDepth 100000
def z46(n:Nat)(x y z:RN):Bool:=x.raw n&&(y.raw n&&z.raw n)
def ok3(x y z:RN):Bool:=x.ok&&(y.ok&&z.ok)
theorem Y6{n:Nat}{x y z:RN}:z46 n x y z=true↔x.raw n=true∧y.raw n=true∧z.raw n=true:=by simp[z46]
theorem RN.raw_mono{x:RN}{n m:Nat}(h:x.raw n=true)(hm:n≤m):x.raw m=true:=by
 unfold RN.raw at h ⊢
 simp only[Bool.and_eq_true,decide_eq_true_eq]at h ⊢
 omega
theorem zlg(x y z:RN)(h:z46 1000000 x y z=true):PCall P 138 [z2k x y z] (.lit (.bool (ok3 x y z))):=by
 obtain⟨hx,hy,hz⟩:=Y6.1 h
 unfold ok3
 cases ex:x.ok
 · exact znx x y z ex hx
 · cases ey:y.ok
   · exact zqb x y z ex ey hx hy
   · cases ez:z.ok
     · exact zr1 x y z ex ey ez hx hy hz
     · exact zps x y z ex ey ez hx hy hz
theorem znb(x y z:RN)(h:z46 1000000 x y z=true):PCall P 134 [z2k x y z] (.lit (.bool (ok3 x y z))):=by
 obtain⟨hx,hy,hz⟩:=Y6.1 h
 unfold ok3
 cases ex:x.ok
 · exact zoK x y z ex hx
 · cases ey:y.ok
   · exact zo3 x y z ex ey hx hy
   · cases ez:z.ok
     · exact zod x y z ex ey ez hx hy hz
     · exact znz x y z ex ey ez hx hy hz
theorem znd(x y z:K)(hx:x.sz≤1000000)(hy:y.sz≤1000000)(hz:z.sz≤1000000):PCall P 138 [z1l x y z] (.lit (.bool true)):=by
 have:=zlg (.ofK x) (.ofK y) (.ofK z) (Y6.2 ⟨RN.ofK_raw x hx,RN.ofK_raw y hy,RN.ofK_raw z hz⟩)
 unfold ok3 at this
 rw[RN.ofK_ok,RN.ofK_ok,RN.ofK_ok]at this
 exact this
end Go.Fw
open Go IntKind
namespace Go.Fw
set_option maxRecDepth 100000
theorem zji(x y z:RN)(i:Int)(g:ok3 x y z=false)(s3_0:z46 1000000 x y z=true):PCall P 50 [z2k x y z,j6 i] V4:=
 j3 (.r 3 ((zlg (x) (y) (z) s3_0).eqB g) (.c (lq 30 30) .nil)) (by kernel_rfl)
theorem zlI(x y z:RN)(g:ok3 x y z=false)(s3_0:z46 1000000 x y z=true):PCall P 52 [z2k x y z] V4:=
 j3 (.r 3 ((zlg (x) (y) (z) s3_0).eqB g) (.c (lq 30 30) .nil)) (by kernel_rfl)
theorem zkG(x y z:RN)(i:Int)(g:ok3 x y z=false)(s3_0:z46 1000000 x y z=true):PCall P 49 [z2k x y z,j6 i] V4:=
 j3 (.r 3 ((znb (x) (y) (z) s3_0).eqB g) (.c (lq 30 30) .nil)) (by kernel_rfl)
theorem zhS(x y z:RN)(g:ok3 x y z=false)(s3_0:z46 1000000 x y z=true):PCall P 51 [z2k x y z] V4:=
 j3 (.r 3 ((znb (x) (y) (z) s3_0).eqB g) (.c (lq 30 30) .nil)) (by kernel_rfl)
theorem ziE(x y z:K)(i:Int)(s3_0:x.sz≤1000000)(s3_1:y.sz≤1000000)(s3_2:z.sz≤1000000)(s17_0:(X2 i).sz≤1000000)(s17_1:x.sz≤1000000)(s21_0:(X6 i).sz≤1000000)(s21_1:y.sz≤1000000)(s22_0:(X2 i*x).sz≤1000000)(s22_1:(X6 i*y).sz≤1000000)(s26_0:(X6 i).sz≤1000000)(s26_1:x.sz≤1000000)(s30_0:(X2 i).sz≤1000000)(s30_1:y.sz≤1000000)(s31_0:(X6 i*x).sz≤1000000)(s31_1:(X2 i*y).sz≤1000000):PCall P 50 [z1l x y z,j6 i] (z1l (X2 i*x-X6 i*y) (X6 i*x+X2 i*y) z):=
 j3 (.r 3 (znd (x) (y) (z) s3_0 s3_1 s3_2) (.r 7 (z93 (i)) (.r 9 (zcM (i)) (.c (lq 10 10) (.c (lq 10 10) (.r 17 (z30 (X2 i) (x) s17_0 s17_1) (.r 21 (z30 (X6 i) (y) s21_0 s21_1) (.r 22 (zok (X2 i*x) (X6 i*y) s22_0 s22_1) (.r 26 (z30 (X6 i) (x) s26_0 s26_1) (.r 30 (z30 (X2 i) (y) s30_0 s30_1) (.r 31 (z8o (X6 i*x) (X2 i*y) s31_0 s31_1) (.c (lq 30 30) .nil)))))))))))) (by kernel_rfl)
theorem zm3(x y z:K)(s3_0:x.sz≤1000000)(s3_1:y.sz≤1000000)(s3_2:z.sz≤1000000)(s10_0:y.sz≤1000000):PCall P 52 [z1l x y z] (z1l x (-y) z):=
 j3 (.r 3 (znd (x) (y) (z) s3_0 s3_1 s3_2) (.r 10 (z6W (y) s10_0) (.c (lq 30 30) .nil))) (by kernel_rfl)
end Go.Fw
open Go
namespace Go.Fw
set_option maxRecDepth 100000
theorem z3h{a b:ByteArray}(h:Y3 a=Y3 b):a=b:=by injection h with h;injection h
theorem zsv{x:RN}{k:K}{n:Nat}(h:x.l=zba k)(hr:x.raw n=true):k.sz≤n:=by
 unfold RN.l zba at h
 simp only[List.cons.injEq,and_true]at h
 obtain⟨_,e0,_,e1,_,e2,_,e3,_,e4⟩:=h
 have f0:=z3h e0
 have f1:=z3h e1
 have f2:=z3h e2
 have f3:=z3h e3
 have f4:=z3h e4
 unfold RN.raw at hr
 simp only[Bool.and_eq_true,decide_eq_true_eq]at hr
 rw[f0,f1,f2,f3,f4]at hr
 exact K.sz_le.2 ⟨U0.1 hr.1.1.1.1,U0.1 hr.1.1.1.2,U0.1 hr.1.1.2,U0.1 hr.1.2,U0.1 hr.2⟩
def RN.zero:RN:=⟨false,⟨#[]⟩,false,⟨#[]⟩,false,⟨#[]⟩,false,⟨#[]⟩,false,⟨#[]⟩⟩
theorem zaz:ok3 .zero .zero .zero=false:=by decide
theorem zai:z46 1000000 .zero .zero .zero=true:=by decide
theorem zc8(x y z:RN)(i:Int)(g:ok3 x y z=false)(h:z46 1000000 x y z=true):PCall P 49 [z2k x y z,j6 i] V4:=zkG x y z i g h
theorem zl1(x y z:RN)(g:ok3 x y z=false)(h:z46 1000000 x y z=true):PCall P 51 [z2k x y z] V4:=zhS x y z g h
theorem zcK(x y z:RN)(i:Int)(g:ok3 x y z=false)(h:z46 1000000 x y z=true):PCall P 50 [z2k x y z,j6 i] V4:=zji x y z i g h
theorem ziz(x y z:RN)(g:ok3 x y z=false)(h:z46 1000000 x y z=true):PCall P 52 [z2k x y z] V4:=zlI x y z g h
theorem zf0(i:Int):PCall P 49 [V4,j6 i] V4:=zc8 .zero .zero .zero i zaz zai
theorem zgT(i:Int):PCall P 50 [V4,j6 i] V4:=zcK .zero .zero .zero i zaz zai
theorem zdA (x y z : K) (i : Int) (hx : x.sz ≤ 100000) (hy : y.sz ≤ 100000) (hz : z.sz ≤ 100000) :
    PCall P 50 [z1l x y z,j6 i] (z1l (x*X2 i-y*X6 i) (x*X6 i+y*X2 i) z):=by
 have c:=zdm i
 have s:=zer i
 have m1:=K.sz_mul (X2 i) x
 have m2:=K.sz_mul (X6 i) y
 have m3:=K.sz_mul (X6 i) x
 have m4:=K.sz_mul (X2 i) y
 rw[K.mul_comm x,K.mul_comm y,K.mul_comm x,K.mul_comm y]
 exact ziE x y z i (by omega) (by omega) (by omega) (by omega) (by omega) (by omega) (by omega) (by omega) (by omega) (by omega) (by omega) (by omega) (by omega) (by omega) (by omega)
theorem zk7(x y z:K)(hx:x.sz≤1000000)(hy:y.sz≤1000000)(hz:z.sz≤1000000):PCall P 52 [z1l x y z] (z1l x (-y) z):=zm3 x y z hx hy hz hy
end Go.Fw
open Go IntKind
namespace Go.Fw
set_option maxRecDepth 100000
theorem zjd(x y z:RN)(t:Int)(b:Bool)(g:ok3 x y z=false)(h1:(U1 t)=true)(h2:(b)=true)(s11_0:z46 1000000 x y z=true):PCall P 53 [z2k x y z,.agg [j6 t,.lit (.bool b)]] V4:=
 j3 (.r 4 ((z0V (t) (b)).eqB h1) (.b 9 h2 (.r 11 (zl1 (x) (y) (z) g s11_0) (.c (lq 30 30) (.r 16 (zf0 (t)) (.c (lq 30 30) .nil)))))) (by kernel_rfl)
theorem zk2(x y z:RN)(t:Int)(b:Bool)(g:ok3 x y z=false)(h1:(U1 t)=true)(h2:(b)=false)(s13_0:z46 1000000 x y z=true):PCall P 53 [z2k x y z,.agg [j6 t,.lit (.bool b)]] V4:=
 j3 (.r 4 ((z0V (t) (b)).eqB h1) (.b 9 h2 (.r 13 (zc8 (x) (y) (z) (t) g s13_0) (.c (lq 30 30) .nil)))) (by kernel_rfl)
theorem zi4(x y z:RN)(t:Int)(b:Bool)(_g:ok3 x y z=false)(h1:(U1 t)=false):PCall P 53 [z2k x y z,.agg [j6 t,.lit (.bool b)]] V4:=
 j3 (.r 4 ((z0V (t) (b)).eqB h1) (.c (lq 30 30) .nil)) (by kernel_rfl)
theorem zk5(x y z:RN)(t:Int)(b:Bool)(g:ok3 x y z=false)(h1:(U1 t)=true)(h2:(b)=true)(s11_0:z46 1000000 x y z=true):PCall P 54 [z2k x y z,.agg [j6 t,.lit (.bool b)]] V4:=
 j3 (.r 4 ((z0J (t) (b)).eqB h1) (.b 9 h2 (.r 11 (ziz (x) (y) (z) g s11_0) (.c (lq 30 30) (.r 16 (zgT (t)) (.c (lq 30 30) .nil)))))) (by kernel_rfl)
theorem zlK(x y z:RN)(t:Int)(b:Bool)(g:ok3 x y z=false)(h1:(U1 t)=true)(h2:(b)=false)(s13_0:z46 1000000 x y z=true):PCall P 54 [z2k x y z,.agg [j6 t,.lit (.bool b)]] V4:=
 j3 (.r 4 ((z0J (t) (b)).eqB h1) (.b 9 h2 (.r 13 (zcK (x) (y) (z) (t) g s13_0) (.c (lq 30 30) .nil)))) (by kernel_rfl)
theorem zit(x y z:RN)(t:Int)(b:Bool)(_g:ok3 x y z=false)(h1:(U1 t)=false):PCall P 54 [z2k x y z,.agg [j6 t,.lit (.bool b)]] V4:=
 j3 (.r 4 ((z0J (t) (b)).eqB h1) (.c (lq 30 30) .nil)) (by kernel_rfl)
theorem ziG(x y z:K)(t:Int)(b:Bool)(h1:(U1 t)=true)(h2:(b)=true)(s11_0:x.sz≤1000000)(s11_1:y.sz≤1000000)(s11_2:z.sz≤1000000)(s16_0:x.sz≤100000)(s16_1:(-y).sz≤100000)(s16_2:z.sz≤100000):PCall P 54 [z1l x y z,.agg [j6 t,.lit (.bool b)]] (z1l (x*X2 t- -y*X6 t) (x*X6 t+ -y*X2 t) z):=
 j3 (.r 4 ((z0J (t) (b)).eqB h1) (.b 9 h2 (.r 11 (zk7 (x) (y) (z) s11_0 s11_1 s11_2) (.c (lq 30 30) (.r 16 (zdA (x) (-y) (z) (t) s16_0 s16_1 s16_2) (.c (lq 30 30) .nil)))))) (by kernel_rfl)
theorem zjV(x y z:K)(t:Int)(b:Bool)(h1:(U1 t)=true)(h2:(b)=false)(s13_0:x.sz≤100000)(s13_1:y.sz≤100000)(s13_2:z.sz≤100000):PCall P 54 [z1l x y z,.agg [j6 t,.lit (.bool b)]] (z1l (x*X2 t-y*X6 t) (x*X6 t+y*X2 t) z):=
 j3 (.r 4 ((z0J (t) (b)).eqB h1) (.b 9 h2 (.r 13 (zdA (x) (y) (z) (t) s13_0 s13_1 s13_2) (.c (lq 30 30) .nil)))) (by kernel_rfl)
end Go.Fw
open Go
namespace Go.Fw
set_option maxRecDepth 100000
theorem z7H(x y z:RN)(t:Int)(b:Bool)(g:ok3 x y z=false)(h:z46 1000000 x y z=true):PCall P 53 [z2k x y z,.agg [j6 t,.lit (.bool b)]] V4:=by
 cases ht:U1 t
 · exact zi4 x y z t b g ht
 · cases b
   · exact zk2 x y z t false g ht rfl h
   · exact zjd x y z t true g ht rfl h
theorem z7Z(x y z:RN)(t:Int)(b:Bool)(g:ok3 x y z=false)(h:z46 1000000 x y z=true):PCall P 54 [z2k x y z,.agg [j6 t,.lit (.bool b)]] V4:=by
 cases ht:U1 t
 · exact zit x y z t b g ht
 · cases b
   · exact zlK x y z t false g ht rfl h
   · exact zk5 x y z t true g ht rfl h
theorem zkX (x y z : K) (t : Int) (b : Bool) (ht : U1 t = true) (hx : x.sz ≤ 100000) (hy : y.sz ≤ 100000) (hz : z.sz ≤ 100000) :
    PCall P 54 [z1l x y z,.agg [j6 t,.lit (.bool b)]] (z1l (mvX x y t b) (mvY x y t b) z):=by
 cases b with
 |true=>exact ziG x y z t true ht rfl (by omega) (by omega) (by omega) hx (by rw[K.sz_neg];exact hy) hz
 |false=>exact zjV x y z t false ht rfl hx hy hz
end Go.Fw
open Go
namespace Go.Fw
set_option maxRecDepth 100000
theorem z2R{a b:Int}(h1:CV.lit (.bool (decide (a<0)))=CV.lit (.bool (decide (b<0))))(h2:Y3 (bytesOf a.natAbs)=Y3 (bytesOf b.natAbs)):a=b:=by
 have e2:=z5X (z3h h2)
 injection h1 with h1
 injection h1 with h1
 rw[decide_eq_decide]at h1
 omega
theorem zfk{x y:K}(h:zba x=zba y):x=y:=by
 unfold zba at h
 simp only[List.cons.injEq,and_true]at h
 obtain⟨a0,b0,a1,b1,a2,b2,a3,b3,a4,b4⟩:=h
 have e0:=z2R a0 b0
 have e1:=z2R a1 b1
 have e2:=z2R a2 b2
 have e3:=z2R a3 b3
 have e4:=z2R a4 b4
 cases x
 cases y
 simp only at e0 e1 e2 e3 e4
 subst e0 e1 e2 e3 e4
 rfl
noncomputable def toO(x:RN):Option K:=if h:x.ok=true then some (RN.ok_k h).choose else none
def ofO:Option K→RN
 |none=> .zero
 |some k=> .ofK k
theorem zgV{x:RN}(h:x.ok=true): ∃k,toO x=some k∧x.l=zba k:=⟨(RN.ok_k h).choose,dif_pos h,(RN.ok_k h).choose_spec⟩
theorem zcW{x:RN}(h:x.ok=false):toO x=none:=dif_neg (by rw[h];decide)
theorem z79(k:K):toO (.ofK k)=some k:=by
 obtain⟨k',h1,h2⟩:=zgV (RN.ofK_ok k)
 rw[RN.ofK_l]at h2
 rw[h1,zfk h2]
theorem z5D:toO .zero=none:=zcW (by decide)
theorem z7S(o:Option K):toO (ofO o)=o:=by
 cases o with
 |none=>exact z5D
 |some k=>exact z79 k
theorem z0I{x:RN}{k:K}(h:toO x=some k):x.ok=true∧x.l=zba k:=by
 cases e:x.ok
 · rw[zcW e]at h;cases h
 · obtain⟨k',h1,h2⟩:=zgV e
   rw[h1]at h
   injection h with h
   subst h
   exact⟨rfl,h2⟩
theorem U4{x:RN}(h:toO x=none):x.ok=false:=by
 cases e:x.ok
 · rfl
 · obtain⟨k',h1,_⟩:=zgV e
   rw[h1]at h;cases h
theorem z8B{x:RN}{k:K}(h:x.l=zba k):x.c=Q8 k:=by
 show CV.agg x.l=_
 rw[h];rfl
def osz:Option K→Nat
 |none=>0
 |some k=>k.sz
theorem z0N{o:Option K}{n:Nat}(h:osz o≤n):(ofO o).raw n=true:=by
 cases o with
 |none=>
  show RN.raw n .zero=true
  have h0:decide ((⟨#[]⟩:ByteArray).size≤n)=true:=decide_eq_true (Nat.zero_le _)
  show(decide ((⟨#[]⟩:ByteArray).size≤n)&&decide ((⟨#[]⟩:ByteArray).size≤n)&&decide ((⟨#[]⟩:ByteArray).size≤n)&&decide ((⟨#[]⟩:ByteArray).size≤n)&&decide ((⟨#[]⟩:ByteArray).size≤n))=true
  generalize decide ((⟨#[]⟩:ByteArray).size≤n)=q at h0
  subst h0;rfl
 |some k=>exact RN.ofK_raw k h
theorem z1B{x:RN}{n:Nat}(h:x.raw n=true):osz (toO x)≤n:=by
 cases e:toO x with
 |none=>exact Nat.zero_le _
 |some k=>exact zsv (z0I e).2 h
def zsn:Option K→Option K→Option K
 |some x,some y=>some (x*y)
 |_,_=>none
def zsk:Option K→Option K→Option K
 |some x,some y=>some (x+y)
 |_,_=>none
def zss:Option K→Option K→Option K
 |some x,some y=>some (x-y)
 |_,_=>none
def zrk:Option K→Option K
 |some x=>some (-x)
 |none=>none
theorem zif(x y:Option K):osz (zsn x y)≤osz x+osz y+1:=by
 cases x<;>cases y<;>first|exact Nat.zero_le _|exact K.sz_mul _ _
theorem zjv(x y:Option K):osz (zsk x y)≤osz x+osz y+1:=by
 cases x<;>cases y<;>first|exact Nat.zero_le _|exact K.sz_add _ _
theorem zhT(x:Option K):osz (zrk x)=osz x:=by
 cases x
 · rfl
 · exact K.sz_neg _
end Go.Fw
open Go IntKind
namespace Go.Fw
set_option maxRecDepth 100000
theorem zlD(x y:RN)(g:x.ok=false)(s4_0:RN.raw 1000000 x=true):PCall P 37 [x.c,y.c] (.agg z09):=
 j3 (.r 4 ((V0 (x) s4_0).eqB g) (.c (lq 10 10) .nil)) (by kernel_rfl)
theorem zkR(x y:RN)(g:x.ok=true)(g2:y.ok=false)(s4_0:RN.raw 1000000 x=true)(s8_0:RN.raw 1000000 y=true):PCall P 37 [x.c,y.c] (.agg z09):=
 j3 (.r 4 ((V0 (x) s4_0).eqB g) (.r 8 ((V0 (y) s8_0).eqB g2) (.c (lq 10 10) .nil))) (by kernel_rfl)
theorem zjC(x y:RN)(g:x.ok=false)(s4_0:RN.raw 1000000 x=true):PCall P 38 [x.c,y.c] (.agg z09):=
 j3 (.r 4 ((V0 (x) s4_0).eqB g) (.c (lq 10 10) .nil)) (by kernel_rfl)
theorem zkJ(x y:RN)(g:x.ok=true)(g2:y.ok=false)(s4_0:RN.raw 1000000 x=true)(s8_0:RN.raw 1000000 y=true):PCall P 38 [x.c,y.c] (.agg z09):=
 j3 (.r 4 ((V0 (x) s4_0).eqB g) (.r 8 ((V0 (y) s8_0).eqB g2) (.c (lq 10 10) .nil))) (by kernel_rfl)
theorem zi7(x:RN)(g:x.ok=false)(s3_0:RN.raw 1000000 x=true):PCall P 41 [x.c] (.agg z09):=
 j3 (.r 3 ((V0 (x) s3_0).eqB g) (.c (lq 10 10) .nil)) (by kernel_rfl)
end Go.Fw
