/- A part of the proof that the law returns true for every input: an executor for the model's code, and what functions of the program compute. -/
import Derived.Test.YtcafjpldfnegiaaGreatDoorB11
import Derived.Test.YtcafjpldfnegiaaGreatDoorB15
import Derived.Test.YtcafjpldfnegiaaGreatDoorB22
import Derived.Test.YtcafjpldfnegiaaGreatDoorB41
import Derived.KernelRfl
open Go
namespace Go.Fw
set_option maxRecDepth 100000
theorem z1A(z:Int):(z.sign==(0:Int))=decide (z=0):=by
 rw[Bool.eq_iff_iff,beq_iff_eq,decide_eq_true_eq]
 exact Int.sign_eq_zero_iff_zero
section
variable{X Y:Nat→Int}{p q:Nat}(hp:p+q+2<1073741824)(hX: ∀i,(X i).natAbs<256^p)(hY: ∀i,(Y i).natAbs<256^q)
include hp hX hY
theorem z5D {R : Goal} (hn : J0 R.n [0, 1, 2, 3] = true) (i j t : Nat) (hi : i < 4) (hj : j < 4) (ht : t ≤ 20) (C : Nat → Int) (hC : ∀ k, (C k).natAbs ≤ t * 6 * 256 ^ (p + q))
    (hR:Ok P 130 (loopHead P 130 1) (zeO X Y (z2a X Y i j C) i (j+1)) R):Ok P 130 (loopHead P 130 1) (zeO X Y C i j) R:=by
 have hii:(0:Int)≤(i:Int)∧(i:Int)<4:=by omega
 have hjj:(0:Int)≤(j:Int)∧(j:Int)<4:=by omega
 by_cases ha:X i=0
 · rw[z3c C (by rw[ha,Int.zero_mul])]at hR
   exact okS (zsn X Y C i j hi hj) rfl (.cons hii (.cons (Q7 _) (.cons (by rw[z1A];exact decide_eq_true ha) (.cons (z0f _) (.cons (z0f _) (.cons (z0f _) (.cons (z0f _) .nil))))))) hn hR
 · by_cases hb:Y j=0
   · rw[z3c C (by rw[hb,Int.mul_zero])]at hR
     exact okS (zsD X Y C i j hi hj) rfl (.cons hii (.cons (Q7 _) (.cons (by rw[z1A];exact decide_eq_false ha) (.cons hjj (.cons (Q7 _) (.cons (by rw[z1A];exact decide_eq_true hb) (.cons (z0f _) (.cons (z0f _) (.cons (z0f _) (.cons (z0f _) .nil)))))))))) hn hR
   · have hm:=z3A hX hY i j
     obtain⟨s1,s2⟩:=zdB i hi j hj
     have hw:256^(p+q+1)=256*256^(p+q):=by rw[Nat.pow_succ,Nat.mul_comm]
     have hf:(sq4 i j*(X i*Y j)).natAbs<6*256^(p+q)+1:=by
      rw[Int.natAbs_mul]
      have:(sq4 i j).natAbs≤6:=by omega
      have:=Nat.mul_le_mul this (Nat.le_of_lt hm)
      omega
     have smX:SmlZ (X i):=Sml.of_lt (hX i) (by omega)
     have smY:SmlZ (Y j):=Sml.of_lt (hY j) (by omega)
     have smM:Sml ((X i).natAbs*(Y j).natAbs):=by rw[←Int.natAbs_mul];exact Sml.of_lt hm (by omega)
     have smS:SmlZ (sq4 i j):=z27 (by omega)
     have smM':SmlZ (X i*Y j):=Sml.of_lt hm (by omega)
     have hCk:=hC (i^^^j)
     have ht6:t*6*256^(p+q)≤120*256^(p+q):=Nat.mul_le_mul_right _ (by omega)
     have hpp:0<256^(p+q):=Nat.pow_pos (by decide)
     have smF:SmlZ (sq4 i j*(X i*Y j)):=Sml.of_lt (k:=p+q+1) (by omega) (by omega)
     have smF2:Sml ((sq4 i j).natAbs*(X i*Y j).natAbs):=by rw[←Int.natAbs_mul];exact smF
     have smC:SmlZ (C (i^^^j)):=Sml.of_lt (k:=p+q+1) (by omega) (by omega)
     have smA:Sml ((C (i^^^j)).natAbs+(sq4 i j*(X i*Y j)).natAbs):=Sml.of_lt (k:=p+q+1) (by omega) (by omega)
     have hx4:i^^^j<4:=Nat.xor_lt_two_pow (n:=2) (by simpa using hi) (by simpa using hj)
     exact okS (zs3 X Y C i j hi hj) rfl (.cons hii (.cons (Q7 _) (.cons (by rw[z1A];exact decide_eq_false ha) (.cons hjj (.cons (Q7 _) (.cons (by rw[z1A];exact decide_eq_false hb) (.cons (W7 _ (by omega)) (.cons hii (.cons hjj
      (.cons (Y5 _ _ smX smY smM) (.cons (Y5 _ _ smS smM' smF2) (.cons (Nat.le_refl _) (.cons (by omega) (.cons (z0F _ _ smC smF smA) (.cons (by omega) (.cons (by omega) (.cons (z0f _) (.cons (z0f _) (.cons (z0f _) (.cons (z0f _) .nil)))))))))))))))))))) hn hR
theorem z4l {R : Goal} (hn : J0 R.n [0, 1, 2, 3] = true) (i t : Nat) (hi : i < 4) (ht : t ≤ 16) (C : Nat → Int) (hC : ∀ k, (C k).natAbs ≤ t * 6 * 256 ^ (p + q))
    (hR:Ok P 130 (loopHead P 130 0) (zml X Y (z2a X Y i 3 (z2a X Y i 2 (z2a X Y i 1 (z2a X Y i 0 C)))) (i+1)) R):Ok P 130 (loopHead P 130 0) (zml X Y C i) R:=by
 have b0:=z18 hX hY i 0 t hi (by decide) C hC
 have b1:=z18 hX hY i 1 (t+1) hi (by decide) _ b0
 have b2:=z18 hX hY i 2 (t+2) hi (by decide) _ b1
 have cv: ∀C:Nat→Int,Ps [CvL (cl4 X),CvL (cl4 Y),CvL (cl4 (fun _=>0)),CvL (cl4 C)]:=fun C=> .cons (z0f _) (.cons (z0f _) (.cons (z0f _) (.cons (z0f _) .nil)))
 refine okS (zsE X Y C i hi) rfl (cv _) hn ?_
 refine z5D hp hX hY hn i 0 t hi (by decide) (by omega) C hC ?_
 refine z5D hp hX hY hn i 1 (t+1) hi (by decide) (by omega) _ b0 ?_
 refine z5D hp hX hY hn i 2 (t+2) hi (by decide) (by omega) _ b1 ?_
 refine z5D hp hX hY hn i 3 (t+3) hi (by decide) (by omega) _ b2 ?_
 exact okS (zsz X Y _ i hi) rfl (cv _) hn hR
theorem zeT : PCall P 130 [c4C (X 0) (X 1) (X 2) (X 3), c4C (Y 0) (Y 1) (Y 2) (Y 3)]
    (c4C (X 0*Y 0+2*X 1*Y 1+3*X 2*Y 2+6*X 3*Y 3) (X 0*Y 1+X 1*Y 0+3*X 2*Y 3+3*X 3*Y 2) (X 0*Y 2+X 2*Y 0+2*X 1*Y 3+2*X 3*Y 1) (X 0*Y 3+X 3*Y 0+X 1*Y 2+X 2*Y 1)):=by
 have c0: ∀k:Nat,((fun _=>0:Nat→Int) k).natAbs≤0*6*256^(p+q):=by intro k;simp
 have c1:=z2k hX hY 0 0 (by decide) _ c0
 have c2:=z2k hX hY 1 4 (by decide) _ c1
 have c3:=z2k hX hY 2 8 (by decide) _ c2
 refine V8 (z7T (zrX X Y) rfl (.cons (z0f _) (.cons (z0f _) (.cons (z0f _) (.cons (z0f _) .nil)))) ?_)
 refine z4l hp hX hY rfl 0 0 (by decide) (by decide) _ c0 ?_
 refine z4l hp hX hY rfl 1 4 (by decide) (by decide) _ c1 ?_
 refine z4l hp hX hY rfl 2 8 (by decide) (by decide) _ c2 ?_
 refine z4l hp hX hY rfl 3 12 (by decide) (by decide) _ c3 ?_
 generalize hC:z2a X Y 3 3 _=C at*
 have e0:C 0=X 0*Y 0+2*X 1*Y 1+3*X 2*Y 2+6*X 3*Y 3:=by
  have:C 0=0+1*(X 0*Y 0)+2*(X 1*Y 1)+3*(X 2*Y 2)+6*(X 3*Y 3):=by rw[←hC];rfl
  rw[this];grind
 have e1:C 1=X 0*Y 1+X 1*Y 0+3*X 2*Y 3+3*X 3*Y 2:=by
  have:C 1=0+1*(X 0*Y 1)+1*(X 1*Y 0)+3*(X 2*Y 3)+3*(X 3*Y 2):=by rw[←hC];rfl
  rw[this];grind
 have e2:C 2=X 0*Y 2+X 2*Y 0+2*X 1*Y 3+2*X 3*Y 1:=by
  have:C 2=0+1*(X 0*Y 2)+2*(X 1*Y 3)+1*(X 2*Y 0)+2*(X 3*Y 1):=by rw[←hC];rfl
  rw[this];grind
 have e3:C 3=X 0*Y 3+X 3*Y 0+X 1*Y 2+X 2*Y 1:=by
  have:C 3=0+1*(X 0*Y 3)+1*(X 1*Y 2)+1*(X 2*Y 1)+1*(X 3*Y 0):=by rw[←hC];rfl
  rw[this];grind
 refine okR (zrZ X Y C) (.cons (Nat.le_refl _) .nil) ?_
 rw[←e0,←e1,←e2,←e3]
 rfl
end
end Go.Fw
open Go
namespace Go.Fw
set_option maxRecDepth 100000
def f4(a b c d:Int):Nat→Int
 |0=>a
 |1=>b
 |2=>c
 |_=>d
def By4(n:Nat)(a b c d:Int):Prop:=By n a∧By n b∧By n c∧By n d
theorem By4.f{n:Nat}{a b c d:Int}(h:By4 n a b c d)(i:Nat):(f4 a b c d i).natAbs<256^n:=by
 obtain⟨h0,h1,h2,h3⟩:=h
 match i with
 |0=>exact h0
 |1=>exact h1
 |2=>exact h2
 |n+3=>exact h3
theorem z4k (a0 a1 a2 a3 b0 b1 b2 b3 : Int) (hp : ∃ n, n ≤ 500000000 ∧ By4 n a0 a1 a2 a3 ∧ By4 n b0 b1 b2 b3) : PCall P 130 [c4C a0 a1 a2 a3, c4C b0 b1 b2 b3]
    (c4C (a0*b0+2*a1*b1+3*a2*b2+6*a3*b3) (a0*b1+a1*b0+3*a2*b3+3*a3*b2) (a0*b2+a2*b0+2*a1*b3+2*a3*b1) (a0*b3+a3*b0+a1*b2+a2*b1)):=by
 obtain⟨n,hn,ha,hb⟩:=hp
 exact zeT (X:=f4 a0 a1 a2 a3) (Y:=f4 b0 b1 b2 b3) (p:=n) (q:=n) (by omega) ha.f hb.f
end Go.Fw
open Go IntKind
namespace Go.Fw
set_option maxRecDepth 100000
theorem zmF(x y:K)(g1:z8t x=false)(s4_0:x.sz≤1000000)(s8_0:y.sz≤1000000)(s26_0: ∃n,n≤500000000∧By4 n x.c0 x.c1 x.c2 x.c3∧By4 n y.c0 y.c1 y.c2 y.c3)(s31_0:Sml x.d.natAbs)(s31_1:Sml y.d.natAbs)(s31_2:Sml (x.d.natAbs*y.d.natAbs))(s32_0:x.d*y.d≠0)(s32_1:SmlZ (x.c0*y.c0+2*x.c1*y.c1+3*x.c2*y.c2+6*x.c3*y.c3))(s32_2:SmlZ (x.c0*y.c1+x.c1*y.c0+3*x.c2*y.c3+3*x.c3*y.c2))(s32_3:SmlZ (x.c0*y.c2+x.c2*y.c0+2*x.c1*y.c3+2*x.c3*y.c1))(s32_4:SmlZ (x.c0*y.c3+x.c3*y.c0+x.c1*y.c2+x.c2*y.c1))(s32_5:SmlZ (x.d*y.d)):PCall P 38 [Z4 x,Z4 y] (Z4 (K.of (x.c0*y.c0+2*x.c1*y.c1+3*x.c2*y.c2+6*x.c3*y.c3) (x.c0*y.c1+x.c1*y.c0+3*x.c2*y.c3+3*x.c3*y.c2) (x.c0*y.c2+x.c2*y.c0+2*x.c1*y.c3+2*x.c3*y.c1) (x.c0*y.c3+x.c3*y.c0+x.c1*y.c2+x.c2*y.c1) (x.d*y.d))):=
 j3 (.r 4 (z0A (x) s4_0) (.r 8 (z0A (y) s8_0) (.r 13 (z4R (x)) (.c (lq 5 5) (.b 21 g1 (.r 26 (z4k (x.c0) (x.c1) (x.c2) (x.c3) (y.c0) (y.c1) (y.c2) (y.c3) s26_0) (.r 31 (Y5 (x.d) (y.d) s31_0 s31_1 s31_2) (.r 32 (z8X (x.c0*y.c0+2*x.c1*y.c1+3*x.c2*y.c2+6*x.c3*y.c3) (x.c0*y.c1+x.c1*y.c0+3*x.c2*y.c3+3*x.c3*y.c2) (x.c0*y.c2+x.c2*y.c0+2*x.c1*y.c3+2*x.c3*y.c1) (x.c0*y.c3+x.c3*y.c0+x.c1*y.c2+x.c2*y.c1) (x.d*y.d) s32_0 s32_1 s32_2 s32_3 s32_4 s32_5) (.c (lq 10 10) .nil))))))))) (by kernel_rfl)
theorem zoL(x y:K)(g1:z8t x=true)(g2:z8t y=false)(s4_0:x.sz≤1000000)(s8_0:y.sz≤1000000)(s36_0: ∃n,n≤500000000∧By4 n x.c0 x.c1 x.c2 x.c3∧By4 n y.c0 y.c1 y.c2 y.c3)(s41_0:Sml x.d.natAbs)(s41_1:Sml y.d.natAbs)(s41_2:Sml (x.d.natAbs*y.d.natAbs))(s42_0:x.d*y.d≠0)(s42_1:SmlZ (x.c0*y.c0+2*x.c1*y.c1+3*x.c2*y.c2+6*x.c3*y.c3))(s42_2:SmlZ (x.c0*y.c1+x.c1*y.c0+3*x.c2*y.c3+3*x.c3*y.c2))(s42_3:SmlZ (x.c0*y.c2+x.c2*y.c0+2*x.c1*y.c3+2*x.c3*y.c1))(s42_4:SmlZ (x.c0*y.c3+x.c3*y.c0+x.c1*y.c2+x.c2*y.c1))(s42_5:SmlZ (x.d*y.d)):PCall P 38 [Z4 x,Z4 y] (Z4 (K.of (x.c0*y.c0+2*x.c1*y.c1+3*x.c2*y.c2+6*x.c3*y.c3) (x.c0*y.c1+x.c1*y.c0+3*x.c2*y.c3+3*x.c3*y.c2) (x.c0*y.c2+x.c2*y.c0+2*x.c1*y.c3+2*x.c3*y.c1) (x.c0*y.c3+x.c3*y.c0+x.c1*y.c2+x.c2*y.c1) (x.d*y.d))):=
 j3 (.r 4 (z0A (x) s4_0) (.r 8 (z0A (y) s8_0) (.r 13 (z4R (x)) (.c (lq 5 5) (.b 21 g1 (.r 23 (z4R (y)) (.c (lq 5 5) (.b 31 g2 (.r 36 (z4k (x.c0) (x.c1) (x.c2) (x.c3) (y.c0) (y.c1) (y.c2) (y.c3) s36_0) (.r 41 (Y5 (x.d) (y.d) s41_0 s41_1 s41_2) (.r 42 (z8X (x.c0*y.c0+2*x.c1*y.c1+3*x.c2*y.c2+6*x.c3*y.c3) (x.c0*y.c1+x.c1*y.c0+3*x.c2*y.c3+3*x.c3*y.c2) (x.c0*y.c2+x.c2*y.c0+2*x.c1*y.c3+2*x.c3*y.c1) (x.c0*y.c3+x.c3*y.c0+x.c1*y.c2+x.c2*y.c1) (x.d*y.d) s42_0 s42_1 s42_2 s42_3 s42_4 s42_5) (.c (lq 10 10) .nil)))))))))))) (by kernel_rfl)
end Go.Fw
open Go
namespace Go.Fw
set_option maxRecDepth 100000
theorem zfz {n : Nat} (hn : n + n + 1 < 1073741824) {a0 a1 a2 a3 b0 b1 b2 b3 : Int} (ha : By4 n a0 a1 a2 a3) (hb : By4 n b0 b1 b2 b3) :
    SmlZ (a0*b0+2*a1*b1+3*a2*b2+6*a3*b3)∧SmlZ (a0*b1+a1*b0+3*a2*b3+3*a3*b2)∧SmlZ (a0*b2+a2*b0+2*a1*b3+2*a3*b1)∧SmlZ (a0*b3+a3*b0+a1*b2+a2*b1):=by
 obtain⟨x0,x1,x2,x3⟩:=ha
 obtain⟨y0,y1,y2,y3⟩:=hb
 have c:=fun(k a b:Int)=>Int.mul_assoc k a b
 have key: ∀{a b:Int},By n a→By n b→(a*b).natAbs<256^(n+n):=fun ha hb=>ha.mul hb
 obtain⟨M,hM⟩: ∃M,M=256^(n+n):=⟨_,rfl⟩
 have fin: ∀z:Int,z.natAbs<256*M→SmlZ z:=fun z hz=>Sml.of_lt (k:=n+n+1) (by rw[Nat.pow_succ,←hM,Nat.mul_comm];exact hz) hn
 refine⟨fin _ ?_,fin _ ?_,fin _ ?_,fin _ ?_⟩
 · have h1:=key x0 y0;have h2:=key x1 y1;have h3:=key x2 y2;have h4:=key x3 y3
   rw[←hM]at h1 h2 h3 h4
   rw[c,c,c];omega
 · have h1:=key x0 y1;have h2:=key x1 y0;have h3:=key x2 y3;have h4:=key x3 y2
   rw[←hM]at h1 h2 h3 h4
   rw[c,c];omega
 · have h1:=key x0 y2;have h2:=key x2 y0;have h3:=key x1 y3;have h4:=key x3 y1
   rw[←hM]at h1 h2 h3 h4
   rw[c,c];omega
 · have h1:=key x0 y3;have h2:=key x3 y0;have h3:=key x1 y2;have h4:=key x2 y1
   rw[←hM]at h1 h2 h3 h4
   omega
theorem zr8(x y:K)(hx:x.sz≤1000000)(hy:y.sz≤1000000):PCall P 38 [Z4 x,Z4 y] (Z4 (x*y)):=by
 have hxs:=hx
 have hys:=hy
 obtain⟨x0,x1,x2,x3,xd⟩:=By.of_sz hx
 obtain⟨y0,y1,y2,y3,yd⟩:=By.of_sz hy
 have L:(1000000:Nat)<1073741824:=by decide
 have L2:(1000000:Nat)+1000000<1073741824:=by decide
 have hb:By4 1000000 x.c0 x.c1 x.c2 x.c3:=⟨x0,x1,x2,x3⟩
 have hb':By4 1000000 y.c0 y.c1 y.c2 y.c3:=⟨y0,y1,y2,y3⟩
 obtain⟨s0,s1,s2,s3⟩:=zfz (by decide) hb hb'
 have hex: ∃n,n≤500000000∧By4 n x.c0 x.c1 x.c2 x.c3∧By4 n y.c0 y.c1 y.c2 y.c3:=⟨1000000,by decide,hb,hb'⟩
 have dn:x.d*y.d≠0:=Int.mul_ne_zero x.d_ne y.d_ne
 cases h1:z8t x
 · exact zmF x y h1 hxs hys hex (xd.sml L) (yd.sml L) (xd.sm2 yd L2) dn s0 s1 s2 s3 ((xd.mul yd).sml L2)
 · cases h2:z8t y
   · exact zoL x y h1 h2 hxs hys hex (xd.sml L) (yd.sml L) (xd.sm2 yd L2) dn s0 s1 s2 s3 ((xd.mul yd).sml L2)
   · exact zpQ x y (z48 h1) (z48 h2)
end Go.Fw
open Go
namespace Go.Fw
set_option maxRecDepth 100000
theorem zaM{x:K}(h:zmi x=true):x.sz≤1:=by
 simp only[zmi,Bool.and_eq_true,decide_eq_true_eq]at h
 rw[K.sz_le]
 exact⟨h.1.1.1.1,h.1.1.1.2,h.1.1.2,h.1.2,h.2⟩
theorem zmx(i:Int):(Z8 i).sz≤1:=by
 obtain⟨a,ha⟩:=zso i
 rw[zhD ha];exact zaM (zqN a).1
theorem zoG(i:Int):(Y0 i).sz≤1:=by
 obtain⟨a,ha⟩:=zso i
 rw[zhK ha];exact zaM (zqN a).2
end Go.Fw
open Go
namespace Go.Fw
set_option maxRecDepth 100000
def X9:List CV:=[.lit (.bool false),Y7 ⟨#[]⟩,.lit (.bool false),Y7 ⟨#[]⟩,.lit (.bool false),Y7 ⟨#[]⟩,.lit (.bool false),Y7 ⟨#[]⟩,.lit (.bool false),Y7 ⟨#[]⟩]
def ze2:CV:= .agg (X9++(X9++X9))
end Go.Fw
open Go
namespace Go.Fw
set_option maxRecDepth 100000
def zms(n:Nat)(x y z:RN):Bool:=x.raw n&&(y.raw n&&z.raw n)
def ok3(x y z:RN):Bool:=x.ok&&(y.ok&&z.ok)
theorem z0q{n:Nat}{x y z:RN}:zms n x y z=true↔x.raw n=true∧y.raw n=true∧z.raw n=true:=by simp[zms]
theorem RN.raw_mono{x:RN}{n m:Nat}(h:x.raw n=true)(hm:n≤m):x.raw m=true:=by
 unfold RN.raw at h ⊢
 simp only[Bool.and_eq_true,decide_eq_true_eq]at h ⊢
 omega
end Go.Fw
open Go
namespace Go.Fw
set_option maxRecDepth 100000
theorem z38{a b:ByteArray}(h:Y7 a=Y7 b):a=b:=by injection h with h;injection h
theorem zsL{x:RN}{k:K}{n:Nat}(h:x.l=zbw k)(hr:x.raw n=true):k.sz≤n:=by
 unfold RN.l zbw at h
 simp only[List.cons.injEq,and_true]at h
 obtain⟨_,e0,_,e1,_,e2,_,e3,_,e4⟩:=h
 have f0:=z38 e0
 have f1:=z38 e1
 have f2:=z38 e2
 have f3:=z38 e3
 have f4:=z38 e4
 unfold RN.raw at hr
 simp only[Bool.and_eq_true,decide_eq_true_eq]at hr
 rw[f0,f1,f2,f3,f4]at hr
 exact K.sz_le.2 ⟨U2.1 hr.1.1.1.1,U2.1 hr.1.1.1.2,U2.1 hr.1.1.2,U2.1 hr.1.2,U2.1 hr.2⟩
def RN.zero:RN:=⟨false,⟨#[]⟩,false,⟨#[]⟩,false,⟨#[]⟩,false,⟨#[]⟩,false,⟨#[]⟩⟩
end Go.Fw
open Go
namespace Go.Fw
set_option maxRecDepth 100000
theorem z2W{a b:Int}(h1:CV.lit (.bool (decide (a<0)))=CV.lit (.bool (decide (b<0))))(h2:Y7 (bytesOf a.natAbs)=Y7 (bytesOf b.natAbs)):a=b:=by
 have e2:=z6g (z38 h2)
 injection h1 with h1
 injection h1 with h1
 rw[decide_eq_decide]at h1
 omega
theorem zgm{x y:K}(h:zbw x=zbw y):x=y:=by
 unfold zbw at h
 simp only[List.cons.injEq,and_true]at h
 obtain⟨a0,b0,a1,b1,a2,b2,a3,b3,a4,b4⟩:=h
 have e0:=z2W a0 b0
 have e1:=z2W a1 b1
 have e2:=z2W a2 b2
 have e3:=z2W a3 b3
 have e4:=z2W a4 b4
 cases x
 cases y
 simp only at e0 e1 e2 e3 e4
 subst e0 e1 e2 e3 e4
 rfl
noncomputable def toO(x:RN):Option K:=if h:x.ok=true then some (RN.ok_k h).choose else none
def ofO:Option K→RN
 |none=> .zero
 |some k=> .ofK k
theorem zgd{x:RN}(h:x.ok=true): ∃k,toO x=some k∧x.l=zbw k:=⟨(RN.ok_k h).choose,dif_pos h,(RN.ok_k h).choose_spec⟩
theorem zey{x:RN}(h:x.ok=false):toO x=none:=dif_neg (by rw[h];decide)
theorem z98(k:K):toO (.ofK k)=some k:=by
 obtain⟨k',h1,h2⟩:=zgd (RN.ofK_ok k)
 rw[RN.ofK_l]at h2
 rw[h1,zgm h2]
theorem zaf:toO .zero=none:=zey (by decide)
theorem z9f(o:Option K):toO (ofO o)=o:=by
 cases o with
 |none=>exact zaf
 |some k=>exact z98 k
theorem z0O{x:RN}{k:K}(h:toO x=some k):x.ok=true∧x.l=zbw k:=by
 cases e:x.ok
 · rw[zey e]at h;cases h
 · obtain⟨k',h1,h2⟩:=zgd e
   rw[h1]at h
   injection h with h
   subst h
   exact⟨rfl,h2⟩
theorem z01{x:RN}(h:toO x=none):x.ok=false:=by
 cases e:x.ok
 · rfl
 · obtain⟨k',h1,_⟩:=zgd e
   rw[h1]at h;cases h
theorem z94{x:RN}{k:K}(h:x.l=zbw k):x.c=Z4 k:=by
 show CV.agg x.l=_
 rw[h];rfl
def osz:Option K→Nat
 |none=>0
 |some k=>k.sz
theorem z1h{o:Option K}{n:Nat}(h:osz o≤n):(ofO o).raw n=true:=by
 cases o with
 |none=>
  show RN.raw n .zero=true
  have h0:decide ((⟨#[]⟩:ByteArray).size≤n)=true:=decide_eq_true (Nat.zero_le _)
  show(decide ((⟨#[]⟩:ByteArray).size≤n)&&decide ((⟨#[]⟩:ByteArray).size≤n)&&decide ((⟨#[]⟩:ByteArray).size≤n)&&decide ((⟨#[]⟩:ByteArray).size≤n)&&decide ((⟨#[]⟩:ByteArray).size≤n))=true
  generalize decide ((⟨#[]⟩:ByteArray).size≤n)=q at h0
  subst h0;rfl
 |some k=>exact RN.ofK_raw k h
theorem z1i{x:RN}{n:Nat}(h:x.raw n=true):osz (toO x)≤n:=by
 cases e:toO x with
 |none=>exact Nat.zero_le _
 |some k=>exact zsL (z0O e).2 h
def zsV:Option K→Option K→Option K
 |some x,some y=>some (x*y)
 |_,_=>none
def zsa:Option K→Option K→Option K
 |some x,some y=>some (x+y)
 |_,_=>none
def zrR:Option K→Option K→Option K
 |some x,some y=>some (x-y)
 |_,_=>none
def zrF:Option K→Option K
 |some x=>some (-x)
 |none=>none
theorem ziY(x y:Option K):osz (zsV x y)≤osz x+osz y+1:=by
 cases x<;>cases y<;>first|exact Nat.zero_le _|exact K.sz_mul _ _
theorem zje(x y:Option K):osz (zsa x y)≤osz x+osz y+1:=by
 cases x<;>cases y<;>first|exact Nat.zero_le _|exact K.sz_add _ _
theorem ziX(x y:Option K):osz (zrR x y)≤osz x+osz y+1:=by
 cases x<;>cases y<;>first|exact Nat.zero_le _|exact K.sz_sub _ _
theorem zcS(x:Option K):osz (zrF x)=osz x:=by
 cases x
 · rfl
 · exact K.sz_neg _
end Go.Fw
open Go IntKind
namespace Go.Fw
set_option maxRecDepth 100000
theorem zlb(x y:RN)(g:x.ok=false)(s4_0:RN.raw 1000000 x=true):PCall P 37 [x.c,y.c] (.agg X9):=
 j3 (.r 4 ((z0g (x) s4_0).eqB g) (.c (lq 10 10) .nil)) (by kernel_rfl)
theorem ziq(x y:RN)(g:x.ok=true)(g2:y.ok=false)(s4_0:RN.raw 1000000 x=true)(s8_0:RN.raw 1000000 y=true):PCall P 37 [x.c,y.c] (.agg X9):=
 j3 (.r 4 ((z0g (x) s4_0).eqB g) (.r 8 ((z0g (y) s8_0).eqB g2) (.c (lq 10 10) .nil))) (by kernel_rfl)
theorem zjQ(x y:RN)(g:x.ok=false)(s4_0:RN.raw 1000000 x=true):PCall P 38 [x.c,y.c] (.agg X9):=
 j3 (.r 4 ((z0g (x) s4_0).eqB g) (.c (lq 10 10) .nil)) (by kernel_rfl)
theorem zil(x y:RN)(g:x.ok=true)(g2:y.ok=false)(s4_0:RN.raw 1000000 x=true)(s8_0:RN.raw 1000000 y=true):PCall P 38 [x.c,y.c] (.agg X9):=
 j3 (.r 4 ((z0g (x) s4_0).eqB g) (.r 8 ((z0g (y) s8_0).eqB g2) (.c (lq 10 10) .nil))) (by kernel_rfl)
theorem zjG(x:RN)(g:x.ok=false)(s3_0:RN.raw 1000000 x=true):PCall P 41 [x.c] (.agg X9):=
 j3 (.r 3 ((z0g (x) s3_0).eqB g) (.c (lq 10 10) .nil)) (by kernel_rfl)
end Go.Fw
open Go
namespace Go.Fw
set_option maxRecDepth 100000
theorem z0P{x:RN}{k:K}{n:Nat}(h:toO x=some k)(hx:x.raw n=true):k.sz≤n:=zsL (z0O h).2 hx
noncomputable def z0Y(x y:RN):RN:=ofO (zsa (toO x) (toO y))
noncomputable def z2Q(x y:RN):RN:=ofO (zrR (toO x) (toO y))
noncomputable def J9(x y:RN):RN:=ofO (zsV (toO x) (toO y))
noncomputable def z44(x:RN):RN:=ofO (zrF (toO x))
theorem zaD(x:RN):toO (z44 x)=zrF (toO x):=z9f _
theorem z8j(x y:RN)(hx:x.raw 1000000=true)(hy:y.raw 1000000=true):PCall P 37 [x.c,y.c] (z0Y x y).c:=by
 unfold z0Y
 cases ex:toO x with
 |none=>exact zlb x y (z01 ex) hx
 |some k=>
  cases ey:toO y with
  |none=>exact ziq x y (z0O ex).1 (z01 ey) hx hy
  |some l=>
   rw[z94 (z0O ex).2,z94 (z0O ey).2]
   exact zpk k l (z0P ex hx) (z0P ey hy)
theorem z0R(x y:RN)(hx:x.raw 1000000=true)(hy:y.raw 1000000=true):PCall P 38 [x.c,y.c] (J9 x y).c:=by
 unfold J9
 cases ex:toO x with
 |none=>exact zjQ x y (z01 ex) hx
 |some k=>
  cases ey:toO y with
  |none=>exact zil x y (z0O ex).1 (z01 ey) hx hy
  |some l=>
   rw[z94 (z0O ex).2,z94 (z0O ey).2]
   exact zr8 k l (z0P ex hx) (z0P ey hy)
theorem zam(x:RN)(hx:x.raw 1000000=true):PCall P 41 [x.c] (z44 x).c:=by
 unfold z44
 cases ex:toO x with
 |none=>exact zjG x (z01 ex) hx
 |some k=>
  rw[z94 (z0O ex).2]
  exact zoF k (z0P ex hx)
theorem znu(x y:Option K):zsa x (zrF y)=zrR x y:=by
 cases x<;>cases y<;>rfl
theorem zpX{x y z:RN}{k l m:K}(hx:toO x=some k)(hy:toO y=some l)(hz:toO z=some m):ziQ x y z=zeP k l m:=by
 unfold ziQ zeP
 rw[(z0O hx).2,(z0O hy).2,(z0O hz).2]
theorem zgn{x y z:RN}(h:toO x=none∨toO y=none∨toO z=none):ok3 x y z=false:=by
 unfold ok3
 rcases h with h|h|h<;>rw[z01 h]<;>simp
abbrev rnB(x y:RN):Bool:=x.b0==y.b0&&(x.s0==y.s0&&true)&&(x.b1==y.b1&&(x.s1==y.s1&&true)&&(x.b2==y.b2&&(x.s2==y.s2&&true)&&(x.b3==y.b3&&(x.s3==y.s3&&true)&&true)))&&(x.b4==y.b4&&(x.s4==y.s4&&true)&&true)
theorem z3G{x y:RN}:rnB x y=true↔x=y:=by
 cases x
 cases y
 simp only[rnB,zdf,Bool.and_eq_true,beq_iff_eq,and_true,RN.mk.injEq,decide_eq_true_eq]
 constructor
 · rintro⟨⟨h0,h1,h2,h3⟩,h4⟩
   exact⟨h0.1,h0.2,h1.1,h1.2,h2.1,h2.2,h3.1,h3.2,h4.1,h4.2⟩
 · rintro⟨a,b,c,d,e,f,g,h,i,j⟩
   exact⟨⟨⟨a,b⟩,⟨c,d⟩,⟨e,f⟩,⟨g,h⟩⟩,i,j⟩
end Go.Fw
open Go IntKind
namespace Go.Fw
set_option maxRecDepth 100000
theorem zjI(x y:RN)(s5_0:RN.raw 1000000 y=true)(s6_0:RN.raw 1000000 x=true)(s6_1:RN.raw 1000000 (z44 y)=true):PCall P 39 [x.c,y.c] (RN.c (z0Y x (z44 y))):=
 j3 (.r 5 (zam (y) s5_0) (.r 6 (z8j (x) (z44 y) s6_0 s6_1) (.c (lq 10 10) .nil))) (by kernel_rfl)
end Go.Fw
open Go
namespace Go.Fw
set_option maxRecDepth 100000
theorem zap(x y:RN)(hx:x.raw 1000000=true)(hy:y.raw 1000000=true):PCall P 39 [x.c,y.c] (z2Q x y).c:=by
 have h:=zjI x y hy hx (z1h (by rw[zcS];exact z1i hy))
 have e:z0Y x (z44 y)=z2Q x y:=by unfold z0Y z2Q;rw[zaD,znu]
 rw[e]at h
 exact h
theorem z0k{x y:RN}{n:Nat}(hx:x.raw n=true)(hy:y.raw n=true):(J9 x y).raw (n+n+1)=true:=by
 have h1:=z1i hx
 have h2:=z1i hy
 have h3:=ziY (toO x) (toO y)
 exact z1h (by omega)
theorem zkd{x y:RN}{n:Nat}(hx:x.raw n=true)(hy:y.raw n=true):(z0Y x y).raw (n+n+1)=true:=by
 have h1:=z1i hx
 have h2:=z1i hy
 have h3:=zje (toO x) (toO y)
 exact z1h (by omega)
theorem ziS{x y:RN}{n:Nat}(hx:x.raw n=true)(hy:y.raw n=true):(z2Q x y).raw (n+n+1)=true:=by
 have h1:=z1i hx
 have h2:=z1i hy
 have h3:=ziX (toO x) (toO y)
 exact z1h (by omega)
theorem z4M{x:RN}{n:Nat}(hx:x.raw n=true):(z44 x).raw n=true:=z1h (by rw[zcS];exact z1i hx)
end Go.Fw
open Go
namespace Go.Fw
set_option maxRecDepth 100000
structure VN where
 x:RN
 y:RN
 z:RN
namespace VN
def c(v:VN):CV:=ziQ v.x v.y v.z
def raw(n:Nat)(v:VN):Bool:=zms n v.x v.y v.z
def ok(v:VN):Bool:=ok3 v.x v.y v.z
def zero:VN:=⟨.zero,.zero,.zero⟩
theorem raw_mono{v:VN}{n m:Nat}(h:v.raw n=true)(hm:n≤m):v.raw m=true:=by
 obtain⟨hx,hy,hz⟩:=z0q.1 h
 exact z0q.2 ⟨RN.raw_mono hx hm,RN.raw_mono hy hm,RN.raw_mono hz hm⟩
end VN
structure V3 where
 x:K
 y:K
 z:K
def V3.c(v:V3):CV:=zeP v.x v.y v.z
def V3.sz(v:V3):Nat:=max v.x.sz (max v.y.sz v.z.sz)
noncomputable def toV(v:VN):Option V3:=match toO v.x,toO v.y,toO v.z with
 |some x,some y,some z=>some ⟨x,y,z⟩
 |_,_,_=>none
def ofV:Option V3→VN
 |none=> .zero
 |some v=>⟨.ofK v.x,.ofK v.y,.ofK v.z⟩
theorem zeB(o:Option V3):toV (ofV o)=o:=by
 cases o with
 |none=>unfold toV ofV VN.zero;simp only[zaf]
 |some v=>unfold toV ofV;simp only[z98]
theorem z7a{v:VN}{k:V3}(h:toV v=some k):toO v.x=some k.x∧toO v.y=some k.y∧toO v.z=some k.z:=by
 unfold toV at h
 split at h
 · rename_i x y z h1 h2 h3
   injection h with h
   subst h
   exact⟨h1,h2,h3⟩
 · cases h
theorem zaH{v:VN}(h:toV v=none):v.ok=false:=by
 unfold toV at h
 split at h
 · cases h
 · rename_i hx
   refine zgn ?_
   cases e1:toO v.x with
   |none=>exact .inl rfl
   |some a=>
    cases e2:toO v.y with
    |none=>exact .inr (.inl rfl)
    |some b=>
     cases e3:toO v.z with
     |none=>exact .inr (.inr rfl)
     |some c=>exact(hx a b c e1 e2 e3).elim
theorem zhT{v:VN}{k:V3}(h:toV v=some k):v.ok=true:=by
 obtain⟨h1,h2,h3⟩:=z7a h
 show ok3 v.x v.y v.z=true
 unfold ok3
 rw[(z0O h1).1,(z0O h2).1,(z0O h3).1];rfl
theorem zod{v:VN}{k:V3}(h:toV v=some k):v.c=k.c:=by
 obtain⟨h1,h2,h3⟩:=z7a h
 exact zpX h1 h2 h3
theorem zhY{v:VN}{k:V3}{n:Nat}(h:toV v=some k)(hr:v.raw n=true):k.x.sz≤n∧k.y.sz≤n∧k.z.sz≤n:=by
 obtain⟨h1,h2,h3⟩:=z7a h
 obtain⟨a,b,c⟩:=z0q.1 hr
 exact⟨z0P h1 a,z0P h2 b,z0P h3 c⟩
def vsz:Option V3→Nat
 |none=>0
 |some v=>v.sz
theorem zjL{o:Option V3}{n:Nat}(h:vsz o≤n):(ofV o).raw n=true:=by
 cases o with
 |none=>exact z0q.2 ⟨z1h (o:=none) (Nat.zero_le _),z1h (o:=none) (Nat.zero_le _),z1h (o:=none) (Nat.zero_le _)⟩
 |some v=>
  have h':max v.x.sz (max v.y.sz v.z.sz)≤n:=h
  exact z0q.2 ⟨RN.ofK_raw v.x (by omega),RN.ofK_raw v.y (by omega),RN.ofK_raw v.z (by omega)⟩
end Go.Fw
open Go IntKind
namespace Go.Fw
set_option maxRecDepth 100000
theorem zqV(v:VN)(h1:(v.x.ok)=true)(h2:(v.y.ok)=true)(h3:(v.z.ok)=true)(s4_0:RN.raw 1000000 v.x=true)(s8_0:RN.raw 1000000 v.y=true)(s13_0:RN.raw 1000000 v.z=true):PCall P 99 [v.c] (.lit (.bool true)):=
 j3 (.r 4 ((z0g (v.x) s4_0).eqB h1) (.r 8 ((z0g (v.y) s8_0).eqB h2) (.r 13 ((z0g (v.z) s13_0).eqB h3) .nil))) (by kernel_rfl)
theorem zqf(v:VN)(h1:(v.x.ok)=true)(h2:(v.y.ok)=true)(h3:(v.z.ok)=false)(s4_0:RN.raw 1000000 v.x=true)(s8_0:RN.raw 1000000 v.y=true)(s13_0:RN.raw 1000000 v.z=true):PCall P 99 [v.c] (.lit (.bool false)):=
 j3 (.r 4 ((z0g (v.x) s4_0).eqB h1) (.r 8 ((z0g (v.y) s8_0).eqB h2) (.r 13 ((z0g (v.z) s13_0).eqB h3) .nil))) (by kernel_rfl)
theorem zpq(v:VN)(h1:(v.x.ok)=true)(h2:(v.y.ok)=false)(s4_0:RN.raw 1000000 v.x=true)(s8_0:RN.raw 1000000 v.y=true):PCall P 99 [v.c] (.lit (.bool false)):=
 j3 (.r 4 ((z0g (v.x) s4_0).eqB h1) (.r 8 ((z0g (v.y) s8_0).eqB h2) .nil)) (by kernel_rfl)
theorem znn(v:VN)(h1:(v.x.ok)=false)(s4_0:RN.raw 1000000 v.x=true):PCall P 99 [v.c] (.lit (.bool false)):=
 j3 (.r 4 ((z0g (v.x) s4_0).eqB h1) .nil) (by kernel_rfl)
end Go.Fw
open Go
namespace Go.Fw
set_option maxRecDepth 100000
theorem zgM(v:VN)(h:v.raw 1000000=true):PCall P 99 [v.c] (.lit (.bool v.ok)):=by
 obtain⟨hx,hy,hz⟩:=z0q.1 h
 unfold VN.ok ok3
 cases ex:v.x.ok
 · exact znn v ex hx
 · cases ey:v.y.ok
   · exact zpq v ex ey hx hy
   · cases ez:v.z.ok
     · exact zqf v ex ey ez hx hy hz
     · exact zqV v ex ey ez hx hy hz
end Go.Fw
open Go IntKind
namespace Go.Fw
set_option maxRecDepth 100000
theorem zlE(a b c:Int)(s2_0:(-9223372036854775808:Int)≤a∧a≤9223372036854775807)(s4_0:(-9223372036854775808:Int)≤b∧b≤9223372036854775807)(s6_0:(-9223372036854775808:Int)≤c∧c≤9223372036854775807):PCall P 63 [j4 a,j4 b,j4 c] (zeP (K.ofInt a) (K.ofInt b) (K.ofInt c)):=
 j3 (.r 2 (z3S (a) s2_0) (.r 4 (z3S (b) s4_0) (.r 6 (z3S (c) s6_0) (.c (lq 30 30) .nil)))) (by kernel_rfl)
end Go.Fw
open Go
namespace Go.Fw
set_option maxRecDepth 100000
namespace V3
def add(a b:V3):V3:=⟨a.x+b.x,a.y+b.y,a.z+b.z⟩
def sub(a b:V3):V3:=⟨a.x-b.x,a.y-b.y,a.z-b.z⟩
def neg(a:V3):V3:=⟨-a.x,-a.y,-a.z⟩
def scale(a:V3)(k:K):V3:=⟨a.x*k,a.y*k,a.z*k⟩
def cross(a b:V3):V3:=⟨a.y*b.z-a.z*b.y,a.z*b.x-a.x*b.z,a.x*b.y-a.y*b.x⟩
end V3
def o2{α β γ:Type}(f:α→β→γ):Option α→Option β→Option γ
 |some a,some b=>some (f a b)
 |_,_=>none
noncomputable def z3W(v:VN)(k:RN):VN:=ofV (o2 V3.scale (toV v) (toO k))
end Go.Fw
open Go IntKind
namespace Go.Fw
set_option maxRecDepth 100000
theorem zkv(x y:RN)(g:x.ok=false)(s4_0:RN.raw 1000000 x=true):PCall P 137 [x.c,y.c] (.agg X9):=
 j3 (.r 4 ((z1c (x) s4_0).eqB g) (.c (lq 10 10) .nil)) (by kernel_rfl)
theorem zlr(x y:RN)(g:x.ok=true)(g2:y.ok=false)(s4_0:RN.raw 1000000 x=true)(s8_0:RN.raw 1000000 y=true):PCall P 137 [x.c,y.c] (.agg X9):=
 j3 (.r 4 ((z1c (x) s4_0).eqB g) (.r 8 ((z1c (y) s8_0).eqB g2) (.c (lq 10 10) .nil))) (by kernel_rfl)
theorem zlo(x y:RN)(g:x.ok=false)(s4_0:RN.raw 1000000 x=true):PCall P 136 [x.c,y.c] (.agg X9):=
 j3 (.r 4 ((z1c (x) s4_0).eqB g) (.c (lq 10 10) .nil)) (by kernel_rfl)
theorem zjR(x y:RN)(g:x.ok=true)(g2:y.ok=false)(s4_0:RN.raw 1000000 x=true)(s8_0:RN.raw 1000000 y=true):PCall P 136 [x.c,y.c] (.agg X9):=
 j3 (.r 4 ((z1c (x) s4_0).eqB g) (.r 8 ((z1c (y) s8_0).eqB g2) (.c (lq 10 10) .nil))) (by kernel_rfl)
theorem zj9(x:RN)(g:x.ok=false)(s3_0:RN.raw 1000000 x=true):PCall P 121 [x.c] (.agg X9):=
 j3 (.r 3 ((z1c (x) s3_0).eqB g) (.c (lq 10 10) .nil)) (by kernel_rfl)
theorem zku(x:RN)(g:x.ok=false)(s3_0:RN.raw 1000000 x=true):PCall P 146 [x.c] (.lit (.int .i64 0)):=
 j3 (.r 3 ((z1c (x) s3_0).eqB g) .nil) (by kernel_rfl)
theorem zl5(x y:RN)(g:x.ok=false)(s5_0:RN.raw 1000000 x=true):PCall P 147 [x.c,y.c] (.tup [.agg X9,.lit (.int .i64 1)]):=
 j3 (.r 5 ((z1c (x) s5_0).eqB g) (.c (lq 10 10) .nil)) (by kernel_rfl)
theorem zkF(x y:RN)(g:x.ok=true)(g2:y.ok=false)(s5_0:RN.raw 1000000 x=true)(s9_0:RN.raw 1000000 y=true):PCall P 147 [x.c,y.c] (.tup [.agg X9,.lit (.int .i64 1)]):=
 j3 (.r 5 ((z1c (x) s5_0).eqB g) (.r 9 ((z1c (y) s9_0).eqB g2) (.c (lq 10 10) .nil))) (by kernel_rfl)
end Go.Fw
open Go
namespace Go.Fw
set_option maxRecDepth 100000
theorem z8H(x y:RN)(hx:x.raw 1000000=true)(hy:y.raw 1000000=true):PCall P 137 [x.c,y.c] (z0Y x y).c:=by
 unfold z0Y
 cases ex:toO x with
 |none=>exact zkv x y (z01 ex) hx
 |some k=>
  cases ey:toO y with
  |none=>exact zlr x y (z0O ex).1 (z01 ey) hx hy
  |some l=>
   have a:=z0P ex hx
   have b:=z0P ey hy
   rw[z94 (z0O ex).2,z94 (z0O ey).2]
   exact zhS k l (by omega)
theorem z0r(x y:RN)(hx:x.raw 1000000=true)(hy:y.raw 1000000=true):PCall P 136 [x.c,y.c] (J9 x y).c:=by
 unfold J9
 cases ex:toO x with
 |none=>exact zlo x y (z01 ex) hx
 |some k=>
  cases ey:toO y with
  |none=>exact zjR x y (z0O ex).1 (z01 ey) hx hy
  |some l=>
   have a:=z0P ex hx
   have b:=z0P ey hy
   rw[z94 (z0O ex).2,z94 (z0O ey).2]
   exact z8f k l (by omega)
theorem zau(x:RN)(hx:x.raw 1000000=true):PCall P 121 [x.c] (z44 x).c:=by
 unfold z44
 cases ex:toO x with
 |none=>exact zj9 x (z01 ex) hx
 |some k=>
  have a:=z0P ex hx
  rw[z94 (z0O ex).2]
  exact zcm k (by simp only[Smk];omega)
end Go.Fw
open Go IntKind
namespace Go.Fw
set_option maxRecDepth 100000
theorem zmq(a b c:Int)(h1:(a==b)=true):PCall P 208 [j4 a,j4 b,j4 c] (.lit (.int .i64 a)):=
 j3 (.b 4 h1 .nil) (by kernel_rfl)
theorem zqI(a b c:Int)(h1:(a==b)=false)(h2:(b==0)=true):PCall P 208 [j4 a,j4 b,j4 c] (.lit (.int .i64 a)):=
 j3 (.b 4 h1 (.b 9 h2 .nil)) (by kernel_rfl)
theorem znh(a b c:Int)(h1:(a==b)=false)(h2:(b==0)=false)(h3:(a==0)=true):PCall P 208 [j4 a,j4 b,j4 c] (.lit (.int .i64 b)):=
 j3 (.b 4 h1 (.b 9 h2 (.b 13 h3 .nil))) (by kernel_rfl)
theorem zqv(a b c:Int)(h1:(a==b)=false)(h2:(b==0)=false)(h3:(a==0)=false):PCall P 208 [j4 a,j4 b,j4 c] (.lit (.int .i64 (i64.wrap (a*c)))):=
 j3 (.b 4 h1 (.b 9 h2 (.b 13 h3 .nil))) (by kernel_rfl)
theorem zmn(k a b:Int)(s4_0:(-9223372036854775808:Int)≤k∧k≤9223372036854775807)(s7_0:SmlZ a)(s7_1:SmlZ b)(s7_2:Sml (a.natAbs*b.natAbs))(s8_0:SmlZ k)(s8_1:SmlZ (a*b))(s8_2:Sml (k.natAbs*(a*b).natAbs)):PCall P 210 [j4 k,J5 a,J5 b] (.agg [.lit (.bool (decide (k*(a*b)<0))),.lit (.string (bytesOf (k*(a*b)).natAbs))]):=
 j3 (.r 4 (z1D (k) s4_0) (.r 7 (z0d (a) (b) s7_0 s7_1 s7_2) (.r 8 (z0d (k) (a*b) s8_0 s8_1 s8_2) (.c (lq 2 2) .nil)))) (by kernel_rfl)
end Go.Fw
open Go
namespace Go.Fw
set_option maxRecDepth 100000
def z5n(a b c:Int):Int:=if a=b∨b=0 then a else if a=0 then b else a*c
theorem z2L(a b c:Int)(ha: -1≤a∧a≤1)(hc: -1≤c∧c≤1):PCall P 208 [j4 a,j4 b,j4 c] (j4 (z5n a b c)):=by
 unfold z5n
 by_cases h1:a=b
 · rw[if_pos (.inl h1)]
   exact zmq a b c (by simp[h1])
 · by_cases h2:b=0
   · rw[if_pos (.inr h2)]
     exact zqI a b c (by simp[h1]) (by simp[h2])
   · rw[if_neg (by rintro(h|h)<;>contradiction)]
     by_cases h3:a=0
     · rw[if_pos h3]
       exact znh a b c (by simp[h1]) (by simp[h2]) (by simp[h3])
     · rw[if_neg h3]
       have:=zqv a b c (by simp[h1]) (by simp[h2]) (by simp[h3])
       have hw:IntKind.i64.wrap (a*c)=a*c:=by
        have:a= -1∨a=1:=by omega
        rcases this with h|h<;>rw[h]<;>exact w64 (by omega)
       rwa[hw]at this
theorem z9S(k a b:Int){n m:Nat}(hk: -100≤k∧k≤100)(ha:By n a)(hb:By m b)(hn:n+m+1<1073741824):PCall P 210 [j4 k,J5 a,J5 b] (J5 (k*(a*b))):=by
 have hk':By 1 k:=by unfold By;omega
 have hab:=ha.mul hb
 exact zmn k a b (by omega) (ha.sml (by omega)) (hb.sml (by omega)) (ha.sm2 hb (by omega)) (hk'.sml (by decide)) (hab.sml (by omega)) (hk'.sm2 hab (by omega))
end Go.Fw
open Go IntKind
namespace Go.Fw
set_option maxRecDepth 100000
theorem zr6(a b:Int)(s5_0:SmlZ a)(s5_1:SmlZ b)(s5_2:Sml (a.natAbs+b.natAbs)):PCall P 246 [J5 a,J5 b] (.lit (.int .i64 (a-b).sign)):=
 j3 (.r 5 (zaE (a) (b) s5_0 s5_1 s5_2) (.r 6 (z1a (a-b)) .nil)) (by kernel_rfl)
end Go.Fw
open Go
namespace Go.Fw
set_option maxRecDepth 100000
def Two(a b:Int):Prop:= ∃n,n≤500000000∧By n a∧By n b
theorem z2r(k a b:Int)(hk: -100≤k∧k≤100)(h:Two a b):PCall P 210 [j4 k,J5 a,J5 b] (J5 (k*(a*b))):=by
 obtain⟨n,hn,ha,hb⟩:=h
 exact z9S k a b hk ha hb (by omega)
theorem zco(a b:Int)(h:Two a b):PCall P 246 [J5 a,J5 b] (j4 (a-b).sign):=by
 obtain⟨n,hn,ha,hb⟩:=h
 exact zr6 a b (ha.sml (by omega)) (hb.sml (by omega)) (ha.sma hb (by omega))
theorem zpm(a b:Int)(h:Two a b):PCall P 203 [J5 a,J5 b] (J5 (a*b)):=by
 obtain⟨n,hn,ha,hb⟩:=h
 exact z0d a b (ha.sml (by omega)) (hb.sml (by omega)) (ha.sm2 hb (by omega))
theorem zht(a b:Int)(h:Two a b):PCall P 202 [J5 a,J5 b] (J5 (a+b)):=by
 obtain⟨n,hn,ha,hb⟩:=h
 exact z2n a b (ha.sml (by omega)) (hb.sml (by omega)) (ha.sma hb (by omega))
theorem zhz(a b:Int)(h:Two a b):PCall P 209 [J5 a,J5 b] (J5 (a-b)):=by
 obtain⟨n,hn,ha,hb⟩:=h
 exact zaE a b (ha.sml (by omega)) (hb.sml (by omega)) (ha.sma hb (by omega))
end Go.Fw
open Go IntKind
namespace Go.Fw
set_option maxRecDepth 100000
theorem zmK(a b:Int)(s9_0:Two a a)(s12_0:(-100:Int)≤2∧(2:Int)≤100)(s12_1:Two b b)(s13_0:Two (a*a) ((2:Int)*(b*b)))(s14_0:(-1:Int)≤a.sign∧a.sign≤1)(s14_1:(-1:Int)≤(a*a-2*(b*b)).sign∧(a*a-2*(b*b)).sign≤1):PCall P 207 [J5 a,J5 b] (.lit (.int .i64 (z5n a.sign b.sign (a*a-2*(b*b)).sign))):=
 j3 (.r 4 (z1a (a)) (.r 6 (z1a (b)) (.r 9 (zpm (a) (a) s9_0) (.r 12 (z2r ((2:Int)) (b) (b) s12_0 s12_1) (.r 13 (zco (a*a) ((2:Int)*(b*b)) s13_0) (.r 14 (z2L (a.sign) (b.sign) ((a*a-2*(b*b)).sign) s14_0 s14_1) .nil)))))) (by kernel_rfl)
end Go.Fw
