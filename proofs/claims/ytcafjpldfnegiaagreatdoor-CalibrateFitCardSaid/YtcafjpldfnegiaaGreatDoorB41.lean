/- A part of the proof that the law returns true for every input: an executor for the model's code, and what functions of the program compute. -/
import Derived.Test.YtcafjpldfnegiaaGreatDoorB11
import Derived.Test.YtcafjpldfnegiaaGreatDoorB15
import Derived.Test.YtcafjpldfnegiaaGreatDoorB40
import Derived.KernelRfl
open Go
namespace Go.Fw
set_option maxRecDepth 100000
theorem z1m(z:Int):(z.sign==(0:Int))=decide (z=0):=by
 rw[Bool.eq_iff_iff,beq_iff_eq,decide_eq_true_eq]
 exact Int.sign_eq_zero_iff_zero
section
variable{X Y:Nat→Int}{p q:Nat}(hp:p+q+2<1073741824)(hX: ∀i,(X i).natAbs<256^p)(hY: ∀i,(Y i).natAbs<256^q)
include hp hX hY
theorem z5h {R : Goal} (hn : j8 R.n [0, 1, 2, 3] = true) (i j t : Nat) (hi : i < 4) (hj : j < 4) (ht : t ≤ 20) (C : Nat → Int) (hC : ∀ k, (C k).natAbs ≤ t * 6 * 256 ^ (p + q))
    (hR:Ok P 130 (loopHead P 130 1) (zeS X Y (z23 X Y i j C) i (j+1)) R):Ok P 130 (loopHead P 130 1) (zeS X Y C i j) R:=by
 have hii:(0:Int)≤(i:Int)∧(i:Int)<4:=by omega
 have hjj:(0:Int)≤(j:Int)∧(j:Int)<4:=by omega
 by_cases ha:X i=0
 · rw[z2T C (by rw[ha,Int.zero_mul])]at hR
   exact okS (zrk X Y C i j hi hj) rfl (.cons hii (.cons (Z7 _) (.cons (by rw[z1m];exact decide_eq_true ha) (.cons (z06 _) (.cons (z06 _) (.cons (z06 _) (.cons (z06 _) .nil))))))) hn hR
 · by_cases hb:Y j=0
   · rw[z2T C (by rw[hb,Int.mul_zero])]at hR
     exact okS (zra X Y C i j hi hj) rfl (.cons hii (.cons (Z7 _) (.cons (by rw[z1m];exact decide_eq_false ha) (.cons hjj (.cons (Z7 _) (.cons (by rw[z1m];exact decide_eq_true hb) (.cons (z06 _) (.cons (z06 _) (.cons (z06 _) (.cons (z06 _) .nil)))))))))) hn hR
   · have hm:=z3t hX hY i j
     obtain⟨s1,s2⟩:=zcv i hi j hj
     have hw:256^(p+q+1)=256*256^(p+q):=by rw[Nat.pow_succ,Nat.mul_comm]
     have hf:(sq4 i j*(X i*Y j)).natAbs<6*256^(p+q)+1:=by
      rw[Int.natAbs_mul]
      have:(sq4 i j).natAbs≤6:=by omega
      have:=Nat.mul_le_mul this (Nat.le_of_lt hm)
      omega
     have smX:SmlZ (X i):=Sml.of_lt (hX i) (by omega)
     have smY:SmlZ (Y j):=Sml.of_lt (hY j) (by omega)
     have smM:Sml ((X i).natAbs*(Y j).natAbs):=by rw[←Int.natAbs_mul];exact Sml.of_lt hm (by omega)
     have smS:SmlZ (sq4 i j):=z1Z (by omega)
     have smM':SmlZ (X i*Y j):=Sml.of_lt hm (by omega)
     have hCk:=hC (i^^^j)
     have ht6:t*6*256^(p+q)≤120*256^(p+q):=Nat.mul_le_mul_right _ (by omega)
     have hpp:0<256^(p+q):=Nat.pow_pos (by decide)
     have smF:SmlZ (sq4 i j*(X i*Y j)):=Sml.of_lt (k:=p+q+1) (by omega) (by omega)
     have smF2:Sml ((sq4 i j).natAbs*(X i*Y j).natAbs):=by rw[←Int.natAbs_mul];exact smF
     have smC:SmlZ (C (i^^^j)):=Sml.of_lt (k:=p+q+1) (by omega) (by omega)
     have smA:Sml ((C (i^^^j)).natAbs+(sq4 i j*(X i*Y j)).natAbs):=Sml.of_lt (k:=p+q+1) (by omega) (by omega)
     have hx4:i^^^j<4:=Nat.xor_lt_two_pow (n:=2) (by simpa using hi) (by simpa using hj)
     exact okS (zrp X Y C i j hi hj) rfl (.cons hii (.cons (Z7 _) (.cons (by rw[z1m];exact decide_eq_false ha) (.cons hjj (.cons (Z7 _) (.cons (by rw[z1m];exact decide_eq_false hb) (.cons (Y9 _ (by omega)) (.cons hii (.cons hjj
      (.cons (Y5 _ _ smX smY smM) (.cons (Y5 _ _ smS smM' smF2) (.cons (Nat.le_refl _) (.cons (by omega) (.cons (z0z _ _ smC smF smA) (.cons (by omega) (.cons (by omega) (.cons (z06 _) (.cons (z06 _) (.cons (z06 _) (.cons (z06 _) .nil)))))))))))))))))))) hn hR
theorem z4d {R : Goal} (hn : j8 R.n [0, 1, 2, 3] = true) (i t : Nat) (hi : i < 4) (ht : t ≤ 16) (C : Nat → Int) (hC : ∀ k, (C k).natAbs ≤ t * 6 * 256 ^ (p + q))
    (hR:Ok P 130 (loopHead P 130 0) (zmu X Y (z23 X Y i 3 (z23 X Y i 2 (z23 X Y i 1 (z23 X Y i 0 C)))) (i+1)) R):Ok P 130 (loopHead P 130 0) (zmu X Y C i) R:=by
 have b0:=z0Y hX hY i 0 t hi (by decide) C hC
 have b1:=z0Y hX hY i 1 (t+1) hi (by decide) _ b0
 have b2:=z0Y hX hY i 2 (t+2) hi (by decide) _ b1
 have cv: ∀C:Nat→Int,Ps [CvL (cl4 X),CvL (cl4 Y),CvL (cl4 (fun _=>0)),CvL (cl4 C)]:=fun C=> .cons (z06 _) (.cons (z06 _) (.cons (z06 _) (.cons (z06 _) .nil)))
 refine okS (zrn X Y C i hi) rfl (cv _) hn ?_
 refine z5h hp hX hY hn i 0 t hi (by decide) (by omega) C hC ?_
 refine z5h hp hX hY hn i 1 (t+1) hi (by decide) (by omega) _ b0 ?_
 refine z5h hp hX hY hn i 2 (t+2) hi (by decide) (by omega) _ b1 ?_
 refine z5h hp hX hY hn i 3 (t+3) hi (by decide) (by omega) _ b2 ?_
 exact okS (zre X Y _ i hi) rfl (cv _) hn hR
theorem zh1 : PCall P 130 [c4C (X 0) (X 1) (X 2) (X 3), c4C (Y 0) (Y 1) (Y 2) (Y 3)]
    (c4C (X 0*Y 0+2*X 1*Y 1+3*X 2*Y 2+6*X 3*Y 3) (X 0*Y 1+X 1*Y 0+3*X 2*Y 3+3*X 3*Y 2) (X 0*Y 2+X 2*Y 0+2*X 1*Y 3+2*X 3*Y 1) (X 0*Y 3+X 3*Y 0+X 1*Y 2+X 2*Y 1)):=by
 have c0: ∀k:Nat,((fun _=>0:Nat→Int) k).natAbs≤0*6*256^(p+q):=by intro k;simp
 have c1:=z2f hX hY 0 0 (by decide) _ c0
 have c2:=z2f hX hY 1 4 (by decide) _ c1
 have c3:=z2f hX hY 2 8 (by decide) _ c2
 refine X2 (z91 (zr1 X Y) rfl (.cons (z06 _) (.cons (z06 _) (.cons (z06 _) (.cons (z06 _) .nil)))) ?_)
 refine z4d hp hX hY rfl 0 0 (by decide) (by decide) _ c0 ?_
 refine z4d hp hX hY rfl 1 4 (by decide) (by decide) _ c1 ?_
 refine z4d hp hX hY rfl 2 8 (by decide) (by decide) _ c2 ?_
 refine z4d hp hX hY rfl 3 12 (by decide) (by decide) _ c3 ?_
 generalize hC:z23 X Y 3 3 _=C at*
 have e0:C 0=X 0*Y 0+2*X 1*Y 1+3*X 2*Y 2+6*X 3*Y 3:=by
  have:C 0=0+1*(X 0*Y 0)+2*(X 1*Y 1)+3*(X 2*Y 2)+6*(X 3*Y 3):=by rw[←hC];rfl
  rw[this];grind
 have e1:C 1=X 0*Y 1+X 1*Y 0+3*X 2*Y 3+3*X 3*Y 2:=by
  have:C 1=0+1*(X 0*Y 1)+1*(X 1*Y 0)+3*(X 2*Y 3)+3*(X 3*Y 2):=by rw[←hC];rfl
  rw[this];grind
 have e2:C 2=X 0*Y 2+X 2*Y 0+2*X 1*Y 3+2*X 3*Y 1:=by
  have:C 2=0+1*(X 0*Y 2)+2*(X 1*Y 3)+1*(X 2*Y 0)+2*(X 3*Y 1):=by rw[←hC];rfl
  rw[this];grind
 have e3:C 3=X 0*Y 3+X 3*Y 0+X 1*Y 2+X 2*Y 1:=by
  have:C 3=0+1*(X 0*Y 3)+1*(X 1*Y 2)+1*(X 2*Y 1)+1*(X 3*Y 0):=by rw[←hC];rfl
  rw[this];grind
 refine okR (zrl X Y C) (.cons (Nat.le_refl _) .nil) ?_
 rw[←e0,←e1,←e2,←e3]
 rfl
end
end Go.Fw
open Go
namespace Go.Fw
set_option maxRecDepth 100000
def f4(a b c d:Int):Nat→Int
 |0=>a
 |1=>b
 |2=>c
 |_=>d
def By4(n:Nat)(a b c d:Int):Prop:=By n a∧By n b∧By n c∧By n d
theorem By4.f{n:Nat}{a b c d:Int}(h:By4 n a b c d)(i:Nat):(f4 a b c d i).natAbs<256^n:=by
 obtain⟨h0,h1,h2,h3⟩:=h
 match i with
 |0=>exact h0
 |1=>exact h1
 |2=>exact h2
 |n+3=>exact h3
theorem z3W (a0 a1 a2 a3 b0 b1 b2 b3 : Int) (hp : ∃ n, n ≤ 500000000 ∧ By4 n a0 a1 a2 a3 ∧ By4 n b0 b1 b2 b3) : PCall P 130 [c4C a0 a1 a2 a3, c4C b0 b1 b2 b3]
    (c4C (a0*b0+2*a1*b1+3*a2*b2+6*a3*b3) (a0*b1+a1*b0+3*a2*b3+3*a3*b2) (a0*b2+a2*b0+2*a1*b3+2*a3*b1) (a0*b3+a3*b0+a1*b2+a2*b1)):=by
 obtain⟨n,hn,ha,hb⟩:=hp
 exact zh1 (X:=f4 a0 a1 a2 a3) (Y:=f4 b0 b1 b2 b3) (p:=n) (q:=n) (by omega) ha.f hb.f
end Go.Fw
open Go IntKind
namespace Go.Fw
set_option maxRecDepth 100000
theorem zoH(x y:K)(g1:z9h x=false)(s4_0:x.sz≤1000000)(s8_0:y.sz≤1000000)(s26_0: ∃n,n≤500000000∧By4 n x.c0 x.c1 x.c2 x.c3∧By4 n y.c0 y.c1 y.c2 y.c3)(s31_0:Sml x.d.natAbs)(s31_1:Sml y.d.natAbs)(s31_2:Sml (x.d.natAbs*y.d.natAbs))(s32_0:x.d*y.d≠0)(s32_1:SmlZ (x.c0*y.c0+2*x.c1*y.c1+3*x.c2*y.c2+6*x.c3*y.c3))(s32_2:SmlZ (x.c0*y.c1+x.c1*y.c0+3*x.c2*y.c3+3*x.c3*y.c2))(s32_3:SmlZ (x.c0*y.c2+x.c2*y.c0+2*x.c1*y.c3+2*x.c3*y.c1))(s32_4:SmlZ (x.c0*y.c3+x.c3*y.c0+x.c1*y.c2+x.c2*y.c1))(s32_5:SmlZ (x.d*y.d)):PCall P 38 [Q1 x,Q1 y] (Q1 (K.of (x.c0*y.c0+2*x.c1*y.c1+3*x.c2*y.c2+6*x.c3*y.c3) (x.c0*y.c1+x.c1*y.c0+3*x.c2*y.c3+3*x.c3*y.c2) (x.c0*y.c2+x.c2*y.c0+2*x.c1*y.c3+2*x.c3*y.c1) (x.c0*y.c3+x.c3*y.c0+x.c1*y.c2+x.c2*y.c1) (x.d*y.d))):=
 j3 (.r 4 (z0x (x) s4_0) (.r 8 (z0x (y) s8_0) (.r 13 (z4K (x)) (.c (lq 5 5) (.b 21 g1 (.r 26 (z3W (x.c0) (x.c1) (x.c2) (x.c3) (y.c0) (y.c1) (y.c2) (y.c3) s26_0) (.r 31 (Y5 (x.d) (y.d) s31_0 s31_1 s31_2) (.r 32 (z8O (x.c0*y.c0+2*x.c1*y.c1+3*x.c2*y.c2+6*x.c3*y.c3) (x.c0*y.c1+x.c1*y.c0+3*x.c2*y.c3+3*x.c3*y.c2) (x.c0*y.c2+x.c2*y.c0+2*x.c1*y.c3+2*x.c3*y.c1) (x.c0*y.c3+x.c3*y.c0+x.c1*y.c2+x.c2*y.c1) (x.d*y.d) s32_0 s32_1 s32_2 s32_3 s32_4 s32_5) (.c (lq 10 10) .nil))))))))) (by kernel_rfl)
theorem zoL(x y:K)(g1:z9h x=true)(g2:z9h y=false)(s4_0:x.sz≤1000000)(s8_0:y.sz≤1000000)(s36_0: ∃n,n≤500000000∧By4 n x.c0 x.c1 x.c2 x.c3∧By4 n y.c0 y.c1 y.c2 y.c3)(s41_0:Sml x.d.natAbs)(s41_1:Sml y.d.natAbs)(s41_2:Sml (x.d.natAbs*y.d.natAbs))(s42_0:x.d*y.d≠0)(s42_1:SmlZ (x.c0*y.c0+2*x.c1*y.c1+3*x.c2*y.c2+6*x.c3*y.c3))(s42_2:SmlZ (x.c0*y.c1+x.c1*y.c0+3*x.c2*y.c3+3*x.c3*y.c2))(s42_3:SmlZ (x.c0*y.c2+x.c2*y.c0+2*x.c1*y.c3+2*x.c3*y.c1))(s42_4:SmlZ (x.c0*y.c3+x.c3*y.c0+x.c1*y.c2+x.c2*y.c1))(s42_5:SmlZ (x.d*y.d)):PCall P 38 [Q1 x,Q1 y] (Q1 (K.of (x.c0*y.c0+2*x.c1*y.c1+3*x.c2*y.c2+6*x.c3*y.c3) (x.c0*y.c1+x.c1*y.c0+3*x.c2*y.c3+3*x.c3*y.c2) (x.c0*y.c2+x.c2*y.c0+2*x.c1*y.c3+2*x.c3*y.c1) (x.c0*y.c3+x.c3*y.c0+x.c1*y.c2+x.c2*y.c1) (x.d*y.d))):=
 j3 (.r 4 (z0x (x) s4_0) (.r 8 (z0x (y) s8_0) (.r 13 (z4K (x)) (.c (lq 5 5) (.b 21 g1 (.r 23 (z4K (y)) (.c (lq 5 5) (.b 31 g2 (.r 36 (z3W (x.c0) (x.c1) (x.c2) (x.c3) (y.c0) (y.c1) (y.c2) (y.c3) s36_0) (.r 41 (Y5 (x.d) (y.d) s41_0 s41_1 s41_2) (.r 42 (z8O (x.c0*y.c0+2*x.c1*y.c1+3*x.c2*y.c2+6*x.c3*y.c3) (x.c0*y.c1+x.c1*y.c0+3*x.c2*y.c3+3*x.c3*y.c2) (x.c0*y.c2+x.c2*y.c0+2*x.c1*y.c3+2*x.c3*y.c1) (x.c0*y.c3+x.c3*y.c0+x.c1*y.c2+x.c2*y.c1) (x.d*y.d) s42_0 s42_1 s42_2 s42_3 s42_4 s42_5) (.c (lq 10 10) .nil)))))))))))) (by kernel_rfl)
end Go.Fw
open Go
namespace Go.Fw
set_option maxRecDepth 100000
theorem zh5 {n : Nat} (hn : n + n + 1 < 1073741824) {a0 a1 a2 a3 b0 b1 b2 b3 : Int} (ha : By4 n a0 a1 a2 a3) (hb : By4 n b0 b1 b2 b3) :
    SmlZ (a0*b0+2*a1*b1+3*a2*b2+6*a3*b3)∧SmlZ (a0*b1+a1*b0+3*a2*b3+3*a3*b2)∧SmlZ (a0*b2+a2*b0+2*a1*b3+2*a3*b1)∧SmlZ (a0*b3+a3*b0+a1*b2+a2*b1):=by
 obtain⟨x0,x1,x2,x3⟩:=ha
 obtain⟨y0,y1,y2,y3⟩:=hb
 have c:=fun(k a b:Int)=>Int.mul_assoc k a b
 have key: ∀{a b:Int},By n a→By n b→(a*b).natAbs<256^(n+n):=fun ha hb=>ha.mul hb
 obtain⟨M,hM⟩: ∃M,M=256^(n+n):=⟨_,rfl⟩
 have fin: ∀z:Int,z.natAbs<256*M→SmlZ z:=fun z hz=>Sml.of_lt (k:=n+n+1) (by rw[Nat.pow_succ,←hM,Nat.mul_comm];exact hz) hn
 refine⟨fin _ ?_,fin _ ?_,fin _ ?_,fin _ ?_⟩
 · have h1:=key x0 y0;have h2:=key x1 y1;have h3:=key x2 y2;have h4:=key x3 y3
   rw[←hM]at h1 h2 h3 h4
   rw[c,c,c];omega
 · have h1:=key x0 y1;have h2:=key x1 y0;have h3:=key x2 y3;have h4:=key x3 y2
   rw[←hM]at h1 h2 h3 h4
   rw[c,c];omega
 · have h1:=key x0 y2;have h2:=key x2 y0;have h3:=key x1 y3;have h4:=key x3 y1
   rw[←hM]at h1 h2 h3 h4
   rw[c,c];omega
 · have h1:=key x0 y3;have h2:=key x3 y0;have h3:=key x1 y2;have h4:=key x2 y1
   rw[←hM]at h1 h2 h3 h4
   omega
theorem z54(x y:K)(hx:x.sz≤1000000)(hy:y.sz≤1000000):PCall P 38 [Q1 x,Q1 y] (Q1 (x*y)):=by
 have hxs:=hx
 have hys:=hy
 obtain⟨x0,x1,x2,x3,xd⟩:=By.of_sz hx
 obtain⟨y0,y1,y2,y3,yd⟩:=By.of_sz hy
 have L:(1000000:Nat)<1073741824:=by decide
 have L2:(1000000:Nat)+1000000<1073741824:=by decide
 have hb:By4 1000000 x.c0 x.c1 x.c2 x.c3:=⟨x0,x1,x2,x3⟩
 have hb':By4 1000000 y.c0 y.c1 y.c2 y.c3:=⟨y0,y1,y2,y3⟩
 obtain⟨s0,s1,s2,s3⟩:=zh5 (by decide) hb hb'
 have hex: ∃n,n≤500000000∧By4 n x.c0 x.c1 x.c2 x.c3∧By4 n y.c0 y.c1 y.c2 y.c3:=⟨1000000,by decide,hb,hb'⟩
 have dn:x.d*y.d≠0:=Int.mul_ne_zero x.d_ne y.d_ne
 cases h1:z9h x
 · exact zoH x y h1 hxs hys hex (xd.sml L) (yd.sml L) (xd.sm2 yd L2) dn s0 s1 s2 s3 ((xd.mul yd).sml L2)
 · cases h2:z9h y
   · exact zoL x y h1 h2 hxs hys hex (xd.sml L) (yd.sml L) (xd.sm2 yd L2) dn s0 s1 s2 s3 ((xd.mul yd).sml L2)
   · exact zpj x y (z4a h1) (z4a h2)
theorem zn2(x y:K)(hx:x.sz≤1000000)(hy:y.sz≤1000000):PCall P 39 [Q1 x,Q1 y] (Q1 (x-y)):=zpE x y hy hx (by rw[K.sz_neg];exact hy)
end Go.Fw
open Go IntKind
namespace Go.Fw
set_option maxRecDepth 100000
theorem zmh(x y:K)(s5_0:Smk y)(s6_0:x.sz+(-y).sz+2<1073741824):PCall P 135 [Q1 x,Q1 y] (Q1 (x+ -y)):=
 j3 (.r 5 (zaR (y) s5_0) (.r 6 (z73 (x) (-y) s6_0) (.c (lq 10 10) .nil))) (by kernel_rfl)
end Go.Fw
open Go
namespace Go.Fw
theorem zop(x y:K)(h:x.sz+y.sz+2<1073741824):PCall P 135 [Q1 x,Q1 y] (Q1 (x-y)):=zmh x y (by simp only[Smk];omega) (by rw[K.sz_neg];exact h)
end Go.Fw
open Go
namespace Go.Fw
set_option maxRecDepth 100000
theorem zaC{x:K}(h:zmt x=true):x.sz≤1:=by
 simp only[zmt,Bool.and_eq_true,decide_eq_true_eq]at h
 rw[K.sz_le]
 exact⟨h.1.1.1.1,h.1.1.1.2,h.1.1.2,h.1.2,h.2⟩
theorem zhI(i:Int):(z5v i).sz≤1:=by
 obtain⟨a,ha⟩:=zrG i
 rw[zoR ha];exact zaC (zn5 a).1
theorem zhu(i:Int):(z9m i).sz≤1:=by
 obtain⟨a,ha⟩:=zrG i
 rw[zpD ha];exact zaC (zn5 a).2
end Go.Fw
open Go
namespace Go.Fw
set_option maxRecDepth 100000
def z0k:List CV:=[.lit (.bool false),X9 ⟨#[]⟩,.lit (.bool false),X9 ⟨#[]⟩,.lit (.bool false),X9 ⟨#[]⟩,.lit (.bool false),X9 ⟨#[]⟩,.lit (.bool false),X9 ⟨#[]⟩]
def z0I:CV:= .agg (z0k++(z0k++z0k))
end Go.Fw
open Go
namespace Go.Fw
set_option maxRecDepth 100000
def zqV(n:Nat)(x y z:RN):Bool:=x.raw n&&(y.raw n&&z.raw n)
def ok3(x y z:RN):Bool:=x.ok&&(y.ok&&z.ok)
theorem z0s{n:Nat}{x y z:RN}:zqV n x y z=true↔x.raw n=true∧y.raw n=true∧z.raw n=true:=by simp[zqV]
theorem RN.raw_mono{x:RN}{n m:Nat}(h:x.raw n=true)(hm:n≤m):x.raw m=true:=by
 unfold RN.raw at h ⊢
 simp only[Bool.and_eq_true,decide_eq_true_eq]at h ⊢
 omega
end Go.Fw
open Go
namespace Go.Fw
set_option maxRecDepth 100000
theorem z2S{a b:ByteArray}(h:X9 a=X9 b):a=b:=by injection h with h;injection h
theorem zrE{x:RN}{k:K}{n:Nat}(h:x.l=zc3 k)(hr:x.raw n=true):k.sz≤n:=by
 unfold RN.l zc3 at h
 simp only[List.cons.injEq,and_true]at h
 obtain⟨_,e0,_,e1,_,e2,_,e3,_,e4⟩:=h
 have f0:=z2S e0
 have f1:=z2S e1
 have f2:=z2S e2
 have f3:=z2S e3
 have f4:=z2S e4
 unfold RN.raw at hr
 simp only[Bool.and_eq_true,decide_eq_true_eq]at hr
 rw[f0,f1,f2,f3,f4]at hr
 exact K.sz_le.2 ⟨V7.1 hr.1.1.1.1,V7.1 hr.1.1.1.2,V7.1 hr.1.1.2,V7.1 hr.1.2,V7.1 hr.2⟩
def RN.zero:RN:=⟨false,⟨#[]⟩,false,⟨#[]⟩,false,⟨#[]⟩,false,⟨#[]⟩,false,⟨#[]⟩⟩
end Go.Fw
open Go
namespace Go.Fw
set_option maxRecDepth 100000
theorem z2K{a b:Int}(h1:CV.lit (.bool (decide (a<0)))=CV.lit (.bool (decide (b<0))))(h2:X9 (bytesOf a.natAbs)=X9 (bytesOf b.natAbs)):a=b:=by
 have e2:=z60 (z2S h2)
 injection h1 with h1
 injection h1 with h1
 rw[decide_eq_decide]at h1
 omega
theorem zf4{x y:K}(h:zc3 x=zc3 y):x=y:=by
 unfold zc3 at h
 simp only[List.cons.injEq,and_true]at h
 obtain⟨a0,b0,a1,b1,a2,b2,a3,b3,a4,b4⟩:=h
 have e0:=z2K a0 b0
 have e1:=z2K a1 b1
 have e2:=z2K a2 b2
 have e3:=z2K a3 b3
 have e4:=z2K a4 b4
 cases x
 cases y
 simp only at e0 e1 e2 e3 e4
 subst e0 e1 e2 e3 e4
 rfl
noncomputable def toO(x:RN):Option K:=if h:x.ok=true then some (RN.ok_k h).choose else none
def ofO:Option K→RN
 |none=> .zero
 |some k=> .ofK k
theorem zld{x:RN}(h:x.ok=true): ∃k,toO x=some k∧x.l=zc3 k:=⟨(RN.ok_k h).choose,dif_pos h,(RN.ok_k h).choose_spec⟩
theorem z7o{x:RN}(h:x.ok=false):toO x=none:=dif_neg (by rw[h];decide)
theorem z7i(k:K):toO (.ofK k)=some k:=by
 obtain⟨k',h1,h2⟩:=zld (RN.ofK_ok k)
 rw[RN.ofK_l]at h2
 rw[h1,zf4 h2]
theorem z3H:toO .zero=none:=z7o (by decide)
theorem z7I(o:Option K):toO (ofO o)=o:=by
 cases o with
 |none=>exact z3H
 |some k=>exact z7i k
theorem z19{x:RN}{k:K}(h:toO x=some k):x.ok=true∧x.l=zc3 k:=by
 cases e:x.ok
 · rw[z7o e]at h;cases h
 · obtain⟨k',h1,h2⟩:=zld e
   rw[h1]at h
   injection h with h
   subst h
   exact⟨rfl,h2⟩
theorem z0f{x:RN}(h:toO x=none):x.ok=false:=by
 cases e:x.ok
 · rfl
 · obtain⟨k',h1,_⟩:=zld e
   rw[h1]at h;cases h
theorem zbB{x:RN}{k:K}(h:x.l=zc3 k):x.c=Q1 k:=by
 show CV.agg x.l=_
 rw[h];rfl
def osz:Option K→Nat
 |none=>0
 |some k=>k.sz
theorem z1O{o:Option K}{n:Nat}(h:osz o≤n):(ofO o).raw n=true:=by
 cases o with
 |none=>
  show RN.raw n .zero=true
  have h0:decide ((⟨#[]⟩:ByteArray).size≤n)=true:=decide_eq_true (Nat.zero_le _)
  show(decide ((⟨#[]⟩:ByteArray).size≤n)&&decide ((⟨#[]⟩:ByteArray).size≤n)&&decide ((⟨#[]⟩:ByteArray).size≤n)&&decide ((⟨#[]⟩:ByteArray).size≤n)&&decide ((⟨#[]⟩:ByteArray).size≤n))=true
  generalize decide ((⟨#[]⟩:ByteArray).size≤n)=q at h0
  subst h0;rfl
 |some k=>exact RN.ofK_raw k h
theorem z1K{x:RN}{n:Nat}(h:x.raw n=true):osz (toO x)≤n:=by
 cases e:toO x with
 |none=>exact Nat.zero_le _
 |some k=>exact zrE (z19 e).2 h
def zrA:Option K→Option K→Option K
 |some x,some y=>some (x+y)
 |_,_=>none
def zrr:Option K→Option K→Option K
 |some x,some y=>some (x-y)
 |_,_=>none
def zr0:Option K→Option K
 |some x=>some (-x)
 |none=>none
theorem zjq(x y:Option K):osz (zrA x y)≤osz x+osz y+1:=by
 cases x<;>cases y<;>first|exact Nat.zero_le _|exact K.sz_add _ _
theorem zdD(x y:Option K):osz (zrr x y)≤osz x+osz y+1:=by
 cases x<;>cases y<;>first|exact Nat.zero_le _|exact K.sz_sub _ _
theorem zdj(x:Option K):osz (zr0 x)=osz x:=by
 cases x
 · rfl
 · exact K.sz_neg _
end Go.Fw
open Go IntKind
namespace Go.Fw
set_option maxRecDepth 100000
theorem zkd(x y:RN)(g:x.ok=false)(s4_0:RN.raw 1000000 x=true):PCall P 37 [x.c,y.c] (.agg z0k):=
 j3 (.r 4 ((z0l (x) s4_0).eqB g) (.c (lq 10 10) .nil)) (by kernel_rfl)
theorem zkg(x y:RN)(g:x.ok=true)(g2:y.ok=false)(s4_0:RN.raw 1000000 x=true)(s8_0:RN.raw 1000000 y=true):PCall P 37 [x.c,y.c] (.agg z0k):=
 j3 (.r 4 ((z0l (x) s4_0).eqB g) (.r 8 ((z0l (y) s8_0).eqB g2) (.c (lq 10 10) .nil))) (by kernel_rfl)
theorem zjK(x:RN)(g:x.ok=false)(s3_0:RN.raw 1000000 x=true):PCall P 41 [x.c] (.agg z0k):=
 j3 (.r 3 ((z0l (x) s3_0).eqB g) (.c (lq 10 10) .nil)) (by kernel_rfl)
end Go.Fw
open Go
namespace Go.Fw
set_option maxRecDepth 100000
theorem z1a{x:RN}{k:K}{n:Nat}(h:toO x=some k)(hx:x.raw n=true):k.sz≤n:=zrE (z19 h).2 hx
noncomputable def z4U(x y:RN):RN:=ofO (zrA (toO x) (toO y))
noncomputable def z3j(x y:RN):RN:=ofO (zrr (toO x) (toO y))
noncomputable def z4f(x:RN):RN:=ofO (zr0 (toO x))
theorem zaH(x:RN):toO (z4f x)=zr0 (toO x):=z7I _
theorem zpx(x y:RN)(hx:x.raw 1000000=true)(hy:y.raw 1000000=true):PCall P 37 [x.c,y.c] (z4U x y).c:=by
 unfold z4U
 cases ex:toO x with
 |none=>exact zkd x y (z0f ex) hx
 |some k=>
  cases ey:toO y with
  |none=>exact zkg x y (z19 ex).1 (z0f ey) hx hy
  |some l=>
   rw[zbB (z19 ex).2,zbB (z19 ey).2]
   exact z5M k l (z1a ex hx) (z1a ey hy)
theorem zaY(x:RN)(hx:x.raw 1000000=true):PCall P 41 [x.c] (z4f x).c:=by
 unfold z4f
 cases ex:toO x with
 |none=>exact zjK x (z0f ex) hx
 |some k=>
  rw[zbB (z19 ex).2]
  exact zhy k (z1a ex hx)
theorem zo2(x y:Option K):zrA x (zr0 y)=zrr x y:=by
 cases x<;>cases y<;>rfl
theorem zp6{x y z:RN}{k l m:K}(hx:toO x=some k)(hy:toO y=some l)(hz:toO z=some m):z39 x y z=z4H k l m:=by
 unfold z39 z4H
 rw[(z19 hx).2,(z19 hy).2,(z19 hz).2]
theorem zg1{x y z:RN}(h:toO x=none∨toO y=none∨toO z=none):ok3 x y z=false:=by
 unfold ok3
 rcases h with h|h|h<;>rw[z0f h]<;>simp
abbrev rnB(x y:RN):Bool:=x.b0==y.b0&&(x.s0==y.s0&&true)&&(x.b1==y.b1&&(x.s1==y.s1&&true)&&(x.b2==y.b2&&(x.s2==y.s2&&true)&&(x.b3==y.b3&&(x.s3==y.s3&&true)&&true)))&&(x.b4==y.b4&&(x.s4==y.s4&&true)&&true)
theorem zhW{x y:RN}:rnB x y=true↔x=y:=by
 cases x
 cases y
 simp only[rnB,zhf,Bool.and_eq_true,beq_iff_eq,and_true,RN.mk.injEq,decide_eq_true_eq]
 constructor
 · rintro⟨⟨h0,h1,h2,h3⟩,h4⟩
   exact⟨h0.1,h0.2,h1.1,h1.2,h2.1,h2.2,h3.1,h3.2,h4.1,h4.2⟩
 · rintro⟨a,b,c,d,e,f,g,h,i,j⟩
   exact⟨⟨⟨a,b⟩,⟨c,d⟩,⟨e,f⟩,⟨g,h⟩⟩,i,j⟩
end Go.Fw
open Go IntKind
namespace Go.Fw
set_option maxRecDepth 100000
theorem zku(x y:RN)(s5_0:RN.raw 1000000 y=true)(s6_0:RN.raw 1000000 x=true)(s6_1:RN.raw 1000000 (z4f y)=true):PCall P 39 [x.c,y.c] (RN.c (z4U x (z4f y))):=
 j3 (.r 5 (zaY (y) s5_0) (.r 6 (zpx (x) (z4f y) s6_0 s6_1) (.c (lq 10 10) .nil))) (by kernel_rfl)
end Go.Fw
open Go
namespace Go.Fw
set_option maxRecDepth 100000
theorem zcn(x y:RN)(hx:x.raw 1000000=true)(hy:y.raw 1000000=true):PCall P 39 [x.c,y.c] (z3j x y).c:=by
 have h:=zku x y hy hx (z1O (by rw[zdj];exact z1K hy))
 have e:z4U x (z4f y)=z3j x y:=by unfold z4U z3j;rw[zaH,zo2]
 rw[e]at h
 exact h
theorem ziL{x y:RN}{n:Nat}(hx:x.raw n=true)(hy:y.raw n=true):(z4U x y).raw (n+n+1)=true:=by
 have h1:=z1K hx
 have h2:=z1K hy
 have h3:=zjq (toO x) (toO y)
 exact z1O (by omega)
theorem zdY{x y:RN}{n:Nat}(hx:x.raw n=true)(hy:y.raw n=true):(z3j x y).raw (n+n+1)=true:=by
 have h1:=z1K hx
 have h2:=z1K hy
 have h3:=zdD (toO x) (toO y)
 exact z1O (by omega)
theorem z4B{x:RN}{n:Nat}(hx:x.raw n=true):(z4f x).raw n=true:=z1O (by rw[zdj];exact z1K hx)
end Go.Fw
open Go
namespace Go.Fw
set_option maxRecDepth 100000
structure VN where
 x:RN
 y:RN
 z:RN
namespace VN
def c(v:VN):CV:=z39 v.x v.y v.z
def raw(n:Nat)(v:VN):Bool:=zqV n v.x v.y v.z
def ok(v:VN):Bool:=ok3 v.x v.y v.z
def zero:VN:=⟨.zero,.zero,.zero⟩
theorem raw_mono{v:VN}{n m:Nat}(h:v.raw n=true)(hm:n≤m):v.raw m=true:=by
 obtain⟨hx,hy,hz⟩:=z0s.1 h
 exact z0s.2 ⟨RN.raw_mono hx hm,RN.raw_mono hy hm,RN.raw_mono hz hm⟩
end VN
structure V3 where
 x:K
 y:K
 z:K
def V3.c(v:V3):CV:=z4H v.x v.y v.z
def V3.sz(v:V3):Nat:=max v.x.sz (max v.y.sz v.z.sz)
noncomputable def toV(v:VN):Option V3:=match toO v.x,toO v.y,toO v.z with
 |some x,some y,some z=>some ⟨x,y,z⟩
 |_,_,_=>none
def ofV:Option V3→VN
 |none=> .zero
 |some v=>⟨.ofK v.x,.ofK v.y,.ofK v.z⟩
theorem zeE(o:Option V3):toV (ofV o)=o:=by
 cases o with
 |none=>unfold toV ofV VN.zero;simp only[z3H]
 |some v=>unfold toV ofV;simp only[z7i]
theorem z7H{v:VN}{k:V3}(h:toV v=some k):toO v.x=some k.x∧toO v.y=some k.y∧toO v.z=some k.z:=by
 unfold toV at h
 split at h
 · rename_i x y z h1 h2 h3
   injection h with h
   subst h
   exact⟨h1,h2,h3⟩
 · cases h
theorem z0q{v:VN}(h:toV v=none):v.ok=false:=by
 unfold toV at h
 split at h
 · cases h
 · rename_i hx
   refine zg1 ?_
   cases e1:toO v.x with
   |none=>exact .inl rfl
   |some a=>
    cases e2:toO v.y with
    |none=>exact .inr (.inl rfl)
    |some b=>
     cases e3:toO v.z with
     |none=>exact .inr (.inr rfl)
     |some c=>exact(hx a b c e1 e2 e3).elim
theorem z4S{v:VN}{k:V3}(h:toV v=some k):v.ok=true:=by
 obtain⟨h1,h2,h3⟩:=z7H h
 show ok3 v.x v.y v.z=true
 unfold ok3
 rw[(z19 h1).1,(z19 h2).1,(z19 h3).1];rfl
theorem z4N{v:VN}{k:V3}(h:toV v=some k):v.c=k.c:=by
 obtain⟨h1,h2,h3⟩:=z7H h
 exact zp6 h1 h2 h3
theorem z0u{v:VN}{k:V3}{n:Nat}(h:toV v=some k)(hr:v.raw n=true):k.x.sz≤n∧k.y.sz≤n∧k.z.sz≤n:=by
 obtain⟨h1,h2,h3⟩:=z7H h
 obtain⟨a,b,c⟩:=z0s.1 hr
 exact⟨z1a h1 a,z1a h2 b,z1a h3 c⟩
def vsz:Option V3→Nat
 |none=>0
 |some v=>v.sz
theorem z82{o:Option V3}{n:Nat}(h:vsz o≤n):(ofV o).raw n=true:=by
 cases o with
 |none=>exact z0s.2 ⟨z1O (o:=none) (Nat.zero_le _),z1O (o:=none) (Nat.zero_le _),z1O (o:=none) (Nat.zero_le _)⟩
 |some v=>
  have h':max v.x.sz (max v.y.sz v.z.sz)≤n:=h
  exact z0s.2 ⟨RN.ofK_raw v.x (by omega),RN.ofK_raw v.y (by omega),RN.ofK_raw v.z (by omega)⟩
end Go.Fw
open Go IntKind
namespace Go.Fw
set_option maxRecDepth 100000
theorem zp1(v:VN)(h1:(v.x.ok)=true)(h2:(v.y.ok)=true)(h3:(v.z.ok)=true)(s4_0:RN.raw 1000000 v.x=true)(s8_0:RN.raw 1000000 v.y=true)(s13_0:RN.raw 1000000 v.z=true):PCall P 99 [v.c] (.lit (.bool true)):=
 j3 (.r 4 ((z0l (v.x) s4_0).eqB h1) (.r 8 ((z0l (v.y) s8_0).eqB h2) (.r 13 ((z0l (v.z) s13_0).eqB h3) .nil))) (by kernel_rfl)
theorem zmQ(v:VN)(h1:(v.x.ok)=true)(h2:(v.y.ok)=true)(h3:(v.z.ok)=false)(s4_0:RN.raw 1000000 v.x=true)(s8_0:RN.raw 1000000 v.y=true)(s13_0:RN.raw 1000000 v.z=true):PCall P 99 [v.c] (.lit (.bool false)):=
 j3 (.r 4 ((z0l (v.x) s4_0).eqB h1) (.r 8 ((z0l (v.y) s8_0).eqB h2) (.r 13 ((z0l (v.z) s13_0).eqB h3) .nil))) (by kernel_rfl)
theorem zod(v:VN)(h1:(v.x.ok)=true)(h2:(v.y.ok)=false)(s4_0:RN.raw 1000000 v.x=true)(s8_0:RN.raw 1000000 v.y=true):PCall P 99 [v.c] (.lit (.bool false)):=
 j3 (.r 4 ((z0l (v.x) s4_0).eqB h1) (.r 8 ((z0l (v.y) s8_0).eqB h2) .nil)) (by kernel_rfl)
theorem zmv(v:VN)(h1:(v.x.ok)=false)(s4_0:RN.raw 1000000 v.x=true):PCall P 99 [v.c] (.lit (.bool false)):=
 j3 (.r 4 ((z0l (v.x) s4_0).eqB h1) .nil) (by kernel_rfl)
theorem zj8(x y z:K)(s4_0:x.sz≤1000000)(s8_0:y.sz≤1000000)(s13_0:z.sz≤1000000):PCall P 99 [z4H x y z] (.lit (.bool true)):=
 j3 (.r 4 (z0x (x) s4_0) (.r 8 (z0x (y) s8_0) (.r 13 (z0x (z) s13_0) .nil))) (by kernel_rfl)
end Go.Fw
open Go
namespace Go.Fw
set_option maxRecDepth 100000
theorem z2x(v:VN)(h:v.raw 1000000=true):PCall P 99 [v.c] (.lit (.bool v.ok)):=by
 obtain⟨hx,hy,hz⟩:=z0s.1 h
 unfold VN.ok ok3
 cases ex:v.x.ok
 · exact zmv v ex hx
 · cases ey:v.y.ok
   · exact zod v ex ey hx hy
   · cases ez:v.z.ok
     · exact zmQ v ex ey ez hx hy hz
     · exact zp1 v ex ey ez hx hy hz
theorem z64(x y z:K)(hx:x.sz≤1000000)(hy:y.sz≤1000000)(hz:z.sz≤1000000):PCall P 99 [z4H x y z] (.lit (.bool true)):=zj8 x y z hx hy hz
end Go.Fw
open Go IntKind
namespace Go.Fw
set_option maxRecDepth 100000
theorem zmf(v w:VN)(g:v.ok=false)(s4_0:VN.raw 1000000 v=true):PCall P 64 [v.c,w.c] z0I:=
 j3 (.r 4 ((z2x (v) s4_0).eqB g) (.c (lq 30 30) .nil)) (by kernel_rfl)
theorem zmr(v w:VN)(g:v.ok=true)(g2:w.ok=false)(s4_0:VN.raw 1000000 v=true)(s8_0:VN.raw 1000000 w=true):PCall P 64 [v.c,w.c] z0I:=
 j3 (.r 4 ((z2x (v) s4_0).eqB g) (.r 8 ((z2x (w) s8_0).eqB g2) (.c (lq 30 30) .nil))) (by kernel_rfl)
theorem zmq(x y z x' y' z':K)(s4_0:x.sz≤1000000)(s4_1:y.sz≤1000000)(s4_2:z.sz≤1000000)(s8_0:x'.sz≤1000000)(s8_1:y'.sz≤1000000)(s8_2:z'.sz≤1000000)(s16_0:x.sz≤1000000)(s16_1:x'.sz≤1000000)(s21_0:y.sz≤1000000)(s21_1:y'.sz≤1000000)(s26_0:z.sz≤1000000)(s26_1:z'.sz≤1000000):PCall P 64 [z4H x y z,z4H x' y' z'] (z4H (x+x') (y+y') (z+z')):=
 j3 (.r 4 (z64 (x) (y) (z) s4_0 s4_1 s4_2) (.r 8 (z64 (x') (y') (z') s8_0 s8_1 s8_2) (.r 16 (z5M (x) (x') s16_0 s16_1) (.r 21 (z5M (y) (y') s21_0 s21_1) (.r 26 (z5M (z) (z') s26_0 s26_1) (.c (lq 30 30) .nil)))))) (by kernel_rfl)
theorem ziB(v:VN)(k:RN)(g:v.ok=false)(s4_0:VN.raw 1000000 v=true):PCall P 65 [v.c,k.c] z0I:=
 j3 (.r 4 ((z2x (v) s4_0).eqB g) (.c (lq 30 30) .nil)) (by kernel_rfl)
theorem zlR(v:VN)(k:RN)(g:v.ok=true)(g2:k.ok=false)(s4_0:VN.raw 1000000 v=true)(s8_0:RN.raw 1000000 k=true):PCall P 65 [v.c,k.c] z0I:=
 j3 (.r 4 ((z2x (v) s4_0).eqB g) (.r 8 ((z0l (k) s8_0).eqB g2) (.c (lq 30 30) .nil))) (by kernel_rfl)
theorem zi5(x y z k:K)(s4_0:x.sz≤1000000)(s4_1:y.sz≤1000000)(s4_2:z.sz≤1000000)(s8_0:k.sz≤1000000)(s15_0:x.sz≤1000000)(s15_1:k.sz≤1000000)(s19_0:y.sz≤1000000)(s19_1:k.sz≤1000000)(s23_0:z.sz≤1000000)(s23_1:k.sz≤1000000):PCall P 65 [z4H x y z,Q1 k] (z4H (x*k) (y*k) (z*k)):=
 j3 (.r 4 (z64 (x) (y) (z) s4_0 s4_1 s4_2) (.r 8 (z0x (k) s8_0) (.r 15 (z54 (x) (k) s15_0 s15_1) (.r 19 (z54 (y) (k) s19_0 s19_1) (.r 23 (z54 (z) (k) s23_0 s23_1) (.c (lq 30 30) .nil)))))) (by kernel_rfl)
theorem zcg(v w:VN)(g:v.ok=false)(s4_0:VN.raw 1000000 v=true):PCall P 173 [v.c,w.c] (.agg z0k):=
 j3 (.r 4 ((z2x (v) s4_0).eqB g) (.c (lq 10 10) .nil)) (by kernel_rfl)
theorem zcN(v w:VN)(g:v.ok=true)(g2:w.ok=false)(s4_0:VN.raw 1000000 v=true)(s8_0:VN.raw 1000000 w=true):PCall P 173 [v.c,w.c] (.agg z0k):=
 j3 (.r 4 ((z2x (v) s4_0).eqB g) (.r 8 ((z2x (w) s8_0).eqB g2) (.c (lq 10 10) .nil))) (by kernel_rfl)
theorem zeL(x y z x' y' z':K)(s4_0:x.sz≤1000000)(s4_1:y.sz≤1000000)(s4_2:z.sz≤1000000)(s8_0:x'.sz≤1000000)(s8_1:y'.sz≤1000000)(s8_2:z'.sz≤1000000)(s16_0:x.sz≤1000000)(s16_1:x'.sz≤1000000)(s21_0:y.sz≤1000000)(s21_1:y'.sz≤1000000)(s22_0:(x*x').sz≤1000000)(s22_1:(y*y').sz≤1000000)(s27_0:z.sz≤1000000)(s27_1:z'.sz≤1000000)(s28_0:(x*x'+y*y').sz≤1000000)(s28_1:(z*z').sz≤1000000):PCall P 173 [z4H x y z,z4H x' y' z'] (Q1 (x*x'+y*y'+z*z')):=
 j3 (.r 4 (z64 (x) (y) (z) s4_0 s4_1 s4_2) (.r 8 (z64 (x') (y') (z') s8_0 s8_1 s8_2) (.r 16 (z54 (x) (x') s16_0 s16_1) (.r 21 (z54 (y) (y') s21_0 s21_1) (.r 22 (z5M (x*x') (y*y') s22_0 s22_1) (.r 27 (z54 (z) (z') s27_0 s27_1) (.r 28 (z5M (x*x'+y*y') (z*z') s28_0 s28_1) (.c (lq 10 10) .nil)))))))) (by kernel_rfl)
theorem zm4(v w:VN)(g:v.ok=false)(s4_0:VN.raw 1000000 v=true):PCall P 172 [v.c,w.c] z0I:=
 j3 (.r 4 ((z2x (v) s4_0).eqB g) (.c (lq 30 30) .nil)) (by kernel_rfl)
theorem zjl(v w:VN)(g:v.ok=true)(g2:w.ok=false)(s4_0:VN.raw 1000000 v=true)(s8_0:VN.raw 1000000 w=true):PCall P 172 [v.c,w.c] z0I:=
 j3 (.r 4 ((z2x (v) s4_0).eqB g) (.r 8 ((z2x (w) s8_0).eqB g2) (.c (lq 30 30) .nil))) (by kernel_rfl)
theorem zl4(a b c d:K)(s7_0:a.sz≤1000000)(s7_1:d.sz≤1000000)(s10_0:b.sz≤1000000)(s10_1:c.sz≤1000000)(s11_0:(a*d).sz≤1000000)(s11_1:(b*c).sz≤1000000):PCall P 223 [Q1 a,Q1 b,Q1 c,Q1 d] (Q1 (a*d-b*c)):=
 j3 (.r 7 (z54 (a) (d) s7_0 s7_1) (.r 10 (z54 (b) (c) s10_0 s10_1) (.r 11 (zn2 (a*d) (b*c) s11_0 s11_1) (.c (lq 10 10) .nil)))) (by kernel_rfl)
theorem zi2(a b c:Int)(s2_0:(-9223372036854775808:Int)≤a∧a≤9223372036854775807)(s4_0:(-9223372036854775808:Int)≤b∧b≤9223372036854775807)(s6_0:(-9223372036854775808:Int)≤c∧c≤9223372036854775807):PCall P 63 [j5 a,j5 b,j5 c] (z4H (K.ofInt a) (K.ofInt b) (K.ofInt c)):=
 j3 (.r 2 (z3X (a) s2_0) (.r 4 (z3X (b) s4_0) (.r 6 (z3X (c) s6_0) (.c (lq 30 30) .nil)))) (by kernel_rfl)
end Go.Fw
open Go
namespace Go.Fw
set_option maxRecDepth 100000
namespace V3
def add(a b:V3):V3:=⟨a.x+b.x,a.y+b.y,a.z+b.z⟩
def sub(a b:V3):V3:=⟨a.x-b.x,a.y-b.y,a.z-b.z⟩
def neg(a:V3):V3:=⟨-a.x,-a.y,-a.z⟩
def scale(a:V3)(k:K):V3:=⟨a.x*k,a.y*k,a.z*k⟩
def dot(a b:V3):K:=a.x*b.x+a.y*b.y+a.z*b.z
def cross(a b:V3):V3:=⟨a.y*b.z-a.z*b.y,a.z*b.x-a.x*b.z,a.x*b.y-a.y*b.x⟩
end V3
def o2{α β γ:Type}(f:α→β→γ):Option α→Option β→Option γ
 |some a,some b=>some (f a b)
 |_,_=>none
noncomputable def z05(v w:VN):VN:=ofV (o2 V3.add (toV v) (toV w))
noncomputable def J2(v:VN)(k:RN):VN:=ofV (o2 V3.scale (toV v) (toO k))
noncomputable def z38(v w:VN):RN:=ofO (o2 V3.dot (toV v) (toV w))
noncomputable def z1A(v w:VN):VN:=ofV (o2 V3.cross (toV v) (toV w))
theorem z7J(v w:VN)(hv:v.raw 1000000=true)(hw:w.raw 1000000=true):PCall P 64 [v.c,w.c] (z05 v w).c:=by
 unfold z05
 cases ev:toV v with
 |none=>exact zmf v w (z0q ev) hv
 |some a=>
  cases ew:toV w with
  |none=>exact zmr v w (z4S ev) (z0q ew) hv hw
  |some b=>
   obtain⟨x,y,z⟩:=z0u ev hv
   obtain⟨x',y',z'⟩:=z0u ew hw
   rw[z4N ev,z4N ew]
   exact zmq _ _ _ _ _ _ x y z x' y' z' x x' y y' z z'
theorem z3O(v:VN)(k:RN)(hv:v.raw 1000000=true)(hk:k.raw 1000000=true):PCall P 65 [v.c,k.c] (J2 v k).c:=by
 unfold J2
 cases ev:toV v with
 |none=>exact ziB v k (z0q ev) hv
 |some a=>
  cases ek:toO k with
  |none=>exact zlR v k (z4S ev) (z0f ek) hv hk
  |some b=>
   obtain⟨x,y,z⟩:=z0u ev hv
   have hb:=z1a ek hk
   rw[z4N ev,zbB (z19 ek).2]
   exact zi5 _ _ _ _ x y z hb x hb y hb z hb
theorem zhQ(v w:VN)(hv:v.raw 1000=true)(hw:w.raw 1000=true):PCall P 173 [v.c,w.c] (z38 v w).c:=by
 have hv':=VN.raw_mono hv (show 1000≤1000000 by decide)
 have hw':=VN.raw_mono hw (show 1000≤1000000 by decide)
 unfold z38
 cases ev:toV v with
 |none=>exact zcg v w (z0q ev) hv'
 |some a=>
  cases ew:toV w with
  |none=>exact zcN v w (z4S ev) (z0q ew) hv' hw'
  |some b=>
   obtain⟨x,y,z⟩:=z0u ev hv
   obtain⟨x',y',z'⟩:=z0u ew hw
   have m1:=K.sz_mul a.x b.x
   have m2:=K.sz_mul a.y b.y
   have m3:=K.sz_mul a.z b.z
   have m4:=K.sz_add (a.x*b.x) (a.y*b.y)
   rw[z4N ev,z4N ew]
   exact zeL _ _ _ _ _ _ (by omega) (by omega) (by omega) (by omega) (by omega) (by omega) (by omega) (by omega) (by omega) (by omega) (by omega) (by omega) (by omega) (by omega) (by omega) (by omega)
theorem z9y(a b c d:K)(ha:a.sz≤100000)(hb:b.sz≤100000)(hc:c.sz≤100000)(hd:d.sz≤100000):PCall P 223 [Q1 a,Q1 b,Q1 c,Q1 d] (Q1 (a*d-b*c)):=by
 have m1:=K.sz_mul a d
 have m2:=K.sz_mul b c
 exact zl4 a b c d (by omega) (by omega) (by omega) (by omega) (by omega) (by omega)
end Go.Fw
open Go IntKind
namespace Go.Fw
set_option maxRecDepth 100000
theorem zio(x y z x' y' z':K)(s4_0:x.sz≤1000000)(s4_1:y.sz≤1000000)(s4_2:z.sz≤1000000)(s8_0:x'.sz≤1000000)(s8_1:y'.sz≤1000000)(s8_2:z'.sz≤1000000)(s20_0:y.sz≤100000)(s20_1:z.sz≤100000)(s20_2:y'.sz≤100000)(s20_3:z'.sz≤100000)(s29_0:z.sz≤100000)(s29_1:x.sz≤100000)(s29_2:z'.sz≤100000)(s29_3:x'.sz≤100000)(s38_0:x.sz≤100000)(s38_1:y.sz≤100000)(s38_2:x'.sz≤100000)(s38_3:y'.sz≤100000):PCall P 172 [z4H x y z,z4H x' y' z'] (z4H (y*z'-z*y') (z*x'-x*z') (x*y'-y*x')):=
 j3 (.r 4 (z64 (x) (y) (z) s4_0 s4_1 s4_2) (.r 8 (z64 (x') (y') (z') s8_0 s8_1 s8_2) (.r 20 (z9y (y) (z) (y') (z') s20_0 s20_1 s20_2 s20_3) (.r 29 (z9y (z) (x) (z') (x') s29_0 s29_1 s29_2 s29_3) (.r 38 (z9y (x) (y) (x') (y') s38_0 s38_1 s38_2 s38_3) (.c (lq 30 30) .nil)))))) (by kernel_rfl)
end Go.Fw
open Go IntKind
namespace Go.Fw
set_option maxRecDepth 100000
theorem zil(x y:RN)(g:x.ok=false)(s4_0:RN.raw 1000000 x=true):PCall P 137 [x.c,y.c] (.agg z0k):=
 j3 (.r 4 ((z4P (x) s4_0).eqB g) (.c (lq 10 10) .nil)) (by kernel_rfl)
theorem zjb(x y:RN)(g:x.ok=true)(g2:y.ok=false)(s4_0:RN.raw 1000000 x=true)(s8_0:RN.raw 1000000 y=true):PCall P 137 [x.c,y.c] (.agg z0k):=
 j3 (.r 4 ((z4P (x) s4_0).eqB g) (.r 8 ((z4P (y) s8_0).eqB g2) (.c (lq 10 10) .nil))) (by kernel_rfl)
theorem zk0(x:RN)(g:x.ok=false)(s3_0:RN.raw 1000000 x=true):PCall P 121 [x.c] (.agg z0k):=
 j3 (.r 3 ((z4P (x) s3_0).eqB g) (.c (lq 10 10) .nil)) (by kernel_rfl)
theorem zlk(x:RN)(g:x.ok=false)(s3_0:RN.raw 1000000 x=true):PCall P 146 [x.c] (.lit (.int .i64 0)):=
 j3 (.r 3 ((z4P (x) s3_0).eqB g) .nil) (by kernel_rfl)
theorem ziN(x y:RN)(g:x.ok=false)(s5_0:RN.raw 1000000 x=true):PCall P 147 [x.c,y.c] (.tup [.agg z0k,.lit (.int .i64 1)]):=
 j3 (.r 5 ((z4P (x) s5_0).eqB g) (.c (lq 10 10) .nil)) (by kernel_rfl)
theorem zj4(x y:RN)(g:x.ok=true)(g2:y.ok=false)(s5_0:RN.raw 1000000 x=true)(s9_0:RN.raw 1000000 y=true):PCall P 147 [x.c,y.c] (.tup [.agg z0k,.lit (.int .i64 1)]):=
 j3 (.r 5 ((z4P (x) s5_0).eqB g) (.r 9 ((z4P (y) s9_0).eqB g2) (.c (lq 10 10) .nil))) (by kernel_rfl)
end Go.Fw
