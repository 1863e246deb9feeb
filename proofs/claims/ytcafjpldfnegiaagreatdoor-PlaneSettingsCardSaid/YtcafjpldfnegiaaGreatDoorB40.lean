/- A part of the proof that the law returns true for every input: an executor for the model's code, and what functions of the program compute. -/
import Derived.Test.YtcafjpldfnegiaaGreatDoorB11
import Derived.Test.YtcafjpldfnegiaaGreatDoorB15
import Derived.Test.YtcafjpldfnegiaaGreatDoorB37
import Derived.Test.YtcafjpldfnegiaaGreatDoorB38
import Derived.Test.YtcafjpldfnegiaaGreatDoorB39
import Derived.KernelRfl
open Go
namespace Go.Fw
set_option maxRecDepth 100000
def zlh(X Y C:Nat→Int)(i:Nat):St:=⟨J3 66 [(2,.ptr 0 0),(3,.ptr 1 0),(4,.ptr 2 0),(5,.ptr 3 0),(6,.cv (j6 (i:Int)))],[some (cl4 X),some (cl4 Y),some (cl4 (fun _=>0)),some (cl4 C)]⟩
def zel(X Y C:Nat→Int)(i j:Nat):St:=⟨J3 66 [(2,.ptr 0 0),(3,.ptr 1 0),(4,.ptr 2 0),(5,.ptr 3 0),(6,.cv (j6 (i:Int))),(7,.cv (j6 (j:Int)))],[some (cl4 X),some (cl4 Y),some (cl4 (fun _=>0)),some (cl4 C)]⟩
def tS(i j:Nat):Nat:=[31,34,34,37].getD (i&&&j) 0
section
variable(X Y C:Nat→Int)
theorem zqz : ∀ i j, i < 4 → j < 4 →
    (z3P P 130 (loopHead P 130 1) (zel X Y C i j) [(7,.r (j6 (X i).sign)),(9,.b true),(20,.stop)] false 100000).pick [2,3,4,5,6,7] [0,1,2,3]=
     some (loopHead P 130 1,zel X Y C i (j+1),[(0:Int)≤(i:Int)∧(i:Int)<4,PCall P 183 [J6 (X i)] (j6 (X i).sign),((X i).sign==(0:Int))=true,CvL (cl4 X),CvL (cl4 Y),CvL (cl4 (fun _=>0)),CvL (cl4 C)]):=by
 intro i j hi hj
 have hi':i=0∨i=1∨i=2∨i=3:=by omega
 have hj':j=0∨j=1∨j=2∨j=3:=by omega
 rcases hi' with rfl|rfl|rfl|rfl<;>rcases hj' with rfl|rfl|rfl|rfl<;>(show _=_;kernel_rfl)
theorem zpY : ∀ i j, i < 4 → j < 4 →
    (z3P P 130 (loopHead P 130 1) (zel X Y C i j) [(7,.r (j6 (X i).sign)),(9,.b false),(13,.r (j6 (Y j).sign)),(16,.b true),(20,.stop)] false 100000).pick [2,3,4,5,6,7] [0,1,2,3]=
     some (loopHead P 130 1,zel X Y C i (j+1),[(0:Int)≤(i:Int)∧(i:Int)<4,PCall P 183 [J6 (X i)] (j6 (X i).sign),((X i).sign==(0:Int))=false,(0:Int)≤(j:Int)∧(j:Int)<4,PCall P 183 [J6 (Y j)] (j6 (Y j).sign),((Y j).sign==(0:Int))=true,CvL (cl4 X),CvL (cl4 Y),CvL (cl4 (fun _=>0)),CvL (cl4 C)]):=by
 intro i j hi hj
 have hi':i=0∨i=1∨i=2∨i=3:=by omega
 have hj':j=0∨j=1∨j=2∨j=3:=by omega
 rcases hi' with rfl|rfl|rfl|rfl<;>rcases hj' with rfl|rfl|rfl|rfl<;>(show _=_;kernel_rfl)
theorem zqF : ∀ i j, i < 4 → j < 4 →
    (z3P P 130 (loopHead P 130 1) (zel X Y C i j) [(7,.r (j6 (X i).sign)),(9,.b false),(13,.r (j6 (Y j).sign)),(16,.b false),(tS i j,.r (J6 (sq4 i j))),(tS i j+7,.r (J6 (X i*Y j))),(tS i j+8,.r (J6 (sq4 i j*(X i*Y j)))),(tS i j+20,.r (J6 (C (i^^^j)+sq4 i j*(X i*Y j)))),(tS i j+26,.stop)] false 100000).pick [2,3,4,5,6,7] [0,1,2,3]=
     some (loopHead P 130 1,zel X Y (zkY C (i^^^j) (C (i^^^j)+sq4 i j*(X i*Y j))) i (j+1),[(0:Int)≤(i:Int)∧(i:Int)<4,PCall P 183 [J6 (X i)] (j6 (X i).sign),((X i).sign==(0:Int))=false,(0:Int)≤(j:Int)∧(j:Int)<4,PCall P 183 [J6 (Y j)] (j6 (Y j).sign),((Y j).sign==(0:Int))=false,
      PCall P 131 [j6 (sq4 i j)] (J6 (sq4 i j)),(0:Int)≤(i:Int)∧(i:Int)<4,(0:Int)≤(j:Int)∧(j:Int)<4,PCall P 128 [J6 (X i),J6 (Y j)] (J6 (X i*Y j)),PCall P 128 [J6 (sq4 i j),J6 (X i*Y j)] (J6 (sq4 i j*(X i*Y j))),2≤2,(0:Int)≤((i^^^j:Nat):Int)∧((i^^^j:Nat):Int)<4,
      PCall P 127 [J6 (C (i^^^j)),J6 (sq4 i j*(X i*Y j))] (J6 (C (i^^^j)+sq4 i j*(X i*Y j))),(0:Int)≤((i^^^j:Nat):Int)∧((i^^^j:Nat):Int)<4,(i^^^j)*2+2≤8,
      CvL (cl4 X),CvL (cl4 Y),CvL (cl4 (fun _=>0)),CvL (cl4 (zkY C (i^^^j) (C (i^^^j)+sq4 i j*(X i*Y j))))]):=by
 intro i j hi hj
 have hi':i=0∨i=1∨i=2∨i=3:=by omega
 have hj':j=0∨j=1∨j=2∨j=3:=by omega
 rcases hi' with rfl|rfl|rfl|rfl<;>rcases hj' with rfl|rfl|rfl|rfl<;>(show _=_;kernel_rfl)
theorem zqP: ∀i,i<4→(z3P P 130 (loopHead P 130 0) (zlh X Y C i) [(5,.stop)] false 100000).pick [2,3,4,5,6,7] [0,1,2,3]=some (loopHead P 130 1,zel X Y C i 0,[CvL (cl4 X),CvL (cl4 Y),CvL (cl4 (fun _=>0)),CvL (cl4 C)]):=by
 intro i hi
 have hi':i=0∨i=1∨i=2∨i=3:=by omega
 rcases hi' with rfl|rfl|rfl|rfl<;>(show _=_;kernel_rfl)
theorem zqN: ∀i,i<4→(z3P P 130 (loopHead P 130 1) (zel X Y C i 4) [(7,.stop)] false 100000).pick [2,3,4,5,6] [0,1,2,3]=some (loopHead P 130 0,zlh X Y C (i+1),[CvL (cl4 X),CvL (cl4 Y),CvL (cl4 (fun _=>0)),CvL (cl4 C)]):=by
 intro i hi
 have hi':i=0∨i=1∨i=2∨i=3:=by omega
 rcases hi' with rfl|rfl|rfl|rfl<;>(show _=_;kernel_rfl)
theorem zqv:z3P P 130 (loopHead P 130 0) (zlh X Y C 4) [] false 100000= .ret (c4C (C 0) (C 1) (C 2) (C 3)) [8≤8]:=by
 show _=_
 kernel_rfl
theorem zqM:(zbC P 130 [c4C (X 0) (X 1) (X 2) (X 3),c4C (Y 0) (Y 1) (Y 2) (Y 3)] [(5,.stop)] false 100000).pick [2,3,4,5,6] [0,1,2,3]=some (loopHead P 130 0,zlh X Y (fun _=>0) 0,[CvL (cl4 X),CvL (cl4 Y),CvL (cl4 (fun _=>0)),CvL (cl4 (fun _=>0))]):=by
 show _=_
 kernel_rfl
end
end Go.Fw
open Go
namespace Go.Fw
set_option maxRecDepth 100000
theorem z1j(z:Int):(z.sign==(0:Int))=decide (z=0):=by
 rw[Bool.eq_iff_iff,beq_iff_eq,decide_eq_true_eq]
 exact Int.sign_eq_zero_iff_zero
section
variable{X Y:Nat→Int}{p q:Nat}(hp:p+q+2<1073741824)(hX: ∀i,(X i).natAbs<256^p)(hY: ∀i,(Y i).natAbs<256^q)
include hp hX hY
theorem z55 {R : Goal} (hn : J0 R.n [0, 1, 2, 3] = true) (i j t : Nat) (hi : i < 4) (hj : j < 4) (ht : t ≤ 20) (C : Nat → Int) (hC : ∀ k, (C k).natAbs ≤ t * 6 * 256 ^ (p + q))
    (hR:Ok P 130 (loopHead P 130 1) (zel X Y (z26 X Y i j C) i (j+1)) R):Ok P 130 (loopHead P 130 1) (zel X Y C i j) R:=by
 have hii:(0:Int)≤(i:Int)∧(i:Int)<4:=by omega
 have hjj:(0:Int)≤(j:Int)∧(j:Int)<4:=by omega
 by_cases ha:X i=0
 · rw[z3a C (by rw[ha,Int.zero_mul])]at hR
   exact okS (zqz X Y C i j hi hj) rfl (.cons hii (.cons (Q9 _) (.cons (by rw[z1j];exact decide_eq_true ha) (.cons (z07 _) (.cons (z07 _) (.cons (z07 _) (.cons (z07 _) .nil))))))) hn hR
 · by_cases hb:Y j=0
   · rw[z3a C (by rw[hb,Int.mul_zero])]at hR
     exact okS (zpY X Y C i j hi hj) rfl (.cons hii (.cons (Q9 _) (.cons (by rw[z1j];exact decide_eq_false ha) (.cons hjj (.cons (Q9 _) (.cons (by rw[z1j];exact decide_eq_true hb) (.cons (z07 _) (.cons (z07 _) (.cons (z07 _) (.cons (z07 _) .nil)))))))))) hn hR
   · have hm:=z3l hX hY i j
     obtain⟨s1,s2⟩:=zd8 i hi j hj
     have hw:256^(p+q+1)=256*256^(p+q):=by rw[Nat.pow_succ,Nat.mul_comm]
     have hf:(sq4 i j*(X i*Y j)).natAbs<6*256^(p+q)+1:=by
      rw[Int.natAbs_mul]
      have:(sq4 i j).natAbs≤6:=by omega
      have:=Nat.mul_le_mul this (Nat.le_of_lt hm)
      omega
     have smX:SmlZ (X i):=Sml.of_lt (hX i) (by omega)
     have smY:SmlZ (Y j):=Sml.of_lt (hY j) (by omega)
     have smM:Sml ((X i).natAbs*(Y j).natAbs):=by rw[←Int.natAbs_mul];exact Sml.of_lt hm (by omega)
     have smS:SmlZ (sq4 i j):=z1Z (by omega)
     have smM':SmlZ (X i*Y j):=Sml.of_lt hm (by omega)
     have hCk:=hC (i^^^j)
     have ht6:t*6*256^(p+q)≤120*256^(p+q):=Nat.mul_le_mul_right _ (by omega)
     have hpp:0<256^(p+q):=Nat.pow_pos (by decide)
     have smF:SmlZ (sq4 i j*(X i*Y j)):=Sml.of_lt (k:=p+q+1) (by omega) (by omega)
     have smF2:Sml ((sq4 i j).natAbs*(X i*Y j).natAbs):=by rw[←Int.natAbs_mul];exact smF
     have smC:SmlZ (C (i^^^j)):=Sml.of_lt (k:=p+q+1) (by omega) (by omega)
     have smA:Sml ((C (i^^^j)).natAbs+(sq4 i j*(X i*Y j)).natAbs):=Sml.of_lt (k:=p+q+1) (by omega) (by omega)
     have hx4:i^^^j<4:=Nat.xor_lt_two_pow (n:=2) (by simpa using hi) (by simpa using hj)
     exact okS (zqF X Y C i j hi hj) rfl (.cons hii (.cons (Q9 _) (.cons (by rw[z1j];exact decide_eq_false ha) (.cons hjj (.cons (Q9 _) (.cons (by rw[z1j];exact decide_eq_false hb) (.cons (X9 _ (by omega)) (.cons hii (.cons hjj
      (.cons (z2w _ _ smX smY smM) (.cons (z2w _ _ smS smM' smF2) (.cons (Nat.le_refl _) (.cons (by omega) (.cons (z89 _ _ smC smF smA) (.cons (by omega) (.cons (by omega) (.cons (z07 _) (.cons (z07 _) (.cons (z07 _) (.cons (z07 _) .nil)))))))))))))))))))) hn hR
theorem z4c {R : Goal} (hn : J0 R.n [0, 1, 2, 3] = true) (i t : Nat) (hi : i < 4) (ht : t ≤ 16) (C : Nat → Int) (hC : ∀ k, (C k).natAbs ≤ t * 6 * 256 ^ (p + q))
    (hR:Ok P 130 (loopHead P 130 0) (zlh X Y (z26 X Y i 3 (z26 X Y i 2 (z26 X Y i 1 (z26 X Y i 0 C)))) (i+1)) R):Ok P 130 (loopHead P 130 0) (zlh X Y C i) R:=by
 have b0:=z0U hX hY i 0 t hi (by decide) C hC
 have b1:=z0U hX hY i 1 (t+1) hi (by decide) _ b0
 have b2:=z0U hX hY i 2 (t+2) hi (by decide) _ b1
 have cv: ∀C:Nat→Int,Ps [CvL (cl4 X),CvL (cl4 Y),CvL (cl4 (fun _=>0)),CvL (cl4 C)]:=fun C=> .cons (z07 _) (.cons (z07 _) (.cons (z07 _) (.cons (z07 _) .nil)))
 refine okS (zqP X Y C i hi) rfl (cv _) hn ?_
 refine z55 hp hX hY hn i 0 t hi (by decide) (by omega) C hC ?_
 refine z55 hp hX hY hn i 1 (t+1) hi (by decide) (by omega) _ b0 ?_
 refine z55 hp hX hY hn i 2 (t+2) hi (by decide) (by omega) _ b1 ?_
 refine z55 hp hX hY hn i 3 (t+3) hi (by decide) (by omega) _ b2 ?_
 exact okS (zqN X Y _ i hi) rfl (cv _) hn hR
theorem zeH : PCall P 130 [c4C (X 0) (X 1) (X 2) (X 3), c4C (Y 0) (Y 1) (Y 2) (Y 3)]
    (c4C (X 0*Y 0+2*X 1*Y 1+3*X 2*Y 2+6*X 3*Y 3) (X 0*Y 1+X 1*Y 0+3*X 2*Y 3+3*X 3*Y 2) (X 0*Y 2+X 2*Y 0+2*X 1*Y 3+2*X 3*Y 1) (X 0*Y 3+X 3*Y 0+X 1*Y 2+X 2*Y 1)):=by
 have c0: ∀k:Nat,((fun _=>0:Nat→Int) k).natAbs≤0*6*256^(p+q):=by intro k;simp
 have c1:=z2o hX hY 0 0 (by decide) _ c0
 have c2:=z2o hX hY 1 4 (by decide) _ c1
 have c3:=z2o hX hY 2 8 (by decide) _ c2
 refine U0 (z7O (zqM X Y) rfl (.cons (z07 _) (.cons (z07 _) (.cons (z07 _) (.cons (z07 _) .nil)))) ?_)
 refine z4c hp hX hY rfl 0 0 (by decide) (by decide) _ c0 ?_
 refine z4c hp hX hY rfl 1 4 (by decide) (by decide) _ c1 ?_
 refine z4c hp hX hY rfl 2 8 (by decide) (by decide) _ c2 ?_
 refine z4c hp hX hY rfl 3 12 (by decide) (by decide) _ c3 ?_
 generalize hC:z26 X Y 3 3 _=C at*
 have e0:C 0=X 0*Y 0+2*X 1*Y 1+3*X 2*Y 2+6*X 3*Y 3:=by
  have:C 0=0+1*(X 0*Y 0)+2*(X 1*Y 1)+3*(X 2*Y 2)+6*(X 3*Y 3):=by rw[←hC];rfl
  rw[this];grind
 have e1:C 1=X 0*Y 1+X 1*Y 0+3*X 2*Y 3+3*X 3*Y 2:=by
  have:C 1=0+1*(X 0*Y 1)+1*(X 1*Y 0)+3*(X 2*Y 3)+3*(X 3*Y 2):=by rw[←hC];rfl
  rw[this];grind
 have e2:C 2=X 0*Y 2+X 2*Y 0+2*X 1*Y 3+2*X 3*Y 1:=by
  have:C 2=0+1*(X 0*Y 2)+2*(X 1*Y 3)+1*(X 2*Y 0)+2*(X 3*Y 1):=by rw[←hC];rfl
  rw[this];grind
 have e3:C 3=X 0*Y 3+X 3*Y 0+X 1*Y 2+X 2*Y 1:=by
  have:C 3=0+1*(X 0*Y 3)+1*(X 1*Y 2)+1*(X 2*Y 1)+1*(X 3*Y 0):=by rw[←hC];rfl
  rw[this];grind
 refine okR (zqv X Y C) (.cons (Nat.le_refl _) .nil) ?_
 rw[←e0,←e1,←e2,←e3]
 rfl
end
end Go.Fw
open Go
namespace Go.Fw
set_option maxRecDepth 100000
def f4(a b c d:Int):Nat→Int
 |0=>a
 |1=>b
 |2=>c
 |_=>d
def By4(n:Nat)(a b c d:Int):Prop:=By n a∧By n b∧By n c∧By n d
theorem By4.f{n:Nat}{a b c d:Int}(h:By4 n a b c d)(i:Nat):(f4 a b c d i).natAbs<256^n:=by
 obtain⟨h0,h1,h2,h3⟩:=h
 match i with
 |0=>exact h0
 |1=>exact h1
 |2=>exact h2
 |n+3=>exact h3
theorem z72 (a0 a1 a2 a3 b0 b1 b2 b3 : Int) (hp : ∃ n, n ≤ 500000000 ∧ By4 n a0 a1 a2 a3 ∧ By4 n b0 b1 b2 b3) : PCall P 130 [c4C a0 a1 a2 a3, c4C b0 b1 b2 b3]
    (c4C (a0*b0+2*a1*b1+3*a2*b2+6*a3*b3) (a0*b1+a1*b0+3*a2*b3+3*a3*b2) (a0*b2+a2*b0+2*a1*b3+2*a3*b1) (a0*b3+a3*b0+a1*b2+a2*b1)):=by
 obtain⟨n,hn,ha,hb⟩:=hp
 exact zeH (X:=f4 a0 a1 a2 a3) (Y:=f4 b0 b1 b2 b3) (p:=n) (q:=n) (by omega) ha.f hb.f
end Go.Fw
open Go IntKind
namespace Go.Fw
set_option maxRecDepth 100000
theorem zp6(x y:K)(g1:zbE x=false)(s4_0:x.sz≤1000000)(s8_0:y.sz≤1000000)(s26_0: ∃n,n≤500000000∧By4 n x.c0 x.c1 x.c2 x.c3∧By4 n y.c0 y.c1 y.c2 y.c3)(s31_0:Sml x.d.natAbs)(s31_1:Sml y.d.natAbs)(s31_2:Sml (x.d.natAbs*y.d.natAbs))(s32_0:x.d*y.d≠0)(s32_1:SmlZ (x.c0*y.c0+2*x.c1*y.c1+3*x.c2*y.c2+6*x.c3*y.c3))(s32_2:SmlZ (x.c0*y.c1+x.c1*y.c0+3*x.c2*y.c3+3*x.c3*y.c2))(s32_3:SmlZ (x.c0*y.c2+x.c2*y.c0+2*x.c1*y.c3+2*x.c3*y.c1))(s32_4:SmlZ (x.c0*y.c3+x.c3*y.c0+x.c1*y.c2+x.c2*y.c1))(s32_5:SmlZ (x.d*y.d)):PCall P 38 [Y6 x,Y6 y] (Y6 (K.of (x.c0*y.c0+2*x.c1*y.c1+3*x.c2*y.c2+6*x.c3*y.c3) (x.c0*y.c1+x.c1*y.c0+3*x.c2*y.c3+3*x.c3*y.c2) (x.c0*y.c2+x.c2*y.c0+2*x.c1*y.c3+2*x.c3*y.c1) (x.c0*y.c3+x.c3*y.c0+x.c1*y.c2+x.c2*y.c1) (x.d*y.d))):=
 j4 (.r 4 (z1H (x) s4_0) (.r 8 (z1H (y) s8_0) (.r 13 (z9q (x)) (.c (lq 5 5) (.b 21 g1 (.r 26 (z72 (x.c0) (x.c1) (x.c2) (x.c3) (y.c0) (y.c1) (y.c2) (y.c3) s26_0) (.r 31 (z2w (x.d) (y.d) s31_0 s31_1 s31_2) (.r 32 (zhf (x.c0*y.c0+2*x.c1*y.c1+3*x.c2*y.c2+6*x.c3*y.c3) (x.c0*y.c1+x.c1*y.c0+3*x.c2*y.c3+3*x.c3*y.c2) (x.c0*y.c2+x.c2*y.c0+2*x.c1*y.c3+2*x.c3*y.c1) (x.c0*y.c3+x.c3*y.c0+x.c1*y.c2+x.c2*y.c1) (x.d*y.d) s32_0 s32_1 s32_2 s32_3 s32_4 s32_5) (.c (lq 10 10) .nil))))))))) (by kernel_rfl)
theorem zoR(x y:K)(g1:zbE x=true)(g2:zbE y=false)(s4_0:x.sz≤1000000)(s8_0:y.sz≤1000000)(s36_0: ∃n,n≤500000000∧By4 n x.c0 x.c1 x.c2 x.c3∧By4 n y.c0 y.c1 y.c2 y.c3)(s41_0:Sml x.d.natAbs)(s41_1:Sml y.d.natAbs)(s41_2:Sml (x.d.natAbs*y.d.natAbs))(s42_0:x.d*y.d≠0)(s42_1:SmlZ (x.c0*y.c0+2*x.c1*y.c1+3*x.c2*y.c2+6*x.c3*y.c3))(s42_2:SmlZ (x.c0*y.c1+x.c1*y.c0+3*x.c2*y.c3+3*x.c3*y.c2))(s42_3:SmlZ (x.c0*y.c2+x.c2*y.c0+2*x.c1*y.c3+2*x.c3*y.c1))(s42_4:SmlZ (x.c0*y.c3+x.c3*y.c0+x.c1*y.c2+x.c2*y.c1))(s42_5:SmlZ (x.d*y.d)):PCall P 38 [Y6 x,Y6 y] (Y6 (K.of (x.c0*y.c0+2*x.c1*y.c1+3*x.c2*y.c2+6*x.c3*y.c3) (x.c0*y.c1+x.c1*y.c0+3*x.c2*y.c3+3*x.c3*y.c2) (x.c0*y.c2+x.c2*y.c0+2*x.c1*y.c3+2*x.c3*y.c1) (x.c0*y.c3+x.c3*y.c0+x.c1*y.c2+x.c2*y.c1) (x.d*y.d))):=
 j4 (.r 4 (z1H (x) s4_0) (.r 8 (z1H (y) s8_0) (.r 13 (z9q (x)) (.c (lq 5 5) (.b 21 g1 (.r 23 (z9q (y)) (.c (lq 5 5) (.b 31 g2 (.r 36 (z72 (x.c0) (x.c1) (x.c2) (x.c3) (y.c0) (y.c1) (y.c2) (y.c3) s36_0) (.r 41 (z2w (x.d) (y.d) s41_0 s41_1 s41_2) (.r 42 (zhf (x.c0*y.c0+2*x.c1*y.c1+3*x.c2*y.c2+6*x.c3*y.c3) (x.c0*y.c1+x.c1*y.c0+3*x.c2*y.c3+3*x.c3*y.c2) (x.c0*y.c2+x.c2*y.c0+2*x.c1*y.c3+2*x.c3*y.c1) (x.c0*y.c3+x.c3*y.c0+x.c1*y.c2+x.c2*y.c1) (x.d*y.d) s42_0 s42_1 s42_2 s42_3 s42_4 s42_5) (.c (lq 10 10) .nil)))))))))))) (by kernel_rfl)
end Go.Fw
open Go
namespace Go.Fw
set_option maxRecDepth 100000
theorem zgk {n : Nat} (hn : n + n + 1 < 1073741824) {a0 a1 a2 a3 b0 b1 b2 b3 : Int} (ha : By4 n a0 a1 a2 a3) (hb : By4 n b0 b1 b2 b3) :
    SmlZ (a0*b0+2*a1*b1+3*a2*b2+6*a3*b3)∧SmlZ (a0*b1+a1*b0+3*a2*b3+3*a3*b2)∧SmlZ (a0*b2+a2*b0+2*a1*b3+2*a3*b1)∧SmlZ (a0*b3+a3*b0+a1*b2+a2*b1):=by
 obtain⟨x0,x1,x2,x3⟩:=ha
 obtain⟨y0,y1,y2,y3⟩:=hb
 have c:=fun(k a b:Int)=>Int.mul_assoc k a b
 have key: ∀{a b:Int},By n a→By n b→(a*b).natAbs<256^(n+n):=fun ha hb=>ha.mul hb
 obtain⟨M,hM⟩: ∃M,M=256^(n+n):=⟨_,rfl⟩
 have fin: ∀z:Int,z.natAbs<256*M→SmlZ z:=fun z hz=>Sml.of_lt (k:=n+n+1) (by rw[Nat.pow_succ,←hM,Nat.mul_comm];exact hz) hn
 refine⟨fin _ ?_,fin _ ?_,fin _ ?_,fin _ ?_⟩
 · have h1:=key x0 y0;have h2:=key x1 y1;have h3:=key x2 y2;have h4:=key x3 y3
   rw[←hM]at h1 h2 h3 h4
   rw[c,c,c];omega
 · have h1:=key x0 y1;have h2:=key x1 y0;have h3:=key x2 y3;have h4:=key x3 y2
   rw[←hM]at h1 h2 h3 h4
   rw[c,c];omega
 · have h1:=key x0 y2;have h2:=key x2 y0;have h3:=key x1 y3;have h4:=key x3 y1
   rw[←hM]at h1 h2 h3 h4
   rw[c,c];omega
 · have h1:=key x0 y3;have h2:=key x3 y0;have h3:=key x1 y2;have h4:=key x2 y1
   rw[←hM]at h1 h2 h3 h4
   omega
theorem zai(x y:K)(hx:x.sz≤1000000)(hy:y.sz≤1000000):PCall P 38 [Y6 x,Y6 y] (Y6 (x*y)):=by
 have hxs:=hx
 have hys:=hy
 obtain⟨x0,x1,x2,x3,xd⟩:=By.of_sz hx
 obtain⟨y0,y1,y2,y3,yd⟩:=By.of_sz hy
 have L:(1000000:Nat)<1073741824:=by decide
 have L2:(1000000:Nat)+1000000<1073741824:=by decide
 have hb:By4 1000000 x.c0 x.c1 x.c2 x.c3:=⟨x0,x1,x2,x3⟩
 have hb':By4 1000000 y.c0 y.c1 y.c2 y.c3:=⟨y0,y1,y2,y3⟩
 obtain⟨s0,s1,s2,s3⟩:=zgk (by decide) hb hb'
 have hex: ∃n,n≤500000000∧By4 n x.c0 x.c1 x.c2 x.c3∧By4 n y.c0 y.c1 y.c2 y.c3:=⟨1000000,by decide,hb,hb'⟩
 have dn:x.d*y.d≠0:=Int.mul_ne_zero x.d_ne y.d_ne
 cases h1:zbE x
 · exact zp6 x y h1 hxs hys hex (xd.sml L) (yd.sml L) (xd.sm2 yd L2) dn s0 s1 s2 s3 ((xd.mul yd).sml L2)
 · cases h2:zbE y
   · exact zoR x y h1 h2 hxs hys hex (xd.sml L) (yd.sml L) (xd.sm2 yd L2) dn s0 s1 s2 s3 ((xd.mul yd).sml L2)
   · exact zlq x y (z7M h1) (z7M h2)
end Go.Fw
open Go
namespace Go.Fw
set_option maxRecDepth 100000
theorem z9V{x:K}(h:zll x=true):x.sz≤1:=by
 simp only[zll,Bool.and_eq_true,decide_eq_true_eq]at h
 rw[K.sz_le]
 exact⟨h.1.1.1.1,h.1.1.1.2,h.1.1.2,h.1.2,h.2⟩
theorem zm4(i:Int):(Y0 i).sz≤1:=by
 obtain⟨a,ha⟩:=zeN i
 rw[z5W ha];exact z9V (zoN a).1
theorem zo9(i:Int):(Y5 i).sz≤1:=by
 obtain⟨a,ha⟩:=zeN i
 rw[z5Q ha];exact z9V (zoN a).2
end Go.Fw
open Go
namespace Go.Fw
set_option maxRecDepth 100000
def z0b:List CV:=[.lit (.bool false),Z9 ⟨#[]⟩,.lit (.bool false),Z9 ⟨#[]⟩,.lit (.bool false),Z9 ⟨#[]⟩,.lit (.bool false),Z9 ⟨#[]⟩,.lit (.bool false),Z9 ⟨#[]⟩]
def z7v:CV:= .agg (z0b++(z0b++z0b))
end Go.Fw
open Go
namespace Go.Fw
set_option maxRecDepth 100000
def zpL(n:Nat)(x y z:RN):Bool:=x.raw n&&(y.raw n&&z.raw n)
def ok3(x y z:RN):Bool:=x.ok&&(y.ok&&z.ok)
theorem z0o{n:Nat}{x y z:RN}:zpL n x y z=true↔x.raw n=true∧y.raw n=true∧z.raw n=true:=by simp[zpL]
theorem RN.raw_mono{x:RN}{n m:Nat}(h:x.raw n=true)(hm:n≤m):x.raw m=true:=by
 unfold RN.raw at h ⊢
 simp only[Bool.and_eq_true,decide_eq_true_eq]at h ⊢
 omega
end Go.Fw
open Go
namespace Go.Fw
set_option maxRecDepth 100000
theorem z30{a b:ByteArray}(h:Z9 a=Z9 b):a=b:=by injection h with h;injection h
theorem zr1{x:RN}{k:K}{n:Nat}(h:x.l=zbm k)(hr:x.raw n=true):k.sz≤n:=by
 unfold RN.l zbm at h
 simp only[List.cons.injEq,and_true]at h
 obtain⟨_,e0,_,e1,_,e2,_,e3,_,e4⟩:=h
 have f0:=z30 e0
 have f1:=z30 e1
 have f2:=z30 e2
 have f3:=z30 e3
 have f4:=z30 e4
 unfold RN.raw at hr
 simp only[Bool.and_eq_true,decide_eq_true_eq]at hr
 rw[f0,f1,f2,f3,f4]at hr
 exact K.sz_le.2 ⟨V5.1 hr.1.1.1.1,V5.1 hr.1.1.1.2,V5.1 hr.1.1.2,V5.1 hr.1.2,V5.1 hr.2⟩
def RN.zero:RN:=⟨false,⟨#[]⟩,false,⟨#[]⟩,false,⟨#[]⟩,false,⟨#[]⟩,false,⟨#[]⟩⟩
end Go.Fw
open Go
namespace Go.Fw
set_option maxRecDepth 100000
theorem z2E{a b:Int}(h1:CV.lit (.bool (decide (a<0)))=CV.lit (.bool (decide (b<0))))(h2:Z9 (bytesOf a.natAbs)=Z9 (bytesOf b.natAbs)):a=b:=by
 have e2:=z5G (z30 h2)
 injection h1 with h1
 injection h1 with h1
 rw[decide_eq_decide]at h1
 omega
theorem zgE{x y:K}(h:zbm x=zbm y):x=y:=by
 unfold zbm at h
 simp only[List.cons.injEq,and_true]at h
 obtain⟨a0,b0,a1,b1,a2,b2,a3,b3,a4,b4⟩:=h
 have e0:=z2E a0 b0
 have e1:=z2E a1 b1
 have e2:=z2E a2 b2
 have e3:=z2E a3 b3
 have e4:=z2E a4 b4
 cases x
 cases y
 simp only at e0 e1 e2 e3 e4
 subst e0 e1 e2 e3 e4
 rfl
noncomputable def toO(x:RN):Option K:=if h:x.ok=true then some (RN.ok_k h).choose else none
def ofO:Option K→RN
 |none=> .zero
 |some k=> .ofK k
theorem zgs{x:RN}(h:x.ok=true): ∃k,toO x=some k∧x.l=zbm k:=⟨(RN.ok_k h).choose,dif_pos h,(RN.ok_k h).choose_spec⟩
theorem z99{x:RN}(h:x.ok=false):toO x=none:=dif_neg (by rw[h];decide)
theorem z9d(k:K):toO (.ofK k)=some k:=by
 obtain⟨k',h1,h2⟩:=zgs (RN.ofK_ok k)
 rw[RN.ofK_l]at h2
 rw[h1,zgE h2]
theorem z9J:toO .zero=none:=z99 (by decide)
theorem z9w(o:Option K):toO (ofO o)=o:=by
 cases o with
 |none=>exact z9J
 |some k=>exact z9d k
theorem z19{x:RN}{k:K}(h:toO x=some k):x.ok=true∧x.l=zbm k:=by
 cases e:x.ok
 · rw[z99 e]at h;cases h
 · obtain⟨k',h1,h2⟩:=zgs e
   rw[h1]at h
   injection h with h
   subst h
   exact⟨rfl,h2⟩
theorem z0p{x:RN}(h:toO x=none):x.ok=false:=by
 cases e:x.ok
 · rfl
 · obtain⟨k',h1,_⟩:=zgs e
   rw[h1]at h;cases h
theorem zbz{x:RN}{k:K}(h:x.l=zbm k):x.c=Y6 k:=by
 show CV.agg x.l=_
 rw[h];rfl
def osz:Option K→Nat
 |none=>0
 |some k=>k.sz
theorem z1q{o:Option K}{n:Nat}(h:osz o≤n):(ofO o).raw n=true:=by
 cases o with
 |none=>
  show RN.raw n .zero=true
  have h0:decide ((⟨#[]⟩:ByteArray).size≤n)=true:=decide_eq_true (Nat.zero_le _)
  show(decide ((⟨#[]⟩:ByteArray).size≤n)&&decide ((⟨#[]⟩:ByteArray).size≤n)&&decide ((⟨#[]⟩:ByteArray).size≤n)&&decide ((⟨#[]⟩:ByteArray).size≤n)&&decide ((⟨#[]⟩:ByteArray).size≤n))=true
  generalize decide ((⟨#[]⟩:ByteArray).size≤n)=q at h0
  subst h0;rfl
 |some k=>exact RN.ofK_raw k h
theorem z1r{x:RN}{n:Nat}(h:x.raw n=true):osz (toO x)≤n:=by
 cases e:toO x with
 |none=>exact Nat.zero_le _
 |some k=>exact zr1 (z19 e).2 h
def zqU:Option K→Option K→Option K
 |some x,some y=>some (x*y)
 |_,_=>none
def zqL:Option K→Option K→Option K
 |some x,some y=>some (x+y)
 |_,_=>none
def zqC:Option K→Option K→Option K
 |some x,some y=>some (x-y)
 |_,_=>none
def zpU:Option K→Option K
 |some x=>some (-x)
 |none=>none
theorem zlf(x y:Option K):osz (zqU x y)≤osz x+osz y+1:=by
 cases x<;>cases y<;>first|exact Nat.zero_le _|exact K.sz_mul _ _
theorem zid(x y:Option K):osz (zqL x y)≤osz x+osz y+1:=by
 cases x<;>cases y<;>first|exact Nat.zero_le _|exact K.sz_add _ _
theorem zkL(x y:Option K):osz (zqC x y)≤osz x+osz y+1:=by
 cases x<;>cases y<;>first|exact Nat.zero_le _|exact K.sz_sub _ _
theorem zi3(x:Option K):osz (zpU x)=osz x:=by
 cases x
 · rfl
 · exact K.sz_neg _
end Go.Fw
open Go IntKind
namespace Go.Fw
set_option maxRecDepth 100000
theorem zhI(x y:RN)(g:x.ok=false)(s4_0:RN.raw 1000000 x=true):PCall P 38 [x.c,y.c] (.agg z0b):=
 j4 (.r 4 ((z1B (x) s4_0).eqB g) (.c (lq 10 10) .nil)) (by kernel_rfl)
theorem zis(x y:RN)(g:x.ok=true)(g2:y.ok=false)(s4_0:RN.raw 1000000 x=true)(s8_0:RN.raw 1000000 y=true):PCall P 38 [x.c,y.c] (.agg z0b):=
 j4 (.r 4 ((z1B (x) s4_0).eqB g) (.r 8 ((z1B (y) s8_0).eqB g2) (.c (lq 10 10) .nil))) (by kernel_rfl)
end Go.Fw
open Go
namespace Go.Fw
set_option maxRecDepth 100000
theorem z1o{x:RN}{k:K}{n:Nat}(h:toO x=some k)(hx:x.raw n=true):k.sz≤n:=zr1 (z19 h).2 hx
noncomputable def z6e(x y:RN):RN:=ofO (zqL (toO x) (toO y))
noncomputable def z6B(x y:RN):RN:=ofO (zqC (toO x) (toO y))
noncomputable def W7(x y:RN):RN:=ofO (zqU (toO x) (toO y))
noncomputable def z7D(x:RN):RN:=ofO (zpU (toO x))
theorem zeF(x:RN):toO (z7D x)=zpU (toO x):=z9w _
theorem zoS(x y:RN)(hx:x.raw 1000000=true)(hy:y.raw 1000000=true):PCall P 38 [x.c,y.c] (W7 x y).c:=by
 unfold W7
 cases ex:toO x with
 |none=>exact zhI x y (z0p ex) hx
 |some k=>
  cases ey:toO y with
  |none=>exact zis x y (z19 ex).1 (z0p ey) hx hy
  |some l=>
   rw[zbz (z19 ex).2,zbz (z19 ey).2]
   exact zai k l (z1o ex hx) (z1o ey hy)
theorem zqq(x y:Option K):zqL x (zpU y)=zqC x y:=by
 cases x<;>cases y<;>rfl
theorem zoI{x y z:RN}{k l m:K}(hx:toO x=some k)(hy:toO y=some l)(hz:toO z=some m):zli x y z=zbt k l m:=by
 unfold zli zbt
 rw[(z19 hx).2,(z19 hy).2,(z19 hz).2]
theorem zeE{x y z:RN}(h:toO x=none∨toO y=none∨toO z=none):ok3 x y z=false:=by
 unfold ok3
 rcases h with h|h|h<;>rw[z0p h]<;>simp
abbrev rnB(x y:RN):Bool:=x.b0==y.b0&&(x.s0==y.s0&&true)&&(x.b1==y.b1&&(x.s1==y.s1&&true)&&(x.b2==y.b2&&(x.s2==y.s2&&true)&&(x.b3==y.b3&&(x.s3==y.s3&&true)&&true)))&&(x.b4==y.b4&&(x.s4==y.s4&&true)&&true)
theorem z3t{x y:RN}:rnB x y=true↔x=y:=by
 cases x
 cases y
 simp only[rnB,zhk,Bool.and_eq_true,beq_iff_eq,and_true,RN.mk.injEq,decide_eq_true_eq]
 constructor
 · rintro⟨⟨h0,h1,h2,h3⟩,h4⟩
   exact⟨h0.1,h0.2,h1.1,h1.2,h2.1,h2.2,h3.1,h3.2,h4.1,h4.2⟩
 · rintro⟨a,b,c,d,e,f,g,h,i,j⟩
   exact⟨⟨⟨a,b⟩,⟨c,d⟩,⟨e,f⟩,⟨g,h⟩⟩,i,j⟩
end Go.Fw
open Go
namespace Go.Fw
set_option maxRecDepth 100000
theorem z0r{x y:RN}{n:Nat}(hx:x.raw n=true)(hy:y.raw n=true):(W7 x y).raw (n+n+1)=true:=by
 have h1:=z1r hx
 have h2:=z1r hy
 have h3:=zlf (toO x) (toO y)
 exact z1q (by omega)
theorem zjE{x y:RN}{n:Nat}(hx:x.raw n=true)(hy:y.raw n=true):(z6e x y).raw (n+n+1)=true:=by
 have h1:=z1r hx
 have h2:=z1r hy
 have h3:=zid (toO x) (toO y)
 exact z1q (by omega)
theorem ziF{x y:RN}{n:Nat}(hx:x.raw n=true)(hy:y.raw n=true):(z6B x y).raw (n+n+1)=true:=by
 have h1:=z1r hx
 have h2:=z1r hy
 have h3:=zkL (toO x) (toO y)
 exact z1q (by omega)
theorem z5E{x:RN}{n:Nat}(hx:x.raw n=true):(z7D x).raw n=true:=z1q (by rw[zi3];exact z1r hx)
end Go.Fw
open Go
namespace Go.Fw
set_option maxRecDepth 100000
structure VN where
 x:RN
 y:RN
 z:RN
namespace VN
def c(v:VN):CV:=zli v.x v.y v.z
def raw(n:Nat)(v:VN):Bool:=zpL n v.x v.y v.z
def ok(v:VN):Bool:=ok3 v.x v.y v.z
def zero:VN:=⟨.zero,.zero,.zero⟩
theorem raw_mono{v:VN}{n m:Nat}(h:v.raw n=true)(hm:n≤m):v.raw m=true:=by
 obtain⟨hx,hy,hz⟩:=z0o.1 h
 exact z0o.2 ⟨RN.raw_mono hx hm,RN.raw_mono hy hm,RN.raw_mono hz hm⟩
end VN
structure V3 where
 x:K
 y:K
 z:K
def V3.c(v:V3):CV:=zbt v.x v.y v.z
def V3.sz(v:V3):Nat:=max v.x.sz (max v.y.sz v.z.sz)
noncomputable def toV(v:VN):Option V3:=match toO v.x,toO v.y,toO v.z with
 |some x,some y,some z=>some ⟨x,y,z⟩
 |_,_,_=>none
def ofV:Option V3→VN
 |none=> .zero
 |some v=>⟨.ofK v.x,.ofK v.y,.ofK v.z⟩
theorem zdp(o:Option V3):toV (ofV o)=o:=by
 cases o with
 |none=>unfold toV ofV VN.zero;simp only[z9J]
 |some v=>unfold toV ofV;simp only[z9d]
theorem z6I{v:VN}{k:V3}(h:toV v=some k):toO v.x=some k.x∧toO v.y=some k.y∧toO v.z=some k.z:=by
 unfold toV at h
 split at h
 · rename_i x y z h1 h2 h3
   injection h with h
   subst h
   exact⟨h1,h2,h3⟩
 · cases h
theorem z6X{v:VN}(h:toV v=none):v.ok=false:=by
 unfold toV at h
 split at h
 · cases h
 · rename_i hx
   refine zeE ?_
   cases e1:toO v.x with
   |none=>exact .inl rfl
   |some a=>
    cases e2:toO v.y with
    |none=>exact .inr (.inl rfl)
    |some b=>
     cases e3:toO v.z with
     |none=>exact .inr (.inr rfl)
     |some c=>exact(hx a b c e1 e2 e3).elim
theorem zdV{v:VN}{k:V3}(h:toV v=some k):v.ok=true:=by
 obtain⟨h1,h2,h3⟩:=z6I h
 show ok3 v.x v.y v.z=true
 unfold ok3
 rw[(z19 h1).1,(z19 h2).1,(z19 h3).1];rfl
theorem zhQ{v:VN}{k:V3}(h:toV v=some k):v.c=k.c:=by
 obtain⟨h1,h2,h3⟩:=z6I h
 exact zoI h1 h2 h3
theorem z9H{v:VN}{k:V3}{n:Nat}(h:toV v=some k)(hr:v.raw n=true):k.x.sz≤n∧k.y.sz≤n∧k.z.sz≤n:=by
 obtain⟨h1,h2,h3⟩:=z6I h
 obtain⟨a,b,c⟩:=z0o.1 hr
 exact⟨z1o h1 a,z1o h2 b,z1o h3 c⟩
def vsz:Option V3→Nat
 |none=>0
 |some v=>v.sz
theorem zc9{o:Option V3}{n:Nat}(h:vsz o≤n):(ofV o).raw n=true:=by
 cases o with
 |none=>exact z0o.2 ⟨z1q (o:=none) (Nat.zero_le _),z1q (o:=none) (Nat.zero_le _),z1q (o:=none) (Nat.zero_le _)⟩
 |some v=>
  have h':max v.x.sz (max v.y.sz v.z.sz)≤n:=h
  exact z0o.2 ⟨RN.ofK_raw v.x (by omega),RN.ofK_raw v.y (by omega),RN.ofK_raw v.z (by omega)⟩
end Go.Fw
open Go IntKind
namespace Go.Fw
set_option maxRecDepth 100000
theorem zpm(v:VN)(h1:(v.x.ok)=true)(h2:(v.y.ok)=true)(h3:(v.z.ok)=true)(s4_0:RN.raw 1000000 v.x=true)(s8_0:RN.raw 1000000 v.y=true)(s13_0:RN.raw 1000000 v.z=true):PCall P 99 [v.c] (.lit (.bool true)):=
 j4 (.r 4 ((z1B (v.x) s4_0).eqB h1) (.r 8 ((z1B (v.y) s8_0).eqB h2) (.r 13 ((z1B (v.z) s13_0).eqB h3) .nil))) (by kernel_rfl)
theorem zmA(v:VN)(h1:(v.x.ok)=true)(h2:(v.y.ok)=true)(h3:(v.z.ok)=false)(s4_0:RN.raw 1000000 v.x=true)(s8_0:RN.raw 1000000 v.y=true)(s13_0:RN.raw 1000000 v.z=true):PCall P 99 [v.c] (.lit (.bool false)):=
 j4 (.r 4 ((z1B (v.x) s4_0).eqB h1) (.r 8 ((z1B (v.y) s8_0).eqB h2) (.r 13 ((z1B (v.z) s13_0).eqB h3) .nil))) (by kernel_rfl)
theorem zmk(v:VN)(h1:(v.x.ok)=true)(h2:(v.y.ok)=false)(s4_0:RN.raw 1000000 v.x=true)(s8_0:RN.raw 1000000 v.y=true):PCall P 99 [v.c] (.lit (.bool false)):=
 j4 (.r 4 ((z1B (v.x) s4_0).eqB h1) (.r 8 ((z1B (v.y) s8_0).eqB h2) .nil)) (by kernel_rfl)
theorem zpe(v:VN)(h1:(v.x.ok)=false)(s4_0:RN.raw 1000000 v.x=true):PCall P 99 [v.c] (.lit (.bool false)):=
 j4 (.r 4 ((z1B (v.x) s4_0).eqB h1) .nil) (by kernel_rfl)
theorem zjG(x y z:K)(s4_0:x.sz≤1000000)(s8_0:y.sz≤1000000)(s13_0:z.sz≤1000000):PCall P 99 [zbt x y z] (.lit (.bool true)):=
 j4 (.r 4 (z1H (x) s4_0) (.r 8 (z1H (y) s8_0) (.r 13 (z1H (z) s13_0) .nil))) (by kernel_rfl)
end Go.Fw
open Go
namespace Go.Fw
set_option maxRecDepth 100000
theorem znz(v:VN)(h:v.raw 1000000=true):PCall P 99 [v.c] (.lit (.bool v.ok)):=by
 obtain⟨hx,hy,hz⟩:=z0o.1 h
 unfold VN.ok ok3
 cases ex:v.x.ok
 · exact zpe v ex hx
 · cases ey:v.y.ok
   · exact zmk v ex ey hx hy
   · cases ez:v.z.ok
     · exact zmA v ex ey ez hx hy hz
     · exact zpm v ex ey ez hx hy hz
theorem zmw(x y z:K)(hx:x.sz≤1000000)(hy:y.sz≤1000000)(hz:z.sz≤1000000):PCall P 99 [zbt x y z] (.lit (.bool true)):=zjG x y z hx hy hz
end Go.Fw
open Go IntKind
namespace Go.Fw
set_option maxRecDepth 100000
theorem zkI(v:VN)(k:RN)(g:v.ok=false)(s4_0:VN.raw 1000000 v=true):PCall P 65 [v.c,k.c] z7v:=
 j4 (.r 4 ((znz (v) s4_0).eqB g) (.c (lq 30 30) .nil)) (by kernel_rfl)
theorem zka(v:VN)(k:RN)(g:v.ok=true)(g2:k.ok=false)(s4_0:VN.raw 1000000 v=true)(s8_0:RN.raw 1000000 k=true):PCall P 65 [v.c,k.c] z7v:=
 j4 (.r 4 ((znz (v) s4_0).eqB g) (.r 8 ((z1B (k) s8_0).eqB g2) (.c (lq 30 30) .nil))) (by kernel_rfl)
theorem zhV(x y z k:K)(s4_0:x.sz≤1000000)(s4_1:y.sz≤1000000)(s4_2:z.sz≤1000000)(s8_0:k.sz≤1000000)(s15_0:x.sz≤1000000)(s15_1:k.sz≤1000000)(s19_0:y.sz≤1000000)(s19_1:k.sz≤1000000)(s23_0:z.sz≤1000000)(s23_1:k.sz≤1000000):PCall P 65 [zbt x y z,Y6 k] (zbt (x*k) (y*k) (z*k)):=
 j4 (.r 4 (zmw (x) (y) (z) s4_0 s4_1 s4_2) (.r 8 (z1H (k) s8_0) (.r 15 (zai (x) (k) s15_0 s15_1) (.r 19 (zai (y) (k) s19_0 s19_1) (.r 23 (zai (z) (k) s23_0 s23_1) (.c (lq 30 30) .nil)))))) (by kernel_rfl)
theorem zhz(a b c:Int)(s2_0:(-9223372036854775808:Int)≤a∧a≤9223372036854775807)(s4_0:(-9223372036854775808:Int)≤b∧b≤9223372036854775807)(s6_0:(-9223372036854775808:Int)≤c∧c≤9223372036854775807):PCall P 63 [j6 a,j6 b,j6 c] (zbt (K.ofInt a) (K.ofInt b) (K.ofInt c)):=
 j4 (.r 2 (z3H (a) s2_0) (.r 4 (z3H (b) s4_0) (.r 6 (z3H (c) s6_0) (.c (lq 30 30) .nil)))) (by kernel_rfl)
end Go.Fw
open Go
namespace Go.Fw
set_option maxRecDepth 100000
namespace V3
def add(a b:V3):V3:=⟨a.x+b.x,a.y+b.y,a.z+b.z⟩
def sub(a b:V3):V3:=⟨a.x-b.x,a.y-b.y,a.z-b.z⟩
def neg(a:V3):V3:=⟨-a.x,-a.y,-a.z⟩
def scale(a:V3)(k:K):V3:=⟨a.x*k,a.y*k,a.z*k⟩
end V3
def o2{α β γ:Type}(f:α→β→γ):Option α→Option β→Option γ
 |some a,some b=>some (f a b)
 |_,_=>none
noncomputable def z05(v:VN)(k:RN):VN:=ofV (o2 V3.scale (toV v) (toO k))
theorem zbG(v:VN)(k:RN)(hv:v.raw 1000000=true)(hk:k.raw 1000000=true):PCall P 65 [v.c,k.c] (z05 v k).c:=by
 unfold z05
 cases ev:toV v with
 |none=>exact zkI v k (z6X ev) hv
 |some a=>
  cases ek:toO k with
  |none=>exact zka v k (zdV ev) (z0p ek) hv hk
  |some b=>
   obtain⟨x,y,z⟩:=z9H ev hv
   have hb:=z1o ek hk
   rw[zhQ ev,zbz (z19 ek).2]
   exact zhV _ _ _ _ x y z hb x hb y hb z hb
end Go.Fw
open Go IntKind
namespace Go.Fw
set_option maxRecDepth 100000
theorem zj5(x y:RN)(g:x.ok=false)(s4_0:RN.raw 1000000 x=true):PCall P 137 [x.c,y.c] (.agg z0b):=
 j4 (.r 4 ((z0V (x) s4_0).eqB g) (.c (lq 10 10) .nil)) (by kernel_rfl)
theorem zkO(x y:RN)(g:x.ok=true)(g2:y.ok=false)(s4_0:RN.raw 1000000 x=true)(s8_0:RN.raw 1000000 y=true):PCall P 137 [x.c,y.c] (.agg z0b):=
 j4 (.r 4 ((z0V (x) s4_0).eqB g) (.r 8 ((z0V (y) s8_0).eqB g2) (.c (lq 10 10) .nil))) (by kernel_rfl)
theorem zia(x y:RN)(g:x.ok=false)(s4_0:RN.raw 1000000 x=true):PCall P 136 [x.c,y.c] (.agg z0b):=
 j4 (.r 4 ((z0V (x) s4_0).eqB g) (.c (lq 10 10) .nil)) (by kernel_rfl)
theorem ziv(x y:RN)(g:x.ok=true)(g2:y.ok=false)(s4_0:RN.raw 1000000 x=true)(s8_0:RN.raw 1000000 y=true):PCall P 136 [x.c,y.c] (.agg z0b):=
 j4 (.r 4 ((z0V (x) s4_0).eqB g) (.r 8 ((z0V (y) s8_0).eqB g2) (.c (lq 10 10) .nil))) (by kernel_rfl)
theorem zi9(x:RN)(g:x.ok=false)(s3_0:RN.raw 1000000 x=true):PCall P 121 [x.c] (.agg z0b):=
 j4 (.r 3 ((z0V (x) s3_0).eqB g) (.c (lq 10 10) .nil)) (by kernel_rfl)
theorem zhP(x:RN)(g:x.ok=false)(s3_0:RN.raw 1000000 x=true):PCall P 146 [x.c] (.lit (.int .i64 0)):=
 j4 (.r 3 ((z0V (x) s3_0).eqB g) .nil) (by kernel_rfl)
theorem zit(x y:RN)(g:x.ok=false)(s5_0:RN.raw 1000000 x=true):PCall P 147 [x.c,y.c] (.tup [.agg z0b,.lit (.int .i64 1)]):=
 j4 (.r 5 ((z0V (x) s5_0).eqB g) (.c (lq 10 10) .nil)) (by kernel_rfl)
theorem zjW(x y:RN)(g:x.ok=true)(g2:y.ok=false)(s5_0:RN.raw 1000000 x=true)(s9_0:RN.raw 1000000 y=true):PCall P 147 [x.c,y.c] (.tup [.agg z0b,.lit (.int .i64 1)]):=
 j4 (.r 5 ((z0V (x) s5_0).eqB g) (.r 9 ((z0V (y) s9_0).eqB g2) (.c (lq 10 10) .nil))) (by kernel_rfl)
end Go.Fw
open Go
namespace Go.Fw
set_option maxRecDepth 100000
theorem z8A(x y:RN)(hx:x.raw 1000000=true)(hy:y.raw 1000000=true):PCall P 137 [x.c,y.c] (z6e x y).c:=by
 unfold z6e
 cases ex:toO x with
 |none=>exact zj5 x y (z0p ex) hx
 |some k=>
  cases ey:toO y with
  |none=>exact zkO x y (z19 ex).1 (z0p ey) hx hy
  |some l=>
   have a:=z1o ex hx
   have b:=z1o ey hy
   rw[zbz (z19 ex).2,zbz (z19 ey).2]
   exact zgQ k l (by omega)
theorem z0g(x y:RN)(hx:x.raw 1000000=true)(hy:y.raw 1000000=true):PCall P 136 [x.c,y.c] (W7 x y).c:=by
 unfold W7
 cases ex:toO x with
 |none=>exact zia x y (z0p ex) hx
 |some k=>
  cases ey:toO y with
  |none=>exact ziv x y (z19 ex).1 (z0p ey) hx hy
  |some l=>
   have a:=z1o ex hx
   have b:=z1o ey hy
   rw[zbz (z19 ex).2,zbz (z19 ey).2]
   exact z7Q k l (by omega)
theorem zar(x:RN)(hx:x.raw 1000000=true):PCall P 121 [x.c] (z7D x).c:=by
 unfold z7D
 cases ex:toO x with
 |none=>exact zi9 x (z0p ex) hx
 |some k=>
  have a:=z1o ex hx
  rw[zbz (z19 ex).2]
  exact zdo k (by simp only[Smk];omega)
end Go.Fw
open Go IntKind
namespace Go.Fw
set_option maxRecDepth 100000
theorem zmM(a b c:Int)(h1:(a==b)=true):PCall P 208 [j6 a,j6 b,j6 c] (.lit (.int .i64 a)):=
 j4 (.b 4 h1 .nil) (by kernel_rfl)
theorem zn4(a b c:Int)(h1:(a==b)=false)(h2:(b==0)=true):PCall P 208 [j6 a,j6 b,j6 c] (.lit (.int .i64 a)):=
 j4 (.b 4 h1 (.b 9 h2 .nil)) (by kernel_rfl)
theorem zph(a b c:Int)(h1:(a==b)=false)(h2:(b==0)=false)(h3:(a==0)=true):PCall P 208 [j6 a,j6 b,j6 c] (.lit (.int .i64 b)):=
 j4 (.b 4 h1 (.b 9 h2 (.b 13 h3 .nil))) (by kernel_rfl)
theorem zlw(a b c:Int)(h1:(a==b)=false)(h2:(b==0)=false)(h3:(a==0)=false):PCall P 208 [j6 a,j6 b,j6 c] (.lit (.int .i64 (i64.wrap (a*c)))):=
 j4 (.b 4 h1 (.b 9 h2 (.b 13 h3 .nil))) (by kernel_rfl)
theorem zlV(k a b:Int)(s4_0:(-9223372036854775808:Int)≤k∧k≤9223372036854775807)(s7_0:SmlZ a)(s7_1:SmlZ b)(s7_2:Sml (a.natAbs*b.natAbs))(s8_0:SmlZ k)(s8_1:SmlZ (a*b))(s8_2:Sml (k.natAbs*(a*b).natAbs)):PCall P 210 [j6 k,J6 a,J6 b] (.agg [.lit (.bool (decide (k*(a*b)<0))),.lit (.string (bytesOf (k*(a*b)).natAbs))]):=
 j4 (.r 4 (z1l (k) s4_0) (.r 7 (z06 (a) (b) s7_0 s7_1 s7_2) (.r 8 (z06 (k) (a*b) s8_0 s8_1 s8_2) (.c (lq 2 2) .nil)))) (by kernel_rfl)
end Go.Fw
