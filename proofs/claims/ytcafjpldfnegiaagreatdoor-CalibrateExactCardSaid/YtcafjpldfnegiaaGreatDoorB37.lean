/- A part of the proof that the law returns true for every input: an executor for the model's code, and what functions of the program compute. -/
import Derived.Test.YtcafjpldfnegiaaGreatDoorB11
import Derived.Test.YtcafjpldfnegiaaGreatDoorB15
import Derived.Test.YtcafjpldfnegiaaGreatDoorB22
import Derived.Test.YtcafjpldfnegiaaGreatDoorB28
import Derived.Test.YtcafjpldfnegiaaGreatDoorB34
import Derived.Test.YtcafjpldfnegiaaGreatDoorB35
import Derived.Test.YtcafjpldfnegiaaGreatDoorB36
import Derived.KernelRfl
open Go IntKind
namespace Go.Fw
set_option maxRecDepth 100000
def zjL(X Y C:Nat→Int)(i:Nat):St:=⟨J3 66 [(2,.ptr 0 0),(3,.ptr 1 0),(4,.ptr 2 0),(5,.ptr 3 0),(6,.cv (j7 (i:Int)))],[some (cl4 X),some (cl4 Y),some (cl4 (fun _=>0)),some (cl4 C)]⟩
def zdj(X Y C:Nat→Int)(i j:Nat):St:=⟨J3 66 [(2,.ptr 0 0),(3,.ptr 1 0),(4,.ptr 2 0),(5,.ptr 3 0),(6,.cv (j7 (i:Int))),(7,.cv (j7 (j:Int)))],[some (cl4 X),some (cl4 Y),some (cl4 (fun _=>0)),some (cl4 C)]⟩
def tS(i j:Nat):Nat:=[31,34,34,37].getD (i&&&j) 0
section
variable(X Y C:Nat→Int)
theorem znD : ∀ i j, i < 4 → j < 4 →
    (z38 P 130 (loopHead P 130 1) (zdj X Y C i j) [(7,.r (j7 (X i).sign)),(9,.b true),(20,.stop)] false 100000).pick [2,3,4,5,6,7] [0,1,2,3]=
     some (loopHead P 130 1,zdj X Y C i (j+1),[(0:Int)≤(i:Int)∧(i:Int)<4,PCall P 183 [J7 (X i)] (j7 (X i).sign),((X i).sign==(0:Int))=true,CvL (cl4 X),CvL (cl4 Y),CvL (cl4 (fun _=>0)),CvL (cl4 C)]):=by
 intro i j hi hj
 have hi':i=0∨i=1∨i=2∨i=3:=by omega
 have hj':j=0∨j=1∨j=2∨j=3:=by omega
 rcases hi' with rfl|rfl|rfl|rfl<;>rcases hj' with rfl|rfl|rfl|rfl<;>(show _=_;kernel_rfl)
theorem zo0 : ∀ i j, i < 4 → j < 4 →
    (z38 P 130 (loopHead P 130 1) (zdj X Y C i j) [(7,.r (j7 (X i).sign)),(9,.b false),(13,.r (j7 (Y j).sign)),(16,.b true),(20,.stop)] false 100000).pick [2,3,4,5,6,7] [0,1,2,3]=
     some (loopHead P 130 1,zdj X Y C i (j+1),[(0:Int)≤(i:Int)∧(i:Int)<4,PCall P 183 [J7 (X i)] (j7 (X i).sign),((X i).sign==(0:Int))=false,(0:Int)≤(j:Int)∧(j:Int)<4,PCall P 183 [J7 (Y j)] (j7 (Y j).sign),((Y j).sign==(0:Int))=true,CvL (cl4 X),CvL (cl4 Y),CvL (cl4 (fun _=>0)),CvL (cl4 C)]):=by
 intro i j hi hj
 have hi':i=0∨i=1∨i=2∨i=3:=by omega
 have hj':j=0∨j=1∨j=2∨j=3:=by omega
 rcases hi' with rfl|rfl|rfl|rfl<;>rcases hj' with rfl|rfl|rfl|rfl<;>(show _=_;kernel_rfl)
theorem znv : ∀ i j, i < 4 → j < 4 →
    (z38 P 130 (loopHead P 130 1) (zdj X Y C i j) [(7,.r (j7 (X i).sign)),(9,.b false),(13,.r (j7 (Y j).sign)),(16,.b false),(tS i j,.r (J7 (sq4 i j))),(tS i j+7,.r (J7 (X i*Y j))),(tS i j+8,.r (J7 (sq4 i j*(X i*Y j)))),(tS i j+20,.r (J7 (C (i^^^j)+sq4 i j*(X i*Y j)))),(tS i j+26,.stop)] false 100000).pick [2,3,4,5,6,7] [0,1,2,3]=
     some (loopHead P 130 1,zdj X Y (zic C (i^^^j) (C (i^^^j)+sq4 i j*(X i*Y j))) i (j+1),[(0:Int)≤(i:Int)∧(i:Int)<4,PCall P 183 [J7 (X i)] (j7 (X i).sign),((X i).sign==(0:Int))=false,(0:Int)≤(j:Int)∧(j:Int)<4,PCall P 183 [J7 (Y j)] (j7 (Y j).sign),((Y j).sign==(0:Int))=false,
      PCall P 131 [j7 (sq4 i j)] (J7 (sq4 i j)),(0:Int)≤(i:Int)∧(i:Int)<4,(0:Int)≤(j:Int)∧(j:Int)<4,PCall P 128 [J7 (X i),J7 (Y j)] (J7 (X i*Y j)),PCall P 128 [J7 (sq4 i j),J7 (X i*Y j)] (J7 (sq4 i j*(X i*Y j))),2≤2,(0:Int)≤((i^^^j:Nat):Int)∧((i^^^j:Nat):Int)<4,
      PCall P 127 [J7 (C (i^^^j)),J7 (sq4 i j*(X i*Y j))] (J7 (C (i^^^j)+sq4 i j*(X i*Y j))),(0:Int)≤((i^^^j:Nat):Int)∧((i^^^j:Nat):Int)<4,(i^^^j)*2+2≤8,
      CvL (cl4 X),CvL (cl4 Y),CvL (cl4 (fun _=>0)),CvL (cl4 (zic C (i^^^j) (C (i^^^j)+sq4 i j*(X i*Y j))))]):=by
 intro i j hi hj
 have hi':i=0∨i=1∨i=2∨i=3:=by omega
 have hj':j=0∨j=1∨j=2∨j=3:=by omega
 rcases hi' with rfl|rfl|rfl|rfl<;>rcases hj' with rfl|rfl|rfl|rfl<;>(show _=_;kernel_rfl)
theorem znX: ∀i,i<4→(z38 P 130 (loopHead P 130 0) (zjL X Y C i) [(5,.stop)] false 100000).pick [2,3,4,5,6,7] [0,1,2,3]=some (loopHead P 130 1,zdj X Y C i 0,[CvL (cl4 X),CvL (cl4 Y),CvL (cl4 (fun _=>0)),CvL (cl4 C)]):=by
 intro i hi
 have hi':i=0∨i=1∨i=2∨i=3:=by omega
 rcases hi' with rfl|rfl|rfl|rfl<;>(show _=_;kernel_rfl)
theorem znp: ∀i,i<4→(z38 P 130 (loopHead P 130 1) (zdj X Y C i 4) [(7,.stop)] false 100000).pick [2,3,4,5,6] [0,1,2,3]=some (loopHead P 130 0,zjL X Y C (i+1),[CvL (cl4 X),CvL (cl4 Y),CvL (cl4 (fun _=>0)),CvL (cl4 C)]):=by
 intro i hi
 have hi':i=0∨i=1∨i=2∨i=3:=by omega
 rcases hi' with rfl|rfl|rfl|rfl<;>(show _=_;kernel_rfl)
theorem znl:z38 P 130 (loopHead P 130 0) (zjL X Y C 4) [] false 100000= .ret (c4C (C 0) (C 1) (C 2) (C 3)) [8≤8]:=by
 show _=_
 kernel_rfl
theorem znA:(zaJ P 130 [c4C (X 0) (X 1) (X 2) (X 3),c4C (Y 0) (Y 1) (Y 2) (Y 3)] [(5,.stop)] false 100000).pick [2,3,4,5,6] [0,1,2,3]=some (loopHead P 130 0,zjL X Y (fun _=>0) 0,[CvL (cl4 X),CvL (cl4 Y),CvL (cl4 (fun _=>0)),CvL (cl4 (fun _=>0))]):=by
 show _=_
 kernel_rfl
end
theorem z0T(z:Int):(z.sign==(0:Int))=decide (z=0):=by
 rw[Bool.eq_iff_iff,beq_iff_eq,decide_eq_true_eq]
 exact Int.sign_eq_zero_iff_zero
section
variable{X Y:Nat→Int}{p q:Nat}(hp:p+q+2<1073741824)(hX: ∀i,(X i).natAbs<256^p)(hY: ∀i,(Y i).natAbs<256^q)
include hp hX hY
theorem z4p {R : Goal} (hn : j9 R.n [0, 1, 2, 3] = true) (i j t : Nat) (hi : i < 4) (hj : j < 4) (ht : t ≤ 20) (C : Nat → Int) (hC : ∀ k, (C k).natAbs ≤ t * 6 * 256 ^ (p + q))
    (hR:Ok P 130 (loopHead P 130 1) (zdj X Y (z1B X Y i j C) i (j+1)) R):Ok P 130 (loopHead P 130 1) (zdj X Y C i j) R:=by
 have hii:(0:Int)≤(i:Int)∧(i:Int)<4:=by omega
 have hjj:(0:Int)≤(j:Int)∧(j:Int)<4:=by omega
 by_cases ha:X i=0
 · rw[z2j C (by rw[ha,Int.zero_mul])]at hR
   exact okS (znD X Y C i j hi hj) rfl (.cons hii (.cons (Z3 _) (.cons (by rw[z0T];exact decide_eq_true ha) (.cons (U4 _) (.cons (U4 _) (.cons (U4 _) (.cons (U4 _) .nil))))))) hn hR
 · by_cases hb:Y j=0
   · rw[z2j C (by rw[hb,Int.mul_zero])]at hR
     exact okS (zo0 X Y C i j hi hj) rfl (.cons hii (.cons (Z3 _) (.cons (by rw[z0T];exact decide_eq_false ha) (.cons hjj (.cons (Z3 _) (.cons (by rw[z0T];exact decide_eq_true hb) (.cons (U4 _) (.cons (U4 _) (.cons (U4 _) (.cons (U4 _) .nil)))))))))) hn hR
   · have hm:=z2J hX hY i j
     obtain⟨s1,s2⟩:=zbL i hi j hj
     have hw:256^(p+q+1)=256*256^(p+q):=by rw[Nat.pow_succ,Nat.mul_comm]
     have hf:(sq4 i j*(X i*Y j)).natAbs<6*256^(p+q)+1:=by
      rw[Int.natAbs_mul]
      have:(sq4 i j).natAbs≤6:=by omega
      have:=Nat.mul_le_mul this (Nat.le_of_lt hm)
      omega
     have smX:SmlZ (X i):=Sml.of_lt (hX i) (by omega)
     have smY:SmlZ (Y j):=Sml.of_lt (hY j) (by omega)
     have smM:Sml ((X i).natAbs*(Y j).natAbs):=by rw[←Int.natAbs_mul];exact Sml.of_lt hm (by omega)
     have smS:SmlZ (sq4 i j):=z1C (by omega)
     have smM':SmlZ (X i*Y j):=Sml.of_lt hm (by omega)
     have hCk:=hC (i^^^j)
     have ht6:t*6*256^(p+q)≤120*256^(p+q):=Nat.mul_le_mul_right _ (by omega)
     have hpp:0<256^(p+q):=Nat.pow_pos (by decide)
     have smF:SmlZ (sq4 i j*(X i*Y j)):=Sml.of_lt (k:=p+q+1) (by omega) (by omega)
     have smF2:Sml ((sq4 i j).natAbs*(X i*Y j).natAbs):=by rw[←Int.natAbs_mul];exact smF
     have smC:SmlZ (C (i^^^j)):=Sml.of_lt (k:=p+q+1) (by omega) (by omega)
     have smA:Sml ((C (i^^^j)).natAbs+(sq4 i j*(X i*Y j)).natAbs):=Sml.of_lt (k:=p+q+1) (by omega) (by omega)
     have hx4:i^^^j<4:=Nat.xor_lt_two_pow (n:=2) (by simpa using hi) (by simpa using hj)
     exact okS (znv X Y C i j hi hj) rfl (.cons hii (.cons (Z3 _) (.cons (by rw[z0T];exact decide_eq_false ha) (.cons hjj (.cons (Z3 _) (.cons (by rw[z0T];exact decide_eq_false hb) (.cons (z0J _ (by omega)) (.cons hii (.cons hjj
      (.cons (z4X _ _ smX smY smM) (.cons (z4X _ _ smS smM' smF2) (.cons (Nat.le_refl _) (.cons (by omega) (.cons (z7H _ _ smC smF smA) (.cons (by omega) (.cons (by omega) (.cons (U4 _) (.cons (U4 _) (.cons (U4 _) (.cons (U4 _) .nil)))))))))))))))))))) hn hR
theorem z3o {R : Goal} (hn : j9 R.n [0, 1, 2, 3] = true) (i t : Nat) (hi : i < 4) (ht : t ≤ 16) (C : Nat → Int) (hC : ∀ k, (C k).natAbs ≤ t * 6 * 256 ^ (p + q))
    (hR:Ok P 130 (loopHead P 130 0) (zjL X Y (z1B X Y i 3 (z1B X Y i 2 (z1B X Y i 1 (z1B X Y i 0 C)))) (i+1)) R):Ok P 130 (loopHead P 130 0) (zjL X Y C i) R:=by
 have b0:=z0B hX hY i 0 t hi (by decide) C hC
 have b1:=z0B hX hY i 1 (t+1) hi (by decide) _ b0
 have b2:=z0B hX hY i 2 (t+2) hi (by decide) _ b1
 have cv: ∀C:Nat→Int,Ps [CvL (cl4 X),CvL (cl4 Y),CvL (cl4 (fun _=>0)),CvL (cl4 C)]:=fun C=> .cons (U4 _) (.cons (U4 _) (.cons (U4 _) (.cons (U4 _) .nil)))
 refine okS (znX X Y C i hi) rfl (cv _) hn ?_
 refine z4p hp hX hY hn i 0 t hi (by decide) (by omega) C hC ?_
 refine z4p hp hX hY hn i 1 (t+1) hi (by decide) (by omega) _ b0 ?_
 refine z4p hp hX hY hn i 2 (t+2) hi (by decide) (by omega) _ b1 ?_
 refine z4p hp hX hY hn i 3 (t+3) hi (by decide) (by omega) _ b2 ?_
 exact okS (znp X Y _ i hi) rfl (cv _) hn hR
theorem zeI : PCall P 130 [c4C (X 0) (X 1) (X 2) (X 3), c4C (Y 0) (Y 1) (Y 2) (Y 3)]
    (c4C (X 0*Y 0+2*X 1*Y 1+3*X 2*Y 2+6*X 3*Y 3) (X 0*Y 1+X 1*Y 0+3*X 2*Y 3+3*X 3*Y 2) (X 0*Y 2+X 2*Y 0+2*X 1*Y 3+2*X 3*Y 1) (X 0*Y 3+X 3*Y 0+X 1*Y 2+X 2*Y 1)):=by
 have c0: ∀k:Nat,((fun _=>0:Nat→Int) k).natAbs≤0*6*256^(p+q):=by intro k;simp
 have c1:=z1J hX hY 0 0 (by decide) _ c0
 have c2:=z1J hX hY 1 4 (by decide) _ c1
 have c3:=z1J hX hY 2 8 (by decide) _ c2
 refine V0 (z7p (znA X Y) rfl (.cons (U4 _) (.cons (U4 _) (.cons (U4 _) (.cons (U4 _) .nil)))) ?_)
 refine z3o hp hX hY rfl 0 0 (by decide) (by decide) _ c0 ?_
 refine z3o hp hX hY rfl 1 4 (by decide) (by decide) _ c1 ?_
 refine z3o hp hX hY rfl 2 8 (by decide) (by decide) _ c2 ?_
 refine z3o hp hX hY rfl 3 12 (by decide) (by decide) _ c3 ?_
 generalize hC:z1B X Y 3 3 _=C at*
 have e0:C 0=X 0*Y 0+2*X 1*Y 1+3*X 2*Y 2+6*X 3*Y 3:=by
  have:C 0=0+1*(X 0*Y 0)+2*(X 1*Y 1)+3*(X 2*Y 2)+6*(X 3*Y 3):=by rw[←hC];rfl
  rw[this];grind
 have e1:C 1=X 0*Y 1+X 1*Y 0+3*X 2*Y 3+3*X 3*Y 2:=by
  have:C 1=0+1*(X 0*Y 1)+1*(X 1*Y 0)+3*(X 2*Y 3)+3*(X 3*Y 2):=by rw[←hC];rfl
  rw[this];grind
 have e2:C 2=X 0*Y 2+X 2*Y 0+2*X 1*Y 3+2*X 3*Y 1:=by
  have:C 2=0+1*(X 0*Y 2)+2*(X 1*Y 3)+1*(X 2*Y 0)+2*(X 3*Y 1):=by rw[←hC];rfl
  rw[this];grind
 have e3:C 3=X 0*Y 3+X 3*Y 0+X 1*Y 2+X 2*Y 1:=by
  have:C 3=0+1*(X 0*Y 3)+1*(X 1*Y 2)+1*(X 2*Y 1)+1*(X 3*Y 0):=by rw[←hC];rfl
  rw[this];grind
 refine okR (znl X Y C) (.cons (Nat.le_refl _) .nil) ?_
 rw[←e0,←e1,←e2,←e3]
 rfl
end
def f4(a b c d:Int):Nat→Int
 |0=>a
 |1=>b
 |2=>c
 |_=>d
def By4(n:Nat)(a b c d:Int):Prop:=By n a∧By n b∧By n c∧By n d
theorem By4.f{n:Nat}{a b c d:Int}(h:By4 n a b c d)(i:Nat):(f4 a b c d i).natAbs<256^n:=by
 obtain⟨h0,h1,h2,h3⟩:=h
 match i with
 |0=>exact h0
 |1=>exact h1
 |2=>exact h2
 |n+3=>exact h3
theorem zfe (a0 a1 a2 a3 b0 b1 b2 b3 : Int) (hp : ∃ n, n ≤ 500000000 ∧ By4 n a0 a1 a2 a3 ∧ By4 n b0 b1 b2 b3) : PCall P 130 [c4C a0 a1 a2 a3, c4C b0 b1 b2 b3]
    (c4C (a0*b0+2*a1*b1+3*a2*b2+6*a3*b3) (a0*b1+a1*b0+3*a2*b3+3*a3*b2) (a0*b2+a2*b0+2*a1*b3+2*a3*b1) (a0*b3+a3*b0+a1*b2+a2*b1)):=by
 obtain⟨n,hn,ha,hb⟩:=hp
 exact zeI (X:=f4 a0 a1 a2 a3) (Y:=f4 b0 b1 b2 b3) (p:=n) (q:=n) (by omega) ha.f hb.f
theorem zh1(x y:K)(a:Smk y)(d:x.sz+(-y).sz+2<1073741824):PCall P 135 [Y6 x,Y6 y] (Y6 (x+ -y)):=
 j5 (.r 5 (z9j y a) (.r 6 (z5Y x (-y) d) (.c (lq 10 10) .nil))) (by kernel_rfl)
theorem zm6(x y:K)(h:x.sz+y.sz+2<1073741824):PCall P 135 [Y6 x,Y6 y] (Y6 (x-y)):=zh1 x y (by simp only[Smk];omega) (by rw[K.sz_neg];exact h)
theorem z9y{x:K}(h:zjK x=true):x.sz≤1:=by
 simp only[zjK,Bool.and_eq_true,decide_eq_true_eq]at h
 rw[K.sz_le]
 exact⟨h.1.1.1.1,h.1.1.1.2,h.1.1.2,h.1.2,h.2⟩
theorem zfJ(i:Int):(z6y i).sz≤1:=by
 obtain⟨a,ha⟩:=zob i
 rw[zlU ha];exact z9y (zmO a).1
theorem zfX(i:Int):(zae i).sz≤1:=by
 obtain⟨a,ha⟩:=zob i
 rw[zly ha];exact z9y (zmO a).2
def z0Z:List CV:=[.lit (.bool false),X2 ⟨#[]⟩,.lit (.bool false),X2 ⟨#[]⟩,.lit (.bool false),X2 ⟨#[]⟩,.lit (.bool false),X2 ⟨#[]⟩,.lit (.bool false),X2 ⟨#[]⟩]
def z3U:CV:= .agg (z0Z++(z0Z++z0Z))
def zng(n:Nat)(x y z:RN):Bool:=x.raw n&&(y.raw n&&z.raw n)
def ok3(x y z:RN):Bool:=x.ok&&(y.ok&&z.ok)
theorem z0c{n:Nat}{x y z:RN}:zng n x y z=true↔x.raw n=true∧y.raw n=true∧z.raw n=true:=by simp[zng]
theorem RN.raw_mono{x:RN}{n m:Nat}(h:x.raw n=true)(hm:n≤m):x.raw m=true:=by
 unfold RN.raw at h ⊢
 simp only[Bool.and_eq_true,decide_eq_true_eq]at h ⊢
 omega
theorem z2r{a b:ByteArray}(h:X2 a=X2 b):a=b:=by injection h with h;injection h
theorem zo1{x:RN}{k:K}{n:Nat}(h:x.l=zav k)(hr:x.raw n=true):k.sz≤n:=by
 unfold RN.l zav at h
 simp only[List.cons.injEq,and_true]at h
 obtain⟨_,e0,_,e1,_,e2,_,e3,_,e4⟩:=h
 have f0:=z2r e0
 have f1:=z2r e1
 have f2:=z2r e2
 have f3:=z2r e3
 have f4:=z2r e4
 unfold RN.raw at hr
 simp only[Bool.and_eq_true,decide_eq_true_eq]at hr
 rw[f0,f1,f2,f3,f4]at hr
 exact K.sz_le.2 ⟨V6.1 hr.1.1.1.1,V6.1 hr.1.1.1.2,V6.1 hr.1.1.2,V6.1 hr.1.2,V6.1 hr.2⟩
def RN.zero:RN:=⟨false,⟨#[]⟩,false,⟨#[]⟩,false,⟨#[]⟩,false,⟨#[]⟩,false,⟨#[]⟩⟩
theorem z2f{a b:Int}(h1:CV.lit (.bool (decide (a<0)))=CV.lit (.bool (decide (b<0))))(h2:X2 (bytesOf a.natAbs)=X2 (bytesOf b.natAbs)):a=b:=by
 have e2:=z5c (z2r h2)
 injection h1 with h1
 injection h1 with h1
 rw[decide_eq_decide]at h1
 omega
theorem zf9{x y:K}(h:zav x=zav y):x=y:=by
 unfold zav at h
 simp only[List.cons.injEq,and_true]at h
 obtain⟨a0,b0,a1,b1,a2,b2,a3,b3,a4,b4⟩:=h
 have e0:=z2f a0 b0
 have e1:=z2f a1 b1
 have e2:=z2f a2 b2
 have e3:=z2f a3 b3
 have e4:=z2f a4 b4
 cases x
 cases y
 simp only at e0 e1 e2 e3 e4
 subst e0 e1 e2 e3 e4
 rfl
noncomputable def toO(x:RN):Option K:=if h:x.ok=true then some (RN.ok_k h).choose else none
def ofO:Option K→RN
 |none=> .zero
 |some k=> .ofK k
theorem zhK{x:RN}(h:x.ok=true): ∃k,toO x=some k∧x.l=zav k:=⟨(RN.ok_k h).choose,dif_pos h,(RN.ok_k h).choose_spec⟩
theorem zcT{x:RN}(h:x.ok=false):toO x=none:=dif_neg (by rw[h];decide)
theorem z6g(k:K):toO (.ofK k)=some k:=by
 obtain⟨k',h1,h2⟩:=zhK (RN.ofK_ok k)
 rw[RN.ofK_l]at h2
 rw[h1,zf9 h2]
theorem z4B:toO .zero=none:=zcT (by decide)
theorem z6k(o:Option K):toO (ofO o)=o:=by
 cases o with
 |none=>exact z4B
 |some k=>exact z6g k
theorem z1z{x:RN}{k:K}(h:toO x=some k):x.ok=true∧x.l=zav k:=by
 cases e:x.ok
 · rw[zcT e]at h;cases h
 · obtain⟨k',h1,h2⟩:=zhK e
   rw[h1]at h
   injection h with h
   subst h
   exact⟨rfl,h2⟩
theorem z0y{x:RN}(h:toO x=none):x.ok=false:=by
 cases e:x.ok
 · rfl
 · obtain⟨k',h1,_⟩:=zhK e
   rw[h1]at h;cases h
theorem zf0{x:RN}{k:K}(h:x.l=zav k):x.c=Y6 k:=by
 show CV.agg x.l=_
 rw[h];rfl
def osz:Option K→Nat
 |none=>0
 |some k=>k.sz
theorem z1n{o:Option K}{n:Nat}(h:osz o≤n):(ofO o).raw n=true:=by
 cases o with
 |none=>
  show RN.raw n .zero=true
  have h0:decide ((⟨#[]⟩:ByteArray).size≤n)=true:=decide_eq_true (Nat.zero_le _)
  show(decide ((⟨#[]⟩:ByteArray).size≤n)&&decide ((⟨#[]⟩:ByteArray).size≤n)&&decide ((⟨#[]⟩:ByteArray).size≤n)&&decide ((⟨#[]⟩:ByteArray).size≤n)&&decide ((⟨#[]⟩:ByteArray).size≤n))=true
  generalize decide ((⟨#[]⟩:ByteArray).size≤n)=q at h0
  subst h0;rfl
 |some k=>exact RN.ofK_raw k h
theorem z1k{x:RN}{n:Nat}(h:x.raw n=true):osz (toO x)≤n:=by
 cases e:toO x with
 |none=>exact Nat.zero_le _
 |some k=>exact zo1 (z1z e).2 h
def zod:Option K→Option K→Option K
 |some x,some y=>some (x*y)
 |_,_=>none
def znw:Option K→Option K→Option K
 |some x,some y=>some (x+y)
 |_,_=>none
def znt:Option K→Option K→Option K
 |some x,some y=>some (x-y)
 |_,_=>none
def zne:Option K→Option K
 |some x=>some (-x)
 |none=>none
theorem ziL(x y:Option K):osz (zod x y)≤osz x+osz y+1:=by
 cases x<;>cases y<;>first|exact Nat.zero_le _|exact K.sz_mul _ _
theorem zbF(x y:Option K):osz (znw x y)≤osz x+osz y+1:=by
 cases x<;>cases y<;>first|exact Nat.zero_le _|exact K.sz_add _ _
theorem zhN(x y:Option K):osz (znt x y)≤osz x+osz y+1:=by
 cases x<;>cases y<;>first|exact Nat.zero_le _|exact K.sz_sub _ _
theorem zif(x:Option K):osz (zne x)=osz x:=by
 cases x
 · rfl
 · exact K.sz_neg _
theorem z1Y{x:RN}{k:K}{n:Nat}(h:toO x=some k)(hx:x.raw n=true):k.sz≤n:=zo1 (z1z h).2 hx
noncomputable def z3s(x y:RN):RN:=ofO (znw (toO x) (toO y))
noncomputable def zag(x y:RN):RN:=ofO (znt (toO x) (toO y))
noncomputable def zaK(x y:RN):RN:=ofO (zod (toO x) (toO y))
noncomputable def zfZ(x:RN):RN:=ofO (zne (toO x))
theorem zdy(x:RN):toO (zfZ x)=zne (toO x):=z6k _
theorem znH(x y:Option K):znw x (zne y)=znt x y:=by
 cases x<;>cases y<;>rfl
theorem zjP{x y z:RN}{k l m:K}(hx:toO x=some k)(hy:toO y=some l)(hz:toO z=some m):z5d x y z=z8y k l m:=by
 unfold z5d z8y
 rw[(z1z hx).2,(z1z hy).2,(z1z hz).2]
theorem zeL{x y z:RN}(h:toO x=none∨toO y=none∨toO z=none):ok3 x y z=false:=by
 unfold ok3
 rcases h with h|h|h<;>rw[z0y h]<;>simp
abbrev rnB(x y:RN):Bool:=x.b0==y.b0&&(x.s0==y.s0&&true)&&(x.b1==y.b1&&(x.s1==y.s1&&true)&&(x.b2==y.b2&&(x.s2==y.s2&&true)&&(x.b3==y.b3&&(x.s3==y.s3&&true)&&true)))&&(x.b4==y.b4&&(x.s4==y.s4&&true)&&true)
theorem zgP{x y:RN}:rnB x y=true↔x=y:=by
 cases x
 cases y
 simp only[rnB,zfU,Bool.and_eq_true,beq_iff_eq,and_true,RN.mk.injEq,decide_eq_true_eq]
 constructor
 · rintro⟨⟨h0,h1,h2,h3⟩,h4⟩
   exact⟨h0.1,h0.2,h1.1,h1.2,h2.1,h2.2,h3.1,h3.2,h4.1,h4.2⟩
 · rintro⟨a,b,c,d,e,f,g,h,i,j⟩
   exact⟨⟨⟨a,b⟩,⟨c,d⟩,⟨e,f⟩,⟨g,h⟩⟩,i,j⟩
theorem zik{x y:RN}{n:Nat}(hx:x.raw n=true)(hy:y.raw n=true):(z3s x y).raw (n+n+1)=true:=by
 have h1:=z1k hx
 have h2:=z1k hy
 have h3:=zbF (toO x) (toO y)
 exact z1n (by omega)
theorem zh0{x:RN}{n:Nat}(hx:x.raw n=true):(zfZ x).raw n=true:=z1n (by rw[zif];exact z1k hx)
structure VN where
 x:RN
 y:RN
 z:RN
namespace VN
def c(v:VN):CV:=z5d v.x v.y v.z
def raw(n:Nat)(v:VN):Bool:=zng n v.x v.y v.z
def ok(v:VN):Bool:=ok3 v.x v.y v.z
def zero:VN:=⟨.zero,.zero,.zero⟩
theorem raw_mono{v:VN}{n m:Nat}(h:v.raw n=true)(hm:n≤m):v.raw m=true:=by
 obtain⟨hx,hy,hz⟩:=z0c.1 h
 exact z0c.2 ⟨RN.raw_mono hx hm,RN.raw_mono hy hm,RN.raw_mono hz hm⟩
end VN
structure V3 where
 x:K
 y:K
 z:K
def V3.c(v:V3):CV:=z8y v.x v.y v.z
def V3.sz(v:V3):Nat:=max v.x.sz (max v.y.sz v.z.sz)
noncomputable def toV(v:VN):Option V3:=match toO v.x,toO v.y,toO v.z with
 |some x,some y,some z=>some ⟨x,y,z⟩
 |_,_,_=>none
def ofV:Option V3→VN
 |none=> .zero
 |some v=>⟨.ofK v.x,.ofK v.y,.ofK v.z⟩
theorem zbe(o:Option V3):toV (ofV o)=o:=by
 cases o with
 |none=>unfold toV ofV VN.zero;simp only[z4B]
 |some v=>unfold toV ofV;simp only[z6g]
theorem z6w{v:VN}{k:V3}(h:toV v=some k):toO v.x=some k.x∧toO v.y=some k.y∧toO v.z=some k.z:=by
 unfold toV at h
 split at h
 · rename_i x y z h1 h2 h3
   injection h with h
   subst h
   exact⟨h1,h2,h3⟩
 · cases h
theorem z4A{v:VN}(h:toV v=none):v.ok=false:=by
 unfold toV at h
 split at h
 · cases h
 · rename_i hx
   refine zeL ?_
   cases e1:toO v.x with
   |none=>exact .inl rfl
   |some a=>
    cases e2:toO v.y with
    |none=>exact .inr (.inl rfl)
    |some b=>
     cases e3:toO v.z with
     |none=>exact .inr (.inr rfl)
     |some c=>exact(hx a b c e1 e2 e3).elim
theorem zb7{v:VN}{k:V3}(h:toV v=some k):v.ok=true:=by
 obtain⟨h1,h2,h3⟩:=z6w h
 show ok3 v.x v.y v.z=true
 unfold ok3
 rw[(z1z h1).1,(z1z h2).1,(z1z h3).1];rfl
theorem zdT{v:VN}{k:V3}(h:toV v=some k):v.c=k.c:=by
 obtain⟨h1,h2,h3⟩:=z6w h
 exact zjP h1 h2 h3
theorem z1w{v:VN}{k:V3}{n:Nat}(h:toV v=some k)(hr:v.raw n=true):k.x.sz≤n∧k.y.sz≤n∧k.z.sz≤n:=by
 obtain⟨h1,h2,h3⟩:=z6w h
 obtain⟨a,b,c⟩:=z0c.1 hr
 exact⟨z1Y h1 a,z1Y h2 b,z1Y h3 c⟩
def vsz:Option V3→Nat
 |none=>0
 |some v=>v.sz
theorem z6f{o:Option V3}{n:Nat}(h:vsz o≤n):(ofV o).raw n=true:=by
 cases o with
 |none=>exact z0c.2 ⟨z1n (o:=none) (Nat.zero_le _),z1n (o:=none) (Nat.zero_le _),z1n (o:=none) (Nat.zero_le _)⟩
 |some v=>
  have h':max v.x.sz (max v.y.sz v.z.sz)≤n:=h
  exact z0c.2 ⟨RN.ofK_raw v.x (by omega),RN.ofK_raw v.y (by omega),RN.ofK_raw v.z (by omega)⟩
theorem zgv(a b c:Int)(d:(-9223372036854775808:Int)≤a∧a≤9223372036854775807)(e:(-9223372036854775808:Int)≤b∧b≤9223372036854775807)(f:(-9223372036854775808:Int)≤c∧c≤9223372036854775807):PCall P 63 [j7 a,j7 b,j7 c] (z8y (K.ofInt a) (K.ofInt b) (K.ofInt c)):=
 j5 (.r 2 (z4R a d) (.r 4 (z4R b e) (.r 6 (z4R c f) (.c (lq 30 30) .nil)))) (by kernel_rfl)
namespace V3
def add(a b:V3):V3:=⟨a.x+b.x,a.y+b.y,a.z+b.z⟩
def sub(a b:V3):V3:=⟨a.x-b.x,a.y-b.y,a.z-b.z⟩
def neg(a:V3):V3:=⟨-a.x,-a.y,-a.z⟩
def scale(a:V3)(k:K):V3:=⟨a.x*k,a.y*k,a.z*k⟩
def dot(a b:V3):K:=a.x*b.x+a.y*b.y+a.z*b.z
def cross(a b:V3):V3:=⟨a.y*b.z-a.z*b.y,a.z*b.x-a.x*b.z,a.x*b.y-a.y*b.x⟩
end V3
def o2{α β γ:Type}(f:α→β→γ):Option α→Option β→Option γ
 |some a,some b=>some (f a b)
 |_,_=>none
noncomputable def z0k(v w:VN):VN:=ofV (o2 V3.add (toV v) (toV w))
noncomputable def J6(v:VN)(k:RN):VN:=ofV (o2 V3.scale (toV v) (toO k))
noncomputable def z4q(v w:VN):RN:=ofO (o2 V3.dot (toV v) (toV w))
noncomputable def z3n(v w:VN):VN:=ofV (o2 V3.cross (toV v) (toV w))
theorem zh4(x y:RN)(g:x.ok=false)(a:RN.raw 1000000 x=true):PCall P 137 [x.c,y.c] (.agg z0Z):=
 j5 (.r 4 ((z29 x a).eqB g) (.c (lq 10 10) .nil)) (by kernel_rfl)
theorem zir(x y:RN)(g:x.ok=true)(g2:y.ok=false)(a:RN.raw 1000000 x=true)(d:RN.raw 1000000 y=true):PCall P 137 [x.c,y.c] (.agg z0Z):=
 j5 (.r 4 ((z29 x a).eqB g) (.r 8 ((z29 y d).eqB g2) (.c (lq 10 10) .nil))) (by kernel_rfl)
theorem zgr(x y:RN)(g:x.ok=false)(a:RN.raw 1000000 x=true):PCall P 136 [x.c,y.c] (.agg z0Z):=
 j5 (.r 4 ((z29 x a).eqB g) (.c (lq 10 10) .nil)) (by kernel_rfl)
theorem zjw(x y:RN)(g:x.ok=true)(g2:y.ok=false)(a:RN.raw 1000000 x=true)(d:RN.raw 1000000 y=true):PCall P 136 [x.c,y.c] (.agg z0Z):=
 j5 (.r 4 ((z29 x a).eqB g) (.r 8 ((z29 y d).eqB g2) (.c (lq 10 10) .nil))) (by kernel_rfl)
theorem zgs(x:RN)(g:x.ok=false)(a:RN.raw 1000000 x=true):PCall P 121 [x.c] (.agg z0Z):=
 j5 (.r 3 ((z29 x a).eqB g) (.c (lq 10 10) .nil)) (by kernel_rfl)
theorem zih(x:RN)(g:x.ok=false)(a:RN.raw 1000000 x=true):PCall P 146 [x.c] (.lit (.int .i64 0)):=
 j5 (.r 3 ((z29 x a).eqB g) .nil) (by kernel_rfl)
theorem zh5(x y:RN)(g:x.ok=false)(a:RN.raw 1000000 x=true):PCall P 147 [x.c,y.c] (.tup [.agg z0Z,.lit (.int .i64 1)]):=
 j5 (.r 5 ((z29 x a).eqB g) (.c (lq 10 10) .nil)) (by kernel_rfl)
theorem zi8(x y:RN)(g:x.ok=true)(g2:y.ok=false)(a:RN.raw 1000000 x=true)(d:RN.raw 1000000 y=true):PCall P 147 [x.c,y.c] (.tup [.agg z0Z,.lit (.int .i64 1)]):=
 j5 (.r 5 ((z29 x a).eqB g) (.r 9 ((z29 y d).eqB g2) (.c (lq 10 10) .nil))) (by kernel_rfl)
theorem z9B(x y:RN)(hx:x.raw 1000000=true)(hy:y.raw 1000000=true):PCall P 137 [x.c,y.c] (z3s x y).c:=by
 unfold z3s
 cases ex:toO x with
 |none=>exact zh4 x y (z0y ex) hx
 |some k=>
  cases ey:toO y with
  |none=>exact zir x y (z1z ex).1 (z0y ey) hx hy
  |some l=>
   have a:=z1Y ex hx
   have b:=z1Y ey hy
   rw[zf0 (z1z ex).2,zf0 (z1z ey).2]
   exact z5Y k l (by omega)
theorem zkM(x y:RN)(hx:x.raw 1000000=true)(hy:y.raw 1000000=true):PCall P 136 [x.c,y.c] (zaK x y).c:=by
 unfold zaK
 cases ex:toO x with
 |none=>exact zgr x y (z0y ex) hx
 |some k=>
  cases ey:toO y with
  |none=>exact zjw x y (z1z ex).1 (z0y ey) hx hy
  |some l=>
   have a:=z1Y ex hx
   have b:=z1Y ey hy
   rw[zf0 (z1z ex).2,zf0 (z1z ey).2]
   exact z4I k l (by omega)
theorem zmw(x:RN)(hx:x.raw 1000000=true):PCall P 121 [x.c] (zfZ x).c:=by
 unfold zfZ
 cases ex:toO x with
 |none=>exact zgs x (z0y ex) hx
 |some k=>
  have a:=z1Y ex hx
  rw[zf0 (z1z ex).2]
  exact z9j k (by simp only[Smk];omega)
theorem zmq(a b c:Int)(h1:(a==b)=true):PCall P 208 [j7 a,j7 b,j7 c] (.lit (.int .i64 a)):=
 j5 (.b 4 h1 .nil) (by kernel_rfl)
theorem zl4(a b c:Int)(h1:(a==b)=false)(h2:(b==0)=true):PCall P 208 [j7 a,j7 b,j7 c] (.lit (.int .i64 a)):=
 j5 (.b 4 h1 (.b 9 h2 .nil)) (by kernel_rfl)
theorem zld(a b c:Int)(h1:(a==b)=false)(h2:(b==0)=false)(h3:(a==0)=true):PCall P 208 [j7 a,j7 b,j7 c] (.lit (.int .i64 b)):=
 j5 (.b 4 h1 (.b 9 h2 (.b 13 h3 .nil))) (by kernel_rfl)
theorem zml(a b c:Int)(h1:(a==b)=false)(h2:(b==0)=false)(h3:(a==0)=false):PCall P 208 [j7 a,j7 b,j7 c] (.lit (.int .i64 (i64.wrap (a*c)))):=
 j5 (.b 4 h1 (.b 9 h2 (.b 13 h3 .nil))) (by kernel_rfl)
theorem zlE(k a b:Int)(d:(-9223372036854775808:Int)≤k∧k≤9223372036854775807)(e:SmlZ a)(f:SmlZ b)(g:Sml (a.natAbs*b.natAbs))(i:SmlZ k)(j:SmlZ (a*b))(l:Sml (k.natAbs*(a*b).natAbs)):PCall P 210 [j7 k,J7 a,J7 b] (.agg [.lit (.bool (decide (k*(a*b)<0))),.lit (.string (bytesOf (k*(a*b)).natAbs))]):=
 j5 (.r 4 (z0U k d) (.r 7 (U3 a b e f g) (.r 8 (U3 k (a*b) i j l) (.c (lq 2 2) .nil)))) (by kernel_rfl)
def z4i(a b c:Int):Int:=if a=b∨b=0 then a else if a=0 then b else a*c
theorem z2e(a b c:Int)(ha: -1≤a∧a≤1)(hc: -1≤c∧c≤1):PCall P 208 [j7 a,j7 b,j7 c] (j7 (z4i a b c)):=by
 unfold z4i
 by_cases h1:a=b
 · rw[if_pos (.inl h1)]
   exact zmq a b c (by simp[h1])
 · by_cases h2:b=0
   · rw[if_pos (.inr h2)]
     exact zl4 a b c (by simp[h1]) (by simp[h2])
   · rw[if_neg (by rintro(h|h)<;>contradiction)]
     by_cases h3:a=0
     · rw[if_pos h3]
       exact zld a b c (by simp[h1]) (by simp[h2]) (by simp[h3])
     · rw[if_neg h3]
       have:=zml a b c (by simp[h1]) (by simp[h2]) (by simp[h3])
       have hw:i64.wrap (a*c)=a*c:=by
        have:a= -1∨a=1:=by omega
        rcases this with h|h<;>rw[h]<;>exact w64 (by omega)
       rwa[hw]at this
theorem z8f(k a b:Int){n m:Nat}(hk: -100≤k∧k≤100)(ha:By n a)(hb:By m b)(hn:n+m+1<1073741824):PCall P 210 [j7 k,J7 a,J7 b] (J7 (k*(a*b))):=by
 have hk':By 1 k:=by unfold By;omega
 have hab:=ha.mul hb
 exact zlE k a b (by omega) (ha.sml (by omega)) (hb.sml (by omega)) (ha.sm2 hb (by omega)) (hk'.sml (by decide)) (hab.sml (by omega)) (hk'.sm2 hab (by omega))
theorem zkR(a b:Int)(c:SmlZ a)(d:SmlZ b)(e:Sml (a.natAbs+b.natAbs)):PCall P 246 [J7 a,J7 b] (.lit (.int .i64 (a-b).sign)):=
 j5 (.r 5 (z95 a b c d e) (.r 6 (z0E (a-b)) .nil)) (by kernel_rfl)
def Two(a b:Int):Prop:= ∃n,n≤500000000∧By n a∧By n b
theorem z1I(k a b:Int)(hk: -100≤k∧k≤100)(h:Two a b):PCall P 210 [j7 k,J7 a,J7 b] (J7 (k*(a*b))):=by
 obtain⟨n,hn,ha,hb⟩:=h
 exact z8f k a b hk ha hb (by omega)
theorem zcC(a b:Int)(h:Two a b):PCall P 246 [J7 a,J7 b] (j7 (a-b).sign):=by
 obtain⟨n,hn,ha,hb⟩:=h
 exact zkR a b (ha.sml (by omega)) (hb.sml (by omega)) (ha.sma hb (by omega))
theorem zmr(a b:Int)(h:Two a b):PCall P 203 [J7 a,J7 b] (J7 (a*b)):=by
 obtain⟨n,hn,ha,hb⟩:=h
 exact U3 a b (ha.sml (by omega)) (hb.sml (by omega)) (ha.sm2 hb (by omega))
theorem zfK(a b:Int)(h:Two a b):PCall P 202 [J7 a,J7 b] (J7 (a+b)):=by
 obtain⟨n,hn,ha,hb⟩:=h
 exact z1H a b (ha.sml (by omega)) (hb.sml (by omega)) (ha.sma hb (by omega))
theorem zfQ(a b:Int)(h:Two a b):PCall P 209 [J7 a,J7 b] (J7 (a-b)):=by
 obtain⟨n,hn,ha,hb⟩:=h
 exact z95 a b (ha.sml (by omega)) (hb.sml (by omega)) (ha.sma hb (by omega))
theorem zjQ(a b:Int)(c:Two a a)(d:(-100:Int)≤2∧(2:Int)≤100)(e:Two b b)(f:Two (a*a) ((2:Int)*(b*b)))(g:(-1:Int)≤a.sign∧a.sign≤1)(i:(-1:Int)≤(a*a-2*(b*b)).sign∧(a*a-2*(b*b)).sign≤1):PCall P 207 [J7 a,J7 b] (.lit (.int .i64 (z4i a.sign b.sign (a*a-2*(b*b)).sign))):=
 j5 (.r 4 (z0E a) (.r 6 (z0E b) (.r 9 (zmr a a c) (.r 12 (z1I (2:Int) b b d e) (.r 13 (zcC (a*a) ((2:Int)*(b*b)) f) (.r 14 (z2e a.sign b.sign ((a*a-2*(b*b)).sign) g i) .nil)))))) (by kernel_rfl)
def sg2(a b:Int):Int:=z4i a.sign b.sign (a*a-2*(b*b)).sign
theorem z2G(a:Int): -1≤a.sign∧a.sign≤1:=by
 rcases Int.lt_trichotomy a 0 with h|h|h
 · rw[Int.sign_eq_neg_one_of_neg h];decide
 · rw[h];decide
 · rw[Int.sign_eq_one_of_pos h];decide
theorem zgC{a b c:Int}(ha: -1≤a∧a≤1)(hb: -1≤b∧b≤1)(hc: -1≤c∧c≤1): -1≤z4i a b c∧z4i a b c≤1:=by
 unfold z4i
 split
 · exact ha
 · split
   · exact hb
   · have:a= -1∨a=0∨a=1:=by omega
     rcases this with h|h|h<;>rw[h]<;>omega
theorem z8P(a b:Int): -1≤sg2 a b∧sg2 a b≤1:=zgC (z2G a) (z2G b) (z2G _)
def z4v(a b:Int):Prop:= ∃n,n≤100000000∧By n a∧By n b
theorem By.two{a:Int}{n:Nat}(h:By n a):By (n+1) (2*a):=by
 have:By 1 2:=by unfold By;decide
 have:=this.mul h
 rwa[Nat.add_comm]at this
theorem z0M(a b:Int)(h:z4v a b):PCall P 207 [J7 a,J7 b] (j7 (sg2 a b)):=by
 obtain⟨n,hn,ha,hb⟩:=h
 exact zjQ a b ⟨n,by omega,ha,ha⟩ (by decide) ⟨n,by omega,hb,hb⟩ ⟨n+n+1,by omega,(ha.mul ha).mono (by omega),(hb.mul hb).two⟩ (z2G _) (z2G _)
end Go.Fw
