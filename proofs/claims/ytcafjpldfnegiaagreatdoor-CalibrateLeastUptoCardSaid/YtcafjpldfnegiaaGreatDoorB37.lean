/- A part of the proof that the law returns true for every input: an executor for the model's code, and what functions of the program compute. -/
import Derived.Test.YtcafjpldfnegiaaGreatDoorB11
import Derived.Test.YtcafjpldfnegiaaGreatDoorB15
import Derived.Test.YtcafjpldfnegiaaGreatDoorB36
import Derived.KernelRfl
open Go
namespace Go.Fw
set_option maxRecDepth 100000
def icl(z:Int):List MV:=[.cv (.lit (.bool (decide (z<0)))),.cv (.lit (.string (bytesOf z.natAbs)))]
def cl4(X:Nat→Int):List MV:=[.cv (.lit (.bool (decide (X 0<0)))),.cv (.lit (.string (bytesOf (X 0).natAbs))),.cv (.lit (.bool (decide (X 1<0)))),.cv (.lit (.string (bytesOf (X 1).natAbs))),.cv (.lit (.bool (decide (X 2<0)))),.cv (.lit (.string (bytesOf (X 2).natAbs))),.cv (.lit (.bool (decide (X 3<0)))),.cv (.lit (.string (bytesOf (X 3).natAbs)))]
def cl5(X:Nat→Int)(e:Int):List MV:=[.cv (.lit (.bool (decide (X 0<0)))),.cv (.lit (.string (bytesOf (X 0).natAbs))),.cv (.lit (.bool (decide (X 1<0)))),.cv (.lit (.string (bytesOf (X 1).natAbs))),.cv (.lit (.bool (decide (X 2<0)))),.cv (.lit (.string (bytesOf (X 2).natAbs))),.cv (.lit (.bool (decide (X 3<0)))),.cv (.lit (.string (bytesOf (X 3).natAbs))),.cv (.lit (.bool (decide (e<0)))),.cv (.lit (.string (bytesOf e.natAbs)))]
theorem zai(z:Int):CvL (icl z):=by intro m hm;simp[icl]at hm;rcases hm with rfl|rfl<;>exact⟨_,rfl⟩
theorem z01(X:Nat→Int):CvL (cl4 X):=by intro m hm;simp[cl4]at hm;rcases hm with rfl|rfl|rfl|rfl|rfl|rfl|rfl|rfl<;>exact⟨_,rfl⟩
theorem z17(X:Nat→Int)(e:Int):CvL (cl5 X e):=by intro m hm;simp[cl5]at hm;rcases hm with rfl|rfl|rfl|rfl|rfl|rfl|rfl|rfl|rfl|rfl<;>exact⟨_,rfl⟩
def zaR(X Y C:Nat→Int)(e e':Int)(i:Nat):St:=⟨J3 62 [(2,.ptr 0 0),(3,.ptr 1 0),(4,.ptr 2 0),(5,.ptr 3 0),(12,.agg (cl4 X)),(13,.cv (.lit (.int .i64 (i:Int))))],
 [some (cl5 X e),some (cl5 Y e'),some (cl5 (fun _=>0) 0),some (cl4 C)]⟩
def z68(X Y C:Nat→Int)(e e':Int)(i j:Nat):St:=⟨J3 62 [(2,.ptr 0 0),(3,.ptr 1 0),(4,.ptr 2 0),(5,.ptr 3 0),(6,.cv (.lit (.int .i64 (i:Int)))),(7,.ptr 4 0),(12,.agg (cl4 X)),(13,.cv (.lit (.int .i64 (i:Int)))),(18,.agg (cl4 Y)),(19,.cv (.lit (.int .i64 (j:Int))))],
 [some (cl5 X e),some (cl5 Y e'),some (cl5 (fun _=>0) 0),some (cl4 C),some (icl (X i))]⟩
def sq4(i j:Nat):Int:=[1,2,3,6].getD (i&&&j) 0
def zj1(C:Nat→Int)(k:Nat)(z:Int):Nat→Int:=fun n=>match Nat.beq n k with|true=>z|false=>C n
theorem zll (X Y C : Nat → Int) (e e' : Int) : ∀ i j, i < 4 → j < 4 →
    (z3Q P 201 (loopHead P 201 1) (z68 X Y C e e' i j) [(11,.b true),(19,.stop)] false 100000).pick [2,3,4,5,6,7,12,13,18,19] [0,1,2,3,4]=
     some (loopHead P 201 1,z68 X Y C e e' i (j+1),[(0:Int)≤(j:Int)∧(j:Int)<4,2≤2,((bytesOf (X i).natAbs).toList==[])=true,CvL (cl5 X e),CvL (cl5 Y e'),CvL (cl5 (fun _=>0) 0),CvL (cl4 C),CvL (icl (X i))]):=by
 intro i j hi hj
 have hi':i=0∨i=1∨i=2∨i=3:=by omega
 have hj':j=0∨j=1∨j=2∨j=3:=by omega
 rcases hi' with rfl|rfl|rfl|rfl<;>rcases hj' with rfl|rfl|rfl|rfl<;>(show _=_;kernel_rfl)
theorem zmO (X Y C : Nat → Int) (e e' : Int) : ∀ i j, i < 4 → j < 4 →
    (z3Q P 201 (loopHead P 201 1) (z68 X Y C e e' i j) [(11,.b false),(16,.b true),(19,.stop)] false 100000).pick [2,3,4,5,6,7,12,13,18,19] [0,1,2,3,4]=
     some (loopHead P 201 1,z68 X Y C e e' i (j+1),[(0:Int)≤(j:Int)∧(j:Int)<4,2≤2,((bytesOf (X i).natAbs).toList==[])=false,((bytesOf (Y j).natAbs).toList==[])=true,CvL (cl5 X e),CvL (cl5 Y e'),CvL (cl5 (fun _=>0) 0),CvL (cl4 C),CvL (icl (X i))]):=by
 intro i j hi hj
 have hi':i=0∨i=1∨i=2∨i=3:=by omega
 have hj':j=0∨j=1∨j=2∨j=3:=by omega
 rcases hi' with rfl|rfl|rfl|rfl<;>rcases hj' with rfl|rfl|rfl|rfl<;>(show _=_;kernel_rfl)
theorem zlg (X Y C : Nat → Int) (e e' : Int) : ∀ i j, i < 4 → j < 4 →
    (z3Q P 201 (loopHead P 201 1) (z68 X Y C e e' i j) [(11,.b false),(16,.b false),(23,.r (J6 (sq4 i j))),(37,.r (J6 (X i*Y j))),(38,.r (J6 (sq4 i j*(X i*Y j)))),(39,.r (J6 (C (i^^^j)+sq4 i j*(X i*Y j)))),(44,.stop)] false 100000).pick [2,3,4,5,6,7,12,13,18,19] [0,1,2,3,4]=
     some (loopHead P 201 1,z68 X Y (zj1 C (i^^^j) (C (i^^^j)+sq4 i j*(X i*Y j))) e e' i (j+1),[(0:Int)≤(j:Int)∧(j:Int)<4,2≤2,((bytesOf (X i).natAbs).toList==[])=false,((bytesOf (Y j).natAbs).toList==[])=false,
      (0:Int)≤((i&&&j:Nat):Int)∧((i&&&j:Nat):Int)<4,PCall P 206 [j6 (sq4 i j)] (J6 (sq4 i j)),2≤2,(0:Int)≤((i^^^j:Nat):Int)∧((i^^^j:Nat):Int)<4,
      PCall P 203 [J6 (X i),J6 (Y j)] (J6 (X i*Y j)),PCall P 203 [J6 (sq4 i j),J6 (X i*Y j)] (J6 (sq4 i j*(X i*Y j))),PCall P 202 [J6 (C (i^^^j)),J6 (sq4 i j*(X i*Y j))] (J6 (C (i^^^j)+sq4 i j*(X i*Y j))),
      (0:Int)≤((i^^^j:Nat):Int)∧((i^^^j:Nat):Int)<4,(i^^^j)*2+2≤8,
      CvL (cl5 X e),CvL (cl5 Y e'),CvL (cl5 (fun _=>0) 0),CvL (cl4 (zj1 C (i^^^j) (C (i^^^j)+sq4 i j*(X i*Y j)))),CvL (icl (X i))]):=by
 intro i j hi hj
 have hi':i=0∨i=1∨i=2∨i=3:=by omega
 have hj':j=0∨j=1∨j=2∨j=3:=by omega
 rcases hi' with rfl|rfl|rfl|rfl<;>rcases hj' with rfl|rfl|rfl|rfl<;>(show _=_;kernel_rfl)
theorem zlS (X Y C : Nat → Int) (e e' : Int) : ∀ i, i < 4 →
    (z3Q P 201 (loopHead P 201 0) (zaR X Y C e e' i) [(11,.stop)] false 100000).pick [2,3,4,5,6,7,12,13,18,19] [0,1,2,3,4]=
     some (loopHead P 201 1,z68 X Y C e e' i 0,[(0:Int)≤(i:Int)∧(i:Int)<4,2≤2,CvL (cl5 X e),CvL (cl5 Y e'),CvL (cl5 (fun _=>0) 0),CvL (cl4 C),CvL (icl (X i))]):=by
 intro i hi
 have hi':i=0∨i=1∨i=2∨i=3:=by omega
 rcases hi' with rfl|rfl|rfl|rfl<;>(show _=_;kernel_rfl)
theorem zoU (X Y C : Nat → Int) (e e' : Int) : ∀ i, i < 4 →
    (z3Q P 201 (loopHead P 201 1) (z68 X Y C e e' i 4) [(5,.stop)] false 100000).pick [2,3,4,5,12,13] [0,1,2,3]=
     some (loopHead P 201 0,zaR X Y C e e' (i+1),[CvL (cl5 X e),CvL (cl5 Y e'),CvL (cl5 (fun _=>0) 0),CvL (cl4 C)]):=by
 intro i hi
 have hi':i=0∨i=1∨i=2∨i=3:=by omega
 rcases hi' with rfl|rfl|rfl|rfl<;>(show _=_;kernel_rfl)
theorem zoa (X Y C : Nat → Int) (e e' : Int) :
    z3Q P 201 (loopHead P 201 0) (zaR X Y C e e' 4) [(8,.r (J6 (e*e'))),(9,.r (Z9 (K.of (C 0) (C 1) (C 2) (C 3) (e*e'))))] false 100000=
     .ret (Z9 (K.of (C 0) (C 1) (C 2) (C 3) (e*e'))) [PCall P 203 [J6 e,J6 e'] (J6 (e*e')),PCall P 204 [c4C (C 0) (C 1) (C 2) (C 3),J6 (e*e')] (Z9 (K.of (C 0) (C 1) (C 2) (C 3) (e*e'))),10≤10]:=by
 show _=_
 kernel_rfl
def z1V(X Y:Nat→Int)(i j:Nat)(C:Nat→Int):Nat→Int:=zj1 C (i^^^j) (C (i^^^j)+sq4 i j*(X i*Y j))
theorem z2G{X Y:Nat→Int}{i j:Nat}(C:Nat→Int)(h:X i*Y j=0):z1V X Y i j C=C:=by
 funext n
 unfold z1V zj1
 split
 · rename_i hn;rw[Nat.eq_of_beq_eq_true hn,h];simp
 · rfl
theorem z5f{z:Int}:((bytesOf z.natAbs).toList==[])=decide (z=0):=by
 rw[Z5];exact decide_eq_decide.2 (by omega)
theorem zcZ: ∀i,i<4→ ∀j,j<4→0<sq4 i j∧sq4 i j≤6:=by decide
section
variable{X Y:Nat→Int}{e e':Int}{p q:Nat}(hp:p+q+2<1073741824)(hX: ∀i,(X i).natAbs<256^p)(hY: ∀i,(Y i).natAbs<256^q)
include hp hX hY
omit hp in
theorem z3g(i j:Nat):(X i*Y j).natAbs<256^(p+q):=by
 rw[Int.natAbs_mul];exact K.mul_lt_pow (hX i) (hY j)
theorem z3y {R : Goal} (hn : J0 R.n [0, 1, 2, 3, 4] = true) (i j t : Nat) (hi : i < 4) (hj : j < 4) (ht : t ≤ 20) (C : Nat → Int) (hC : ∀ k, (C k).natAbs ≤ t * 6 * 256 ^ (p + q))
    (hR:Ok P 201 (loopHead P 201 1) (z68 X Y (z1V X Y i j C) e e' i (j+1)) R):Ok P 201 (loopHead P 201 1) (z68 X Y C e e' i j) R:=by
 have hjj:(0:Int)≤(j:Int)∧(j:Int)<4:=by omega
 by_cases ha:X i=0
 · rw[z2G C (by rw[ha,Int.zero_mul])]at hR
   exact okS (zll X Y C e e' i j hi hj) rfl (.cons hjj (.cons (Nat.le_refl _) (.cons (by rw[z5f,ha];rfl) (.cons (z17 _ _) (.cons (z17 _ _) (.cons (z17 _ _) (.cons (z01 _) (.cons (zai _) .nil)))))))) hn hR
 · by_cases hb:Y j=0
   · rw[z2G C (by rw[hb,Int.mul_zero])]at hR
     exact okS (zmO X Y C e e' i j hi hj) rfl (.cons hjj (.cons (Nat.le_refl _) (.cons (by rw[z5f];simpa using ha) (.cons (by rw[z5f,hb];rfl) (.cons (z17 _ _) (.cons (z17 _ _) (.cons (z17 _ _) (.cons (z01 _) (.cons (zai _) .nil))))))))) hn hR
   · have hm:=z3g hX hY i j
     obtain⟨s1,s2⟩:=zcZ i hi j hj
     have hw:256^(p+q+1)=256*256^(p+q):=by rw[Nat.pow_succ,Nat.mul_comm]
     have hf:(sq4 i j*(X i*Y j)).natAbs<6*256^(p+q)+1:=by
      rw[Int.natAbs_mul]
      have:(sq4 i j).natAbs≤6:=by omega
      have:=Nat.mul_le_mul this (Nat.le_of_lt hm)
      omega
     have smX:SmlZ (X i):=Sml.of_lt (hX i) (by omega)
     have smY:SmlZ (Y j):=Sml.of_lt (hY j) (by omega)
     have smM:Sml ((X i).natAbs*(Y j).natAbs):=by rw[←Int.natAbs_mul];exact Sml.of_lt hm (by omega)
     have smS:SmlZ (sq4 i j):=z1O (by omega)
     have smM':SmlZ (X i*Y j):=Sml.of_lt hm (by omega)
     have hCk:=hC (i^^^j)
     have ht6:t*6*256^(p+q)≤120*256^(p+q):=Nat.mul_le_mul_right _ (by omega)
     have hpp:0<256^(p+q):=Nat.pow_pos (by decide)
     have smF:SmlZ (sq4 i j*(X i*Y j)):=Sml.of_lt (k:=p+q+1) (by omega) (by omega)
     have smF2:Sml ((sq4 i j).natAbs*(X i*Y j).natAbs):=by rw[←Int.natAbs_mul];exact smF
     have smC:SmlZ (C (i^^^j)):=Sml.of_lt (k:=p+q+1) (by omega) (by omega)
     have smA:Sml ((C (i^^^j)).natAbs+(sq4 i j*(X i*Y j)).natAbs):=Sml.of_lt (k:=p+q+1) (by omega) (by omega)
     have hx4:i^^^j<4:=Nat.xor_lt_two_pow (n:=2) (by simpa using hi) (by simpa using hj)
     have ha4:i&&&j<4:=Nat.lt_of_le_of_lt Nat.and_le_left hi
     exact okS (zlg X Y C e e' i j hi hj) rfl (.cons hjj (.cons (Nat.le_refl _) (.cons (by rw[z5f];simpa using ha) (.cons (by rw[z5f];simpa using hb) (.cons (by omega) (.cons (z1b _ (by omega)) (.cons (Nat.le_refl _) (.cons (by omega)
      (.cons (U9 _ _ smX smY smM) (.cons (U9 _ _ smS smM' smF2) (.cons (z2b _ _ smC smF smA) (.cons (by omega) (.cons (by omega) (.cons (z17 _ _) (.cons (z17 _ _) (.cons (z17 _ _) (.cons (z01 _) (.cons (zai _) .nil)))))))))))))))))) hn hR
omit hp in
theorem z0K(i j t:Nat)(hi:i<4)(hj:j<4)(C:Nat→Int)(hC: ∀k,(C k).natAbs≤t*6*256^(p+q)): ∀k,(z1V X Y i j C k).natAbs≤(t+1)*6*256^(p+q):=by
 intro k
 have hm:=z3g hX hY i j
 obtain⟨s1,s2⟩:=zcZ i hi j hj
 have hf:(sq4 i j*(X i*Y j)).natAbs≤6*256^(p+q):=by
  rw[Int.natAbs_mul]
  exact Nat.mul_le_mul (by omega) (Nat.le_of_lt hm)
 have e1:(t+1)*6*256^(p+q)=t*6*256^(p+q)+6*256^(p+q):=by rw[Nat.add_mul,Nat.one_mul,Nat.add_mul]
 unfold z1V zj1
 split
 · have:=hC (i^^^j);omega
 · have:=hC k;omega
end
end Go.Fw
open Go IntKind
namespace Go.Fw
set_option maxRecDepth 100000
theorem zfX(a b c d e a' b' c' d' e':Int){R:CV→Prop}(hR:Ok P 201 (loopHead P 201 0) ⟨J3 62 [(2,.ptr 0 0),(3,.ptr (0+1) 0),(4,.ptr (0+1+1) 0),(5,.ptr (0+1+1+1) 0),(12,.agg [.cv (.lit (.bool (decide (a<0)))),.cv (.lit (.string (bytesOf a.natAbs))),.cv (.lit (.bool (decide (b<0)))),.cv (.lit (.string (bytesOf b.natAbs))),.cv (.lit (.bool (decide (c<0)))),.cv (.lit (.string (bytesOf c.natAbs))),.cv (.lit (.bool (decide (d<0)))),.cv (.lit (.string (bytesOf d.natAbs)))]),(13,.cv (.lit (.int .i64 0)))],[some [.cv (.lit (.bool (decide (a<0)))),.cv (.lit (.string (bytesOf a.natAbs))),.cv (.lit (.bool (decide (b<0)))),.cv (.lit (.string (bytesOf b.natAbs))),.cv (.lit (.bool (decide (c<0)))),.cv (.lit (.string (bytesOf c.natAbs))),.cv (.lit (.bool (decide (d<0)))),.cv (.lit (.string (bytesOf d.natAbs))),.cv (.lit (.bool (decide (e<0)))),.cv (.lit (.string (bytesOf e.natAbs)))],some [.cv (.lit (.bool (decide (a'<0)))),.cv (.lit (.string (bytesOf a'.natAbs))),.cv (.lit (.bool (decide (b'<0)))),.cv (.lit (.string (bytesOf b'.natAbs))),.cv (.lit (.bool (decide (c'<0)))),.cv (.lit (.string (bytesOf c'.natAbs))),.cv (.lit (.bool (decide (d'<0)))),.cv (.lit (.string (bytesOf d'.natAbs))),.cv (.lit (.bool (decide (e'<0)))),.cv (.lit (.string (bytesOf e'.natAbs)))],some [.cv (.lit (.bool false)),.cv (.lit (.string {data:= #[]})),.cv (.lit (.bool false)),.cv (.lit (.string {data:= #[]})),.cv (.lit (.bool false)),.cv (.lit (.string {data:= #[]})),.cv (.lit (.bool false)),.cv (.lit (.string {data:= #[]})),.cv (.lit (.bool false)),.cv (.lit (.string {data:= #[]}))],some [.cv (.lit (.bool false)),.cv (.lit (.string {data:= #[]})),.cv (.lit (.bool false)),.cv (.lit (.string {data:= #[]})),.cv (.lit (.bool false)),.cv (.lit (.string {data:= #[]})),.cv (.lit (.bool false)),.cv (.lit (.string {data:= #[]}))]]⟩ (.of R)):W6 P 201 [n5C a b c d e,n5C a' b' c' d' e'] R:=
 Y4 (keep:=[2,3,4,5,12,13]) (σ:=[0,1,2,3]) (.o 7 .stop .nil) (by kernel_rfl) rfl hR (.cons (by simp[CvL]) (.cons (by simp[CvL]) (.cons (by simp[CvL]) (.cons (by simp[CvL]) .nil))))
end Go.Fw
open Go
namespace Go.Fw
set_option maxRecDepth 100000
section
variable{X Y:Nat→Int}{e e':Int}{p q:Nat}(hp:p+q+2<1073741824)(hX: ∀i,(X i).natAbs<256^p)(hY: ∀i,(Y i).natAbs<256^q)
include hp hX hY
theorem z2M {R : Goal} (hn : J0 R.n [0, 1, 2, 3, 4] = true) (hn' : J0 R.n [0, 1, 2, 3] = true) (i t : Nat) (hi : i < 4) (ht : t ≤ 16) (C : Nat → Int) (hC : ∀ k, (C k).natAbs ≤ t * 6 * 256 ^ (p + q))
    (hR:Ok P 201 (loopHead P 201 0) (zaR X Y (z1V X Y i 3 (z1V X Y i 2 (z1V X Y i 1 (z1V X Y i 0 C)))) e e' (i+1)) R):Ok P 201 (loopHead P 201 0) (zaR X Y C e e' i) R:=by
 have b0:=z0K hX hY i 0 t hi (by decide) C hC
 have b1:=z0K hX hY i 1 (t+1) hi (by decide) _ b0
 have b2:=z0K hX hY i 2 (t+2) hi (by decide) _ b1
 refine okS (zlS X Y C e e' i hi) rfl (.cons (by omega) (.cons (Nat.le_refl _) (.cons (z17 _ _) (.cons (z17 _ _) (.cons (z17 _ _) (.cons (z01 _) (.cons (zai _) .nil))))))) hn ?_
 refine z3y hp hX hY hn i 0 t hi (by decide) (by omega) C hC ?_
 refine z3y hp hX hY hn i 1 (t+1) hi (by decide) (by omega) _ b0 ?_
 refine z3y hp hX hY hn i 2 (t+2) hi (by decide) (by omega) _ b1 ?_
 refine z3y hp hX hY hn i 3 (t+3) hi (by decide) (by omega) _ b2 ?_
 exact okS (zoU X Y _ e e' i hi) rfl (.cons (z17 _ _) (.cons (z17 _ _) (.cons (z17 _ _) (.cons (z01 _) .nil)))) hn' hR
omit hp in
theorem z22(i t:Nat)(hi:i<4)(C:Nat→Int)(hC: ∀k,(C k).natAbs≤t*6*256^(p+q)): ∀k,(z1V X Y i 3 (z1V X Y i 2 (z1V X Y i 1 (z1V X Y i 0 C))) k).natAbs≤(t+4)*6*256^(p+q):=by
 have b0:=z0K hX hY i 0 t hi (by decide) C hC
 have b1:=z0K hX hY i 1 (t+1) hi (by decide) _ b0
 have b2:=z0K hX hY i 2 (t+2) hi (by decide) _ b1
 exact z0K hX hY i 3 (t+3) hi (by decide) _ b2
end
def zgI(x:K)(i:Nat):Int:=match i with|0=>x.c0|1=>x.c1|2=>x.c2|_=>x.c3
theorem zdf(x:K)(i:Nat):(zgI x i).natAbs<256^K.sz x:=by
 obtain⟨h0,h1,h2,h3,_⟩:=K.sz_lt x
 unfold zgI;split<;>assumption
theorem SmlZ.sz{x:K}(h:K.sz x<1073741824):SmlZ x.c0∧SmlZ x.c1∧SmlZ x.c2∧SmlZ x.c3∧SmlZ x.d:=by
 obtain⟨h0,h1,h2,h3,h4⟩:=K.sz_lt x
 exact⟨Sml.of_lt h0 h,Sml.of_lt h1 h,Sml.of_lt h2 h,Sml.of_lt h3 h,Sml.of_lt h4 h⟩
theorem z1P(x y:K)(h:K.sz x+K.sz y+2<1073741824):PCall P 201 [Z9 x,Z9 y] (Z9 (x*y)):=by
 have hX:=zdf x
 have hY:=zdf y
 have hd:=(K.sz_lt x).2.2.2.2
 have hd':=(K.sz_lt y).2.2.2.2
 refine zfX x.c0 x.c1 x.c2 x.c3 x.d y.c0 y.c1 y.c2 y.c3 y.d ?_
 have c0: ∀k:Nat,((fun _=>0:Nat→Int) k).natAbs≤0*6*256^(K.sz x+K.sz y):=by intro k;simp
 have c1:=z22 hX hY 0 0 (by decide) _ c0
 have c2:=z22 hX hY 1 4 (by decide) _ c1
 have c3:=z22 hX hY 2 8 (by decide) _ c2
 have c4:=z22 hX hY 3 12 (by decide) _ c3
 have main:Ok P 201 (loopHead P 201 0) (zaR (zgI x) (zgI y) (fun _=>0) x.d y.d 0) (.of (fun v=>v=Z9 (x*y))):=by
  refine z2M h hX hY rfl rfl 0 0 (by decide) (by decide) _ c0 ?_
  refine z2M h hX hY rfl rfl 1 4 (by decide) (by decide) _ c1 ?_
  refine z2M h hX hY rfl rfl 2 8 (by decide) (by decide) _ c2 ?_
  refine z2M h hX hY rfl rfl 3 12 (by decide) (by decide) _ c3 ?_
  generalize hC:z1V (zgI x) (zgI y) 3 3 _=C at*
  have e0:C 0=x.c0*y.c0+2*x.c1*y.c1+3*x.c2*y.c2+6*x.c3*y.c3:=by
   have:C 0=0+1*(x.c0*y.c0)+2*(x.c1*y.c1)+3*(x.c2*y.c2)+6*(x.c3*y.c3):=by rw[←hC];rfl
   rw[this];grind
  have e1:C 1=x.c0*y.c1+x.c1*y.c0+3*x.c2*y.c3+3*x.c3*y.c2:=by
   have:C 1=0+1*(x.c0*y.c1)+1*(x.c1*y.c0)+3*(x.c2*y.c3)+3*(x.c3*y.c2):=by rw[←hC];rfl
   rw[this];grind
  have e2:C 2=x.c0*y.c2+x.c2*y.c0+2*x.c1*y.c3+2*x.c3*y.c1:=by
   have:C 2=0+1*(x.c0*y.c2)+2*(x.c1*y.c3)+1*(x.c2*y.c0)+2*(x.c3*y.c1):=by rw[←hC];rfl
   rw[this];grind
  have e3:C 3=x.c0*y.c3+x.c3*y.c0+x.c1*y.c2+x.c2*y.c1:=by
   have:C 3=0+1*(x.c0*y.c3)+1*(x.c1*y.c2)+1*(x.c2*y.c1)+1*(x.c3*y.c0):=by rw[←hC];rfl
   rw[this];grind
  have hw:256^(K.sz x+K.sz y+1)=256*256^(K.sz x+K.sz y):=by rw[Nat.pow_succ,Nat.mul_comm]
  have hpp:0<256^(K.sz x+K.sz y):=Nat.pow_pos (by decide)
  have sm: ∀k,SmlZ (C k):=fun k=>Sml.of_lt (k:=K.sz x+K.sz y+1) (by have:=c4 k;omega) (by omega)
  have hdd:(x.d*y.d).natAbs<256^(K.sz x+K.sz y):=by rw[Int.natAbs_mul];exact K.mul_lt_pow hd hd'
  have smd:SmlZ (x.d*y.d):=Sml.of_lt hdd (by omega)
  have key:K.of (C 0) (C 1) (C 2) (C 3) (x.d*y.d)=x*y:=by rw[e0,e1,e2,e3];rfl
  refine okR (zoa (zgI x) (zgI y) C x.d y.d) (.cons (U9 _ _ (SmlZ.sz (x:=x) (by omega)).2.2.2.2 (SmlZ.sz (x:=y) (by omega)).2.2.2.2 (by rw[←Int.natAbs_mul];exact smd)) (.cons (z7a _ _ _ _ _ (sm 0) (sm 1) (sm 2) (sm 3) smd (Int.mul_ne_zero x.d_ne y.d_ne)) (.cons (Nat.le_refl _) .nil))) ?_
  rw[key];rfl
 exact main
end Go.Fw
open Go
namespace Go.Fw
set_option maxRecDepth 100000
abbrev Smk(x:K):Prop:=K.sz x<1073741824
theorem z0e(x:K)(h:Smk x):PCall P 154 [Z9 x] (.lit (.bool true)):=by
 obtain⟨h0,h1,h2,h3,h4⟩:=SmlZ.sz h
 refine(z7I _ _ _ _ _ (by rw[Int.sign_eq_one_of_pos x.pos];rfl) h0 h1 h2 h3 h4 (by decide)).eq ?_
 rw[x.cop];rfl
theorem zeX(x:K):PCall P 211 [Z9 x,j6 1] (Z9 (K.conj1 x)):=zbN _ _ _ _ _
theorem zfS(x:K):PCall P 211 [Z9 x,j6 2] (Z9 (K.conj2 x)):=zcG _ _ _ _ _
end Go.Fw
namespace Go.Fw
theorem zky(z e:Int)(hz:SmlZ z)(he:SmlZ e)(h:e≠0):PCall P 204 [.agg [.lit (.bool (decide (z<0))),.lit (.string (bytesOf z.natAbs)),.lit (.bool false),.lit (.string ⟨#[]⟩),.lit (.bool false),.lit (.string ⟨#[]⟩),.lit (.bool false),.lit (.string ⟨#[]⟩)],J6 e] (Z9 (K.of z 0 0 0 e)):=by
 have h0:SmlZ 0:=Sml.of_lt (k:=1) (by decide) (by decide)
 exact z7a z 0 0 0 e hz h0 h0 h0 he h
end Go.Fw
open Go IntKind
namespace Go.Fw
set_option maxRecDepth 100000
theorem zjq(x:K)(s3_0:Smk x):PCall P 121 [Z9 x] (.agg [.lit (.bool (decide (-x.c0<0))),.lit (.string (bytesOf (-x.c0).natAbs)),.lit (.bool (decide (-x.c1<0))),.lit (.string (bytesOf (-x.c1).natAbs)),.lit (.bool (decide (-x.c2<0))),.lit (.string (bytesOf (-x.c2).natAbs)),.lit (.bool (decide (-x.c3<0))),.lit (.string (bytesOf (-x.c3).natAbs)),.lit (.bool (decide (x.d<0))),.lit (.string (bytesOf x.d.natAbs))]):=
 j5 (.r 3 (z0e (x) s3_0) (.c (bq 0 4) (.r 17 (z0I (x.c0)) (.c (bq 0 4) (.c (lq 2 10) (.c (bq 1 4) (.r 33 (z0I (x.c1)) (.c (bq 1 4) (.c (lq 4 10) (.c (bq 2 4) (.r 49 (z0I (x.c2)) (.c (bq 2 4) (.c (lq 6 10) (.c (bq 3 4) (.r 65 (z0I (x.c3)) (.c (bq 3 4) (.c (lq 8 10) (.c (lq 10 10) .nil)))))))))))))))))) (by kernel_rfl)
theorem ziU(x y:K)(s4_0:Smk x)(s8_0:Smk y)(s26_0:SmlZ x.c0)(s26_1:SmlZ y.d)(s26_2:Sml (x.c0.natAbs*y.d.natAbs))(s33_0:SmlZ y.c0)(s33_1:SmlZ x.d)(s33_2:Sml (y.c0.natAbs*x.d.natAbs))(s34_0:SmlZ (x.c0*y.d))(s34_1:SmlZ (y.c0*x.d))(s34_2:Sml ((x.c0*y.d).natAbs+(y.c0*x.d).natAbs))(s51_0:SmlZ x.c1)(s51_1:SmlZ y.d)(s51_2:Sml (x.c1.natAbs*y.d.natAbs))(s58_0:SmlZ y.c1)(s58_1:SmlZ x.d)(s58_2:Sml (y.c1.natAbs*x.d.natAbs))(s59_0:SmlZ (x.c1*y.d))(s59_1:SmlZ (y.c1*x.d))(s59_2:Sml ((x.c1*y.d).natAbs+(y.c1*x.d).natAbs))(s76_0:SmlZ x.c2)(s76_1:SmlZ y.d)(s76_2:Sml (x.c2.natAbs*y.d.natAbs))(s83_0:SmlZ y.c2)(s83_1:SmlZ x.d)(s83_2:Sml (y.c2.natAbs*x.d.natAbs))(s84_0:SmlZ (x.c2*y.d))(s84_1:SmlZ (y.c2*x.d))(s84_2:Sml ((x.c2*y.d).natAbs+(y.c2*x.d).natAbs))(s101_0:SmlZ x.c3)(s101_1:SmlZ y.d)(s101_2:Sml (x.c3.natAbs*y.d.natAbs))(s108_0:SmlZ y.c3)(s108_1:SmlZ x.d)(s108_2:Sml (y.c3.natAbs*x.d.natAbs))(s109_0:SmlZ (x.c3*y.d))(s109_1:SmlZ (y.c3*x.d))(s109_2:Sml ((x.c3*y.d).natAbs+(y.c3*x.d).natAbs))(s122_0:SmlZ x.d)(s122_1:SmlZ y.d)(s122_2:Sml (x.d.natAbs*y.d.natAbs))(s123_0:SmlZ (x.c0*y.d+y.c0*x.d))(s123_1:SmlZ (x.c1*y.d+y.c1*x.d))(s123_2:SmlZ (x.c2*y.d+y.c2*x.d))(s123_3:SmlZ (x.c3*y.d+y.c3*x.d))(s123_4:SmlZ (x.d*y.d))(s123_5:x.d*y.d≠0):PCall P 137 [Z9 x,Z9 y] (.agg [.lit (.bool (decide ((K.of (x.c0*y.d+y.c0*x.d) (x.c1*y.d+y.c1*x.d) (x.c2*y.d+y.c2*x.d) (x.c3*y.d+y.c3*x.d) (x.d*y.d)).c0<0))),.lit (.string (bytesOf (K.of (x.c0*y.d+y.c0*x.d) (x.c1*y.d+y.c1*x.d) (x.c2*y.d+y.c2*x.d) (x.c3*y.d+y.c3*x.d) (x.d*y.d)).c0.natAbs)),.lit (.bool (decide ((K.of (x.c0*y.d+y.c0*x.d) (x.c1*y.d+y.c1*x.d) (x.c2*y.d+y.c2*x.d) (x.c3*y.d+y.c3*x.d) (x.d*y.d)).c1<0))),.lit (.string (bytesOf (K.of (x.c0*y.d+y.c0*x.d) (x.c1*y.d+y.c1*x.d) (x.c2*y.d+y.c2*x.d) (x.c3*y.d+y.c3*x.d) (x.d*y.d)).c1.natAbs)),.lit (.bool (decide ((K.of (x.c0*y.d+y.c0*x.d) (x.c1*y.d+y.c1*x.d) (x.c2*y.d+y.c2*x.d) (x.c3*y.d+y.c3*x.d) (x.d*y.d)).c2<0))),.lit (.string (bytesOf (K.of (x.c0*y.d+y.c0*x.d) (x.c1*y.d+y.c1*x.d) (x.c2*y.d+y.c2*x.d) (x.c3*y.d+y.c3*x.d) (x.d*y.d)).c2.natAbs)),.lit (.bool (decide ((K.of (x.c0*y.d+y.c0*x.d) (x.c1*y.d+y.c1*x.d) (x.c2*y.d+y.c2*x.d) (x.c3*y.d+y.c3*x.d) (x.d*y.d)).c3<0))),.lit (.string (bytesOf (K.of (x.c0*y.d+y.c0*x.d) (x.c1*y.d+y.c1*x.d) (x.c2*y.d+y.c2*x.d) (x.c3*y.d+y.c3*x.d) (x.d*y.d)).c3.natAbs)),.lit (.bool (decide ((K.of (x.c0*y.d+y.c0*x.d) (x.c1*y.d+y.c1*x.d) (x.c2*y.d+y.c2*x.d) (x.c3*y.d+y.c3*x.d) (x.d*y.d)).d<0))),.lit (.string (bytesOf (K.of (x.c0*y.d+y.c0*x.d) (x.c1*y.d+y.c1*x.d) (x.c2*y.d+y.c2*x.d) (x.c3*y.d+y.c3*x.d) (x.d*y.d)).d.natAbs))]):=
 j5 (.r 4 (z0e (x) s4_0) (.r 8 (z0e (y) s8_0) (.c (bq 0 4) (.r 26 (U9 (x.c0) (y.d) s26_0 s26_1 s26_2) (.c (bq 0 4) (.r 33 (U9 (y.c0) (x.d) s33_0 s33_1 s33_2) (.r 34 (z2b (x.c0*y.d) (y.c0*x.d) s34_0 s34_1 s34_2) (.c (bq 0 4) (.c (lq 2 8) (.c (bq 1 4) (.r 51 (U9 (x.c1) (y.d) s51_0 s51_1 s51_2) (.c (bq 1 4) (.r 58 (U9 (y.c1) (x.d) s58_0 s58_1 s58_2) (.r 59 (z2b (x.c1*y.d) (y.c1*x.d) s59_0 s59_1 s59_2) (.c (bq 1 4) (.c (lq 4 8) (.c (bq 2 4) (.r 76 (U9 (x.c2) (y.d) s76_0 s76_1 s76_2) (.c (bq 2 4) (.r 83 (U9 (y.c2) (x.d) s83_0 s83_1 s83_2) (.r 84 (z2b (x.c2*y.d) (y.c2*x.d) s84_0 s84_1 s84_2) (.c (bq 2 4) (.c (lq 6 8) (.c (bq 3 4) (.r 101 (U9 (x.c3) (y.d) s101_0 s101_1 s101_2) (.c (bq 3 4) (.r 108 (U9 (y.c3) (x.d) s108_0 s108_1 s108_2) (.r 109 (z2b (x.c3*y.d) (y.c3*x.d) s109_0 s109_1 s109_2) (.c (bq 3 4) (.c (lq 8 8) (.r 122 (U9 (x.d) (y.d) s122_0 s122_1 s122_2) (.r 123 (z7a (x.c0*y.d+y.c0*x.d) (x.c1*y.d+y.c1*x.d) (x.c2*y.d+y.c2*x.d) (x.c3*y.d+y.c3*x.d) (x.d*y.d) s123_0 s123_1 s123_2 s123_3 s123_4 s123_5) (.c (lq 10 10) .nil))))))))))))))))))))))))))))))))) (by kernel_rfl)
theorem zhw(x y:K)(s4_0:Smk x)(s8_0:Smk y)(s14_0:x.sz+y.sz+2<1073741824):PCall P 136 [Z9 x,Z9 y] (.agg [.lit (.bool (decide ((x*y).c0<0))),.lit (.string (bytesOf (x*y).c0.natAbs)),.lit (.bool (decide ((x*y).c1<0))),.lit (.string (bytesOf (x*y).c1.natAbs)),.lit (.bool (decide ((x*y).c2<0))),.lit (.string (bytesOf (x*y).c2.natAbs)),.lit (.bool (decide ((x*y).c3<0))),.lit (.string (bytesOf (x*y).c3.natAbs)),.lit (.bool (decide ((x*y).d<0))),.lit (.string (bytesOf (x*y).d.natAbs))]):=
 j5 (.r 4 (z0e (x) s4_0) (.r 8 (z0e (y) s8_0) (.r 14 (z1P (x) (y) s14_0) (.c (lq 10 10) .nil)))) (by kernel_rfl)
theorem zkv(x y:K)(h1:(decide (y.c0<0)==false&&(bytesOf y.c0.natAbs==bytesOf 0&&true)&&(decide (y.c1<0)==false&&(bytesOf y.c1.natAbs==bytesOf 0&&true)&&(decide (y.c2<0)==false&&(bytesOf y.c2.natAbs==bytesOf 0&&true)&&(decide (y.c3<0)==false&&(bytesOf y.c3.natAbs==bytesOf 0&&true)&&true)))&&(decide (y.d<0)==false&&(bytesOf y.d.natAbs==bytesOf 1&&true)&&true))=true)(s5_0:Smk x)(s9_0:Smk y)(s15_0:(-9223372036854775808:Int)≤0∧(0:Int)≤9223372036854775807):PCall P 147 [Z9 x,Z9 y] (.tup [.agg [.lit (.bool false),.lit (.string {data:= #[]}),.lit (.bool false),.lit (.string {data:= #[]}),.lit (.bool false),.lit (.string {data:= #[]}),.lit (.bool false),.lit (.string {data:= #[]}),.lit (.bool false),.lit (.string {data:= #[]})],.lit (.int .i64 10)]):=
 j5 (.r 5 (z0e (x) s5_0) (.r 9 (z0e (y) s9_0) (.r 15 (z0o ((0:Int)) s15_0) (.b 18 h1 (.c (lq 10 10) .nil))))) (by kernel_rfl)
theorem zkE(x y:K)(h1:(decide (y.c0<0)==false&&(bytesOf y.c0.natAbs==bytesOf 0&&true)&&(decide (y.c1<0)==false&&(bytesOf y.c1.natAbs==bytesOf 0&&true)&&(decide (y.c2<0)==false&&(bytesOf y.c2.natAbs==bytesOf 0&&true)&&(decide (y.c3<0)==false&&(bytesOf y.c3.natAbs==bytesOf 0&&true)&&true)))&&(decide (y.d<0)==false&&(bytesOf y.d.natAbs==bytesOf 1&&true)&&true))=false)(s5_0:Smk x)(s9_0:Smk y)(s15_0:(-9223372036854775808:Int)≤0∧(0:Int)≤9223372036854775807)(s25_0:y.sz+y.conj2.sz+2<1073741824)(s34_0:(y*y.conj2).sz+(y*y.conj2).conj1.sz+2<1073741824)(s43_0:SmlZ (y*y.conj2*(y*y.conj2).conj1).d)(s43_1:SmlZ (y*y.conj2*(y*y.conj2).conj1).c0)(s43_2:(y*y.conj2*(y*y.conj2).conj1).c0≠0)(s48_0:x.sz+y.conj2.sz+2<1073741824)(s51_0:(y*y.conj2).conj1.sz+(K.of (y*y.conj2*(y*y.conj2).conj1).d (0:Int) (0:Int) (0:Int) (y*y.conj2*(y*y.conj2).conj1).c0).sz+2<1073741824)(s52_0:(x*y.conj2).sz+((y*y.conj2).conj1*K.of (y*y.conj2*(y*y.conj2).conj1).d (0:Int) (0:Int) (0:Int) (y*y.conj2*(y*y.conj2).conj1).c0).sz+2<1073741824):PCall P 147 [Z9 x,Z9 y] (.tup [.agg [.lit (.bool (decide ((x*y.conj2*((y*y.conj2).conj1*K.of (y*y.conj2*(y*y.conj2).conj1).d (0:Int) (0:Int) (0:Int) (y*y.conj2*(y*y.conj2).conj1).c0)).c0<0))),.lit (.string (bytesOf (x*y.conj2*((y*y.conj2).conj1*K.of (y*y.conj2*(y*y.conj2).conj1).d (0:Int) (0:Int) (0:Int) (y*y.conj2*(y*y.conj2).conj1).c0)).c0.natAbs)),.lit (.bool (decide ((x*y.conj2*((y*y.conj2).conj1*K.of (y*y.conj2*(y*y.conj2).conj1).d (0:Int) (0:Int) (0:Int) (y*y.conj2*(y*y.conj2).conj1).c0)).c1<0))),.lit (.string (bytesOf (x*y.conj2*((y*y.conj2).conj1*K.of (y*y.conj2*(y*y.conj2).conj1).d (0:Int) (0:Int) (0:Int) (y*y.conj2*(y*y.conj2).conj1).c0)).c1.natAbs)),.lit (.bool (decide ((x*y.conj2*((y*y.conj2).conj1*K.of (y*y.conj2*(y*y.conj2).conj1).d (0:Int) (0:Int) (0:Int) (y*y.conj2*(y*y.conj2).conj1).c0)).c2<0))),.lit (.string (bytesOf (x*y.conj2*((y*y.conj2).conj1*K.of (y*y.conj2*(y*y.conj2).conj1).d (0:Int) (0:Int) (0:Int) (y*y.conj2*(y*y.conj2).conj1).c0)).c2.natAbs)),.lit (.bool (decide ((x*y.conj2*((y*y.conj2).conj1*K.of (y*y.conj2*(y*y.conj2).conj1).d (0:Int) (0:Int) (0:Int) (y*y.conj2*(y*y.conj2).conj1).c0)).c3<0))),.lit (.string (bytesOf (x*y.conj2*((y*y.conj2).conj1*K.of (y*y.conj2*(y*y.conj2).conj1).d (0:Int) (0:Int) (0:Int) (y*y.conj2*(y*y.conj2).conj1).c0)).c3.natAbs)),.lit (.bool (decide ((x*y.conj2*((y*y.conj2).conj1*K.of (y*y.conj2*(y*y.conj2).conj1).d (0:Int) (0:Int) (0:Int) (y*y.conj2*(y*y.conj2).conj1).c0)).d<0))),.lit (.string (bytesOf (x*y.conj2*((y*y.conj2).conj1*K.of (y*y.conj2*(y*y.conj2).conj1).d (0:Int) (0:Int) (0:Int) (y*y.conj2*(y*y.conj2).conj1).c0)).d.natAbs))],.lit (.int .i64 0)]):=
 j5 (.r 5 (z0e (x) s5_0) (.r 9 (z0e (y) s9_0) (.r 15 (z0o ((0:Int)) s15_0) (.b 18 h1 (.r 20 (zfS (y)) (.c (lq 10 10) (.r 25 (z1P (y) (y.conj2) s25_0) (.c (lq 10 10) (.r 29 (zeX (y*y.conj2)) (.c (lq 10 10) (.r 34 (z1P (y*y.conj2) ((y*y.conj2).conj1) s34_0) (.c (lq 10 10) (.c (bq 0 4) (.r 43 (zky ((y*y.conj2*(y*y.conj2).conj1).d) ((y*y.conj2*(y*y.conj2).conj1).c0) s43_0 s43_1 s43_2) (.c (lq 10 10) (.r 48 (z1P (x) (y.conj2) s48_0) (.r 51 (z1P ((y*y.conj2).conj1) (K.of (y*y.conj2*(y*y.conj2).conj1).d (0:Int) (0:Int) (0:Int) (y*y.conj2*(y*y.conj2).conj1).c0) s51_0) (.r 52 (z1P (x*y.conj2) ((y*y.conj2).conj1*K.of (y*y.conj2*(y*y.conj2).conj1).d (0:Int) (0:Int) (0:Int) (y*y.conj2*(y*y.conj2).conj1).c0) s52_0) (.c (lq 10 10) .nil))))))))))))))))))) (by kernel_rfl)
end Go.Fw
open Go
namespace Go.Fw
set_option maxRecDepth 100000
theorem zfh(z:Int):(decide (z<0)==false&&(bytesOf z.natAbs==bytesOf 0&&true))=decide (z=0):=by
 rw[z1e,Bool.and_true]
 by_cases h:z=0
 · subst h;rfl
 · rw[decide_eq_false (p:=z.natAbs=0) (by omega),decide_eq_false h,Bool.and_false]
theorem zpJ(z:Int):(decide (z<0)==false&&(bytesOf z.natAbs==bytesOf 1&&true))=decide (z=1):=by
 rw[z1e,Bool.and_true]
 by_cases h:z=1
 · subst h;rfl
 · rw[decide_eq_false h]
   by_cases h2:z<0
   · rw[decide_eq_true h2];rfl
   · rw[decide_eq_false (p:=z.natAbs=1) (by omega),Bool.and_false]
def eqK(x y:K):Bool:=decide (x.c0=y.c0)&&(decide (x.c1=y.c1)&&(decide (x.c2=y.c2)&&(decide (x.c3=y.c3)&&true)))&&(decide (x.d=y.d)&&true)
theorem zn0(x y:K):eqK x y=decide (x=y):=by
 unfold eqK
 by_cases h:x=y
 · subst h;simp
 · rw[decide_eq_false h]
   have: ¬(x.c0=y.c0∧x.c1=y.c1∧x.c2=y.c2∧x.c3=y.c3∧x.d=y.d):=fun e=>h (K.ext e.1 e.2.1 e.2.2.1 e.2.2.2.1 e.2.2.2.2)
   simp only[Bool.and_true,Bool.and_eq_false_iff,decide_eq_false_iff_not]
   by_cases a:x.c0=y.c0<;>by_cases b:x.c1=y.c1<;>by_cases c:x.c2=y.c2<;>by_cases d:x.c3=y.c3<;>by_cases e:x.d=y.d<;>simp_all
theorem z9X(x:K)(h:Smk x):PCall P 121 [Z9 x] (Z9 (-x)):=zjq x h
theorem z58(x y:K)(h:x.sz+y.sz+2<1073741824):PCall P 136 [Z9 x,Z9 y] (Z9 (x*y)):=zhw x y (by simp only[Smk];omega) (by simp only[Smk];omega) h
theorem z6D(x y:K)(h:x.sz+y.sz+2<1073741824):PCall P 137 [Z9 x,Z9 y] (Z9 (x+y)):=by
 obtain⟨a0,a1,a2,a3,ad⟩:=SmlZ.sz (x:=x) (by omega)
 obtain⟨b0,b1,b2,b3,bd⟩:=SmlZ.sz (x:=y) (by omega)
 obtain⟨x0,x1,x2,x3,xd⟩:=K.sz_lt x
 obtain⟨y0,y1,y2,y3,yd⟩:=K.sz_lt y
 have hw:256^(x.sz+y.sz+1)=256*256^(x.sz+y.sz):=by rw[Nat.pow_succ,Nat.mul_comm]
 have m1: ∀c:Int,c.natAbs<256^x.sz→(c*y.d).natAbs<256^(x.sz+y.sz):=fun c hc=>by rw[Int.natAbs_mul];exact K.mul_lt_pow hc yd
 have m2: ∀c:Int,c.natAbs<256^y.sz→(c*x.d).natAbs<256^(x.sz+y.sz):=fun c hc=>by rw[Int.natAbs_mul,Nat.add_comm];exact K.mul_lt_pow hc xd
 have s1: ∀c:Int,c.natAbs<256^x.sz→SmlZ (c*y.d):=fun c hc=>Sml.of_lt (m1 c hc) (by omega)
 have s2: ∀c:Int,c.natAbs<256^y.sz→SmlZ (c*x.d):=fun c hc=>Sml.of_lt (m2 c hc) (by omega)
 have t1: ∀c:Int,c.natAbs<256^x.sz→Sml (c.natAbs*y.d.natAbs):=fun c hc=>by rw[←Int.natAbs_mul];exact s1 c hc
 have t2: ∀c:Int,c.natAbs<256^y.sz→Sml (c.natAbs*x.d.natAbs):=fun c hc=>by rw[←Int.natAbs_mul];exact s2 c hc
 have u: ∀c c':Int,c.natAbs<256^x.sz→c'.natAbs<256^y.sz→Sml ((c*y.d).natAbs+(c'*x.d).natAbs):=fun c c' hc hc'=>Sml.of_lt (k:=x.sz+y.sz+1) (by have:=m1 c hc;have:=m2 c' hc';omega) (by omega)
 have v: ∀c c':Int,c.natAbs<256^x.sz→c'.natAbs<256^y.sz→SmlZ (c*y.d+c'*x.d):=fun c c' hc hc'=>(u c c' hc hc').mono (Int.natAbs_add_le _ _)
 exact ziU x y (by simp only[Smk];omega) (by simp only[Smk];omega) a0 bd (t1 _ x0) b0 ad (t2 _ y0) (s1 _ x0) (s2 _ y0) (u _ _ x0 y0) a1 bd (t1 _ x1) b1 ad (t2 _ y1) (s1 _ x1) (s2 _ y1) (u _ _ x1 y1)
  a2 bd (t1 _ x2) b2 ad (t2 _ y2) (s1 _ x2) (s2 _ y2) (u _ _ x2 y2) a3 bd (t1 _ x3) b3 ad (t2 _ y3) (s1 _ x3) (s2 _ y3) (u _ _ x3 y3) ad bd (t1 _ xd) (v _ _ x0 y0) (v _ _ x1 y1) (v _ _ x2 y2) (v _ _ x3 y3) (s1 _ xd) (Int.mul_ne_zero x.d_ne y.d_ne)
theorem z8o(y:K):(decide (y.c0<(0:Int))==false&&(bytesOf y.c0.natAbs==bytesOf 0&&true)&&(decide (y.c1<(0:Int))==false&&(bytesOf y.c1.natAbs==bytesOf 0&&true)&&(decide (y.c2<(0:Int))==false&&(bytesOf y.c2.natAbs==bytesOf 0&&true)&&(decide (y.c3<(0:Int))==false&&(bytesOf y.c3.natAbs==bytesOf 0&&true)&&true)))&&(decide (y.d<(0:Int))==false&&(bytesOf y.d.natAbs==bytesOf 1&&true)&&true))=decide (y=0):=by
 rw[zfh,zfh,zfh,zfh,zpJ,←zn0];rfl
theorem zgL(x y:K)(hy:y≠0)(h:x.sz+7*y.sz+20<1073741824):PCall P 147 [Z9 x,Z9 y] (.tup [Z9 (K.div x y),j6 0]):=by
 have h1:=K.sz_mul y (K.conj2 y)
 rw[K.sz_conj2]at h1
 have h2:=K.sz_mul x (K.conj2 y)
 rw[K.sz_conj2]at h2
 have h3:=K.sz_mul (K.conj1 (y*K.conj2 y)) (K.of (K.nrm y).d 0 0 0 (K.nrm y).c0)
 rw[K.sz_conj1]at h3
 have h4:=K.sz_inv y
 have h5:=K.sz_nrm y
 obtain⟨n0,n1,n2,n3,nd⟩:=SmlZ.sz (x:=K.nrm y) (by omega)
 exact zkE x y (by rw[z8o];simpa using hy) (by simp only[Smk];omega) (by simp only[Smk];omega) (by decide) (by rw[K.sz_conj2];omega) (by rw[K.sz_conj1];omega) nd n0 (K.nrm_ne hy) (by rw[K.sz_conj2];omega)
  (by rw[K.sz_conj1];show _+K.sz (K.of (K.nrm y).d 0 0 0 (K.nrm y).c0)+2<_;omega) (by show _+K.sz (_*K.of (K.nrm y).d 0 0 0 (K.nrm y).c0)+2<_;omega)
theorem zoV(x:K)(hx:Smk x):PCall P 147 [Z9 x,Z9 0] (.tup [n5C 0 0 0 0 0,j6 10]):=zkv x 0 (by rw[z8o];rfl) hx (by decide) (by decide)
end Go.Fw
namespace Go.Fw.K
def r2:K:=⟨0,1,0,0,1,by decide,by decide⟩
def r3:K:=⟨0,0,1,0,1,by decide,by decide⟩
def r6:K:=⟨0,0,0,1,1,by decide,by decide⟩
end Go.Fw.K
namespace Go.Fw
theorem ziY:PCall P 235 [j6 2] (Z9 K.r2):=zeP 2 rfl (by decide) (by decide)
theorem zjJ:PCall P 235 [j6 3] (Z9 K.r3):=zgc 3 rfl rfl (by decide) (by decide)
theorem zhB:PCall P 235 [j6 6] (Z9 K.r6):=zeA 6 rfl rfl rfl (by decide) (by decide)
end Go.Fw
