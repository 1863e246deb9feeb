/- A part of the proof that the law returns true for every input: an executor for the model's code, and what functions of the program compute. -/
import Derived.Test.YtcafjpldfnegiaaGreatDoorB11
import Derived.Test.YtcafjpldfnegiaaGreatDoorB15
import Derived.Test.YtcafjpldfnegiaaGreatDoorB24
import Derived.Test.YtcafjpldfnegiaaGreatDoorB27
import Derived.Test.YtcafjpldfnegiaaGreatDoorB28
import Derived.Test.YtcafjpldfnegiaaGreatDoorB42
import Derived.Test.YtcafjpldfnegiaaGreatDoorB45
import Derived.KernelRfl
open Go IntKind
namespace Go.Fw
set_option maxRecDepth 100000
theorem zax{l:List (Int×Int)}{k:Nat}(hk:k<l.length):(flat rdL l)[(k:Int).toNat*2+0]?=some (j5 l[k].1):=by
 rw[Int.toNat_natCast,z9b z1a hk (by decide)];rfl
theorem ziP(l:List (Int×Int))(m:VN)(g:z3t l=true)(g2:m.ok=true)(hm:m.raw 10000=true):PCall P 113 [rdV l,m.c] (.tup [nmV (l.map (z6I m)),j5 0]):=by
 have h6:=VN.raw_mono hm (show 10000≤1000000 by decide)
 obtain⟨hl,hb⟩:=z6T g
 have hd: ∀i,(z3y m (X7 i)).raw 1000000=true:=fun i=>RN.raw_mono (z8x hm (z2V i)) (by decide)
 have hp: ∀i,(X4 m i).1=z3y m (X7 i):=fun i=>by unfold X4;rw[g2];rfl
 cases l with
 | nil => exact z1l (zil [] m g g2 (by decide) h6 (R := (· = _)) (zjF [] m 0 0 0 rfl rfl))
 |cons x t=>
  generalize hx:x::t=l at*
  have hne:l≠[]:=by rw[←hx];exact List.cons_ne_nil _ _
  refine zil l m g g2 (by omega) h6 (R := (· = _)) ?_
  refine z7X (s:=10) l (fun x=>(z6I m x).l) (fun _=>rfl) (fun k o=>Ok P 113 (loopHead P 113 0) (match o with
   |none=>⟨J1 46 [(0,.cv (rdV l)),(3,.ptr 0 0),(6,.cv (.lit (.slice none 0 0))),(7,.cv (j5 k))],[some (vnM m)]⟩
   | some (c, out) => ⟨J1 46 [(0, .cv (rdV l)), (3, .ptr 0 0), (6, .sl 1 0 c 10), (7, .cv (j5 k))], [some (vnM m), some (own out)]⟩) (.of (· = .tup [nmV (l.map (z6I m)), j5 0]))) ?_ ?_ hne ?_
  · intro k hk h
    have b:=hb k hk
    refine zkg l m k l[k].1 l[k].2 (decide_eq_true (by omega)) hm (by omega) (z55 (Nat.le_trans (z69 b) (by decide))) (by rw[hp];exact hd _) (by omega) (zax hk) (by omega) (z3s hk) rfl ?_
    rw[w64 (by omega),hp]
    exact h
  · intro k hk c out hc ho h
    have b:=hb k hk
    refine zlW l m k l[k].1 l[k].2 c out (decide_eq_true (by omega)) hm (by omega) (z55 (Nat.le_trans (z69 b) (by decide))) (by rw[hp];exact hd _) (by omega) (zax hk) (by omega) (z3s hk) (by omega) (by omega) (by simp[own,ho]) (by simp[zb7,MV.one,own,RN.l]) (zcR _ _) rfl ?_
    rw[w64 (by omega),hp]
    have h2 : Ok P 113 (loopHead P 113 0) ⟨J1 46 [(0, .cv (rdV l)), (3, .ptr 0 0), (6, .sl 1 0 (c + 1) 10), (7, .cv (j5 ((k + 1 : Nat) : Int)))], [some (vnM m), some (own (out ++ (z6I m l[k]).l))]⟩ (.of (· = .tup [nmV (l.map (z6I m)), j5 0])) := h
    rw[z9L]at h2
    exact h2
  · refine zkq l m l.length 0 0 l.length (flat (fun x=>(z6I m x).l) l) (decide_eq_false (by omega)) ?_ ?_
    · rw[List.drop_zero,List.take_of_length_le (by simp[own,z1r (f:=fun x=>(z6I m x).l) (s:=10) (fun _=>rfl)])];rfl
    · show CV.tup _=CV.tup _
      unfold nmV
      rw[zaq,List.length_map]
theorem z7c(l:List (Int×Int))(m:VN)(hl:l.length<2^30)(hm:m.raw 10000=true):PCall P 113 [rdV l,m.c] (.tup [nmV (z1W l m).1,j5 (z1W l m).2]):=by
 unfold z1W
 cases g:z3t l
 · exact z1l (zjJ l m g hl)
 cases g2:m.ok
 · exact z1l (zlV l m g g2 hl (VN.raw_mono hm (by decide)))
 · exact ziP l m g g2 hm
theorem zg7(x:Int)(o0:(0:Int)≤x∧x<256):PCall P 268 [.lit (.int .u8 x)] (.lit (.int .i64 (i64.wrap (↑(len8tab.data.getD x.toNat (OfNat.ofNat 0)).toNat:Int)))):=
 j3 (.c o0 .nil) (by kernel_rfl)
theorem zjS(a:Int)(d:(-9223372036854775808:Int)≤1∧(1:Int)≤9223372036854775807):PCall P 227 [J2 a] (.agg [.lit (.bool (decide (a<0))),.lit (.string (bytesOf a.natAbs)),.lit (.bool false),.lit (.string {data:= #[]}),.lit (.bool false),.lit (.string {data:= #[]}),.lit (.bool false),.lit (.string {data:= #[]}),.lit (.bool false),.lit (.string (bytesOf 1))]):=
 j3 (.r 4 (z0u (1:Int) d) (.c (lq 10 10) .nil)) (by kernel_rfl)
end Go.Fw
set_option maxRecDepth 10000
namespace Go.Fw
namespace K
theorem zbd{x y:K}(hx:0≤sgn x)(hy:0≤sgn y):0≤sgn (x+y):=by
 rcases sgn_vals x with h|h|h
 · omega
 · rw[sgn_zero.1 h,zero_add];exact hy
 · rcases sgn_vals y with k|k|k
   · omega
   · rw[sgn_zero.1 k,add_zero];exact hx
   · rw[z9T x y h k];decide
theorem zlC{x y:K}(hx:sgn x=1)(hy:0≤sgn y):sgn (x+y)=1:=by
 rcases sgn_vals y with k|k|k
 · omega
 · rw[sgn_zero.1 k,add_zero];exact hx
 · exact z9T x y hx k
theorem z94{x y:K}(hx:0≤sgn x)(hy:0≤sgn y):0≤sgn (x*y):=by
 rw[sgn_mul];exact Int.mul_nonneg hx hy
def le(x y:K):Prop:=0≤sgn (y-x)
theorem zjr(a b:Int):ofInt a-ofInt b=ofInt (a-b):=by
 have h:ofInt a=ofInt (a-b)+ofInt b:=by rw[←ofInt_add];congr 1;omega
 rw[h]
 exact(show ∀ρ:Nat→K,ρ 0+ρ 1-ρ 1=ρ 0 from fun ρ=>CR.ring ρ rfl) (CR.vr [_,_])
theorem z0F{a b:Int}:le (ofInt a) (ofInt b)↔a≤b:=by
 unfold le
 rw[zjr,z2M]
 rcases Int.lt_trichotomy (b-a) 0 with h|h|h
 · rw[Int.sign_eq_neg_one_of_neg h];omega
 · rw[h];simp;omega
 · rw[Int.sign_eq_one_of_pos h];omega
theorem le_trans{x y z:K}(h1:le x y)(h2:le y z):le x z:=by
 have e:z-x=(z-y)+(y-x):=(show ∀ρ:Nat→K,ρ 2-ρ 0=(ρ 2-ρ 1)+(ρ 1-ρ 0)from fun ρ=>CR.ring ρ rfl) (CR.vr [x,y,z])
 unfold le at*
 rw[e];exact zbd h2 h1
theorem z29{x y z w:K}(h1:le x y)(h2:le z w):le (x+z) (y+w):=by
 have e:y+w-(x+z)=(y-x)+(w-z):=(show ∀ρ:Nat→K,ρ 1+ρ 3-(ρ 0+ρ 2)=(ρ 1-ρ 0)+(ρ 3-ρ 2)from fun ρ=>CR.ring ρ rfl) (CR.vr [x,y,z,w])
 unfold le at*
 rw[e];exact zbd h1 h2
theorem zjc(x y:K):sgn (x-y)= -sgn (y-x):=by
 rw[←zkf]
 congr 1
 exact(show ∀ρ:Nat→K,ρ 0-ρ 1= -(ρ 1-ρ 0)from fun ρ=>CR.ring ρ rfl) (CR.vr [x,y])
theorem z40{x y:K}:sgn (y-x)=1↔ ¬le y x:=by
 unfold le
 rw[zjc x y]
 have:=sgn_vals (y-x)
 omega
def nu(a b c e:Int):K:=⟨a,b,c,e,1,by decide,by simp[X3]⟩
theorem z4c(a b c e:Int):nu a b c e=of a b c e 1:=by rw[←z4z (nu a b c e)];rfl
theorem znA(a b c e:Int):nu a b c e=ofInt a+(ofInt b*nu 0 1 0 0+(ofInt c*nu 0 0 1 0+ofInt e*nu 0 0 0 1)):=by
 have h:(1:Int)≠0:=by decide
 have h1:(1:Int)*1≠0:=by decide
 have h2:(1:Int)*1*(1*1)≠0:=by decide
 have h3:(1:Int)*1*(1*1*(1*1))≠0:=by decide
 rw[z4c,z4c,z4c,z4c,z0H,z0H,z0H,z0H,mul_of h h,mul_of h h,mul_of h h,z1E h1 h1,z1E h1 h2,z1E h h3]
 congr 1<;>grind
theorem z9Q{r:K}{k:Int}(h1:sgn (ofInt k-r)=1)(h2:sgn (ofInt k+r)=1)(b:Int):le (ofInt b*r) (ofInt (k*b.natAbs)):=by
 have n0:(0:Int)≤(b.natAbs:Int).sign:=by
  rcases Nat.eq_zero_or_pos b.natAbs with h|h
  · rw[h];decide
  · rw[Int.sign_eq_one_of_pos (by omega)];decide
 unfold le
 rcases Int.le_total 0 b with h|h
 · have e : ofInt (k * b.natAbs) - ofInt b * r = ofInt b.natAbs * (ofInt k - r) := by
     rw[show(b.natAbs:Int)=b by omega,ofInt_mul]
     exact(show ∀ρ:Nat→K,ρ 0*ρ 1-ρ 1*ρ 2=ρ 1*(ρ 0-ρ 2)from fun ρ=>CR.ring ρ rfl) (CR.vr [ofInt k,ofInt b,r])
   rw[e,sgn_mul,h1,z2M];omega
 · have e : ofInt (k * b.natAbs) - ofInt b * r = ofInt b.natAbs * (ofInt k + r) := by
     rw[show b= -1*(b.natAbs:Int) by omega,ofInt_mul,ofInt_mul,Int.natAbs_mul]
     simp only[Int.natAbs_natCast]
     rw[show((-1:Int).natAbs*b.natAbs)=b.natAbs by simp]
     exact(show ∀ρ:Nat→K,ρ 0*ρ 1-ofInt (-1)*ρ 1*ρ 2=ρ 1*(ρ 0+ρ 2)from fun ρ=>CR.ring ρ rfl) (CR.vr [ofInt k,ofInt b.natAbs,r])
   rw[e,sgn_mul,h2,z2M];omega
def bnd(a b c e:Int):Int:=a.natAbs+(2*b.natAbs+(2*c.natAbs+3*e.natAbs))
theorem zjP(a b c e:Int):le (nu a b c e) (ofInt (bnd a b c e)):=by
 rw[znA]
 unfold bnd
 rw[ofInt_add,ofInt_add,ofInt_add]
 exact z29 (z0F.2 (by omega)) (z29 (z9Q (by decide) (by decide) b) (z29 (z9Q (by decide) (by decide) c) (z9Q (by decide) (by decide) e)))
theorem zrc(a b c e:Int): -nu a b c e=nu (-a) (-b) (-c) (-e):=rfl
theorem zpV(a b c e:Int):le (-nu a b c e) (ofInt (bnd a b c e)):=by
 have h:=zjP (-a) (-b) (-c) (-e)
 rw[zrc]
 unfold bnd at h ⊢
 simpa using h
theorem zkp(x:K):ofInt x.d*x=nu x.c0 x.c1 x.c2 x.c3:=by
 conv=>lhs;rhs;rw[←z4z x]
 rw[z0H,mul_of (by decide) x.d_ne,z4c]
 exact zgQ (by have:=x.d_ne;simpa using this) (by decide) (by grind) (by grind) (by grind) (by grind)
theorem zij(a b c e:Int):0≤bnd a b c e:=by unfold bnd;omega
theorem ztv(x:K){y:K}:sgn (ofInt x.d*y)=sgn y:=by
 rw[sgn_mul,z2M,Int.sign_eq_one_of_pos x.pos,Int.one_mul]
theorem zcM(x:K):le x (ofInt (bnd x.c0 x.c1 x.c2 x.c3)):=by
 unfold le
 rw[←ztv x]
 have e:ofInt x.d*(ofInt (bnd x.c0 x.c1 x.c2 x.c3)-x)=ofInt (x.d*bnd x.c0 x.c1 x.c2 x.c3)-ofInt x.d*x:=by
  rw[ofInt_mul]
  exact(show ∀ρ:Nat→K,ρ 0*(ρ 1-ρ 2)=ρ 0*ρ 1-ρ 0*ρ 2 from fun ρ=>CR.ring ρ rfl) (CR.vr [ofInt x.d,ofInt (bnd x.c0 x.c1 x.c2 x.c3),x])
 rw[e,zkp]
 refine le_trans (zjP _ _ _ _) (z0F.2 ?_)
 have h1:=x.pos
 have h2:=zij x.c0 x.c1 x.c2 x.c3
 have:=Int.mul_le_mul_of_nonneg_right (show(1:Int)≤x.d by omega) h2
 omega
theorem zih(x:K):le (ofInt (-bnd x.c0 x.c1 x.c2 x.c3)) x:=by
 have h:=zcM (-x)
 have e:bnd (-x).c0 (-x).c1 (-x).c2 (-x).c3=bnd x.c0 x.c1 x.c2 x.c3:=by
  show bnd (-x.c0) (-x.c1) (-x.c2) (-x.c3)=_
  unfold bnd
  simp
 rw[e]at h
 unfold le at*
 have e2:ofInt (bnd x.c0 x.c1 x.c2 x.c3)- -x=x-ofInt (-bnd x.c0 x.c1 x.c2 x.c3):=by
  rw[show-bnd x.c0 x.c1 x.c2 x.c3= -1*bnd x.c0 x.c1 x.c2 x.c3 by omega,ofInt_mul]
  exact(show ∀ρ:Nat→K,ρ 0- -ρ 1=ρ 1-ofInt (-1)*ρ 0 from fun ρ=>CR.ring ρ rfl) (CR.vr [ofInt (bnd x.c0 x.c1 x.c2 x.c3),x])
 rwa[e2]at h
def zsF(x:K)(n:Int):Prop:=le (ofInt n) x∧sgn (ofInt (n+1)-x)=1
theorem zeh(x:K): ∀(k:Nat) (m:Int),le (ofInt m) x→sgn (ofInt (m+k)-x)=1→ ∃n,zsF x n
 |0,m,h1,h2=>by rw[show m+((0:Nat):Int)=m by omega]at h2;exact absurd h1 (z40.1 h2)
 |k+1,m,h1,h2=>by
  by_cases h:sgn (ofInt (m+1)-x)=1
  · exact⟨m,h1,h⟩
  · refine zeh x k (m+1) ?_ (by rw[show m+1+(k:Int)=m+((k+1:Nat):Int) by omega];exact h2)
    exact Classical.byContradiction fun hn=>h (z40.2 hn)
theorem znw(x:K): ∃n,zsF x n:=by
 refine zeh x (2*bnd x.c0 x.c1 x.c2 x.c3+1).toNat (-bnd x.c0 x.c1 x.c2 x.c3) (zih x) (z40.2 fun h=>?_)
 have h2:=le_trans h (zcM x)
 rw[z0F]at h2
 have:=zij x.c0 x.c1 x.c2 x.c3
 omega
noncomputable def fl(x:K):Int:=Classical.choose (znw x)
theorem zfl(x:K):zsF x (fl x):=Classical.choose_spec (znw x)
theorem fl_lt{x:K}{m:Int}:sgn (ofInt m-x)=1↔fl x<m:=by
 obtain⟨h1,h2⟩:=zfl x
 rw[z40]at h2 ⊢
 constructor
 · intro h
   exact Int.not_le.1 fun hm=>h (le_trans (z0F.2 hm) h1)
 · intro h hm
   exact h2 (le_trans (z0F.2 (by omega)) hm)
theorem ztl{x:K}{n:Int}(h:zsF x n):fl x=n:=by
 obtain⟨h1,h2⟩:=h
 have a:=fl_lt.1 h2
 have b: ¬fl x<n:=fun c=>(z40.1 (fl_lt.2 c)) h1
 omega
theorem fl_b(x:K): -bnd x.c0 x.c1 x.c2 x.c3≤fl x∧fl x≤bnd x.c0 x.c1 x.c2 x.c3:=by
 obtain⟨h1,h2⟩:=zfl x
 constructor
 · have: ¬fl x< -bnd x.c0 x.c1 x.c2 x.c3:=fun c=>(z40.1 (fl_lt.2 c)) (zih x)
   omega
 · exact z0F.1 (le_trans h1 (zcM x))
theorem zqY{x:K}{t lo hi:Int}(ht:0<t)(h1:le (ofInt lo) (ofInt t*x))(h2:le (ofInt t*x) (ofInt hi))(h:lo.fdiv t=hi.fdiv t):fl x=hi.fdiv t:=by
 refine ztl ⟨?_,z40.2 fun k=>?_⟩
 · have a : hi.fdiv t * t ≤ lo := by
     rw[←h,Int.fdiv_eq_ediv_of_nonneg _ (by omega)]
     exact Int.ediv_mul_le _ (by omega)
   have b:le (ofInt t*ofInt (hi.fdiv t)) (ofInt t*x):=by
    rw[←ofInt_mul]
    exact le_trans (z0F.2 (by rw[Int.mul_comm];exact a)) h1
   unfold le at b ⊢
   have e:ofInt t*x-ofInt t*ofInt (hi.fdiv t)=ofInt t*(x-ofInt (hi.fdiv t)):=(show ∀ρ:Nat→K,ρ 0*ρ 1-ρ 0*ρ 2=ρ 0*(ρ 1-ρ 2)from fun ρ=>CR.ring ρ rfl) (CR.vr [ofInt t,x,ofInt (hi.fdiv t)])
   rwa[e,sgn_mul,z2M,Int.sign_eq_one_of_pos ht,Int.one_mul]at b
 · have a : hi < (hi.fdiv t + 1) * t := by
     rw[Int.fdiv_eq_ediv_of_nonneg _ (by omega)]
     exact Int.lt_ediv_add_one_mul_self _ ht
   have b:le (ofInt t*ofInt (hi.fdiv t+1)) (ofInt t*x):=by
    unfold le at k ⊢
    have e:ofInt t*x-ofInt t*ofInt (hi.fdiv t+1)=ofInt t*(x-ofInt (hi.fdiv t+1)):=(show ∀ρ:Nat→K,ρ 0*ρ 1-ρ 0*ρ 2=ρ 0*(ρ 1-ρ 2)from fun ρ=>CR.ring ρ rfl) (CR.vr [ofInt t,x,ofInt (hi.fdiv t+1)])
    rw[e,sgn_mul,z2M,Int.sign_eq_one_of_pos ht,Int.one_mul];exact k
   have c:=le_trans b h2
   rw[←ofInt_mul,z0F,Int.mul_comm]at c
   omega
end K
end Go.Fw
set_option maxRecDepth 10000
namespace Go.Fw
namespace K
def ab(x:K)(n:Int):Prop:=le x (ofInt n)∧le (-x) (ofInt n)
theorem zqo{x:K}{n:Int}(h:ab x n):ab (-x) n:=by
 refine⟨h.2,?_⟩
 have e: - -x=x:=(show ∀ρ:Nat→K,- -ρ 0=ρ 0 from fun ρ=>CR.ring ρ rfl) (CR.vr [x])
 rw[e];exact h.1
theorem za1{x:K}{n m:Int}(h:ab x n)(k:n≤m):ab x m:=⟨le_trans h.1 (z0F.2 k),le_trans h.2 (z0F.2 k)⟩
theorem zqN{x y:K}{n m:Int}(h:ab x n)(k:ab y m):ab (x+y) (n+m):=by
 have e: -(x+y)= -x+ -y:=(show ∀ρ:Nat→K,-(ρ 0+ρ 1)= -ρ 0+ -ρ 1 from fun ρ=>CR.ring ρ rfl) (CR.vr [x,y])
 refine⟨?_,?_⟩
 · rw[ofInt_add];exact z29 h.1 k.1
 · rw[ofInt_add,e];exact z29 h.2 k.2
theorem ziA{x y:K}{n m:Int}(h:ab x n)(k:ab y m):le (x*y) (ofInt (n*m)):=by
 unfold ab le at*
 have e:ofInt 2*(ofInt (n*m)-x*y)=(ofInt n-x)*(ofInt m- -y)+(ofInt n- -x)*(ofInt m-y):=by
  rw[ofInt_mul]
  exact(show ∀ρ:Nat→K,ofInt 2*(ρ 0*ρ 1-ρ 2*ρ 3)=(ρ 0-ρ 2)*(ρ 1- -ρ 3)+(ρ 0- -ρ 2)*(ρ 1-ρ 3)from fun ρ=>CR.ring ρ rfl) (CR.vr [ofInt n,ofInt m,x,y])
 have s:=zbd (z94 h.1 k.2) (z94 h.2 k.1)
 rw[←e,sgn_mul,show sgn (ofInt 2)=1 by decide,Int.one_mul]at s
 exact s
theorem zik{x y:K}{n m:Int}(h:ab x n)(k:ab y m):ab (x*y) (n*m):=by
 refine⟨ziA h k,?_⟩
 have e: -(x*y)= -x*y:=(show ∀ρ:Nat→K,-(ρ 0*ρ 1)= -ρ 0*ρ 1 from fun ρ=>CR.ring ρ rfl) (CR.vr [x,y])
 rw[e];exact ziA (zqo h) k
theorem zmZ(a b c e:Int):ab (nu a b c e) (bnd a b c e):=⟨zjP a b c e,zpV a b c e⟩
theorem zi4{v n:Int}:ab (ofInt v) n↔v≤n∧ -v≤n:=by
 unfold ab
 rw[show-ofInt v=ofInt (-v)from rfl,z0F,z0F]
def pN(a b c e:Int):Int:=a*a+2*(b*b)-3*(c*c)-6*(e*e)
def qN(a b c e:Int):Int:=2*(a*b)-6*(c*e)
theorem zii(a b c e a' b' c' e':Int):nu a b c e*nu a' b' c' e'=nu (a*a'+2*b*b'+3*c*c'+6*e*e') (a*b'+b*a'+3*c*e'+3*e*c') (a*c'+c*a'+2*b*e'+2*e*b') (a*e'+e*a'+b*c'+c*b'):=by
 rw[z4c,z4c,mul_of (by decide) (by decide),z4c]
 congr 1
theorem zdb(a b c e:Int):nu a b c e*nu a b (-c) (-e)=nu (pN a b c e) (qN a b c e) 0 0:=by
 rw[zii]
 unfold pN qN
 congr 1<;>grind
theorem zeU(a b c e:Int):nu a b c e*(nu a b (-c) (-e)*nu (pN a b c e) (-qN a b c e) 0 0)=ofInt (pN a b c e*pN a b c e-2*(qN a b c e*qN a b c e)):=by
 rw[←mul_assoc,zdb,zii]
 generalize pN a b c e=p
 generalize qN a b c e=q
 show nu _ _ _ _=nu _ 0 0 0
 congr 1<;>grind
theorem zp5{a b c e:Int}(h: ¬(b=0∧c=0∧e=0)):nu a b c e≠0:=fun k=>h ⟨congrArg K.c1 k,congrArg K.c2 k,congrArg K.c3 k⟩
theorem zdx{a b c e:Int}(h: ¬(b=0∧c=0∧e=0)):pN a b c e*pN a b c e-2*(qN a b c e*qN a b c e)≠0:=fun k=>by
 have e1:=zeU a b c e
 rw[k]at e1
 have z1:nu a b c e≠0:=zp5 h
 have z2:nu a b (-c) (-e)≠0:=zp5 (fun x=>h ⟨x.1,by omega,by omega⟩)
 have z3:nu (pN a b c e) (-qN a b c e) 0 0≠0:=fun x=>by
  have h0:pN a b c e=0:=congrArg K.c0 x
  have h1: -qN a b c e=0:=congrArg K.c1 x
  have e2:=zdb a b c e
  rw[h0,show qN a b c e=0 by omega]at e2
  exact z6c z1 z2 e2
 exact z6c z1 (z6c z2 z3) e1
theorem zsE{v s:Int}(h1:v≤s)(h2: -v≤s):v*v≤s*s:=by
 rcases Int.le_total 0 v with h|h
 · exact Int.mul_le_mul h1 h1 h (by omega)
 · have:=Int.mul_le_mul h2 h2 (show 0≤ -v by omega) (show 0≤s by omega)
   rwa[Int.neg_mul_neg]at this
theorem zsw(v:Int):0≤v*v:=by
 rcases Int.le_total 0 v with h|h
 · exact Int.mul_nonneg h h
 · have:=Int.mul_nonneg (show 0≤ -v by omega) (show 0≤ -v by omega)
   rwa[Int.neg_mul_neg]at this
theorem ztE{v w s t:Int}(h1:v≤s)(h2: -v≤s)(k1:w≤t)(k2: -w≤t):v*w≤s*t∧ -(v*w)≤s*t:=by
 have a1:=Int.mul_nonneg (show 0≤s-v by omega) (show 0≤t+w by omega)
 have a2:=Int.mul_nonneg (show 0≤s+v by omega) (show 0≤t-w by omega)
 have a3:=Int.mul_nonneg (show 0≤s-v by omega) (show 0≤t-w by omega)
 have a4:=Int.mul_nonneg (show 0≤s+v by omega) (show 0≤t+w by omega)
 constructor<;>grind
theorem zpM {a b c e d u lo hi s : Int} (hd : 0 < d) (hu : 0 < u) (irr : ¬ (b = 0 ∧ c = 0 ∧ e = 0)) (h1 : le (ofInt lo) (ofInt u * nu a b c e)) (h2 : le (ofInt u * nu a b c e) (ofInt hi))
    (hs:hi-lo≤s) (hb:(b.natAbs:Int)+c.natAbs+e.natAbs≤s) (hne:lo.fdiv (d*u)≠hi.fdiv (d*u)):u≤385*(s*s*(s*s)):=by
 have ht:0<d*u:=Int.mul_pos hd hu
 rw[Int.fdiv_eq_ediv_of_nonneg _ (by omega),Int.fdiv_eq_ediv_of_nonneg _ (by omega)]at hne
 have hlo:lo≤hi:=z0F.1 (le_trans h1 h2)
 have m1:=Int.ediv_le_ediv ht hlo
 have m2:=Int.ediv_mul_le hi (show d*u≠0 by omega)
 have m3:=Int.lt_ediv_add_one_mul_self lo ht
 generalize hm:hi/(d*u)=m at*
 have m4:lo<m*(d*u):=by
  have:=Int.mul_le_mul_of_nonneg_right (show lo/(d*u)+1≤m by omega) (show 0≤d*u by omega)
  omega
 have ez:ofInt u*nu (a-m*d) b c e=ofInt u*nu a b c e+ofInt (-(m*(d*u))):=by
  rw[show-(m*(d*u))=u*(-(m*d)) by grind,ofInt_mul,←mul_add]
  congr 1
  rw[show ofInt (-(m*d))=nu (-(m*d)) 0 0 0 from rfl,z4c,z4c,z4c,z1E (by decide) (by decide)]
  congr 1<;>grind
 have uz:ab (ofInt u*nu (a-m*d) b c e) s:=by
  rw[ez]
  refine⟨le_trans (z29 h2 (z0F.2 (Int.le_refl _))) (by rw[←ofInt_add,z0F];omega),?_⟩
  have h3:le (-(ofInt u*nu a b c e)) (ofInt (-lo)):=by
   unfold le at h1 ⊢
   have e:ofInt (-lo)- -(ofInt u*nu a b c e)=ofInt u*nu a b c e-ofInt lo:=by
    rw[show ofInt (-lo)= -ofInt lo from rfl]
    exact(show ∀ρ:Nat→K,-ρ 0- -ρ 1=ρ 1-ρ 0 from fun ρ=>CR.ring ρ rfl) (CR.vr [ofInt lo,ofInt u*nu a b c e])
   rw[e];exact h1
  have e: -(ofInt u*nu a b c e+ofInt (-(m*(d*u))))= -(ofInt u*nu a b c e)+ofInt (m*(d*u)):=by
   rw[show ofInt (-(m*(d*u)))= -ofInt (m*(d*u))from rfl]
   exact(show ∀ρ:Nat→K,-(ρ 0+ -ρ 1)= -ρ 0+ρ 1 from fun ρ=>CR.ring ρ rfl) (CR.vr [ofInt u*nu a b c e,ofInt (m*(d*u))])
  rw[e]
  exact le_trans (z29 h3 (z0F.2 (Int.le_refl _))) (by rw[←ofInt_add,z0F];omega)
 generalize hA:a-m*d=A at*
 have s0:0≤s:=by omega
 have us:s≤u*s:=by
  have:=Int.mul_le_mul_of_nonneg_right (show(1:Int)≤u by omega) s0
  omega
 have up: ∀y:K,le (ofInt u*y) (ofInt s)→le y (ofInt s):=fun y h=>by
  have h':=le_trans h (z0F.2 us)
  unfold le at h' ⊢
  have e:ofInt (u*s)-ofInt u*y=ofInt u*(ofInt s-y):=by
   rw[ofInt_mul]
   exact(show ∀ρ:Nat→K,ρ 0*ρ 1-ρ 0*ρ 2=ρ 0*(ρ 1-ρ 2)from fun ρ=>CR.ring ρ rfl) (CR.vr [ofInt u,ofInt s,y])
  rwa[e,sgn_mul,z2M,Int.sign_eq_one_of_pos hu,Int.one_mul]at h'
 have z1:ab (nu A b c e) s:=⟨up _ uz.1,up _ (by
  have e:ofInt u* -nu A b c e= -(ofInt u*nu A b c e):=(show ∀ρ:Nat→K,ρ 0* -ρ 1= -(ρ 0*ρ 1)from fun ρ=>CR.ring ρ rfl) (CR.vr [ofInt u,nu A b c e])
  rw[e];exact uz.2)⟩
 have bq:s+bnd 0 (-b) (-c) (-e)≤4*s:=by unfold bnd;simp only[Int.natAbs_neg];omega
 have za:ab (ofInt A) (4*s):=by
  have ew:ofInt A=nu A b c e+nu 0 (-b) (-c) (-e):=by
   rw[show ofInt A=nu A 0 0 0 from rfl,z4c,z4c,z4c,z1E (by decide) (by decide)]
   congr 1<;>grind
  rw[ew]
  have t:=zqN z1 (zmZ 0 (-b) (-c) (-e))
  exact za1 t bq
 rw[zi4]at za
 have bb:=zsE (v:=b) (s:=s) (by omega) (by omega)
 have cc:=zsE (v:=c) (s:=s) (by omega) (by omega)
 have ee:=zsE (v:=e) (s:=s) (by omega) (by omega)
 have aa:=zsE za.1 za.2
 have bn:=zsw b
 have cn:=zsw c
 have en:=zsw e
 have an:=zsw A
 have a1:=ztE za.1 za.2 (w:=b) (t:=s) (by omega) (by omega)
 have a2:=ztE (v:=c) (s:=s) (w:=e) (t:=s) (by omega) (by omega) (by omega) (by omega)
 have ae:4*s*(4*s)=16*(s*s):=by grind
 have ae2:4*s*s=4*(s*s):=by grind
 rw[ae]at aa
 rw[ae2]at a1
 generalize hss:s*s=S at*
 have pb:pN A b c e≤27*S∧ -pN A b c e≤27*S:=by unfold pN;omega
 have qb:qN A b c e≤14*S∧ -qN A b c e≤14*S:=by unfold qN;omega
 have w2:ab (nu A b (-c) (-e)) (7*s):=za1 (zmZ _ _ _ _) (by unfold bnd;simp only[Int.natAbs_neg];omega)
 have w3:ab (nu (pN A b c e) (-qN A b c e) 0 0) (55*S):=za1 (zmZ _ _ _ _) (by unfold bnd;simp only[Int.natAbs_neg];omega)
 have fin:=zik uz (zik w2 w3)
 rw[mul_assoc,zeU,←ofInt_mul,zi4]at fin
 have hn:=zdx irr (a:=A)
 generalize pN A b c e*pN A b c e-2*(qN A b c e*qN A b c e)=N at*
 have e4:s*(7*s*(55*S))=385*(S*S):=by rw[←hss];grind
 rw[e4]at fin
 rcases Int.lt_trichotomy N 0 with h|h|h
 · have:=Int.mul_le_mul_of_nonneg_left (show(1:Int)≤ -N by omega) (show 0≤u by omega)
   rw[Int.mul_neg]at this
   omega
 · exact absurd h hn
 · have:=Int.mul_le_mul_of_nonneg_left (show(1:Int)≤N by omega) (show 0≤u by omega)
   omega
end K
set_option maxRecDepth 100000
theorem ze4(x:Nat)(hx:x<256):PCall P 268 [.lit (.int .u8 (x:Int))] (j5 (U7 x)):=by
 have h3:=z2r x hx
 refine(zg7 x (by omega)).eq (z3H ?_)
 rw[show(OfNat.ofNat 0:UInt8)=0 from rfl,Int.toNat_natCast,zcI _ hx,w64 (by omega)]
theorem zkb(a:Int)(h1:((bytesOf a.natAbs).toList==[])=false)(d:((bytesOf a.natAbs).data.getD 0 (OfNat.ofNat 0)).toNat<256)(o2:(0:Int)≤0∧(0:Int)<(↑(bytesOf a.natAbs).size:Int)):PCall P 260 [J2 a] (.lit (.int .i64 (i64.wrap (i64.wrap ((8:Int)*i64.wrap ((↑(bytesOf a.natAbs).size:Int)-1))+(↑(U7 ((bytesOf a.natAbs).data.getD 0 (OfNat.ofNat 0)).toNat):Int))))):=
 j3 (.r 3 (J7 a) (.b 10 h1 (.c o2 (.r 19 (ze4 (((bytesOf a.natAbs).data.getD 0 (OfNat.ofNat 0)).toNat) d) .nil)))) (by kernel_rfl)
def z0l(a:Nat):Nat:=8*((bytesOf a).size-1)+U7 ((bytesOf a).data.getD 0 0).toNat
theorem zs8{a:Nat}(h:Sml a):z0l a≤8589934592:=by
 have h1:=h.size
 have:=z2r ((bytesOf a).data.getD 0 0).toNat (UInt8.toNat_lt _)
 unfold z0l;omega
theorem zfg(a:Int)(ha:a≠0)(h:Sml a.natAbs):PCall P 260 [J2 a] (j5 (z0l a.natAbs)):=by
 have hn:(bytesOf a.natAbs).size≠0:=by rw[Ne,Z9];omega
 have h1:=h.size
 have h2:=z2r ((bytesOf a.natAbs).data.getD 0 0).toNat (UInt8.toNat_lt _)
 refine(zkb a ?_ (UInt8.toNat_lt _) (by omega)).eq (z3H ?_)
 · rw[Y9];exact decide_eq_false hn
 · rw[show(OfNat.ofNat 0:UInt8)=0 from rfl,w64 (n:=((bytesOf a.natAbs).size:Int)-1) (by omega),w64 (n:=8*(((bytesOf a.natAbs).size:Int)-1)) (by omega)]
   unfold z0l
   rw[w64 (by omega)]
   omega
theorem zr3(a:Int)(g:decide (a<(0:Int))=false)(h1:((bytesOf a.natAbs).toList==[])=true):PCall P (249:FuncId) [J2 a] (CV.tup [CV.agg [CV.lit (Value.bool (decide (a<(0:Int)))),CV.lit (Value.string (bytesOf a.natAbs))],CV.lit (Value.int i64 (0:Int))]):=
 j3 (.r 4 (J7 a) (.b 11 g (.b 16 h1 (.c (show 2≤2 from(by decide)) .nil)))) (by kernel_rfl)
theorem zrR(a:Int)(g:decide (a<(0:Int))=false)(h1:((bytesOf a.natAbs).toList==[])=false)(d:Sml a.natAbs)(e:a≠(0:Int))(f:Sml a.natAbs)(o7:(0:Int)≤i64.wrap (i64.wrap ((i64.wrap ((i64.wrap ((↑(z0l a.natAbs):Int)+(1:Int))).tdiv (2:Int))).tdiv (32:Int))+(1:Int))∧i64.wrap (i64.wrap ((i64.wrap ((i64.wrap ((↑(z0l a.natAbs):Int)+(1:Int))).tdiv (2:Int))).tdiv (32:Int))+(1:Int))≤i64.wrap (i64.wrap ((i64.wrap ((i64.wrap ((↑(z0l a.natAbs):Int)+(1:Int))).tdiv (2:Int))).tdiv (32:Int))+(1:Int))∧(4:Int)*i64.wrap (i64.wrap ((i64.wrap ((i64.wrap ((↑(z0l a.natAbs):Int)+(1:Int))).tdiv (2:Int))).tdiv (32:Int))+(1:Int))≤(140737488355328:Int)∧i64.wrap (i64.wrap ((i64.wrap ((i64.wrap ((↑(z0l a.natAbs):Int)+(1:Int))).tdiv (2:Int))).tdiv (32:Int))+(1:Int))≤(4611686018427387904:Int)∧1=1)(o10:(0:Int)≤(i64.wrap ((i64.wrap ((↑(z0l a.natAbs):Int)+(1:Int))).tdiv (2:Int))).tmod (32:Int))(o11:(0:Int)≤i64.wrap ((i64.wrap ((i64.wrap ((↑(z0l a.natAbs):Int)+(1:Int))).tdiv (2:Int))).tdiv (32:Int))∧i64.wrap ((i64.wrap ((i64.wrap ((↑(z0l a.natAbs):Int)+(1:Int))).tdiv (2:Int))).tdiv (32:Int))<(↑(i64.wrap (i64.wrap ((i64.wrap ((i64.wrap ((↑(z0l a.natAbs):Int)+(1:Int))).tdiv (2:Int))).tdiv (32:Int))+(1:Int))).toNat:Int))(o12:0+(i64.wrap ((i64.wrap ((i64.wrap ((↑(z0l a.natAbs):Int)+(1:Int))).tdiv (2:Int))).tdiv (32:Int))).toNat*1+1≤(List.replicate ((i64.wrap (i64.wrap ((i64.wrap ((i64.wrap ((↑(z0l a.natAbs):Int)+(1:Int))).tdiv (2:Int))).tdiv (32:Int))+(1:Int))).toNat*1) (MV.cv (CV.lit (Value.int u32 (0:Int))))).length)(o14:CvL (j6 (List.replicate ((i64.wrap (i64.wrap ((i64.wrap ((i64.wrap ((↑(z0l a.natAbs):Int)+(1:Int))).tdiv (2:Int))).tdiv (32:Int))+(1:Int))).toNat*1) (MV.cv (CV.lit (Value.int u32 (0:Int))))) (0+(i64.wrap ((i64.wrap ((i64.wrap ((↑(z0l a.natAbs):Int)+(1:Int))).tdiv (2:Int))).tdiv (32:Int))).toNat*1) [MV.cv (CV.lit (Value.int u32 (u32.wrap ((1:Int)*(2:Int)^min ((i64.wrap ((i64.wrap ((↑(z0l a.natAbs):Int)+(1:Int))).tdiv (2:Int))).tmod (32:Int)).toNat 32))))])){R:CV→Prop}(hR:Ok P (249:FuncId) (loopHead P (249:FuncId) 0) ⟨J1 63 [(2,MV.ptr 0 0),(4,MV.cv (CV.lst (dig 4294967296 a.natAbs).length (j8 (dig 4294967296 a.natAbs)))),(6,MV.sl (0+1) 0 (i64.wrap (i64.wrap ((i64.wrap ((i64.wrap ((↑(z0l a.natAbs):Int)+(1:Int))).tdiv (2:Int))).tdiv (32:Int))+(1:Int))).toNat 1)],[some [MV.cv (CV.lit (Value.bool false)),MV.cv (CV.lit (Value.string {data:= #[]}))],some (j6 (List.replicate ((i64.wrap (i64.wrap ((i64.wrap ((i64.wrap ((↑(z0l a.natAbs):Int)+(1:Int))).tdiv (2:Int))).tdiv (32:Int))+(1:Int))).toNat*1) (MV.cv (CV.lit (Value.int u32 (0:Int))))) (0+(i64.wrap ((i64.wrap ((i64.wrap ((↑(z0l a.natAbs):Int)+(1:Int))).tdiv (2:Int))).tdiv (32:Int))).toNat*1) [MV.cv (CV.lit (Value.int u32 (u32.wrap ((1:Int)*(2:Int)^min ((i64.wrap ((i64.wrap ((↑(z0l a.natAbs):Int)+(1:Int))).tdiv (2:Int))).tmod (32:Int)).toNat 32))))])]⟩ (.of R)):Y3 P (249:FuncId) [J2 a] R:=
 Z6 (keep:=[2,4,6]) (σ:=[1,5]) (.r 4 (J7 a) (.b 11 g (.b 16 h1 (.r 19 (U5 a.natAbs d) (.r 22 (zfg a e f) (.c (show(2:Int)≠(0:Int)from(by decide)) (.c (show(32:Int)≠(0:Int)from(by decide)) (.c o7 (.c (show(32:Int)≠(0:Int)from(by decide)) (.c (show(32:Int)≠(0:Int)from(by decide)) (.c o10 (.c o11 (.c o12 (.o 39 .stop .nil)))))))))))))) (by kernel_rfl) rfl hR (.cons (by simp[CvL]) (.cons o14 .nil))
theorem znv(a x:Nat)(h1:(decide (z9m ((x+a/x)/2) x (dig 4294967296 ((x+a/x)/2)).length (dig 4294967296 x).length≥0))=true)(d:x≠0)(e:(dig 4294967296 a).length<2^38)(f:(dig 4294967296 x).length<2^38)(g:(dig 4294967296 x).length<2^40)(i:(dig 4294967296 (a/x)).length<2^40)(j:(dig 4294967296 (x+a/x)).length<2^40)(k:0<2)(l:2<4294967296)(m:(dig 4294967296 ((x+a/x)/2)).length<2^62)(n:(dig 4294967296 x).length<2^62)(o:Sml x){R:Goal}(hR:R.c (.tup [.agg [.lit (.bool (decide (sgn false x<0))),.lit (.string (bytesOf (sgn false x).natAbs))],.lit (.int .i64 0)])):Ok P 249 (loopHead P 249 0) ({tm:=J1 63 [(2,.ptr 0 0),(4,.cv (z0c a)),(6,.cv (z0c x))],hp:=[some [.cv (.lit (.bool false)),.cv (X1 {data:= #[]})]]}) R:=
 okT (.r 3 (z0A a x d e f) (.r 11 (z7f x (a/x) g i) (.r 12 (z4O (x+a/x) 2 j k l) (.r 20 (z2y ((x+a/x)/2) x m n) (.b 22 h1 (.r 24 (U9 x false o) (.c (show 2≤2 from by decide) .nil))))))) (by kernel_rfl) hR
theorem zqi(a x:Nat)(h1:(decide (z9m ((x+a/x)/2) x (dig 4294967296 ((x+a/x)/2)).length (dig 4294967296 x).length≥0))=false)(c:x≠0)(d:(dig 4294967296 a).length<2^38)(e:(dig 4294967296 x).length<2^38)(f:(dig 4294967296 x).length<2^40)(g:(dig 4294967296 (a/x)).length<2^40)(i:(dig 4294967296 (x+a/x)).length<2^40)(j:0<2)(k:2<4294967296)(l:(dig 4294967296 ((x+a/x)/2)).length<2^62)(m:(dig 4294967296 x).length<2^62){R:Goal}(hn:j7 R.n [0]=true)(hR:Ok P 249 (loopHead P 249 0) ⟨J1 63 [(2,.ptr 0 0),(4,.cv (.lst (dig 4294967296 a).length (j8 (dig 4294967296 a)))),(6,.cv (.lst (dig 4294967296 ((x+a/x)/2)).length (j8 (dig 4294967296 ((x+a/x)/2)))))],[some [.cv (.lit (.bool false)),.cv (.lit (.string {data:= #[]}))]]⟩ R):Ok P 249 (loopHead P 249 0) ({tm:=J1 63 [(2,.ptr 0 0),(4,.cv (z0c a)),(6,.cv (z0c x))],hp:=[some [.cv (.lit (.bool false)),.cv (X1 {data:= #[]})]]}) R:=
 z07 (keep:=[2,4,6]) (σ:=[0]) (.r 3 (z0A a x c d e) (.r 11 (z7f x (a/x) f g) (.r 12 (z4O (x+a/x) 2 i j k) (.r 20 (z2y ((x+a/x)/2) x l m) (.b 22 h1 (.o 25 .stop .nil)))))) (by kernel_rfl) rfl hn hR (.cons (by simp[CvL]) .nil)
variable{w0:Start}{I:Imm}{p:Pl}{w:World}
theorem HRel.freeze {hp : List Blk} (H : HRel w0 hp I p w) {i : Nat} {es : List CV} (hi : hp[i]? = some (some (es.map .cv))) :
    ∃b κ cs,p i=some (b,κ)∧I b=none∧CV.repL I es (cs.take es.length)∧HRel w0 (hp.set i none) (fun k=>if k=b then some cs else I k) p w:=by
 obtain⟨b,κ,c,T,h1,h2,_,h4,h5,h6⟩:=H.live i _ hi
 rw[List.length_map,MV.repL_map_cv]at h4
 refine⟨b,κ,c.toList,h1,h6,h4,H.below,?_,?_,?_,?_⟩
 · intro x cs hx
   dsimp only at hx
   split at hx
   · rename_i e;subst e;injection hx with hx
     exact⟨c,T,_,h2,hx⟩
   · exact H.im x cs hx
 · intro x hx
   split at hx
   · rename_i e;subst e;exact .inr h5
   · exact H.imf x hx
 · intro k ck hk
   have hki:k≠i:=by
    rintro rfl
    rw[List.getElem?_set_self (List.getElem?_eq_some_iff.1 hi).1]at hk
    cases hk
   rw[List.getElem?_set_ne (Ne.symm hki)]at hk
   obtain⟨b',κ',c',T',k1,k2,k3,k4,k5,k6⟩:=H.live k ck hk
   refine⟨b',κ',c',T',k1,k2,k3,MV.repL_mono (z7F h6) (Pl.le_refl p) _ _ k4,k5,?_⟩
   have:=H.inj k i _ _ _ _ _ _ hk hi hki k1 h1
   rw[if_neg this];exact k6
 · intro k j ck cj b1 κ1 b2 κ2 hk hj
   have key: ∀(m:Nat) (cm:List MV),(hp.set i none)[m]?=some (some cm)→hp[m]?=some (some cm):=by
    intro m cm hm
    rw[List.getElem?_set]at hm
    split at hm
    · split at hm<;>cases hm
    · exact hm
   exact H.inj k j ck cj b1 κ1 b2 κ2 (key k ck hk) (key j cj hj)
theorem Ok.freeze {P : Program} {f : FuncId} {todo : List Item} {tm : List MV} {hp : List Blk} {R : Goal} {i j n sz : Nat} {es : List CV} (hi : hp[i]? = some (some (es.map .cv))) (hj : tm[j]? = some (.sl i 0 n sz))
    (h:Ok P f todo ⟨tm.set j (.cv (.lst n es)),hp.set i none⟩ R):Ok P f todo ⟨tm,hp⟩ R:=by
 intro w0 I p a w b cs h1 h2 h3 h31 h32 h4 h5
 obtain⟨x,κ,ce,k1,k2,k3,k4⟩:=h4.hp.freeze hi
 have hm:=z7F (cs:=ce) k2
 refine h w0 _ p a w b cs h1 h2 (Imm.le_trans h3 hm) h31 h32 ⟨?_,h4.defers,k4⟩ (fun k hk=>h5 k (by simpa using hk))
 have r:=MV.repL_mono hm (Pl.le_refl p) _ _ h4.tm
 obtain⟨y,hy,hr⟩:=MV.repL_get r hj
 have hyl:=(List.getElem?_eq_some_iff.1 hy)
 have e:a.tmps.toList=a.tmps.toList.set j y:=by
  refine List.ext_getElem? fun q=>?_
  by_cases hq:q=j
  · subst hq;rw[hy,List.getElem?_set_self hyl.1]
  · rw[List.getElem?_set_ne (Ne.symm hq)]
 rw[e]
 refine MV.repL_set r j ?_
 simp only[MV.rep]at hr ⊢
 unfold CV.rep
 obtain⟨b',κ',cap,q1,q2,q3,_⟩:=hr
 rw[k1]at q1
 injection q1 with q1
 injection q1 with q1 _
 subst q1
 refine⟨_,cap,q2,q3,.inr ⟨x,0,ce,rfl,if_pos rfl,?_⟩⟩
 rw[List.drop_zero]
 exact CV.repL_mono hm _ _ k3
theorem Ok.nil {P : Program} {f : FuncId} {todo : List Item} {tm : List MV} {hp : List Blk} {R : Goal} (j : Nat) (hj : tm[j]? = some (.cv (.lit (.slice none 0 0))))
    (h:Ok P f todo ⟨tm.set j (.cv (.lst 0 [])),hp⟩ R):Ok P f todo ⟨tm,hp⟩ R:=by
 intro w0 I p a w b cs h1 h2 h3 h31 h32 h4 h5
 refine h w0 I p a w b cs h1 h2 h3 h31 h32 ⟨?_,h4.defers,h4.hp⟩ h5
 have r:=h4.tm
 obtain⟨y,hy,hr⟩:=MV.repL_get r hj
 have hyl:=(List.getElem?_eq_some_iff.1 hy)
 have e:a.tmps.toList=a.tmps.toList.set j y:=by
  refine List.ext_getElem? fun q=>?_
  by_cases hq:q=j
  · subst hq;rw[hy,List.getElem?_set_self hyl.1]
  · rw[List.getElem?_set_ne (Ne.symm hq)]
 rw[e]
 refine MV.repL_set r j ?_
 simp only[MV.rep]at hr ⊢
 unfold CV.rep at hr ⊢
 exact⟨none,0,hr,Nat.le_refl _,.inl ⟨rfl,rfl⟩⟩
end Go.Fw
