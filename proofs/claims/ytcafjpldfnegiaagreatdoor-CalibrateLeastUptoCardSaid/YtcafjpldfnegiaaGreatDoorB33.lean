/- A part of the proof that the law returns true for every input: an executor for the model's code, and what functions of the program compute. -/
import Derived.Test.YtcafjpldfnegiaaGreatDoorB11
import Derived.Test.YtcafjpldfnegiaaGreatDoorB15
import Derived.Test.YtcafjpldfnegiaaGreatDoorB30
import Derived.Test.YtcafjpldfnegiaaGreatDoorB31
import Derived.Test.YtcafjpldfnegiaaGreatDoorB32
import Derived.KernelRfl
open Go
namespace Go.Fw
set_option maxRecDepth 100000
theorem zaM {R : Goal} (hn : J0 R.n [0] = true) (b : Nat) (_hb : b ≤ 1) (xs : List Nat) (hlen : xs.length < 2 ^ 40) (hx : Dig B24 xs) (hR : R.c (z1X (2 * val B24 xs + b))) :
    ∀(k i:Nat) (zs:List Nat) (c:Nat),xs.length-i=k→i≤xs.length→zs.length=xs.length+1→Dig B24 zs→c≤1→
     val B24 (zs.take i)+c*B24^i=2*val B24 (xs.take i)+b→
     Ok P 232 (loopHead P 232 0) ⟨J3 40 [(0,.cv (.lst xs.length (j3 xs))),(5,.sl 0 0 (xs.length+1) 1),(6,.cv (j6 (c:Int))),(7,.cv (j6 (i:Int)))],[some (own (j3 zs))]⟩ R:=by
 intro k
 induction k with
 |zero=>
  intro i zs c hk hi hz hd hc hv
  have:i=xs.length:=by omega
  subst this
  have e1:(0:Nat)+(xs.length:Int).toNat*1=xs.length:=by omega
  have hset:j4 (own (j3 zs)) xs.length [MV.cv (CV.lit (.int .i64 (c:Int)))]=own (j3 (zs.set xs.length c)):=Q8 (by omega)
  have hl2:(zs.set xs.length c).length=xs.length+1:=by simp[hz]
  refine zi1 _ _ _ _ _ _ (by simp) (by rw[e1,hl2]) (by rw[e1];exact hd.set (by simp only[B24];omega) _) (by rw[e1,hl2];omega) (by omega) (by rw[e1,J1,Q5,hz];omega) ?_ ?_
  · rw[e1,hset];exact z0R (by rw[Q5,hl2])
  · rw[e1]
    have h1:val 16777216 (zs.set xs.length c)=2*val B24 xs+b:=by
     rw[show(16777216:Nat)=B24 from rfl]
     have:=U8 (b:=B24) (xs:=zs) (i:=xs.length) (d:=c) (by omega)
     rw[List.take_of_length_le (by omega),Nat.mul_comm]at this
     rw[this,hv,List.take_length]
    rw[h1];exact hR
 |succ k ih=>
  intro i zs c hk hi hz hd hc hv
  have hlt:i<xs.length:=by omega
  have e1:(i:Int).toNat*1=i:=by omega
  have e2:(0:Nat)+(i:Int).toNat*1=i:=by omega
  have e3:IntKind.i64.wrap ((i:Int)+1)=((i+1:Nat):Int):=by rw[w64 (by omega)];omega
  have gx:=Z8 (xs:=xs) (i:=(i:Int).toNat*1) (by omega)
  have dx:=hx.get (by decide) i
  have hdg: ∀s:Nat,s%B24<B24:=fun s=>Nat.mod_lt _ (by decide)
  have hsum:IntKind.i64.wrap ((c:Int)+IntKind.i64.wrap (2*((xs.getD ((i:Int).toNat*1) 0:Nat):Int)))=((xs.getD i 0+xs.getD i 0+c:Nat):Int):=by
   simp only[B24]at dx;rw[e1,w64 (n:=2*_) (by omega),w64 (by omega)];omega
  obtain⟨s1,s2,s3⟩:=z6Y (s:=xs.getD i 0+xs.getD i 0+c) (by simp only[B24]at dx;omega)
  have hset:j4 (own (j3 zs)) (0+(i:Int).toNat*1) [.cv (.lit (.int .i64 ((IntKind.i64.wrap ((c:Int)+IntKind.i64.wrap (2*((xs.getD ((i:Int).toNat*1) 0:Nat):Int)))).tmod 16777216)))]=own (j3 (zs.set i ((xs.getD i 0+xs.getD i 0+c)%B24))):=by
   rw[hsum,s2,e2];exact Q8 (by omega)
  refine zk0 _ _ _ _ _ _ (by simpa using hlt) (by omega) gx (by omega) (by rw[e2,J1,Q5];omega) (by rw[hset];exact j9 _) hn ?_
  rw[hset,hsum,s3,e3]
  refine ih (i+1) _ _ (by omega) (by omega) (by simpa using hz) (hd.set (hdg _) _) (by simp only[B24]at*;omega) ?_
  rw[U8 (by omega),Z7,Nat.pow_succ]
  have:=z6V (val B24 (zs.take i)) (val B24 (xs.take i)) (val B24 (xs.take i)+b) (B24^i) ((xs.getD i 0+xs.getD i 0+c)%B24) c ((xs.getD i 0+xs.getD i 0+c)/B24) (xs.getD i 0) (xs.getD i 0) B24 (by omega) (Nat.mod_add_div _ _)
  omega
theorem zaB(n:Nat)(d:Int)(us:List Nat)(hn:n=us.length)(hu:Dig B24 us)(hl:us.length<2^40)(hd:0≤d∧d≤1):PCall P 232 [.lst n (j3 us),.lit (.int .i64 d)] (z1X (2*val B24 us+d.toNat)):=by
 subst hn
 have e:IntKind.i64.wrap ((us.length:Int)+1)=((us.length+1:Nat):Int):=by rw[w64 (by omega)];omega
 refine X6 (zma _ _ _ (by rw[e];omega) (by rw[V7];exact j9 _) ?_)
 rw[V7,e,show(((us.length+1:Nat):Int)).toNat=us.length+1 by omega,Nat.mul_one]
 have:=zaM (R:= .of (fun x=>x=z1X (2*val B24 us+d.toNat))) rfl d.toNat (by omega) us hl hu rfl us.length 0 (List.replicate (us.length+1) 0) d.toNat (by omega) (by omega) (by simp) (Dig.replicate (by decide) _) (by omega) (by simp[val])
 rw[show((d.toNat:Nat):Int)=d by omega]at this
 exact this
end Go.Fw
open Go IntKind
namespace Go.Fw
set_option maxRecDepth 100000
theorem zm0(j1 n1:Nat)(t t':Int)(i:Nat)(xs:List Nat)(h1:decide ((i:Int)<if t'<t then t' else t)=true)(s8_0:n1=(List.take n1 (List.drop j1 xs)).length)(s8_1:Dig 16777216 (List.take n1 (List.drop j1 xs)))(s8_2:(List.take n1 (List.drop j1 xs)).length<2^40)(s8_3:(0:Int)≤0∧(0:Int)≤1)(o2:List.take (n1*1) (List.drop j1 (own (j3 xs)))=List.map MV.cv (j3 (List.take n1 (List.drop j1 xs)))){R:Goal}(hn:J0 R.n [0]=true)(hR:Ok P 184 (loopHead P 184 2) ⟨J3 111 [(4,.ptr 0 0),(9,.cv (.lst (dig 16777216 (2*val 16777216 (List.take n1 (List.drop j1 xs))+0)).length (j3 (dig 16777216 (2*val 16777216 (List.take n1 (List.drop j1 xs))+0))))),(11,.cv (.lit (.int .i64 t))),(12,.cv (.lit (.int .i64 t'))),(14,.cv (.lit (.int .i64 (i64.wrap ((i:Int)+1)))))],[some [.cv (.lit (.bool false)),.cv (.lit (.string {data:= #[]}))]]⟩ R):Ok P 184 (loopHead P 184 2) ({tm:=J3 111 [(4,.ptr 0 0),(9,.sl 1 j1 n1 1),(11,.cv (j6 t)),(12,.cv (j6 t')),(14,.cv (j6 (i:Int)))],hp:=[some [.cv (.lit (.bool false)),.cv (X3 {data:= #[]})],some (own (j3 xs))]}) R:=
 z0D (keep:=[4,9,11,12,14]) (σ:=[0]) (.b 6 h1 (.rs 8 [j3 (List.take n1 (List.drop j1 xs))] (zaB (n1) ((0:Int)) (List.take n1 (List.drop j1 xs)) s8_0 s8_1 s8_2 s8_3) (.c o2 (.o 13 .stop .nil)))) (by kernel_rfl) rfl hn hR (.cons (by simp[CvL]) .nil)
theorem zmU(j1 n1:Nat)(t t':Int)(i:Nat)(xs:List Nat)(h1:decide ((i:Int)<if t'<t then t' else t)=false)(s8_0:n1=(List.take n1 (List.drop j1 xs)).length)(s8_1:Dig 16777216 (List.take n1 (List.drop j1 xs)))(s8_2:(List.take n1 (List.drop j1 xs)).length<2^40)(o2:List.take (n1*1) (List.drop j1 (own (j3 xs)))=List.map MV.cv (j3 (List.take n1 (List.drop j1 xs)))){R:Goal}(hR:R.c (.agg [.lit (.bool (decide ((if false=true then-(↑(val B24 (List.take n1 (List.drop j1 xs))):Int)else(↑(val B24 (List.take n1 (List.drop j1 xs))):Int))<0))),.lit (.string (bytesOf (if false=true then-(↑(val 16777216 (List.take n1 (List.drop j1 xs))):Int)else(↑(val 16777216 (List.take n1 (List.drop j1 xs))):Int)).natAbs))])):Ok P 184 (loopHead P 184 2) ({tm:=J3 111 [(4,.ptr 0 0),(9,.sl 1 j1 n1 1),(11,.cv (j6 t)),(12,.cv (j6 t')),(14,.cv (j6 (i:Int)))],hp:=[some [.cv (.lit (.bool false)),.cv (X3 {data:= #[]})],some (own (j3 xs))]}) R:=
 okT (.b 6 h1 (.c (z2I (false) (n1) (List.take n1 (List.drop j1 xs)) s8_0 s8_1 s8_2) (.c o2 (.c (show 2≤2 from by decide) (.o 8 (.k (.agg [.lit (.bool (decide ((if false=true then-(↑(val B24 (List.take n1 (List.drop j1 xs))):Int)else(↑(val B24 (List.take n1 (List.drop j1 xs))):Int))<0))),.lit (.string (bytesOf (if false=true then-(↑(val 16777216 (List.take n1 (List.drop j1 xs))):Int)else(↑(val 16777216 (List.take n1 (List.drop j1 xs))):Int)).natAbs))]) [j3 (List.take n1 (List.drop j1 xs))]) .nil))))) (by kernel_rfl) hR
theorem zmb(n1:Nat)(t t':Int)(i:Nat)(xs:List Nat)(h1:decide ((i:Int)<if t'<t then t' else t)=true)(s8_0:n1=xs.length)(s8_1:Dig 16777216 xs)(s8_2:xs.length<2^40)(s8_3:(0:Int)≤0∧(0:Int)≤1){R:Goal}(hn:J0 R.n [0]=true)(hR:Ok P 184 (loopHead P 184 2) ⟨J3 111 [(4,.ptr 0 0),(9,.cv (.lst (dig 16777216 (2*val 16777216 xs+0)).length (j3 (dig 16777216 (2*val 16777216 xs+0))))),(11,.cv (.lit (.int .i64 t))),(12,.cv (.lit (.int .i64 t'))),(14,.cv (.lit (.int .i64 (i64.wrap ((i:Int)+1)))))],[some [.cv (.lit (.bool false)),.cv (.lit (.string {data:= #[]}))]]⟩ R):Ok P 184 (loopHead P 184 2) ({tm:=J3 111 [(4,.ptr 0 0),(9,.cv (.lst n1 (j3 xs))),(11,.cv (j6 t)),(12,.cv (j6 t')),(14,.cv (j6 (i:Int)))],hp:=[some [.cv (.lit (.bool false)),.cv (X3 {data:= #[]})]]}) R:=
 z0D (keep:=[4,9,11,12,14]) (σ:=[0]) (.b 6 h1 (.r 8 (zaB (n1) ((0:Int)) (xs) s8_0 s8_1 s8_2 s8_3) (.o 13 .stop .nil))) (by kernel_rfl) rfl hn hR (.cons (by simp[CvL]) .nil)
theorem zm9(n1:Nat)(t t':Int)(i:Nat)(xs:List Nat)(h1:decide ((i:Int)<if t'<t then t' else t)=false)(s8_0:n1=xs.length)(s8_1:Dig 16777216 xs)(s8_2:xs.length<2^40){R:Goal}(hR:R.c (.agg [.lit (.bool (decide ((if false=true then-(↑(val B24 xs):Int)else(↑(val B24 xs):Int))<0))),.lit (.string (bytesOf (if false=true then-(↑(val 16777216 xs):Int)else(↑(val 16777216 xs):Int)).natAbs))])):Ok P 184 (loopHead P 184 2) ({tm:=J3 111 [(4,.ptr 0 0),(9,.cv (.lst n1 (j3 xs))),(11,.cv (j6 t)),(12,.cv (j6 t')),(14,.cv (j6 (i:Int)))],hp:=[some [.cv (.lit (.bool false)),.cv (X3 {data:= #[]})]]}) R:=
 okT (.b 6 h1 (.r 8 (z2I (false) (n1) (xs) s8_0 s8_1 s8_2) (.c (show 2≤2 from by decide) .nil))) (by kernel_rfl) hR
end Go.Fw
open Go IntKind
namespace Go.Fw
set_option maxRecDepth 100000
theorem zmK(a b:Bool)(t w t' w':Nat)(hv:J2 a (bytesOf (2^t*w))=true)(hv':J2 b (bytesOf (2^t'*w'))=true)(hw:w%2=1)(hw':w'%2=1)(g1:decide ((↑(bytesOf (2^t*w)).size:Int)≤7)=true)(g2:decide ((↑(bytesOf (2^t'*w')).size:Int)≤7)=false)(h1:((↑(dig 16777216 (2^t*w)).length:Int)==0)=false)(h2:((↑(dig 16777216 (2^t'*w')).length:Int)==0)=false)(s25_0:Sml (2^t*w))(s28_0:Sml (2^t'*w'))(s41_0:(dig 16777216 (2^t*w)).length<2^40)(s48_0:(dig 16777216 (2^t'*w')).length<2^40)(o9:BlksCv [some (own (j3 (dig 16777216 (2^t*w)))),some (own (j3 (X1 (dig 16777216 (2^t*w)) (t/24) ((dig 16777216 (2^t*w)).length-t/24) w)))])(o11:BlksCv [some (own (j3 (dig 16777216 (2^t'*w')))),some (own (j3 (X1 (dig 16777216 (2^t'*w')) (t'/24) ((dig 16777216 (2^t'*w')).length-t'/24) w')))]){R:CV→Prop}(hR:Ok P 184 (loopHead P 184 1) ⟨J3 111 [(4,.ptr 0 0),(9,.sl (0+1) (t/24) (dig 16777216 w).length 1),(10,.sl (0+1+1) (t'/24) (dig 16777216 w').length 1),(11,.cv (.lit (.int .i64 (t:Int)))),(12,.cv (.lit (.int .i64 (t':Int))))],[some [.cv (.lit (.bool false)),.cv (.lit (.string {data:= #[]}))],some (own (j3 (X1 (dig 16777216 (2^t*w)) (t/24) ((dig 16777216 (2^t*w)).length-t/24) w))),some (own (j3 (X1 (dig 16777216 (2^t'*w')) (t'/24) ((dig 16777216 (2^t'*w')).length-t'/24) w')))]⟩ (.of R)):W6 P 184 [.agg [.lit (.bool a),X3 (bytesOf (2^t*w))],.agg [.lit (.bool b),X3 (bytesOf (2^t'*w'))]] R:=
 Y4 (keep:=[4,9,10,11,12]) (σ:=[2,5,6]) (.c ((J4 (a) (bytesOf (2^t*w))).eqB hv) (.c ((J4 (b) (bytesOf (2^t'*w'))).eqB hv') (.o 4 (.r (.lit (.bool true))) (.o 8 (.r (.lit (.bool true))) (.b 16 g1 (.b 22 g2 (.c (Q0 (2^t*w) s25_0) (.c (Q0 (2^t'*w') s28_0) (.o 25 (.f (.sl 0 0 (dig 16777216 (2^t*w)).length 1) (j3 (dig B24 (2^t*w)))) (.o 28 (.f (.sl 0 0 (dig 16777216 (2^t'*w')).length 1) (j3 (dig B24 (2^t'*w')))) (.b 34 h1 (.b 39 h2 (.c (z4T (t) (w) hw s41_0) (.c o9 (.c (z4T (t') (w') hw' s48_0) (.c o11 (.o 41 (.m [5] (.tup [.sl 0 (t/24) (dig 16777216 w).length 1,.cv (.lit (.int .i64 (t:Int)))]) [some (own (j3 (X1 (dig B24 (2^t*w)) (t/24) ((dig B24 (2^t*w)).length-t/24) w)))]) (.o 48 (.m [6] (.tup [.sl 0 (t'/24) (dig 16777216 w').length 1,.cv (.lit (.int .i64 (t':Int)))]) [some (own (j3 (X1 (dig B24 (2^t'*w')) (t'/24) ((dig B24 (2^t'*w')).length-t'/24) w')))]) (.o 54 .stop .nil))))))))))))))))))) (by kernel_rfl) rfl hR (.cons (by simp[CvL]) (.cons (j9 _) (.cons (j9 _) .nil)))
end Go.Fw
set_option maxRecDepth 10000
namespace Go.Fw
theorem zq3{a:Nat}(h:a%2=1)(k:Nat):Nat.Coprime (2^k) a:=by
 apply Nat.Coprime.pow_left
 show Nat.gcd 2 a=1
 rw[Nat.gcd_rec,h];rfl
theorem z2f{x y:Nat}(h:x%2=1)(k:Nat):Nat.gcd x (2^k*y)=Nat.gcd x y:=Nat.Coprime.gcd_mul_left_cancel_right _ (zq3 h k)
theorem z7P{x y:Nat}(h:y%2=1)(k:Nat):Nat.gcd (2^k*x) y=Nat.gcd x y:=by rw[Nat.gcd_comm,z2f h,Nat.gcd_comm]
theorem zj3{a b:Nat}(ha:a%2=1)(hb:b%2=1)(n m:Nat):Nat.gcd (2^n*a) (2^m*b)=2^(min n m)*Nat.gcd a b:=by
 rcases Nat.le_total n m with h|h
 · rw[Nat.min_eq_left h]
   obtain⟨k,rfl⟩:=Nat.exists_eq_add_of_le h
   rw[Nat.pow_add,Nat.mul_assoc,Nat.gcd_mul_left,z2f ha]
 · rw[Nat.min_eq_right h]
   obtain⟨k,rfl⟩:=Nat.exists_eq_add_of_le h
   rw[Nat.pow_add,Nat.mul_assoc,Nat.gcd_mul_left,z7P hb]
theorem za1{x y d k:Nat}(hx:x%2=1)(hlt:x≤y)(hd:y-x=2^k*d):Nat.gcd x d=Nat.gcd x y:=by
 rw[←z2f hx k,←hd,Nat.gcd_sub_self_right hlt]
end Go.Fw
open Go
namespace Go.Fw
set_option maxRecDepth 100000
def Pt(xs:List Nat)(j X:Nat):Prop:=(xs.drop j).take (dig B24 X).length=dig B24 X
theorem z0c(n j:Nat)(xs:List Nat):List.take (n*1) (List.drop j (own (j3 xs)))=List.map MV.cv (j3 (List.take n (List.drop j xs))):=by
 simp[own,j3,List.map_take,List.map_drop]
theorem z5x(n:Nat):z3n n≤n:=Nat.div_le_self ..
theorem z1U(b:Nat): ∀(m k n:Nat),m≤k→(Q7 b k n).take m=Q7 b m n
 |0,_,_,_=>by simp[Q7]
 |m+1,0,_,h=>by omega
 |m+1,k+1,n,h=>by simp only[Q7,List.take_succ_cons];rw[z1U b m k _ (by omega)]
theorem z3q{xs:List Nat}{t w D:Nat}(hD:D=2^t*w)(h:(dig B24 D).length≤xs.length)(hw:0<w):Pt (X1 xs (t/24) ((dig B24 D).length-t/24) w) (t/24) w:=by
 have hlt:=J9 (b:=B24) (by decide) D
 have e:2^t=B24^(t/24)*2^(t%24):=by
  rw[show B24=2^24 from rfl,←Nat.pow_mul,←Nat.pow_add];congr 1;omega
 have h1:B24^(t/24)*w≤D:=by
  rw[hD,e,Nat.mul_assoc]
  exact Nat.mul_le_mul_left _ (Nat.le_mul_of_pos_left _ (Nat.two_pow_pos _))
 have h2:t/24<(dig B24 D).length:=by
  refine(Nat.pow_lt_pow_iff_right (a:=B24) (by decide)).1 (Nat.lt_of_le_of_lt ?_ hlt)
  exact Nat.le_trans (Nat.le_mul_of_pos_right _ hw) h1
 have h3:(dig B24 w).length≤(dig B24 D).length-t/24:=by
  refine Q9 (by decide) ?_
  have h4:B24^(t/24)*w<B24^(t/24)*B24^((dig B24 D).length-t/24):=by
   rw[←Nat.pow_add,show t/24+((dig B24 D).length-t/24)=(dig B24 D).length by omega]
   exact Nat.lt_of_le_of_lt h1 hlt
  exact Nat.lt_of_mul_lt_mul_left h4
 have h5:=z5d (xs:=xs) (j:=t/24) (n:=(dig B24 D).length-t/24) (w:=w) (by omega)
 unfold Pt
 have h6:=z1U B24 _ _ w h3
 rw[←h5,List.take_take,Nat.min_eq_left h3,z0h (by decide)]at h6
 exact h6
theorem z5C {Q : CV → Prop} (t t' : Int) (G : Nat)
    (hk: ∀(j:Nat) (xs:List Nat),Pt xs j G→Ok P 184 (loopHead P 184 2) ⟨J3 111 [(4,.ptr 0 0),(9,.sl 1 j (dig B24 G).length 1),(11,.cv (j6 t)),(12,.cv (j6 t')),(14,.cv (j6 0))],[some [.cv (.lit (.bool false)),.cv (X3 ⟨#[]⟩)],some (own (j3 xs))]⟩ (.of Q)):
    ∀(N X Y:Nat),X+Y≤N→X%2=1→Y%2=1→(dig B24 X).length<2^40→(dig B24 Y).length<2^40→Nat.gcd X Y=G→ ∀(j1 j2:Nat) (xs ys:List Nat),Pt xs j1 X→Pt ys j2 Y→
     Ok P 184 (loopHead P 184 1) ⟨J3 111 [(4,.ptr 0 0),(9,.sl 1 j1 (dig B24 X).length 1),(10,.sl 2 j2 (dig B24 Y).length 1),(11,.cv (j6 t)),(12,.cv (j6 t'))],[some [.cv (.lit (.bool false)),.cv (X3 ⟨#[]⟩)],some (own (j3 xs)),some (own (j3 ys))]⟩ (.of Q)
 |0,X,Y,hN,hX,_,_,_,_,_,_,_,_,_,_=>by omega
 |N+1,X,Y,hN,hX,hY,lX,lY,hG,j1,j2,xs,ys,p1,p2=>by
  have v1:val B24 (List.take (dig B24 X).length (List.drop j1 xs))=X:=by rw[p1,Q6 (by decide)]
  have v2:val B24 (List.take (dig B24 Y).length (List.drop j2 ys))=Y:=by rw[p2,Q6 (by decide)]
  have a1:(dig B24 X).length=(List.take (dig B24 X).length (List.drop j1 xs)).length:=by rw[p1]
  have a2:(dig B24 Y).length=(List.take (dig B24 Y).length (List.drop j2 ys)).length:=by rw[p2]
  have b1:List.take (dig B24 X).length (List.drop j1 xs)=dig B24 (val B24 (List.take (dig B24 X).length (List.drop j1 xs))):=by rw[v1,p1]
  have b2:List.take (dig B24 Y).length (List.drop j2 ys)=dig B24 (val B24 (List.take (dig B24 Y).length (List.drop j2 ys))):=by rw[v2,p2]
  have c1:(List.take (dig B24 X).length (List.drop j1 xs)).length<2^40:=by rw[←a1];exact lX
  have c2:(List.take (dig B24 Y).length (List.drop j2 ys)).length<2^40:=by rw[←a2];exact lY
  rcases Nat.lt_trichotomy X Y with h|h|h
  · -- y's turn
    have hne:Y-X≠0:=by omega
    have hm:=Z4 (b:=B24) (by decide) (show Y-X≤Y by omega)
    obtain⟨s1,s2⟩:=z2B hne
    refine zn5 j1 _ j2 _ t t' xs ys ?_ ?_ a1 a2 b1 b2 c1 c2 a2 a1 b2 b1 c2 ?_ ?_ ?_ lY (z0c ..) (z0c ..) (z0c ..) (z0c ..) ?_ rfl ?_
    · rw[v1,v2,z1j,if_pos h];rfl
    · rw[v1,v2,z1j,if_pos h];rfl
    · rw[v1,v2];omega
    · rw[v1,v2];exact hne
    · rw[v1,v2];exact hm
    · intro b hb
      simp only[List.mem_cons,List.not_mem_nil,or_false]at hb
      rcases hb with rfl|rfl<;>exact fun cells hc=>by cases hc;exact j9 _
    · rw[v1,v2]
      refine z5C t t' G hk N X (z3n (Y-X)) (by have:=z5x (Y-X);omega) hX s2 lX ?_ ?_ j1 _ xs _ p1 ?_
      · exact Nat.lt_of_le_of_lt (Nat.le_trans (Z4 (by decide) (z5x _)) hm) lY
      · rw[←hG];exact za1 hX (by omega) s1
      · exact z3q s1 (by rw[j8];exact hm) (by omega)
  · subst h
    have hG':X=G:=by rw[←hG,Nat.gcd_self]
    subst hG'
    refine zo2 j1 _ j2 _ t t' xs ys ?_ a1 a2 b1 b2 c1 c2 (z0c ..) (z0c ..) rfl (hk j1 xs p1)
    rw[v1,v2,z1j,if_neg (by omega),if_pos rfl];rfl
  · -- x's turn
    have hne:X-Y≠0:=by omega
    have hm:=Z4 (b:=B24) (by decide) (show X-Y≤X by omega)
    obtain⟨s1,s2⟩:=z2B hne
    refine zlX j1 _ j2 _ t t' xs ys ?_ ?_ a1 a2 b1 b2 c1 c2 a1 a2 b1 b2 c1 ?_ ?_ ?_ lX (z0c ..) (z0c ..) (z0c ..) (z0c ..) ?_ rfl ?_
    · rw[v1,v2,z1j,if_neg (by omega),if_neg (by omega)];rfl
    · rw[v1,v2,z1j,if_neg (by omega),if_neg (by omega)];rfl
    · rw[v1,v2];omega
    · rw[v1,v2];exact hne
    · rw[v1,v2];exact hm
    · intro b hb
      simp only[List.mem_cons,List.not_mem_nil,or_false]at hb
      rcases hb with rfl|rfl<;>exact fun cells hc=>by cases hc;exact j9 _
    · rw[v1,v2]
      refine z5C t t' G hk N Y (z3n (X-Y)) (by have:=z5x (X-Y);omega) hY s2 lY ?_ ?_ j2 _ ys _ p2 ?_
      · exact Nat.lt_of_le_of_lt (Nat.le_trans (Z4 (by decide) (z5x _)) hm) lX
      · rw[←hG,Nat.gcd_comm X Y];exact za1 hY (by omega) s1
      · exact z3q s1 (by rw[j8];exact hm) (by omega)
theorem z10{α:Type}(x y:α):(if false=true then x else y)=y:=if_neg (by decide)
theorem zp7(t t':Nat):(if(t':Int)<(t:Int)then(t':Int)else(t:Int))=((min t t':Nat):Int):=by
 split<;>omega
theorem zaj {Q : CV → Prop} (t t' : Nat) (ht : t < 2 ^ 60) (W : Nat) (hl : (dig B24 W).length < 2 ^ 40) (hQ : Q (J6 (W : Int))) : ∀ (k i V : Nat), i + k = min t t' → 2 ^ k * V = W →
    Ok P 184 (loopHead P 184 2) ⟨J3 111 [(4,.ptr 0 0),(9,.cv (.lst (dig B24 V).length (j3 (dig B24 V)))),(11,.cv (j6 (t:Int))),(12,.cv (j6 (t':Int))),(14,.cv (j6 (i:Int)))],[some [.cv (.lit (.bool false)),.cv (X3 ⟨#[]⟩)]]⟩ (.of Q)
 |0,i,V,hi,hV=>by
  have hVW:V=W:=by simpa using hV
  subst hVW
  refine zm9 _ _ _ _ _ ?_ rfl (Y5 (by decide) _) hl ?_
  · rw[zp7];exact decide_eq_false (by omega)
  · rw[z10,Q6 (by decide)];exact hQ
 |k+1,i,V,hi,hV=>by
  have hle:V≤W:=by rw[←hV];exact Nat.le_mul_of_pos_left _ (Nat.two_pow_pos _)
  refine zmb _ _ _ _ _ ?_ rfl (Y5 (by decide) _) (Nat.lt_of_le_of_lt (Z4 (by decide) hle) hl) ⟨Int.le_refl _,by decide⟩ rfl ?_
  · rw[zp7];exact decide_eq_true (by omega)
  · rw[Q6 (by decide),w64 (by omega),Nat.add_zero]
    have:=zaj t t' ht W hl hQ k (i+1) (2*V) (by omega) (by rw[←hV,Nat.pow_succ,Nat.mul_assoc])
    rw[show((i+1:Nat):Int)=(i:Int)+1 from rfl]at this
    exact this
theorem zeN {Q : CV → Prop} (t t' : Nat) (ht : t < 2 ^ 60) (W G : Nat) (_hG : G ≠ 0) (hl : (dig B24 W).length < 2 ^ 40) (hQ : Q (J6 (W : Int))) (hW : 2 ^ (min t t') * G = W) (j : Nat) (xs : List Nat) (p : Pt xs j G) :
    Ok P 184 (loopHead P 184 2) ⟨J3 111 [(4,.ptr 0 0),(9,.sl 1 j (dig B24 G).length 1),(11,.cv (j6 (t:Int))),(12,.cv (j6 (t':Int))),(14,.cv (j6 0))],[some [.cv (.lit (.bool false)),.cv (X3 ⟨#[]⟩)],some (own (j3 xs))]⟩ (.of Q):=by
 have v1:val B24 (List.take (dig B24 G).length (List.drop j xs))=G:=by rw[p,Q6 (by decide)]
 have a1:(dig B24 G).length=(List.take (dig B24 G).length (List.drop j xs)).length:=by rw[p]
 have hle:G≤W:=by rw[←hW];exact Nat.le_mul_of_pos_left _ (Nat.two_pow_pos _)
 have lG:=Nat.lt_of_le_of_lt (Z4 (b:=B24) (by decide) hle) hl
 have hd:Dig B24 (List.take (dig B24 G).length (List.drop j xs)):=by rw[p];exact Y5 (by decide) _
 rcases Nat.eq_zero_or_pos (min t t')with h0|h0
 · rw[h0,Nat.pow_zero,Nat.one_mul]at hW
   subst hW
   refine zmU j _ t t' 0 xs ?_ a1 hd (by rw[←a1];exact lG) (z0c ..) ?_
   · rw[zp7,h0];rfl
   · rw[z10,v1];exact hQ
 · refine zm0 j _ t t' 0 xs ?_ a1 hd (by rw[←a1];exact lG) ⟨Int.le_refl _,by decide⟩ (z0c ..) rfl ?_
   · rw[zp7];exact decide_eq_true (by omega)
   · rw[v1,Nat.add_zero]
     obtain⟨k,hk⟩: ∃k,min t t'=k+1:=⟨min t t'-1,by omega⟩
     exact zaj t t' ht W hl hQ k 1 (2*G) (by omega) (by rw[←hW,hk,Nat.pow_succ,Nat.mul_assoc])
end Go.Fw
open Go
namespace Go.Fw
set_option maxRecDepth 100000
theorem zo5(n:Nat)(m:Nat)(us:List Nat)(vs:List Nat)(g1:decide (z1j (val B24 us) (val B24 vs)<(0:Int))=false)(g2:((↑m:Int)==(1:Int))=true)(s4_0:n=us.length)(s4_1:m=vs.length)(s4_2:us=dig 16777216 (val 16777216 us))(s4_3:vs=dig 16777216 (val 16777216 vs))(s4_4:us.length<2^40)(s4_5:vs.length<2^40)(s15_0:n=us.length)(s15_1:0<vs.getD 0 0)(s15_2:vs.getD 0 0<16777216)(s15_3:us.length<2^40)(s15_4:Dig 16777216 us)(s24_0:(0:Int)≤(↑(val 16777216 us%vs.getD 0 0):Int))(s24_1:(↑(val 16777216 us%vs.getD 0 0):Int)<(16777216:Int))(o3:(0:Int)≤(0:Int)∧(0:Int)<(↑m:Int))(o4:(j3 vs)[0]?=some (CV.lit (Value.int IntKind.i64 (↑(vs.getD 0 0):Int))))(o8:[MV.cv (CV.lit (Value.int IntKind.i64 (↑(val 16777216 us%vs.getD 0 0):Int)))]=[MV.cv (CV.lit (Value.int IntKind.i64 (↑(val 16777216 us%vs.getD 0 0):Int)))]):PCall P (253:FuncId) [CV.lst n (j3 us),CV.lst m (j3 vs)] (CV.tup [CV.lst (dig 16777216 (val 16777216 us/vs.getD 0 0)).length (j3 (dig 16777216 (val 16777216 us/vs.getD 0 0))),CV.lst (dig 16777216 (↑(val 16777216 us%vs.getD 0 0):Int).toNat).length (j3 (dig 16777216 (↑(val 16777216 us%vs.getD 0 0):Int).toNat))]):=
 j5 (.c (Go.Fw.rorder_v (n) (m) (us) (vs) s4_0 s4_1 s4_2 s4_3 s4_4 s4_5) (.o 4 (Or.r (CV.lit (Value.int IntKind.i64 (z1j (val 16777216 us) (val 16777216 vs))))) (.b 6 g1 (.b 10 g2 (.c o3 (.c o4 (.c (show 1=1 from(by decide)) (.c (Go.Fw.rshort_v (n) (us) (vs.getD 0 0) s15_0 s15_1 s15_2 s15_3 s15_4) (.c (Go.Fw.rtrim_f ((↑(val 16777216 us%vs.getD 0 0):Int)) s24_0 s24_1) (.c o8 (.o 14 (Or.r (CV.lit (Value.int IntKind.i64 (↑(vs.getD 0 0):Int)))) (.o 15 (Or.r (CV.tup [CV.lst (dig 16777216 (val 16777216 us/vs.getD 0 0)).length (j3 (dig 16777216 (val 16777216 us/vs.getD 0 0))),CV.lit (Value.int IntKind.i64 (↑(val 16777216 us%vs.getD 0 0):Int))])) (.o 24 (Or.r (CV.lst (dig 16777216 (↑(val 16777216 us%vs.getD 0 0):Int).toNat).length (j3 (dig 16777216 (↑(val 16777216 us%vs.getD 0 0):Int).toNat))) [[CV.lit (Value.int IntKind.i64 (↑(val 16777216 us%vs.getD 0 0):Int))]]) .nil))))))))))))) (by kernel_rfl)
theorem zm7(n:Nat)(m:Nat)(us:List Nat)(vs:List Nat)(p:Int)(g1:decide (z1j (val B24 us) (val B24 vs)<(0:Int))=false)(g2:((↑m:Int)==(1:Int))=false)(s4_0:n=us.length)(s4_1:m=vs.length)(s4_2:us=dig 16777216 (val 16777216 us))(s4_3:vs=dig 16777216 (val 16777216 vs))(s4_4:us.length<2^40)(s4_5:vs.length<2^40)(s23_0:m=vs.length)(s23_1:Dig 16777216 vs)(s23_2:vs.length<2^40)(s23_3:(0:Int)≤IntKind.i64.wrap (Int.tdiv (16777216:Int) (IntKind.i64.wrap (p+(1:Int)))))(s23_4:IntKind.i64.wrap (Int.tdiv (16777216:Int) (IntKind.i64.wrap (p+(1:Int))))<(16777216:Int))(s31_0:n=us.length)(s31_1:Dig 16777216 us)(s31_2:us.length<2^40)(s31_3:(0:Int)≤IntKind.i64.wrap (Int.tdiv (16777216:Int) (IntKind.i64.wrap (p+(1:Int)))))(s31_4:IntKind.i64.wrap (Int.tdiv (16777216:Int) (IntKind.i64.wrap (p+(1:Int))))<(16777216:Int))(o3:(0:Int)≤IntKind.i64.wrap ((↑m:Int)-(1:Int))∧IntKind.i64.wrap ((↑m:Int)-(1:Int))<(↑m:Int))(o4:(j3 vs)[(IntKind.i64.wrap ((↑m:Int)-(1:Int))).toNat*1]?=some (CV.lit (Value.int IntKind.i64 p)))(o6:IntKind.i64.wrap (p+(1:Int))≠(0:Int))(o8:[MV.cv (CV.lit (Value.int IntKind.i64 (IntKind.i64.wrap (Int.tdiv (16777216:Int) (IntKind.i64.wrap (p+(1:Int)))))))]=[MV.cv (CV.lit (Value.int IntKind.i64 (IntKind.i64.wrap (Int.tdiv (16777216:Int) (IntKind.i64.wrap (p+(1:Int)))))))])(o10:[MV.cv (CV.lit (Value.int IntKind.i64 (IntKind.i64.wrap (Int.tdiv (16777216:Int) (IntKind.i64.wrap (p+(1:Int)))))))]=[MV.cv (CV.lit (Value.int IntKind.i64 (IntKind.i64.wrap (Int.tdiv (16777216:Int) (IntKind.i64.wrap (p+(1:Int)))))))])(o11:(0+(dig 16777216 (val 16777216 us*(IntKind.i64.wrap (Int.tdiv (16777216:Int) (IntKind.i64.wrap (p+(1:Int))))).toNat)).length)*8≤1099511627776)(o12:0+(dig 16777216 (val 16777216 us*(IntKind.i64.wrap (Int.tdiv (16777216:Int) (IntKind.i64.wrap (p+(1:Int))))).toNat)).length≤1099511627776)(o14:zbI (List.take ((dig 16777216 (val 16777216 us*(IntKind.i64.wrap (Int.tdiv (16777216:Int) (IntKind.i64.wrap (p+(1:Int))))).toNat)).length*1) (List.drop 0 (own (j3 (Q7 16777216 (n+1) (val 16777216 us*(IntKind.i64.wrap (Int.tdiv (16777216:Int) (IntKind.i64.wrap (p+(1:Int))))).toNat)))))))(o15:(List.take ((dig 16777216 (val 16777216 us*(IntKind.i64.wrap (Int.tdiv (16777216:Int) (IntKind.i64.wrap (p+(1:Int))))).toNat)).length*1) (List.drop 0 (own (j3 (Q7 16777216 (n+1) (val 16777216 us*(IntKind.i64.wrap (Int.tdiv (16777216:Int) (IntKind.i64.wrap (p+(1:Int))))).toNat)))))).length=(dig 16777216 (val 16777216 us*(IntKind.i64.wrap (Int.tdiv (16777216:Int) (IntKind.i64.wrap (p+(1:Int))))).toNat)).length*1)(o16:(0+(dig 16777216 (val 16777216 us*(IntKind.i64.wrap (Int.tdiv (16777216:Int) (IntKind.i64.wrap (p+(1:Int))))).toNat)).length+2)*8≤1099511627776)(o17:0+(dig 16777216 (val 16777216 us*(IntKind.i64.wrap (Int.tdiv (16777216:Int) (IntKind.i64.wrap (p+(1:Int))))).toNat)).length+2≤1099511627776)(o18:([]++List.take ((dig 16777216 (val 16777216 us*(IntKind.i64.wrap (Int.tdiv (16777216:Int) (IntKind.i64.wrap (p+(1:Int))))).toNat)).length*1) (List.drop 0 (own (j3 (Q7 16777216 (n+1) (val 16777216 us*(IntKind.i64.wrap (Int.tdiv (16777216:Int) (IntKind.i64.wrap (p+(1:Int))))).toNat)))))).length=(0+(dig 16777216 (val 16777216 us*(IntKind.i64.wrap (Int.tdiv (16777216:Int) (IntKind.i64.wrap (p+(1:Int))))).toNat)).length)*1)(o21:(0:Int)≤IntKind.i64.wrap ((↑(0+(dig 16777216 (val 16777216 us*(IntKind.i64.wrap (Int.tdiv (16777216:Int) (IntKind.i64.wrap (p+(1:Int))))).toNat)).length+2):Int)-(↑(dig 16777216 (val 16777216 vs*(IntKind.i64.wrap (Int.tdiv (16777216:Int) (IntKind.i64.wrap (p+(1:Int))))).toNat)).length:Int))∧IntKind.i64.wrap ((↑(0+(dig 16777216 (val 16777216 us*(IntKind.i64.wrap (Int.tdiv (16777216:Int) (IntKind.i64.wrap (p+(1:Int))))).toNat)).length+2):Int)-(↑(dig 16777216 (val 16777216 vs*(IntKind.i64.wrap (Int.tdiv (16777216:Int) (IntKind.i64.wrap (p+(1:Int))))).toNat)).length:Int))≤IntKind.i64.wrap ((↑(0+(dig 16777216 (val 16777216 us*(IntKind.i64.wrap (Int.tdiv (16777216:Int) (IntKind.i64.wrap (p+(1:Int))))).toNat)).length+2):Int)-(↑(dig 16777216 (val 16777216 vs*(IntKind.i64.wrap (Int.tdiv (16777216:Int) (IntKind.i64.wrap (p+(1:Int))))).toNat)).length:Int))∧(8:Int)*IntKind.i64.wrap ((↑(0+(dig 16777216 (val 16777216 us*(IntKind.i64.wrap (Int.tdiv (16777216:Int) (IntKind.i64.wrap (p+(1:Int))))).toNat)).length+2):Int)-(↑(dig 16777216 (val 16777216 vs*(IntKind.i64.wrap (Int.tdiv (16777216:Int) (IntKind.i64.wrap (p+(1:Int))))).toNat)).length:Int))≤(140737488355328:Int)∧IntKind.i64.wrap ((↑(0+(dig 16777216 (val 16777216 us*(IntKind.i64.wrap (Int.tdiv (16777216:Int) (IntKind.i64.wrap (p+(1:Int))))).toNat)).length+2):Int)-(↑(dig 16777216 (val 16777216 vs*(IntKind.i64.wrap (Int.tdiv (16777216:Int) (IntKind.i64.wrap (p+(1:Int))))).toNat)).length:Int))≤(4611686018427387904:Int)∧1=1)(o24:CvL ([]++List.take ((dig 16777216 (val 16777216 us*(IntKind.i64.wrap (Int.tdiv (16777216:Int) (IntKind.i64.wrap (p+(1:Int))))).toNat)).length*1) (List.drop 0 (own (j3 (Q7 16777216 (n+1) (val 16777216 us*(IntKind.i64.wrap (Int.tdiv (16777216:Int) (IntKind.i64.wrap (p+(1:Int))))).toNat)))))++[MV.cv (CV.lit (Value.int IntKind.i64 (0:Int))),MV.cv (CV.lit (Value.int IntKind.i64 (0:Int)))]))(o25:CvL (List.replicate ((IntKind.i64.wrap ((↑(0+(dig 16777216 (val 16777216 us*(IntKind.i64.wrap (Int.tdiv (16777216:Int) (IntKind.i64.wrap (p+(1:Int))))).toNat)).length+2):Int)-(↑(dig 16777216 (val 16777216 vs*(IntKind.i64.wrap (Int.tdiv (16777216:Int) (IntKind.i64.wrap (p+(1:Int))))).toNat)).length:Int))).toNat*1) (MV.cv (CV.lit (Value.int IntKind.i64 (0:Int)))))){R:CV→Prop}(hR:Ok P (253:FuncId) (loopHead P (253:FuncId) 0) ⟨J3 238 [(8,MV.sl 0 0 1 1),(9,MV.sl (0+1) 0 (dig 16777216 (val 16777216 vs*(IntKind.i64.wrap (Int.tdiv (16777216:Int) (IntKind.i64.wrap (p+(1:Int))))).toNat)).length 1),(10,MV.cv (CV.lit (Value.int IntKind.i64 (↑(dig 16777216 (val 16777216 vs*(IntKind.i64.wrap (Int.tdiv (16777216:Int) (IntKind.i64.wrap (p+(1:Int))))).toNat)).length:Int)))),(11,MV.sl (0+1+1) 0 (0+(dig 16777216 (val 16777216 us*(IntKind.i64.wrap (Int.tdiv (16777216:Int) (IntKind.i64.wrap (p+(1:Int))))).toNat)).length+2) 1),(12,MV.sl (0+1+1+1) 0 (IntKind.i64.wrap ((↑(0+(dig 16777216 (val 16777216 us*(IntKind.i64.wrap (Int.tdiv (16777216:Int) (IntKind.i64.wrap (p+(1:Int))))).toNat)).length+2):Int)-(↑(dig 16777216 (val 16777216 vs*(IntKind.i64.wrap (Int.tdiv (16777216:Int) (IntKind.i64.wrap (p+(1:Int))))).toNat)).length:Int))).toNat 1),(13,MV.cv (CV.lit (Value.int IntKind.i64 (IntKind.i64.wrap (IntKind.i64.wrap ((↑(0+(dig 16777216 (val 16777216 us*(IntKind.i64.wrap (Int.tdiv (16777216:Int) (IntKind.i64.wrap (p+(1:Int))))).toNat)).length+2):Int)-(↑(dig 16777216 (val 16777216 vs*(IntKind.i64.wrap (Int.tdiv (16777216:Int) (IntKind.i64.wrap (p+(1:Int))))).toNat)).length:Int))-(1:Int))))))],[some [MV.cv (CV.lit (Value.int IntKind.i64 (IntKind.i64.wrap (Int.tdiv (16777216:Int) (IntKind.i64.wrap (p+(1:Int)))))))],some (own (j3 (Q7 16777216 (m+1) (val 16777216 vs*(IntKind.i64.wrap (Int.tdiv (16777216:Int) (IntKind.i64.wrap (p+(1:Int))))).toNat)))),some ([]++List.take ((dig 16777216 (val 16777216 us*(IntKind.i64.wrap (Int.tdiv (16777216:Int) (IntKind.i64.wrap (p+(1:Int))))).toNat)).length*1) (List.drop 0 (own (j3 (Q7 16777216 (n+1) (val 16777216 us*(IntKind.i64.wrap (Int.tdiv (16777216:Int) (IntKind.i64.wrap (p+(1:Int))))).toNat)))))++[MV.cv (CV.lit (Value.int IntKind.i64 (0:Int))),MV.cv (CV.lit (Value.int IntKind.i64 (0:Int)))]),some (List.replicate ((IntKind.i64.wrap ((↑(0+(dig 16777216 (val 16777216 us*(IntKind.i64.wrap (Int.tdiv (16777216:Int) (IntKind.i64.wrap (p+(1:Int))))).toNat)).length+2):Int)-(↑(dig 16777216 (val 16777216 vs*(IntKind.i64.wrap (Int.tdiv (16777216:Int) (IntKind.i64.wrap (p+(1:Int))))).toNat)).length:Int))).toNat*1) (MV.cv (CV.lit (Value.int IntKind.i64 (0:Int)))))]⟩ (.of R)):W6 P (253:FuncId) [CV.lst n (j3 us),CV.lst m (j3 vs)] R:=
 Y4 (keep:=[8,9,10,11,12,13]) (σ:=[1,2,7,8]) (.c (Go.Fw.rorder_v (n) (m) (us) (vs) s4_0 s4_1 s4_2 s4_3 s4_4 s4_5) (.o 4 (Or.r (CV.lit (Value.int IntKind.i64 (z1j (val 16777216 us) (val 16777216 vs))))) (.b 6 g1 (.b 10 g2 (.c o3 (.c o4 (.c (show 1=1 from(by decide)) (.c o6 (.c (Go.Fw.rtimes_h (m) (vs) (IntKind.i64.wrap (Int.tdiv (16777216:Int) (IntKind.i64.wrap (p+(1:Int))))) s23_0 s23_1 s23_2 s23_3 s23_4) (.c o8 (.c (Go.Fw.rtimes_h (n) (us) (IntKind.i64.wrap (Int.tdiv (16777216:Int) (IntKind.i64.wrap (p+(1:Int))))) s31_0 s31_1 s31_2 s31_3 s31_4) (.c o10 (.c o11 (.c o12 (.c (show 0=0 from(by decide)) (.c o14 (.c o15 (.c o16 (.c o17 (.c o18 (.c (show zbI [MV.cv (CV.lit (Value.int IntKind.i64 (0:Int))),MV.cv (CV.lit (Value.int IntKind.i64 (0:Int)))]from(by decide)) (.c (show 2=2 from(by decide)) (.c o21 (.o 16 (Or.r (j6 p)) (.o 23 (Or.g (MV.sl 0 0 (dig 16777216 (val 16777216 vs*(IntKind.i64.wrap (Int.tdiv (16777216:Int) (IntKind.i64.wrap (p+(1:Int))))).toNat)).length 1) (j3 (Q7 B24 (m+1) (val B24 vs*(IntKind.i64.wrap (Int.tdiv (16777216:Int) (IntKind.i64.wrap (p+(1:Int))))).toNat))) [[CV.lit (Value.int IntKind.i64 (IntKind.i64.wrap (Int.tdiv (16777216:Int) (IntKind.i64.wrap (p+(1:Int))))))]]) (.o 31 (Or.g (MV.sl 0 0 (dig 16777216 (val 16777216 us*(IntKind.i64.wrap (Int.tdiv (16777216:Int) (IntKind.i64.wrap (p+(1:Int))))).toNat)).length 1) (j3 (Q7 B24 (n+1) (val B24 us*(IntKind.i64.wrap (Int.tdiv (16777216:Int) (IntKind.i64.wrap (p+(1:Int))))).toNat))) [[CV.lit (Value.int IntKind.i64 (IntKind.i64.wrap (Int.tdiv (16777216:Int) (IntKind.i64.wrap (p+(1:Int))))))]]) (.o 48 .stop .nil))))))))))))))))))))))))))) (by kernel_rfl) rfl hR (.cons (by simp[CvL]) (.cons (j9 _) (.cons o24 (.cons o25 .nil))))
end Go.Fw
