/- A part of the proof that the law returns true for every input: an executor for the model's code, and what functions of the program compute. -/
import Derived.Test.YtcafjpldfnegiaaGreatDoorB11
import Derived.Test.YtcafjpldfnegiaaGreatDoorB15
import Derived.Test.YtcafjpldfnegiaaGreatDoorB28
import Derived.Test.YtcafjpldfnegiaaGreatDoorB30
import Derived.Test.YtcafjpldfnegiaaGreatDoorB31
import Derived.KernelRfl
open Go IntKind
namespace Go.Fw
set_option maxRecDepth 100000
theorem zkg(a b:Bool)(t w t' w':Nat)(hv:J1 a (bytesOf (2^t*w))=true)(hv':J1 b (bytesOf (2^t'*w'))=true)(hw:w%2=1)(hw':w'%2=1)(g1:decide ((↑(bytesOf (2^t*w)).size:Int)≤7)=false)(h1:((↑(dig 16777216 (2^t*w)).length:Int)==0)=false)(h2:((↑(dig 16777216 (2^t'*w')).length:Int)==0)=false)(d:Sml (2^t*w))(e:Sml (2^t'*w'))(g:(dig 16777216 (2^t*w)).length<2^40)(i:(dig 16777216 (2^t'*w')).length<2^40)(o8:BlksCv [some (own (j3 (dig 16777216 (2^t*w)))),some (own (j3 (Y9 (dig 16777216 (2^t*w)) (t/24) ((dig 16777216 (2^t*w)).length-t/24) w)))])(o10:BlksCv [some (own (j3 (dig 16777216 (2^t'*w')))),some (own (j3 (Y9 (dig 16777216 (2^t'*w')) (t'/24) ((dig 16777216 (2^t'*w')).length-t'/24) w')))]){R:CV→Prop}(hR:Ok P 184 (loopHead P 184 1) ⟨J3 111 [(4,.ptr 0 0),(9,.sl (0+1) (t/24) (dig 16777216 w).length 1),(10,.sl (0+1+1) (t'/24) (dig 16777216 w').length 1),(11,.cv (.lit (.int .i64 (t:Int)))),(12,.cv (.lit (.int .i64 (t':Int))))],[some [.cv (.lit (.bool false)),.cv (.lit (.string {data:= #[]}))],some (own (j3 (Y9 (dig 16777216 (2^t*w)) (t/24) ((dig 16777216 (2^t*w)).length-t/24) w))),some (own (j3 (Y9 (dig 16777216 (2^t'*w')) (t'/24) ((dig 16777216 (2^t'*w')).length-t'/24) w')))]⟩ (.of R)):W5 P 184 [.agg [.lit (.bool a),X2 (bytesOf (2^t*w))],.agg [.lit (.bool b),X2 (bytesOf (2^t'*w'))]] R:=
 Y2 (keep:=[4,9,10,11,12]) (σ:=[2,5,6]) (.c ((J2 a (bytesOf (2^t*w))).eqB hv) (.c ((J2 b (bytesOf (2^t'*w'))).eqB hv') (.o 4 (.r (.lit (.bool true))) (.o 8 (.r (.lit (.bool true))) (.b 16 g1 (.c (Q8 (2^t*w) d) (.c (Q8 (2^t'*w') e) (.o 25 (.f (.sl 0 0 (dig 16777216 (2^t*w)).length 1) (j3 (dig B24 (2^t*w)))) (.o 28 (.f (.sl 0 0 (dig 16777216 (2^t'*w')).length 1) (j3 (dig B24 (2^t'*w')))) (.b 34 h1 (.b 39 h2 (.c (z4G t w hw g) (.c o8 (.c (z4G t' w' hw' i) (.c o10 (.o 41 (.m [5] (.tup [.sl 0 (t/24) (dig 16777216 w).length 1,.cv (.lit (.int .i64 (t:Int)))]) [some (own (j3 (Y9 (dig B24 (2^t*w)) (t/24) ((dig B24 (2^t*w)).length-t/24) w)))]) (.o 48 (.m [6] (.tup [.sl 0 (t'/24) (dig 16777216 w').length 1,.cv (.lit (.int .i64 (t':Int)))]) [some (own (j3 (Y9 (dig B24 (2^t'*w')) (t'/24) ((dig B24 (2^t'*w')).length-t'/24) w')))]) (.o 54 .stop .nil)))))))))))))))))) (by kernel_rfl) rfl hR (.cons (by simp[CvL]) (.cons (J0 _) (.cons (J0 _) .nil)))
theorem zku(a b:Bool)(N M:Nat)(hv:J1 a (bytesOf N)=true)(hv':J1 b (bytesOf M)=true)(g1:decide ((↑(bytesOf N).size:Int)≤7)=false)(g3:((↑(dig B24 N).length:Int)==0)=false)(g4:((↑(dig B24 M).length:Int)==0)=true)(d:Sml N)(e:Sml M)(g:(dig 16777216 N).length=(dig 16777216 N).length)(i:(dig 16777216 M).length=(dig 16777216 M).length)(j:dig 16777216 N=dig 16777216 (val 16777216 (dig 16777216 N)))(k:dig 16777216 M=dig 16777216 (val 16777216 (dig 16777216 M)))(l:(dig 16777216 N).length<2^40)(m:(dig 16777216 M).length<2^40)(n:(dig 16777216 (val 16777216 (dig 16777216 N)+val 16777216 (dig 16777216 M))).length=(dig 16777216 (val 16777216 (dig 16777216 N)+val 16777216 (dig 16777216 M))).length)(o:Dig 16777216 (dig 16777216 (val 16777216 (dig 16777216 N)+val 16777216 (dig 16777216 M))))(p:(dig 16777216 (val 16777216 (dig 16777216 N)+val 16777216 (dig 16777216 M))).length<2^40)(o8:List.take ((dig 16777216 N).length*1) (List.drop 0 (own (j3 (dig 16777216 N))))=List.map MV.cv (j3 (dig 16777216 N)))(o9:List.take ((dig 16777216 M).length*1) (List.drop 0 (own (j3 (dig 16777216 M))))=List.map MV.cv (j3 (dig 16777216 M))):PCall P 184 [.agg [.lit (.bool a),X2 (bytesOf N)],.agg [.lit (.bool b),X2 (bytesOf M)]] (.agg [.lit (.bool (decide ((if false=true then-(↑(val B24 (dig 16777216 (val 16777216 (dig 16777216 N)+val 16777216 (dig 16777216 M)))):Int)else(↑(val B24 (dig 16777216 (val 16777216 (dig 16777216 N)+val 16777216 (dig 16777216 M)))):Int))<0))),.lit (.string (bytesOf (if false=true then-(↑(val 16777216 (dig 16777216 (val 16777216 (dig 16777216 N)+val 16777216 (dig 16777216 M)))):Int)else(↑(val 16777216 (dig 16777216 (val 16777216 (dig 16777216 N)+val 16777216 (dig 16777216 M)))):Int)).natAbs))]):=
 j5 (.r 4 ((J2 a (bytesOf N)).eqB hv) (.r 8 ((J2 b (bytesOf M)).eqB hv') (.b 16 g1 (.f 25 (Q8 N d) (.f 28 (Q8 M e) (.b 34 g3 (.b 39 g4 (.rs 42 [j3 (dig 16777216 N),j3 (dig 16777216 M)] (zdb ((dig 16777216 N).length) ((dig 16777216 M).length) (dig 16777216 N) (dig 16777216 M) g i j k l m) (.c o8 (.c o9 (.r 43 (z2o false ((dig 16777216 (val 16777216 (dig 16777216 N)+val 16777216 (dig 16777216 M))).length) (dig 16777216 (val 16777216 (dig 16777216 N)+val 16777216 (dig 16777216 M))) n o p) (.c (lq 2 2) .nil)))))))))))) (by kernel_rfl)
theorem zmm(a b:Bool)(N M:Nat)(hv:J1 a (bytesOf N)=true)(hv':J1 b (bytesOf M)=true)(g1:decide ((↑(bytesOf N).size:Int)≤7)=true)(g2:decide ((↑(bytesOf M).size:Int)≤7)=false)(g3:((↑(dig B24 N).length:Int)==0)=true)(d:Sml N)(e:Sml M)(g:(dig 16777216 N).length=(dig 16777216 N).length)(i:(dig 16777216 M).length=(dig 16777216 M).length)(j:dig 16777216 N=dig 16777216 (val 16777216 (dig 16777216 N)))(k:dig 16777216 M=dig 16777216 (val 16777216 (dig 16777216 M)))(l:(dig 16777216 N).length<2^40)(m:(dig 16777216 M).length<2^40)(n:(dig 16777216 (val 16777216 (dig 16777216 N)+val 16777216 (dig 16777216 M))).length=(dig 16777216 (val 16777216 (dig 16777216 N)+val 16777216 (dig 16777216 M))).length)(o:Dig 16777216 (dig 16777216 (val 16777216 (dig 16777216 N)+val 16777216 (dig 16777216 M))))(p:(dig 16777216 (val 16777216 (dig 16777216 N)+val 16777216 (dig 16777216 M))).length<2^40)(o8:List.take ((dig 16777216 N).length*1) (List.drop 0 (own (j3 (dig 16777216 N))))=List.map MV.cv (j3 (dig 16777216 N)))(o9:List.take ((dig 16777216 M).length*1) (List.drop 0 (own (j3 (dig 16777216 M))))=List.map MV.cv (j3 (dig 16777216 M))):PCall P 184 [.agg [.lit (.bool a),X2 (bytesOf N)],.agg [.lit (.bool b),X2 (bytesOf M)]] (.agg [.lit (.bool (decide ((if false=true then-(↑(val B24 (dig 16777216 (val 16777216 (dig 16777216 N)+val 16777216 (dig 16777216 M)))):Int)else(↑(val B24 (dig 16777216 (val 16777216 (dig 16777216 N)+val 16777216 (dig 16777216 M)))):Int))<0))),.lit (.string (bytesOf (if false=true then-(↑(val 16777216 (dig 16777216 (val 16777216 (dig 16777216 N)+val 16777216 (dig 16777216 M)))):Int)else(↑(val 16777216 (dig 16777216 (val 16777216 (dig 16777216 N)+val 16777216 (dig 16777216 M)))):Int)).natAbs))]):=
 j5 (.r 4 ((J2 a (bytesOf N)).eqB hv) (.r 8 ((J2 b (bytesOf M)).eqB hv') (.b 16 g1 (.b 22 g2 (.f 25 (Q8 N d) (.f 28 (Q8 M e) (.b 34 g3 (.rs 42 [j3 (dig 16777216 N),j3 (dig 16777216 M)] (zdb ((dig 16777216 N).length) ((dig 16777216 M).length) (dig 16777216 N) (dig 16777216 M) g i j k l m) (.c o8 (.c o9 (.r 43 (z2o false ((dig 16777216 (val 16777216 (dig 16777216 N)+val 16777216 (dig 16777216 M))).length) (dig 16777216 (val 16777216 (dig 16777216 N)+val 16777216 (dig 16777216 M))) n o p) (.c (lq 2 2) .nil)))))))))))) (by kernel_rfl)
theorem Sml.dig24{n:Nat}(h:Sml n):(dig B24 n).length<2^31:=by
 obtain⟨k,hk,hn⟩:=h.lt
 refine Nat.lt_of_le_of_lt (Z5 (by decide) (k:=k) (Nat.lt_of_lt_of_le hn (Nat.pow_le_pow_left (by decide) k))) (by omega)
theorem znU{n:Nat}(h:n≠0)(hs:Sml n):v2 n<2^60:=by
 obtain⟨k,hk,hn⟩:=hs.lt
 obtain⟨h1,h2⟩:=z2c h
 have h3:2^v2 n<2^(8*k):=by
  rw[Nat.pow_mul]
  refine Nat.lt_of_le_of_lt ?_ hn
  conv=>rhs;rw[h1]
  exact Nat.le_mul_of_pos_right _ (by omega)
 have h4:=(Nat.pow_lt_pow_iff_right (a:=2) (by decide)).1 h3
 omega
theorem zcp {Q : CV → Prop} (x y : Nat) (hx : x ≠ 0) (hy : y ≠ 0) (sx : Sml x) (sy : Sml y) (hQ : Q (J7 (Nat.gcd x y : Nat))) :
    Ok P 184 (loopHead P 184 1) ⟨J3 111 [(4,.ptr 0 0),(9,.sl 1 (v2 x/24) (dig B24 (z2U x)).length 1),(10,.sl 2 (v2 y/24) (dig B24 (z2U y)).length 1),(11,.cv (j7 (v2 x:Int))),(12,.cv (j7 (v2 y:Int)))],
     [some [.cv (.lit (.bool false)),.cv (X2 ⟨#[]⟩)],some (own (j3 (Y9 (dig B24 x) (v2 x/24) ((dig B24 x).length-v2 x/24) (z2U x)))),some (own (j3 (Y9 (dig B24 y) (v2 y/24) ((dig B24 y).length-v2 y/24) (z2U y))))]⟩ (.of Q):=by
 obtain⟨x1,x2⟩:=z2c hx
 obtain⟨y1,y2⟩:=z2c hy
 have hg:2^(min (v2 x) (v2 y))*Nat.gcd (z2U x) (z2U y)=Nat.gcd x y:=by
  rw[←zhX x2 y2,←x1,←y1]
 have lo: ∀{n:Nat},Sml n→(dig B24 (z2U n)).length<2^40:=fun {n} h=>by
  have:=Z4 (b:=B24) (by decide) (z5g n)
  have:=h.dig24
  omega
 have hgl:Nat.gcd x y≤x:=Nat.gcd_le_left _ (by omega)
 refine z5u (v2 x:Int) (v2 y:Int) (Nat.gcd (z2U x) (z2U y)) (fun j xs p=>?_) _ _ _ (Nat.le_refl _) x2 y2 (lo sx) (lo sy) rfl _ _ _ _ ?_ ?_
 · refine zdz (v2 x) (v2 y) (znU hx sx) (Nat.gcd x y) _ ?_ ?_ hQ hg j xs p
   · intro h0
     have:=Nat.eq_zero_of_gcd_eq_zero_left h0
     omega
   · have:=(sx.mono hgl).dig24;omega
 · exact z2X x1 (Nat.le_refl _) (by omega)
 · exact z2X y1 (Nat.le_refl _) (by omega)
theorem z74(z:Int)(n:Nat)(h:z.natAbs=n):J1 (decide (z<0)) (bytesOf n)=true:=by rw[←h];exact z3S z
theorem zc3(a b:Int)(ha:Sml a.natAbs)(hb:Sml b.natAbs):zoa a b:=by
 by_cases s1:a.natAbs<256^7∧b.natAbs<256^7
 · exact zlm a b s1.1 s1.2
 unfold zoa
 have gen: ∀x y:Nat,x=a.natAbs→y=b.natAbs→PCall P 184 [.agg [.lit (.bool (decide (a<0))),X2 (bytesOf x)],.agg [.lit (.bool (decide (b<0))),X2 (bytesOf y)]] (J7 (Nat.gcd x y:Nat)):=by
  intro x y hx hy
  rw[←hx]at ha
  rw[←hy]at hb
  have na:(dig 16777216 x).length<2^31:=ha.dig24
  have nb:(dig 16777216 y).length<2^31:=hb.dig24
  have bx:J1 (decide (a<0)) (bytesOf x)=true:=z74 a x hx.symm
  have by':J1 (decide (b<0)) (bytesOf y)=true:=z74 b y hy.symm
  have va:val 16777216 (dig 16777216 x)=x:=Q5 (by decide) x
  have vb:val 16777216 (dig 16777216 y)=y:=Q5 (by decide) y
  have lz: ∀{n:Nat},n≠0→(((dig 16777216 n).length:Int)==0)=false:=fun {n} h=>by
   have:(dig 16777216 n).length≠0:=fun h2=>h ((W6 (by decide)).1 h2)
   exact beq_false_of_ne (by omega)
  have ge7: ∀{n:Nat},¬n<256^7→decide (((bytesOf n).size:Int)≤7)=false:=fun {n} h=>decide_eq_false (fun h2=>h (V6.1 (by omega)))
  have le7: ∀{n:Nat},n<256^7→decide (((bytesOf n).size:Int)≤7)=true:=fun {n} h=>decide_eq_true (by have:=V6.2 h;omega)
  by_cases zx:x=0
  · have hyb: ¬y<256^7:=fun h=>s1 ⟨by rw[←hx,zx];decide,by rw[←hy];exact h⟩
    have h0:val 16777216 (dig 16777216 x)+val 16777216 (dig 16777216 y)=y:=by rw[va,vb,zx,Nat.zero_add]
    have h1:=zmm (decide (a<0)) (decide (b<0)) x y bx by' (le7 (by rw[zx];decide)) (ge7 hyb) (by rw[zx];rfl) ha hb rfl rfl (by rw[va]) (by rw[vb]) (by omega) (by omega) rfl (W1 (by decide) _) (by rw[h0];omega) (z10 _) (z10 _)
    have h2:val 16777216 (dig 16777216 (val 16777216 (dig 16777216 x)+val 16777216 (dig 16777216 y)))=Nat.gcd x y:=by rw[Q5 (by decide),h0,zx,Nat.gcd_zero_left]
    rw[h2,z0N]at h1
    exact h1
  by_cases zy:y=0
  · have hxb: ¬x<256^7:=fun h=>s1 ⟨by rw[←hx];exact h,by rw[←hy,zy];decide⟩
    have h0:val 16777216 (dig 16777216 x)+val 16777216 (dig 16777216 y)=x:=by rw[va,vb,zy,Nat.add_zero]
    have h1:=zku (decide (a<0)) (decide (b<0)) x y bx by' (ge7 hxb) (lz zx) (by rw[zy];rfl) ha hb rfl rfl (by rw[va]) (by rw[vb]) (by omega) (by omega) rfl (W1 (by decide) _) (by rw[h0];omega) (z10 _) (z10 _)
    have h2:val 16777216 (dig 16777216 (val 16777216 (dig 16777216 x)+val 16777216 (dig 16777216 y)))=Nat.gcd x y:=by rw[Q5 (by decide),h0,zy,Nat.gcd_zero_right]
    rw[h2,z0N]at h1
    exact h1
  obtain⟨x1,x2⟩:=z2c zx
  obtain⟨y1,y2⟩:=z2c zy
  have tl:=zcp (Q:=fun v=>v=J7 (Nat.gcd x y:Nat)) x y zx zy ha hb rfl
  have lzx:=lz zx
  have lzy:=lz zy
  by_cases hxs:x<256^7
  · have hyb: ¬y<256^7:=fun h=>s1 ⟨by rw[←hx];exact hxs,by rw[←hy];exact h⟩
    have hyg:=ge7 hyb
    have hxl:=le7 hxs
    rw[x1]at bx hxl lzx ha na
    rw[y1]at by' hyg lzy hb nb
    have:=zlL (decide (a<0)) (decide (b<0)) (v2 x) (z2U x) (v2 y) (z2U y) bx by' x2 y2 hxl hyg lzx lzy ha hb (by omega) (by omega) (BlksCv.two (J0 _) (J0 _)) (BlksCv.two (J0 _) (J0 _)) (R:=fun v=>v=J7 (Nat.gcd x y:Nat))
    rw[←x1,←y1]at this
    exact V0 (this tl)
  · have hxg:=ge7 hxs
    rw[x1]at bx hxg lzx ha na
    rw[y1]at by' lzy hb nb
    have:=zkg (decide (a<0)) (decide (b<0)) (v2 x) (z2U x) (v2 y) (z2U y) bx by' x2 y2 hxg lzx lzy ha hb (by omega) (by omega) (BlksCv.two (J0 _) (J0 _)) (BlksCv.two (J0 _) (J0 _)) (R:=fun v=>v=J7 (Nat.gcd x y:Nat))
    rw[←x1,←y1]at this
    exact V0 (this tl)
 exact gen _ _ rfl rfl
theorem vd(n:Nat):val B24 (dig B24 n)=n:=Q5 (by decide) n
theorem za3(b:Bool)(n:Nat)(hl:(dig B24 n).length<2^40):PCall P 196 [.lit (.bool b),.lst (dig B24 n).length (j3 (dig B24 n))] (J7 (if b then-(n:Int)else n)):=by
 have:=z2o b (dig B24 n).length (dig B24 n) rfl (W1 (by decide) _) hl
 rwa[vd]at this
theorem zcU(a b:Nat)(ha:(dig B24 a).length<2^40)(hb:(dig B24 b).length<2^40):PCall P 197 [.lst (dig B24 a).length (j3 (dig B24 a)),.lst (dig B24 b).length (j3 (dig B24 b))] (z4d (a+b)):=z5L a b ha hb
theorem z6l(a b:Nat)(ha:(dig B24 a).length<2^40)(hb:b≤a):PCall P 199 [.lst (dig B24 a).length (j3 (dig B24 a)),.lst (dig B24 b).length (j3 (dig B24 b))] (z4d (a-b)):=by
 have hm:=Z4 (b:=B24) (by decide) (Nat.sub_le a b)
 have:=(z5Q a b ha hb).pcall (by rw[Q9,j8];omega)
 have e:List.take ((dig B24 (a-b)).length*1) (List.drop 0 (j3 (Z1 B24 (dig B24 a).length (a-b))))=j3 (dig B24 (a-b)):=by
  have h1:=z3K B24 _ _ (a-b) hm
  rw[z1N (by decide)]at h1
  rw[Nat.mul_one,List.drop_zero]
  simp only[j3,←List.map_take,h1]
 rw[e]at this
 exact this
theorem zdv(a b:Nat)(ha:(dig B24 a).length<2^40)(hb:(dig B24 b).length<2^40):PCall P 200 [.lst (dig B24 a).length (j3 (dig B24 a)),.lst (dig B24 b).length (j3 (dig B24 b))] (z4d (a*b)):=by
 have:=zfu _ _ (dig B24 a) (dig B24 b) rfl rfl (W1 (by decide) _) (W1 (by decide) _) ha hb
 rwa[vd,vd]at this
theorem z4r(a b:Nat)(ha:(dig B24 a).length<2^40)(hb:(dig B24 b).length<2^40):PCall P 198 [.lst (dig B24 a).length (j3 (dig B24 a)),.lst (dig B24 b).length (j3 (dig B24 b))] (j7 (z1W a b)):=z4L a b (by omega) (by omega)
theorem z03(z:Int):PCall P 194 [J7 z] (.tup [j7 (if z.natAbs<72057594037927936 then z else 0),.lit (.bool (decide (z.natAbs<72057594037927936)))]):=by
 by_cases h:z.natAbs<72057594037927936
 · rw[if_pos h,decide_eq_true h];exact z1G z h
 · rw[if_neg h,decide_eq_false h];exact z9S z (Nat.le_of_not_lt h)
theorem zmY(a b:Int)(h1:(decide (a.natAbs<72057594037927936))=true)(h2:(decide (b.natAbs<72057594037927936))=true)(d:(-9223372036854775808:Int)≤i64.wrap ((if a.natAbs<72057594037927936 then a else(0:Int))+if b.natAbs<72057594037927936 then b else(0:Int))∧i64.wrap ((if a.natAbs<72057594037927936 then a else(0:Int))+if b.natAbs<72057594037927936 then b else(0:Int))≤9223372036854775807):PCall P 127 [J7 a,J7 b] (.agg [.lit (.bool (decide (i64.wrap ((if a.natAbs<72057594037927936 then a else(0:Int))+if b.natAbs<72057594037927936 then b else(0:Int))<0))),.lit (.string (bytesOf (i64.wrap ((if a.natAbs<72057594037927936 then a else(0:Int))+if b.natAbs<72057594037927936 then b else(0:Int))).natAbs))]):=
 j5 (.r 4 (J8 a) (.r 8 (J8 b) (.r 13 (z03 a) (.b 20 h1 (.r 22 (z03 b) (.b 29 h2 (.r 33 (z0J (i64.wrap ((if a.natAbs<72057594037927936 then a else(0:Int))+if b.natAbs<72057594037927936 then b else(0:Int))) d) (.c (lq 2 2) .nil)))))))) (by kernel_rfl)
theorem zn2(a b:Int)(h1:(decide (a.natAbs<72057594037927936))=true)(h2:(decide (b.natAbs<72057594037927936))=false)(h3:(decide (a<0)==decide (b<0))=true)(d:Sml a.natAbs)(e:Sml b.natAbs)(g:(dig 16777216 a.natAbs).length<2^40)(i:(dig 16777216 b.natAbs).length<2^40)(j:(dig 16777216 (a.natAbs+b.natAbs)).length<2^40)(o10:List.take ((dig 16777216 a.natAbs).length*1) (List.drop 0 (own (j3 (dig 16777216 a.natAbs))))=List.map MV.cv (j3 (dig 16777216 a.natAbs)))(o11:List.take ((dig 16777216 b.natAbs).length*1) (List.drop 0 (own (j3 (dig 16777216 b.natAbs))))=List.map MV.cv (j3 (dig 16777216 b.natAbs))):PCall P 127 [J7 a,J7 b] (.agg [.lit (.bool (decide ((if decide (a<0)=true then-(↑(a.natAbs+b.natAbs):Int)else(↑(a.natAbs+b.natAbs):Int))<0))),.lit (.string (bytesOf (if decide (a<0)=true then-(↑(a.natAbs+b.natAbs):Int)else(↑(a.natAbs+b.natAbs):Int)).natAbs))]):=
 j5 (.r 4 (J8 a) (.r 8 (J8 b) (.r 13 (z03 a) (.b 20 h1 (.r 22 (z03 b) (.b 29 h2 (.f 32 (Q8 a.natAbs d) (.f 35 (Q8 b.natAbs e) (.b 44 h3 (.rs 49 [j3 (dig 16777216 a.natAbs),j3 (dig 16777216 b.natAbs)] (zcU a.natAbs b.natAbs g i) (.c o10 (.c o11 (.r 50 (za3 (decide (a<0)) (a.natAbs+b.natAbs) j) (.c (lq 2 2) .nil)))))))))))))) (by kernel_rfl)
theorem zlS(a b:Int)(h1:(decide (a.natAbs<72057594037927936))=true)(h2:(decide (b.natAbs<72057594037927936))=false)(h3:(decide (a<0)==decide (b<0))=false)(h4:(decide (z1W a.natAbs b.natAbs≥0))=false)(d:Sml a.natAbs)(e:Sml b.natAbs)(g:(dig 16777216 a.natAbs).length<2^40)(i j:(dig 16777216 b.natAbs).length<2^40)(l:a.natAbs≤b.natAbs)(m:(dig 16777216 (b.natAbs-a.natAbs)).length<2^40)(o10:List.take ((dig 16777216 a.natAbs).length*1) (List.drop 0 (own (j3 (dig 16777216 a.natAbs))))=List.map MV.cv (j3 (dig 16777216 a.natAbs)))(o11 o14:List.take ((dig 16777216 b.natAbs).length*1) (List.drop 0 (own (j3 (dig 16777216 b.natAbs))))=List.map MV.cv (j3 (dig 16777216 b.natAbs)))(o15:List.take ((dig 16777216 a.natAbs).length*1) (List.drop 0 (own (j3 (dig 16777216 a.natAbs))))=List.map MV.cv (j3 (dig 16777216 a.natAbs))):PCall P 127 [J7 a,J7 b] (.agg [.lit (.bool (decide ((if decide (b<0)=true then-(↑(b.natAbs-a.natAbs):Int)else(↑(b.natAbs-a.natAbs):Int))<0))),.lit (.string (bytesOf (if decide (b<0)=true then-(↑(b.natAbs-a.natAbs):Int)else(↑(b.natAbs-a.natAbs):Int)).natAbs))]):=
 j5 (.c (J8 a) (.c (J8 b) (.c (z03 a) (.o 4 (.r (.lit (.bool true))) (.o 8 (.r (.lit (.bool true))) (.o 13 (.r (.tup [.lit (.int .i64 (if a.natAbs<72057594037927936 then a else(0:Int))),.lit (.bool (decide (a.natAbs<72057594037927936)))])) (.b 20 h1 (.c (z03 b) (.o 22 (.r (.tup [.lit (.int .i64 (if b.natAbs<72057594037927936 then b else(0:Int))),.lit (.bool (decide (b.natAbs<72057594037927936)))])) (.b 29 h2 (.c (Q8 a.natAbs d) (.c (Q8 b.natAbs e) (.o 32 (.f (.sl 0 0 (dig 16777216 a.natAbs).length 1) (j3 (dig B24 a.natAbs))) (.o 35 (.f (.sl 0 0 (dig 16777216 b.natAbs).length 1) (j3 (dig B24 b.natAbs))) (.b 44 h3 (.c (z4r a.natAbs b.natAbs g i) (.c o10 (.c o11 (.o 47 (.k (.lit (.int .i64 (z1W a.natAbs b.natAbs))) [j3 (dig 16777216 a.natAbs),j3 (dig 16777216 b.natAbs)]) (.b 50 h4 (.c (z6l b.natAbs a.natAbs j l) (.c o14 (.c o15 (.c (za3 (decide (b<0)) (b.natAbs-a.natAbs) m) (.c (lq 2 2) (.o 55 (.r (.lst (dig 16777216 (b.natAbs-a.natAbs)).length (j3 (dig 16777216 (b.natAbs-a.natAbs)))) [j3 (dig 16777216 b.natAbs),j3 (dig 16777216 a.natAbs)]) (.o 56 (.r (.agg [.lit (.bool (decide ((if decide (b<0)=true then-(↑(b.natAbs-a.natAbs):Int)else(↑(b.natAbs-a.natAbs):Int))<0))),.lit (.string (bytesOf (if decide (b<0)=true then-(↑(b.natAbs-a.natAbs):Int)else(↑(b.natAbs-a.natAbs):Int)).natAbs))])) .nil))))))))))))))))))))))))))) (by kernel_rfl)
theorem zmp(a b:Int)(h1:(decide (a.natAbs<72057594037927936))=false)(h2:(decide (a<0)==decide (b<0))=true)(d:Sml a.natAbs)(e:Sml b.natAbs)(g:(dig 16777216 a.natAbs).length<2^40)(i:(dig 16777216 b.natAbs).length<2^40)(j:(dig 16777216 (a.natAbs+b.natAbs)).length<2^40)(o8:List.take ((dig 16777216 a.natAbs).length*1) (List.drop 0 (own (j3 (dig 16777216 a.natAbs))))=List.map MV.cv (j3 (dig 16777216 a.natAbs)))(o9:List.take ((dig 16777216 b.natAbs).length*1) (List.drop 0 (own (j3 (dig 16777216 b.natAbs))))=List.map MV.cv (j3 (dig 16777216 b.natAbs))):PCall P 127 [J7 a,J7 b] (.agg [.lit (.bool (decide ((if decide (a<0)=true then-(↑(a.natAbs+b.natAbs):Int)else(↑(a.natAbs+b.natAbs):Int))<0))),.lit (.string (bytesOf (if decide (a<0)=true then-(↑(a.natAbs+b.natAbs):Int)else(↑(a.natAbs+b.natAbs):Int)).natAbs))]):=
 j5 (.r 4 (J8 a) (.r 8 (J8 b) (.r 13 (z03 a) (.b 20 h1 (.f 23 (Q8 a.natAbs d) (.f 26 (Q8 b.natAbs e) (.b 35 h2 (.rs 40 [j3 (dig 16777216 a.natAbs),j3 (dig 16777216 b.natAbs)] (zcU a.natAbs b.natAbs g i) (.c o8 (.c o9 (.r 41 (za3 (decide (a<0)) (a.natAbs+b.natAbs) j) (.c (lq 2 2) .nil)))))))))))) (by kernel_rfl)
theorem zl0(a b:Int)(h1:(decide (a.natAbs<72057594037927936))=false)(h2:(decide (a<0)==decide (b<0))=false)(h3:(decide (z1W a.natAbs b.natAbs≥0))=true)(d:Sml a.natAbs)(e:Sml b.natAbs)(g:(dig 16777216 a.natAbs).length<2^40)(i:(dig 16777216 b.natAbs).length<2^40)(j:(dig 16777216 a.natAbs).length<2^40)(l:b.natAbs≤a.natAbs)(m:(dig 16777216 (a.natAbs-b.natAbs)).length<2^40)(o8:List.take ((dig 16777216 a.natAbs).length*1) (List.drop 0 (own (j3 (dig 16777216 a.natAbs))))=List.map MV.cv (j3 (dig 16777216 a.natAbs)))(o9:List.take ((dig 16777216 b.natAbs).length*1) (List.drop 0 (own (j3 (dig 16777216 b.natAbs))))=List.map MV.cv (j3 (dig 16777216 b.natAbs)))(o12:List.take ((dig 16777216 a.natAbs).length*1) (List.drop 0 (own (j3 (dig 16777216 a.natAbs))))=List.map MV.cv (j3 (dig 16777216 a.natAbs)))(o13:List.take ((dig 16777216 b.natAbs).length*1) (List.drop 0 (own (j3 (dig 16777216 b.natAbs))))=List.map MV.cv (j3 (dig 16777216 b.natAbs))):PCall P 127 [J7 a,J7 b] (.agg [.lit (.bool (decide ((if decide (a<0)=true then-(↑(a.natAbs-b.natAbs):Int)else(↑(a.natAbs-b.natAbs):Int))<0))),.lit (.string (bytesOf (if decide (a<0)=true then-(↑(a.natAbs-b.natAbs):Int)else(↑(a.natAbs-b.natAbs):Int)).natAbs))]):=
 j5 (.c (J8 a) (.c (J8 b) (.c (z03 a) (.o 4 (.r (.lit (.bool true))) (.o 8 (.r (.lit (.bool true))) (.o 13 (.r (.tup [.lit (.int .i64 (if a.natAbs<72057594037927936 then a else(0:Int))),.lit (.bool (decide (a.natAbs<72057594037927936)))])) (.b 20 h1 (.c (Q8 a.natAbs d) (.c (Q8 b.natAbs e) (.o 23 (.f (.sl 0 0 (dig 16777216 a.natAbs).length 1) (j3 (dig B24 a.natAbs))) (.o 26 (.f (.sl 0 0 (dig 16777216 b.natAbs).length 1) (j3 (dig B24 b.natAbs))) (.b 35 h2 (.c (z4r a.natAbs b.natAbs g i) (.c o8 (.c o9 (.o 38 (.k (.lit (.int .i64 (z1W a.natAbs b.natAbs))) [j3 (dig 16777216 a.natAbs),j3 (dig 16777216 b.natAbs)]) (.b 41 h3 (.c (z6l a.natAbs b.natAbs j l) (.c o12 (.c o13 (.c (za3 (decide (a<0)) (a.natAbs-b.natAbs) m) (.c (lq 2 2) (.o 46 (.r (.lst (dig 16777216 (a.natAbs-b.natAbs)).length (j3 (dig 16777216 (a.natAbs-b.natAbs)))) [j3 (dig 16777216 a.natAbs),j3 (dig 16777216 b.natAbs)]) (.o 47 (.r (.agg [.lit (.bool (decide ((if decide (a<0)=true then-(↑(a.natAbs-b.natAbs):Int)else(↑(a.natAbs-b.natAbs):Int))<0))),.lit (.string (bytesOf (if decide (a<0)=true then-(↑(a.natAbs-b.natAbs):Int)else(↑(a.natAbs-b.natAbs):Int)).natAbs))])) .nil)))))))))))))))))))))))) (by kernel_rfl)
theorem zke(a b:Int)(h1:(decide (a.natAbs<72057594037927936))=false)(h2:(decide (a<0)==decide (b<0))=false)(h3:(decide (z1W a.natAbs b.natAbs≥0))=false)(d:Sml a.natAbs)(e:Sml b.natAbs)(g:(dig 16777216 a.natAbs).length<2^40)(i j:(dig 16777216 b.natAbs).length<2^40)(l:a.natAbs≤b.natAbs)(m:(dig 16777216 (b.natAbs-a.natAbs)).length<2^40)(o8:List.take ((dig 16777216 a.natAbs).length*1) (List.drop 0 (own (j3 (dig 16777216 a.natAbs))))=List.map MV.cv (j3 (dig 16777216 a.natAbs)))(o9 o12:List.take ((dig 16777216 b.natAbs).length*1) (List.drop 0 (own (j3 (dig 16777216 b.natAbs))))=List.map MV.cv (j3 (dig 16777216 b.natAbs)))(o13:List.take ((dig 16777216 a.natAbs).length*1) (List.drop 0 (own (j3 (dig 16777216 a.natAbs))))=List.map MV.cv (j3 (dig 16777216 a.natAbs))):PCall P 127 [J7 a,J7 b] (.agg [.lit (.bool (decide ((if decide (b<0)=true then-(↑(b.natAbs-a.natAbs):Int)else(↑(b.natAbs-a.natAbs):Int))<0))),.lit (.string (bytesOf (if decide (b<0)=true then-(↑(b.natAbs-a.natAbs):Int)else(↑(b.natAbs-a.natAbs):Int)).natAbs))]):=
 j5 (.c (J8 a) (.c (J8 b) (.c (z03 a) (.o 4 (.r (.lit (.bool true))) (.o 8 (.r (.lit (.bool true))) (.o 13 (.r (.tup [.lit (.int .i64 (if a.natAbs<72057594037927936 then a else(0:Int))),.lit (.bool (decide (a.natAbs<72057594037927936)))])) (.b 20 h1 (.c (Q8 a.natAbs d) (.c (Q8 b.natAbs e) (.o 23 (.f (.sl 0 0 (dig 16777216 a.natAbs).length 1) (j3 (dig B24 a.natAbs))) (.o 26 (.f (.sl 0 0 (dig 16777216 b.natAbs).length 1) (j3 (dig B24 b.natAbs))) (.b 35 h2 (.c (z4r a.natAbs b.natAbs g i) (.c o8 (.c o9 (.o 38 (.k (.lit (.int .i64 (z1W a.natAbs b.natAbs))) [j3 (dig 16777216 a.natAbs),j3 (dig 16777216 b.natAbs)]) (.b 41 h3 (.c (z6l b.natAbs a.natAbs j l) (.c o12 (.c o13 (.c (za3 (decide (b<0)) (b.natAbs-a.natAbs) m) (.c (lq 2 2) (.o 46 (.r (.lst (dig 16777216 (b.natAbs-a.natAbs)).length (j3 (dig 16777216 (b.natAbs-a.natAbs)))) [j3 (dig 16777216 b.natAbs),j3 (dig 16777216 a.natAbs)]) (.o 47 (.r (.agg [.lit (.bool (decide ((if decide (b<0)=true then-(↑(b.natAbs-a.natAbs):Int)else(↑(b.natAbs-a.natAbs):Int))<0))),.lit (.string (bytesOf (if decide (b<0)=true then-(↑(b.natAbs-a.natAbs):Int)else(↑(b.natAbs-a.natAbs):Int)).natAbs))])) .nil)))))))))))))))))))))))) (by kernel_rfl)
theorem zmR(a b:Int)(h1:(decide (i64.wrap ((↑(bytesOf a.natAbs).size:Int)+(↑(bytesOf b.natAbs).size:Int))≤7))=true)(d:a.natAbs<256^7)(e:b.natAbs<256^7)(f:(-9223372036854775808:Int)≤i64.wrap (a*b)∧i64.wrap (a*b)≤9223372036854775807):PCall P 128 [J7 a,J7 b] (.agg [.lit (.bool (decide (i64.wrap (a*b)<0))),.lit (.string (bytesOf (i64.wrap (a*b)).natAbs))]):=
 j5 (.r 4 (J8 a) (.r 8 (J8 b) (.b 20 h1 (.r 22 (z1G a d) (.r 29 (z1G b e) (.r 38 (z0J (i64.wrap (a*b)) f) (.c (lq 2 2) .nil))))))) (by kernel_rfl)
theorem zlh(a b:Int)(h1:(decide (i64.wrap ((↑(bytesOf a.natAbs).size:Int)+(↑(bytesOf b.natAbs).size:Int))≤7))=false)(d:Sml a.natAbs)(e:Sml b.natAbs)(g:(dig 16777216 a.natAbs).length<2^40)(i:(dig 16777216 b.natAbs).length<2^40)(j:(dig 16777216 (a.natAbs*b.natAbs)).length<2^40)(o6:List.take ((dig 16777216 a.natAbs).length*1) (List.drop 0 (own (j3 (dig 16777216 a.natAbs))))=List.map MV.cv (j3 (dig 16777216 a.natAbs)))(o7:List.take ((dig 16777216 b.natAbs).length*1) (List.drop 0 (own (j3 (dig 16777216 b.natAbs))))=List.map MV.cv (j3 (dig 16777216 b.natAbs))):PCall P 128 [J7 a,J7 b] (.agg [.lit (.bool (decide ((if(!decide (a<0)==decide (b<0))=true then-(↑(a.natAbs*b.natAbs):Int)else(↑(a.natAbs*b.natAbs):Int))<0))),.lit (.string (bytesOf (if(!decide (a<0)==decide (b<0))=true then-(↑(a.natAbs*b.natAbs):Int)else(↑(a.natAbs*b.natAbs):Int)).natAbs))]):=
 j5 (.r 4 (J8 a) (.r 8 (J8 b) (.b 20 h1 (.f 28 (Q8 a.natAbs d) (.f 31 (Q8 b.natAbs e) (.rs 32 [j3 (dig 16777216 a.natAbs),j3 (dig 16777216 b.natAbs)] (zdv a.natAbs b.natAbs g i) (.c o6 (.c o7 (.r 33 (za3 (!decide (a<0)==decide (b<0)) (a.natAbs*b.natAbs) j) (.c (lq 2 2) .nil)))))))))) (by kernel_rfl)
theorem zmf(a b:Int)(h1:(a.sign != b.sign)=true)(h2:(decide (a.sign<b.sign))=true):PCall P 213 [J7 a,J7 b] (.lit (.int .i64 (-1:Int))):=
 j5 (.r 4 (J8 a) (.r 8 (J8 b) (.r 13 (Z3 a) (.r 15 (Z3 b) (.b 21 h1 (.b 25 h2 .nil)))))) (by kernel_rfl)
theorem zki(a b:Int)(h1:(a.sign != b.sign)=true)(h2:(decide (a.sign<b.sign))=false):PCall P 213 [J7 a,J7 b] (.lit (.int .i64 1)):=
 j5 (.r 4 (J8 a) (.r 8 (J8 b) (.r 13 (Z3 a) (.r 15 (Z3 b) (.b 21 h1 (.b 25 h2 .nil)))))) (by kernel_rfl)
theorem zl2(a b:Int)(h1:(a.sign != b.sign)=false)(d:Sml a.natAbs)(e:Sml b.natAbs)(g:(dig 16777216 a.natAbs).length<2^40)(i:(dig 16777216 b.natAbs).length<2^40)(o8:List.take ((dig 16777216 a.natAbs).length*1) (List.drop 0 (own (j3 (dig 16777216 a.natAbs))))=List.map MV.cv (j3 (dig 16777216 a.natAbs)))(o9:List.take ((dig 16777216 b.natAbs).length*1) (List.drop 0 (own (j3 (dig 16777216 b.natAbs))))=List.map MV.cv (j3 (dig 16777216 b.natAbs))):PCall P 213 [J7 a,J7 b] (.lit (.int .i64 (i64.wrap (a.sign*z1W a.natAbs b.natAbs)))):=
 j5 (.c (J8 a) (.c (J8 b) (.c (Z3 a) (.c (Z3 b) (.o 4 (.r (.lit (.bool true))) (.o 8 (.r (.lit (.bool true))) (.o 13 (.r (.lit (.int .i64 a.sign))) (.o 15 (.r (.lit (.int .i64 b.sign))) (.b 21 h1 (.c (Q8 a.natAbs d) (.c (Q8 b.natAbs e) (.c (z4r a.natAbs b.natAbs g i) (.c o8 (.c o9 (.o 25 (.f (.sl 0 0 (dig 16777216 a.natAbs).length 1) (j3 (dig B24 a.natAbs))) (.o 28 (.f (.sl 0 0 (dig 16777216 b.natAbs).length 1) (j3 (dig B24 b.natAbs))) (.o 29 (.k (.lit (.int .i64 (z1W a.natAbs b.natAbs))) [j3 (dig 16777216 a.natAbs),j3 (dig 16777216 b.natAbs)]) .nil))))))))))))))))) (by kernel_rfl)
theorem zdi{n:Nat}(h:Sml n):(dig 16777216 n).length<2^40:=by have:(dig 16777216 n).length<2^31:=h.dig24;omega
theorem z8g{a b:Nat}:z1W a b≥0↔b≤a:=by
 have:=zeC (a:=a) (b:=b)
 omega
theorem z9z{a b:Int}(h:(decide (a<0)==decide (b<0))=true):(if decide (a<0)=true then-((a.natAbs+b.natAbs:Nat):Int)else((a.natAbs+b.natAbs:Nat):Int))=a+b:=by
 simp only[decide_eq_true_eq]
 rw[beq_iff_eq,decide_eq_decide]at h
 split<;>omega
theorem z8V{a b:Int}(h:(decide (a<0)==decide (b<0))=false)(hle:b.natAbs≤a.natAbs):(if decide (a<0)=true then-((a.natAbs-b.natAbs:Nat):Int)else((a.natAbs-b.natAbs:Nat):Int))=a+b:=by
 simp only[decide_eq_true_eq]
 rw[beq_eq_false_iff_ne,Ne,decide_eq_decide]at h
 split<;>omega
theorem z7M{a b:Int}(h:(decide (a<0)==decide (b<0))=false)(hle:a.natAbs≤b.natAbs):(if decide (b<0)=true then-((b.natAbs-a.natAbs:Nat):Int)else((b.natAbs-a.natAbs:Nat):Int))=a+b:=by
 rw[z8V (a:=b) (b:=a) (by rw[beq_eq_false_iff_ne]at h ⊢;exact fun e=>h e.symm) hle,Int.add_comm]
theorem z7H(a b:Int)(ha:Sml a.natAbs)(hb:Sml b.natAbs)(hs:Sml (a.natAbs+b.natAbs)):PCall P 127 [J7 a,J7 b] (J7 (a+b)):=by
 have la:=zdi ha
 have lb:=zdi hb
 have ls:=zdi hs
 have ld:=zdi (hs.mono (show a.natAbs-b.natAbs≤a.natAbs+b.natAbs by omega))
 have ld':=zdi (hs.mono (show b.natAbs-a.natAbs≤a.natAbs+b.natAbs by omega))
 have oa:=z10 (dig 16777216 a.natAbs)
 have ob:=z10 (dig 16777216 b.natAbs)
 by_cases h1:a.natAbs<72057594037927936
 · by_cases h2:b.natAbs<72057594037927936
   · have:=zmY a b (decide_eq_true h1) (decide_eq_true h2) (by rw[if_pos h1,if_pos h2,w64 (by omega)];omega)
     rw[if_pos h1,if_pos h2,w64 (by omega)]at this
     exact this
   · cases h3:(decide (a<0)==decide (b<0))
     · by_cases h4:b.natAbs≤a.natAbs
       · omega
       · have:=zlS a b (decide_eq_true h1) (decide_eq_false h2) h3 (decide_eq_false (fun h=>h4 (z8g.1 h))) ha hb la lb lb (by omega) ld' oa ob ob oa
         rw[z7M h3 (by omega)]at this
         exact this
     · have:=zn2 a b (decide_eq_true h1) (decide_eq_false h2) h3 ha hb la lb ls oa ob
       rw[z9z h3]at this
       exact this
 · cases h3:(decide (a<0)==decide (b<0))
   · by_cases h4:b.natAbs≤a.natAbs
     · have:=zl0 a b (decide_eq_false h1) h3 (decide_eq_true (z8g.2 h4)) ha hb la lb la h4 ld oa ob oa ob
       rw[z8V h3 h4]at this
       exact this
     · have:=zke a b (decide_eq_false h1) h3 (decide_eq_false (fun h=>h4 (z8g.1 h))) ha hb la lb lb (by omega) ld' oa ob ob oa
       rw[z7M h3 (by omega)]at this
       exact this
   · have:=zmp a b (decide_eq_false h1) h3 ha hb la lb ls oa ob
     rw[z9z h3]at this
     exact this
theorem sgn_mul{a b:Int}:(if(!(decide (a<0)==decide (b<0)))=true then-((a.natAbs*b.natAbs:Nat):Int)else((a.natAbs*b.natAbs:Nat):Int))=a*b:=by
 have e:(a*b).natAbs=a.natAbs*b.natAbs:=Int.natAbs_mul a b
 rw[←e]
 rcases Int.lt_or_le a 0 with ha|ha<;>rcases Int.lt_or_le b 0 with hb|hb
 · have hp:0<a*b:=Int.mul_pos_of_neg_of_neg ha hb
   generalize a*b=p at*
   rw[decide_eq_true ha,decide_eq_true hb,if_neg (by decide)];omega
 · have hp:a*b≤0:=Int.mul_nonpos_of_nonpos_of_nonneg (by omega) hb
   generalize a*b=p at*
   rw[decide_eq_true ha,decide_eq_false (by omega),if_pos (by decide)];omega
 · have hp:a*b≤0:=Int.mul_nonpos_of_nonneg_of_nonpos ha (by omega)
   generalize a*b=p at*
   rw[decide_eq_false (by omega),decide_eq_true hb,if_pos (by decide)];omega
 · have hp:0≤a*b:=Int.mul_nonneg ha hb
   generalize a*b=p at*
   rw[decide_eq_false (by omega),decide_eq_false (by omega),if_neg (by decide)];omega
theorem z4X(a b:Int)(ha:Sml a.natAbs)(hb:Sml b.natAbs)(hs:Sml (a.natAbs*b.natAbs)):PCall P 128 [J7 a,J7 b] (J7 (a*b)):=by
 have sa:=ha.size
 have sb:=hb.size
 have hw:i64.wrap (((bytesOf a.natAbs).size:Int)+((bytesOf b.natAbs).size:Int))=(((bytesOf a.natAbs).size+(bytesOf b.natAbs).size:Nat):Int):=by rw[w64 (by omega)];omega
 by_cases h1:(bytesOf a.natAbs).size+(bytesOf b.natAbs).size≤7
 · have k1:a.natAbs<256^(bytesOf a.natAbs).size:=V6.1 (Nat.le_refl _)
   have k2:b.natAbs<256^(bytesOf b.natAbs).size:=V6.1 (Nat.le_refl _)
   have k3:a.natAbs*b.natAbs<256^7:=by
    refine Nat.lt_of_lt_of_le (Nat.mul_lt_mul'' k1 k2) ?_
    rw[←Nat.pow_add]
    exact Nat.pow_le_pow_right (by decide) h1
   have l1:a.natAbs<256^7:=Nat.lt_of_lt_of_le k1 (Nat.pow_le_pow_right (by decide) (by omega))
   have l2:b.natAbs<256^7:=Nat.lt_of_lt_of_le k2 (Nat.pow_le_pow_right (by decide) (by omega))
   have e:(a*b).natAbs=a.natAbs*b.natAbs:=Int.natAbs_mul a b
   rw[←e]at k3
   have hw2:i64.wrap (a*b)=a*b:=by
    generalize a*b=p at*
    exact w64 (by omega)
   have:=zmR a b (by rw[hw];exact decide_eq_true (by omega)) l1 l2 (by
    rw[hw2]
    generalize a*b=p at*
    omega)
   rw[hw2]at this
   exact this
 · have:=zlh a b (by rw[hw];exact decide_eq_false (by omega)) ha hb (zdi ha) (zdi hb) (zdi hs) (z10 _) (z10 _)
   rw[sgn_mul]at this
   exact this
theorem zaO(a b:Int)(ha:Sml a.natAbs)(hb:Sml b.natAbs):PCall P 213 [J7 a,J7 b] (j7 (if a<b then-1 else if a=b then 0 else 1)):=by
 have la:=zdi ha
 have lb:=zdi hb
 have oa:=z10 (dig 16777216 a.natAbs)
 have ob:=z10 (dig 16777216 b.natAbs)
 have sa:a.sign= -1∧a<0∨a.sign=0∧a=0∨a.sign=1∧0<a:=by
  rcases Int.lt_trichotomy a 0 with h|h|h
  · exact .inl ⟨Int.sign_eq_neg_one_of_neg h,h⟩
  · exact .inr (.inl ⟨by rw[h];rfl,h⟩)
  · exact .inr (.inr ⟨Int.sign_eq_one_of_pos h,h⟩)
 have sb:b.sign= -1∧b<0∨b.sign=0∧b=0∨b.sign=1∧0<b:=by
  rcases Int.lt_trichotomy b 0 with h|h|h
  · exact .inl ⟨Int.sign_eq_neg_one_of_neg h,h⟩
  · exact .inr (.inl ⟨by rw[h];rfl,h⟩)
  · exact .inr (.inr ⟨Int.sign_eq_one_of_pos h,h⟩)
 by_cases h1:a.sign=b.sign
 · have:=zl2 a b (by simp[h1]) ha hb la lb oa ob
   have hv:i64.wrap (a.sign*z1W a.natAbs b.natAbs)=(if a<b then-1 else if a=b then 0 else 1):=by
    have hc:z1W a.natAbs b.natAbs= -1∧a.natAbs<b.natAbs∨z1W a.natAbs b.natAbs=0∧a.natAbs=b.natAbs∨z1W a.natAbs b.natAbs=1∧b.natAbs<a.natAbs:=by
     unfold z1W
     split
     · omega
     · split<;>omega
    rw[w64 (by rcases sa with⟨e,_⟩|⟨e,_⟩|⟨e,_⟩<;>rw[e]<;>omega)]
    rcases sa with⟨e,_⟩|⟨e,_⟩|⟨e,_⟩<;>rw[e]<;>(split<;>(try split)<;>omega)
   rw[hv]at this
   exact this
 · by_cases h2:a.sign<b.sign
   · have:=zmf a b (by simp[h1]) (decide_eq_true h2)
     rw[if_pos (by omega)];exact this
   · have:=zki a b (by simp[h1]) (decide_eq_false h2)
     rw[if_neg (by omega),if_neg (by rintro rfl;exact h1 rfl)];exact this
end Go.Fw
