/- A part of the proof that the law returns true for every input: an executor for the model's code, and what functions of the program compute. -/
import Derived.Test.YtcafjpldfnegiaaGreatDoorB03
import Derived.Test.YtcafjpldfnegiaaGreatDoorB11
import Derived.Test.YtcafjpldfnegiaaGreatDoorB15
import Derived.Test.YtcafjpldfnegiaaGreatDoorB18
import Derived.Test.YtcafjpldfnegiaaGreatDoorB19
import Derived.Test.YtcafjpldfnegiaaGreatDoorB20
import Derived.KernelRfl
open Go
namespace Go.Fw
set_option maxRecDepth 10000
theorem zmh(a:Int):X7 .and .i64 a 16777215=a%16777216:=by
 show IntKind.i64.wrap (((BitVec.ofInt 64 a&&&BitVec.ofInt 64 (16777215:Int)).toNat:Nat):Int)=_
 have h1:(BitVec.ofInt 64 a&&&BitVec.ofInt 64 (16777215:Int)).toNat=(a%16777216).toNat:=by
  rw[BitVec.toNat_and,BitVec.toNat_ofInt,BitVec.toNat_ofInt]
  rw[show((16777215:Int)%((2^64:Nat):Int)).toNat=2^24-1 from by decide,Nat.and_two_pow_sub_one_eq_mod]
  have h2:(a%((2^64:Nat):Int))%16777216=a%16777216:=Int.emod_emod_of_dvd _ ⟨1099511627776,by decide⟩
  have h3:0≤a%((2^64:Nat):Int):=Int.emod_nonneg _ (by decide)
  omega
 rw[h1]
 have h4:0≤a%16777216:=Int.emod_nonneg _ (by decide)
 have h5:a%16777216<16777216:=Int.emod_lt_of_pos _ (by decide)
 rw[Int.toNat_of_nonneg h4]
 exact IntWalk.i64_in _ (by omega)
end Go.Fw
open Go
namespace Go.Fw
set_option maxRecDepth 10000
def z1w(b:Int):List Int→Int
 | []=>0
 |x::xs=>x+b*z1w b xs
def zof(xs:List Nat):List Int:=xs.map fun n:Nat=>(n:Int)
theorem z4p(xs:List Nat):(zof xs).length=xs.length:=by simp[zof]
theorem z6Z(xs:List Nat)(k:Nat):(zof xs).getD k 0=((xs.getD k 0:Nat):Int):=by
 simp only[zof,List.getD_eq_getElem?_getD,List.getElem?_map]
 cases xs[k]?<;>rfl
theorem z39(b:Nat): ∀xs,z1w b (zof xs)=(val b xs:Int)
 | []=>rfl
 |x::xs=>by
  have ih:=z39 b xs
  simp only[zof]at ih
  simp only[zof,List.map_cons,z1w,val,ih]
  push_cast
  rfl
theorem z59(b:Int): ∀(xs:List Int) (k:Nat) (d:Int),k<xs.length→z1w b (xs.set k d)=z1w b xs+(d-xs.getD k 0)*b^k
 | [],k,d,h=>by simp at h
 |x::xs,0,d,_=>by simp only[List.set_cons_zero,z1w,List.getD_cons_zero,Int.pow_zero,Int.mul_one];omega
 |x::xs,k+1,d,h=>by
  have ih:=z59 b xs k d (by simpa using h)
  simp only[List.set_cons_succ,z1w,List.getD_cons_succ,ih,Int.pow_succ]
  rw[Int.mul_add,Int.add_assoc,Int.mul_left_comm,Int.mul_comm b (b^k)]
theorem z6H(b:Int): ∀(xs:List Int) (k:Nat),z1w b xs=z1w b (xs.take k)+b^k*z1w b (xs.drop k)
 |xs,0=>by simp[z1w]
 | [],k+1=>by simp[z1w]
 |x::xs,k+1=>by
  have ih:=z6H b xs k
  simp only[List.take_succ_cons,List.drop_succ_cons,z1w,Int.pow_succ]
  rw[ih,Int.mul_add,Int.add_assoc,←Int.mul_assoc,Int.mul_comm b (b^k)]
theorem z8g(b:Int): ∀xs:List Int,(∀k,xs.getD k 0=0)→z1w b xs=0
 | [],_=>rfl
 |x::xs,h=>by
  have h0:=h 0
  rw[List.getD_cons_zero]at h0
  have ih:=z8g b xs (fun k=>by have:=h (k+1);rwa[List.getD_cons_succ]at this)
  simp only[z1w,h0,ih,Int.mul_zero,Int.add_zero]
theorem z4n(b:Nat)(hb:0<b): ∀xs:List Int,(∀k,0≤xs.getD k 0∧xs.getD k 0<b)→0≤z1w b xs∧z1w b xs<(b:Int)^xs.length
 | [],_=>by simp[z1w]
 |x::xs,h=>by
  have h0:=h 0
  rw[List.getD_cons_zero]at h0
  obtain⟨i1,i2⟩:=z4n b hb xs (fun k=>by have:=h (k+1);rwa[List.getD_cons_succ]at this)
  have hb':(0:Int)<b:=by omega
  simp only[z1w,List.length_cons,Int.pow_succ]
  have j1:0≤(b:Int)*z1w b xs:=Int.mul_nonneg (Int.le_of_lt hb') i1
  have j2:(b:Int)*(z1w b xs+1)≤b*(b:Int)^xs.length:=Int.mul_le_mul_of_nonneg_left (by omega) (Int.le_of_lt hb')
  rw[Int.mul_add,Int.mul_one]at j2
  rw[Int.mul_comm ((b:Int)^xs.length)]
  omega
theorem z4M(b:Nat)(hb:0<b): ∀xs:List Int,(∀k,0≤xs.getD k 0∧xs.getD k 0<b)→xs=zof (Q6 b xs.length (z1w b xs).toNat)
 | [],_=>rfl
 |x::xs,h=>by
  have h0:=h 0
  rw[List.getD_cons_zero]at h0
  have hx: ∀k,0≤xs.getD k 0∧xs.getD k 0<b:=fun k=>by have:=h (k+1);rwa[List.getD_cons_succ]at this
  have ih:=z4M b hb xs hx
  obtain⟨i1,_⟩:=z4n b hb xs hx
  obtain⟨v,hv⟩: ∃v:Nat,z1w b xs=v:=⟨_,(Int.toNat_of_nonneg i1).symm⟩
  obtain⟨y,rfl⟩: ∃y:Nat,x=y:=⟨_,(Int.toNat_of_nonneg h0.1).symm⟩
  rw[hv,Int.toNat_natCast]at ih
  have hy:y<b:=by omega
  simp only[List.length_cons,Q6,z1w,hv]
  have e:((y:Int)+b*(v:Int)).toNat=y+b*v:=by
   rw[show(y:Int)+b*(v:Int)=((y+b*v:Nat):Int) by push_cast;rfl,Int.toNat_natCast]
  rw[e,Nat.add_mul_mod_self_left,Nat.mod_eq_of_lt hy,Nat.add_mul_div_left _ _ hb,Nat.div_eq_of_lt hy,Nat.zero_add]
  simp only[zof,List.map_cons]
  congr 1
theorem zao(b:Nat)(hb:0<b)(xs:List Int)(p:Nat)(hp:p<xs.length)(hlo: ∀k,k<p→0≤xs.getD k 0∧xs.getD k 0<b)(hhi: ∀k,p<k→xs.getD k 0=0):xs.getD p 0=z1w b xs/(b:Int)^p:=by
 have hs:=z6H b xs p
 have hd:xs.drop p=xs.getD p 0::xs.drop (p+1):=by
  rw[List.drop_eq_getElem_cons hp,List.getD_eq_getElem?_getD,List.getElem?_eq_getElem hp];rfl
 have hz:z1w b (xs.drop (p+1))=0:=z8g b _ fun k=>by
  rw[List.getD_eq_getElem?_getD,List.getElem?_drop,←List.getD_eq_getElem?_getD];exact hhi _ (by omega)
 have hpos:(0:Int)<(b:Int)^p:=Int.pow_pos (by omega)
 have ht:0≤z1w b (xs.take p)∧z1w b (xs.take p)<(b:Int)^p:=by
  have hr:=z4n b hb (xs.take p) (fun k=>by
   rcases Nat.lt_or_ge k p with h|h
   · have:=hlo k h
     rw[List.getD_eq_getElem?_getD]at this ⊢
     rwa[List.getElem?_take_of_lt h]
   · rw[List.getD_eq_getElem?_getD,List.getElem?_eq_none (by simp;omega)]
     simp;omega)
  rwa[show(xs.take p).length=p by simp;omega]at hr
 rw[hd,z1w,hz,Int.mul_zero,Int.add_zero]at hs
 rw[hs,Int.add_mul_ediv_left _ _ (by omega),Int.ediv_eq_zero_of_lt ht.1 ht.2,Int.zero_add]
theorem z1N(xs:List Int)(k i:Nat)(d:Int)(h:k<xs.length):(xs.set k d).getD i 0=if i=k then d else xs.getD i 0:=by
 simp only[List.getD_eq_getElem?_getD,List.getElem?_set,h,if_true]
 by_cases hi:k=i
 · rw[if_pos hi,if_pos hi.symm];rfl
 · rw[if_neg hi,if_neg (fun e=>hi e.symm)]
theorem z4j (b : Int) (xs : List Int) (k : Nat) (hk : k < xs.length) (c s : Int) :
    z1w b (xs.set k ((c+xs.getD k 0+s)%b))+(c+xs.getD k 0+s)/b*b^(k+1)=z1w b xs+c*b^k+s*b^k:=by
 rw[z59 _ _ _ _ hk]
 have h:=Int.emod_add_mul_ediv (c+xs.getD k 0+s) b
 generalize (c+xs.getD k 0+s)%b=m at*
 generalize (c+xs.getD k 0+s)/b=q at*
 rw[Int.pow_succ]
 have e:q*(b^k*b)=b*q*b^k:=by rw[Int.mul_comm (b^k),←Int.mul_assoc,Int.mul_comm q]
 rw[e]
 have e2:m+b*q=c+xs.getD k 0+s:=h
 have e3:(m-xs.getD k 0)*b^k+b*q*b^k=c*b^k+s*b^k:=by
  rw[←Int.add_mul,←Int.add_mul]
  congr 1
  omega
 omega
theorem zbV(zs:List Nat)(k d:Nat):zof (zs.set k d)=(zof zs).set k (d:Int):=by simp[zof,List.map_set]
theorem z9c (b : Nat) (zs : List Nat) (k : Nat) (hk : k < zs.length) (c s : Nat) :
    val b (zs.set k ((c+zs.getD k 0+s)%b))+(c+zs.getD k 0+s)/b*b^(k+1)=val b zs+c*b^k+s*b^k:=by
 have h:=z4j (b:Int) (zof zs) k (by rw[z4p];exact hk) (c:Int) (s:Int)
 rw[z6Z]at h
 have e1:((c:Int)+((zs.getD k 0:Nat):Int)+(s:Int))%(b:Int)=(((c+zs.getD k 0+s)%b:Nat):Int):=by push_cast;rfl
 have e2:((c:Int)+((zs.getD k 0:Nat):Int)+(s:Int))/(b:Int)=(((c+zs.getD k 0+s)/b:Nat):Int):=by push_cast;rfl
 rw[e1,e2,←zbV,z39,z39]at h
 exact_mod_cast h
theorem zkZ(b:Nat)(zs:List Nat)(k d:Nat)(hk:k<zs.length)(h0:zs.getD k 0=0):val b (zs.set k d)=val b zs+d*b^k:=by
 have h:=z59 (b:Int) (zof zs) k (d:Int) (by rw[z4p];exact hk)
 rw[z6Z,h0,←zbV,z39,z39]at h
 have e:((d:Int)-((0:Nat):Int))=d:=by omega
 rw[e]at h
 exact_mod_cast h
theorem z82(xs:List Nat)(k i d:Nat)(h:k<xs.length):(xs.set k d).getD i 0=if i=k then d else xs.getD i 0:=by
 simp only[List.getD_eq_getElem?_getD,List.getElem?_set,h,if_true]
 by_cases hi:k=i
 · rw[if_pos hi,if_pos hi.symm];rfl
 · rw[if_neg hi,if_neg (fun e=>hi e.symm)]
end Go.Fw
open Go
namespace Go.Fw
set_option maxRecDepth 10000
theorem z5q(W V M j b:Nat)(hM:M=V*b^j)(hV:0<V)(hb:0<b):W/b^j/V*M≤W∧W<W/b^j/V*M+M:=by
 have hM0:0<M:=by rw[hM];exact Nat.mul_pos hV (Nat.pow_pos hb)
 have e:W/b^j/V=W/M:=by rw[Nat.div_div_eq_div_mul,hM,Nat.mul_comm]
 rw[e]
 refine⟨Nat.div_mul_le_self _ _,?_⟩
 have h1:=Nat.mod_add_div W M
 have h2:=Nat.mod_lt W hM0
 rw[Nat.mul_comm]at h1
 omega
theorem zcs (b o n j W V Q : Nat) (zs : List Int) (hb : 1 < b) (hlen : zs.length = o) (hp : j + n < o) (hlo : ∀ k, k < j + n → 0 ≤ zs.getD k 0 ∧ zs.getD k 0 < b)
    (hhi: ∀k,j+n<k→zs.getD k 0=0) (hV:V<b^n) (hV0:0<V) (hQ:Q=W/b^j/V) (hX:z1w b zs=(W:Int)-(Q*V*b^j:Nat)):
    zs=zof (Q6 b o (W-Q*V*b^j)):=by
 obtain⟨z1,z2⟩:=z5q W V (V*b^j) j b rfl hV0 (by omega)
 rw[←hQ,←Nat.mul_assoc]at z1 z2
 have hbp:V*b^j<b^(j+n):=by
  rw[Nat.pow_add,Nat.mul_comm (b^j)]
  exact Nat.mul_lt_mul_of_pos_right hV (Nat.pow_pos (by omega))
 have hX2:z1w b zs=((W-Q*V*b^j:Nat):Int):=by rw[hX];omega
 have ht:=zao b (by omega) zs (j+n) (by omega) hlo hhi
 have hz:zs.getD (j+n) 0=0:=by
  rw[ht,hX2]
  refine Int.ediv_eq_zero_of_lt (by omega) ?_
  exact_mod_cast (show W-Q*V*b^j<b^(j+n) by omega)
 have hr: ∀k,0≤zs.getD k 0∧zs.getD k 0<b:=fun k=>by
  rcases Nat.lt_trichotomy k (j+n)with h|h|h
  · exact hlo k h
  · rw[h,hz];omega
  · rw[hhi k h];omega
 have:=z4M b (by omega) zs hr
 rw[hX2,Int.toNat_natCast,hlen]at this
 exact this
theorem zld (b o n j W V Q : Nat) (zs : List Int) (hb : 1 < b) (hlen : zs.length = o) (hp : j + n < o) (hlo : ∀ k, k < j + n → 0 ≤ zs.getD k 0 ∧ zs.getD k 0 < b)
    (hhi: ∀k,j+n<k→zs.getD k 0=0) (hV:V<b^n) (hV0:0<V) (hQ:Q=W/b^j/V+1) (hX:z1w b zs=(W:Int)-(Q*V*b^j:Nat)):
    zs.getD (j+n) 0= -1:=by
 obtain⟨z1,z2⟩:=z5q W V (V*b^j) j b rfl hV0 (by omega)
 have hbp:V*b^j<b^(j+n):=by
  rw[Nat.pow_add,Nat.mul_comm (b^j)]
  exact Nat.mul_lt_mul_of_pos_right hV (Nat.pow_pos (by omega))
 have e:Q*V*b^j=W/b^j/V*(V*b^j)+V*b^j:=by rw[hQ,Nat.mul_assoc,Nat.add_mul,Nat.one_mul]
 rw[zao b (by omega) zs (j+n) (by omega) hlo hhi,hX]
 rw[e]
 generalize W/b^j/V*(V*b^j)=A at*
 generalize V*b^j=M at*
 have hP:(0:Int)<(b:Int)^(j+n):=Int.pow_pos (by omega)
 have hMP:(M:Int)<(b:Int)^(j+n):=by exact_mod_cast hbp
 have h1:(W:Int)-((A+M:Nat):Int)=((W:Int)-A-M+(b:Int)^(j+n))+(b:Int)^(j+n)*(-1):=by push_cast;omega
 rw[h1,Int.add_mul_ediv_left _ _ (by omega),Int.ediv_eq_zero_of_lt (by omega) (by omega)]
 rfl
end Go.Fw
open Go
namespace Go.Fw
set_option maxRecDepth 10000
def z69(zs:List Int):List CV:=zs.map fun n:Int=>CV.lit (.int .i64 n)
theorem z0N(zs:List Int):(z69 zs).length=zs.length:=by simp[z69]
theorem z7u(xs:List Nat):z69 (zof xs)=j3 xs:=by simp[z69,zof,j3]
theorem z1f{zs:List Int}{k:Nat}(h:k<zs.length):(own (z69 zs))[k]?=some (.cv (.lit (.int .i64 (zs.getD k 0)))):=by
 simp[own,z69,List.getElem?_eq_getElem h,List.getD_eq_getElem?_getD]
theorem z2d{zs:List Int}{k:Nat}{d:Int}(h:k<zs.length):j5 (own (z69 zs)) k [.cv (.lit (.int .i64 d))]=own (z69 (zs.set k d)):=by
 rw[z7d (by rw[z0N];exact h)]
 simp[z69,List.map_set]
theorem zce {zs : List Int} {ws : List Nat} {i j g b : Nat} {c X0 : Int} (hk : j + i < zs.length) (hinv : z1w b zs + c * (b : Int) ^ (j + i) = X0 - ((g * val b (ws.take i) * b ^ j : Nat) : Int)) :
    z1w b (zs.set (j+i) ((c+(zs.getD (j+i) 0-(g:Int)*((ws.getD i 0:Nat):Int)))%(b:Int)))+(c+(zs.getD (j+i) 0-(g:Int)*((ws.getD i 0:Nat):Int)))/(b:Int)*(b:Int)^(j+(i+1))=X0-((g*val b (ws.take (i+1))*b^j:Nat):Int):=by
 have h:=z4j (b:Int) zs (j+i) hk c (-((g:Int)*((ws.getD i 0:Nat):Int)))
 rw[show c+zs.getD (j+i) 0+ -((g:Int)*((ws.getD i 0:Nat):Int))=c+(zs.getD (j+i) 0-(g:Int)*((ws.getD i 0:Nat):Int)) by omega]at h
 rw[←Nat.add_assoc,h,hinv,Z7]
 have e:g*(val b (ws.take i)+b^i*ws.getD i 0)*b^j=g*val b (ws.take i)*b^j+g*ws.getD i 0*b^(j+i):=by
  rw[Nat.mul_add,Nat.add_mul,Nat.pow_add,Nat.mul_comm (b^i) (ws.getD i 0),←Nat.mul_assoc g,Nat.mul_assoc (g*ws.getD i 0),Nat.mul_comm (b^i)]
 rw[e]
 push_cast
 rw[Int.neg_mul]
 omega
theorem zee {zs : List Int} {ws : List Nat} {i j b : Nat} {c X0 : Int} (hk : j + i < zs.length) (hinv : z1w b zs + c * (b : Int) ^ (j + i) = X0 + ((val b (ws.take i) * b ^ j : Nat) : Int)) :
    z1w b (zs.set (j+i) ((c+(zs.getD (j+i) 0+((ws.getD i 0:Nat):Int)))%(b:Int)))+(c+(zs.getD (j+i) 0+((ws.getD i 0:Nat):Int)))/(b:Int)*(b:Int)^(j+(i+1))=X0+((val b (ws.take (i+1))*b^j:Nat):Int):=by
 have h:=z4j (b:Int) zs (j+i) hk c ((ws.getD i 0:Nat):Int)
 rw[show c+zs.getD (j+i) 0+((ws.getD i 0:Nat):Int)=c+(zs.getD (j+i) 0+((ws.getD i 0:Nat):Int)) by omega]at h
 rw[←Nat.add_assoc,h,hinv,Z7]
 have e:(val b (ws.take i)+b^i*ws.getD i 0)*b^j=val b (ws.take i)*b^j+ws.getD i 0*b^(j+i):=by
  rw[Nat.add_mul,Nat.pow_add,Nat.mul_comm (b^i) (ws.getD i 0),Nat.mul_assoc,Nat.mul_comm (b^i)]
 rw[e]
 push_cast
 omega
theorem zeC {c x : Int} {g w : Nat} (hc : -16777216 ≤ c ∧ c ≤ 0) (hx : 0 ≤ x ∧ x < 16777216) (hg : g < 16777216) (hw : w < 16777216) :
    IntKind.i64.wrap (c+IntKind.i64.wrap (x-IntKind.i64.wrap ((g:Int)*(w:Int))))=c+(x-(g:Int)*(w:Int))∧ -16777216≤(c+(x-(g:Int)*(w:Int)))/16777216∧(c+(x-(g:Int)*(w:Int)))/16777216≤0:=by
 have h1:g*w≤16777215*16777215:=Nat.mul_le_mul (by omega) (by omega)
 have h2:(g:Int)*(w:Int)=((g*w:Nat):Int):=by push_cast;rfl
 rw[h2]
 obtain⟨p,hp⟩: ∃p:Int,p=((g*w:Nat):Int):=⟨_,rfl⟩
 rw[←hp]
 have h3:0≤p∧p≤281474943156225:=by omega
 clear hp h2 h1
 rw[w64 (n:=p) (by omega),w64 (n:=x-p) (by omega),w64 (n:=c+(x-p)) (by omega)]
 omega
theorem zes {c x : Int} {w : Nat} (hc : 0 ≤ c ∧ c ≤ 1) (hx : 0 ≤ x ∧ x < 16777216) (hw : w < 16777216) :
    IntKind.i64.wrap (c+IntKind.i64.wrap (x+(w:Int)))=c+(x+(w:Int))∧0≤(c+(x+(w:Int)))/16777216∧(c+(x+(w:Int)))/16777216≤1:=by
 rw[w64 (n:=x+(w:Int)) (by omega),w64 (by omega)]
 omega
theorem zhh(a:Int):a.fdiv 16777216=a/16777216:=Int.fdiv_eq_ediv_of_nonneg _ (by decide)
theorem zqX(a:Int):0≤a%16777216∧a%16777216<16777216:=by omega
def Low(p:Nat)(zs:List Int):Prop:= ∀k,k<p→0≤zs.getD k 0∧zs.getD k 0<16777216
theorem Low.set{p:Nat}{zs:List Int}(h:Low p zs){k:Nat}{d:Int}(hk:k<zs.length)(hd:0≤d∧d<16777216):Low p (zs.set k d):=by
 intro i hi
 rw[z1N _ _ _ _ hk]
 split
 · exact hd
 · exact h i hi
end Go.Fw
open Go
namespace Go.Fw
set_option maxRecDepth 10000
theorem zfv {W V n j : Nat} (hn2 : 2 ≤ n) (hV : V < B24 ^ n) (hVt : 8388608 ≤ V / B24 ^ (n - 1)) (hW : W < V * B24 ^ (j + 1)) :
    R24.Guess (W/B24^j) V (V/B24^(n-1)) (V/B24^(n-2)%B24) (W/B24^(j+n-1)) (W/B24^(j+n-2)%B24) (B24^(n-2)):=by
 have hp:0<B24^(n-2):=Nat.pow_pos (by decide)
 have e1:W/B24^(j+n-2)=W/B24^j/B24^(n-2):=by rw[Nat.div_div_eq_div_mul,←Nat.pow_add,show j+(n-2)=j+n-2 by omega]
 have e2:W/B24^(j+n-1)=W/B24^j/B24^(n-2)/B24:=by
  rw[←e1,Nat.div_div_eq_div_mul,←Nat.pow_succ,show(j+n-2).succ=j+n-1 by omega]
 have e3:V/B24^(n-1)=V/B24^(n-2)/B24:=by rw[Nat.div_div_eq_div_mul,←Nat.pow_succ,show(n-2).succ=n-1 by omega]
 refine⟨hp,⟨W/B24^j%B24^(n-2),Nat.mod_lt _ hp,?_⟩,⟨V%B24^(n-2),Nat.mod_lt _ hp,?_⟩,hVt,?_,Nat.mod_lt _ (by decide),Nat.mod_lt _ (by decide),?_⟩
 · rw[e1,e2,Nat.mul_comm _ B24,Nat.div_add_mod,Nat.mul_comm,Nat.div_add_mod]
 · rw[e3,Nat.mul_comm _ B24,Nat.div_add_mod,Nat.mul_comm,Nat.div_add_mod]
 · rw[Nat.div_lt_iff_lt_mul (Nat.pow_pos (by decide)),Nat.mul_comm,←Nat.pow_succ,show(n-1).succ=n by omega];exact hV
 · rw[Nat.div_lt_iff_lt_mul (Nat.pow_pos (by decide)),Nat.mul_assoc,Nat.mul_comm B24,←Nat.pow_succ];exact hW
theorem zmo{W V n j:Nat}(hn2:2≤n)(hV:V<B24^n)(hW:W<V*B24^(j+1)):W/B24^(j+n)%B24*16777216+W/B24^(j+n-1)%B24=W/B24^(j+n-1):=by
 have e2:W/B24^(j+n)=W/B24^(j+n-1)/B24:=by
  rw[Nat.div_div_eq_div_mul,←Nat.pow_succ,show(j+n-1).succ=j+n by omega]
 have h1:W/B24^(j+n)<B24:=by
  rw[Nat.div_lt_iff_lt_mul (Nat.pow_pos (by decide))]
  have h2:V*B24^(j+1)≤B24^n*B24^(j+1):=Nat.mul_le_mul_right _ (Nat.le_of_lt hV)
  have h3:B24^n*B24^(j+1)=B24*B24^(j+n):=by rw[←Nat.pow_add,Nat.mul_comm,←Nat.pow_succ];congr 1;omega
  omega
 rw[Nat.mod_eq_of_lt h1,e2,Nat.mul_comm]
 exact Nat.div_add_mod _ _
theorem zcE{W V n j k:Nat}(hV:V<B24^n)(hW:W<V*B24^(j+1))(hk:j+n<k):W/B24^k=0:=by
 refine Nat.div_eq_of_lt ?_
 refine Nat.lt_of_lt_of_le hW ?_
 calc V*B24^(j+1)≤B24^n*B24^(j+1):=Nat.mul_le_mul_right _ (Nat.le_of_lt hV)
  _=B24^(n+(j+1)):=(Nat.pow_add ..).symm
  _≤B24^k:=Nat.pow_le_pow_right (by decide) (by omega)
theorem zbe {g v1 v2 u2 t : Nat} (hg : g < 16777216) (h1 : v1 < 16777216) (h2 : v2 < 16777216) (h3 : u2 < 16777216) (hm : g * v1 ≤ t) (hr : t - g * v1 < 33554432) :
    IntKind.i64.wrap ((g:Int)*(v2:Int))=((g*v2:Nat):Int)∧IntKind.i64.wrap ((t:Int)-IntKind.i64.wrap ((g:Int)*(v1:Int)))=((t-g*v1:Nat):Int)∧
    IntKind.i64.wrap (IntKind.i64.wrap (((t-g*v1:Nat):Int)*16777216)+(u2:Int))=(((t-g*v1)*16777216+u2:Nat):Int):=by
 have k1:g*v1≤16777215*16777215:=Nat.mul_le_mul (by omega) (by omega)
 have k2:g*v2≤16777215*16777215:=Nat.mul_le_mul (by omega) (by omega)
 have e1:(g:Int)*(v2:Int)=((g*v2:Nat):Int):=by push_cast;rfl
 have e2:(g:Int)*(v1:Int)=((g*v1:Nat):Int):=by push_cast;rfl
 rw[e1,e2]
 generalize g*v1=p1 at*
 generalize g*v2=p2 at*
 obtain⟨r,rfl⟩: ∃r,t=p1+r:=⟨t-p1,by omega⟩
 rw[show p1+r-p1=r by omega]at*
 rw[w64 (n:=(p2:Int)) (by omega),w64 (n:=(p1:Int)) (by omega),w64 (n:=((p1+r:Nat):Int)-(p1:Int)) (by omega),w64 (n:=(r:Int)*16777216) (by omega),w64 (n:=(r:Int)*16777216+u2) (by omega)]
 refine⟨rfl,by omega,by omega⟩
theorem zbg{t v1:Nat}(h0:8388608≤v1)(h1:v1<16777216)(ht:t≤v1*16777216+16777215):t-min (t/v1) 16777215*v1<33554432:=by
 have hd:=Nat.div_add_mod t v1
 have hm:=Nat.mod_lt t (show 0<v1 by omega)
 rw[Nat.mul_comm]at hd
 rcases Nat.lt_or_ge (t/v1) 16777216 with h|h
 · rw[Nat.min_eq_left (by omega)];omega
 · rw[Nat.min_eq_right (by omega)];omega
theorem zfy{t v1:Nat}(_h0:8388608≤v1)(ht:t<281474993487872):(if(16777215:Int)<IntKind.i64.wrap ((t:Int).tdiv (v1:Int))then(16777215:Int)else IntKind.i64.wrap ((t:Int).tdiv (v1:Int)))=((min (t/v1) 16777215:Nat):Int):=by
 have h1:(t:Int).tdiv (v1:Int)=((t/v1:Nat):Int):=rfl
 have h2:=Nat.div_le_self t v1
 rw[h1]
 generalize t/v1=q at*
 rw[w64 (n:=(q:Int)) (by omega)]
 split<;>omega
end Go.Fw
open Go
namespace Go.Fw
set_option maxRecDepth 10000
theorem zb9 {B : Nat} {zs vs : List Nat} {i k c x A : Nat} (hk : i + k < zs.length) (hinv : val B zs + c * B ^ (i + k) = A + x * val B (vs.take k) * B ^ i) :
    val B (zs.set (i+k) ((c+zs.getD (i+k) 0+x*vs.getD k 0)%B))+(c+zs.getD (i+k) 0+x*vs.getD k 0)/B*B^(i+(k+1))=A+x*val B (vs.take (k+1))*B^i:=by
 have h:=z9c B zs (i+k) hk c (x*vs.getD k 0)
 rw[Z7,←Nat.add_assoc,h,hinv]
 have e:x*(val B (vs.take k)+B^k*vs.getD k 0)*B^i=x*val B (vs.take k)*B^i+x*vs.getD k 0*B^(i+k):=by
  rw[Nat.mul_add,Nat.add_mul,Nat.pow_add,Nat.mul_comm (B^k) (vs.getD k 0),←Nat.mul_assoc x,Nat.mul_assoc (x*vs.getD k 0),Nat.mul_comm (B^k)]
 rw[e];omega
theorem zgN{B c z x v:Nat}(hc:c<B)(hz:z<B)(hx:x<B)(hv:v<B):(c+z+x*v)/B<B:=by
 rw[Nat.div_lt_iff_lt_mul (by omega)]
 obtain⟨b,rfl⟩: ∃b,B=b+1:=⟨B-1,by omega⟩
 have h1:x*v≤b*b:=Nat.mul_le_mul (by omega) (by omega)
 have h2:(b+1)*(b+1)=b*b+b+b+1:=by rw[Nat.add_mul,Nat.mul_add,Nat.one_mul,Nat.mul_one];omega
 omega
theorem zd3 {B : Nat} {zs us : List Nat} {i m c V : Nat} (hk : i + m < zs.length) (h0 : zs.getD (i + m) 0 = 0) (hinv : val B zs + c * B ^ (i + m) = val B (us.take i) * V + us.getD i 0 * V * B ^ i) :
    val B (zs.set (i+m) c)=val B (us.take (i+1))*V:=by
 rw[zkZ _ _ _ _ hk h0,hinv,Z7,Nat.add_mul]
 congr 1
 rw[Nat.mul_comm (B^i),Nat.mul_assoc,Nat.mul_assoc,Nat.mul_comm V]
end Go.Fw
open Go IntKind
namespace Go.Fw
set_option maxRecDepth 100000
theorem zdZ(z:Int)(h1:decide ((↑(bytesOf z.natAbs).size:Int)>7)=true):PCall P 194 [J6 z] (.tup [.lit (.int .i64 0),.lit (.bool false)]):=
 j4 (.b 7 h1 .nil) (by kernel_rfl)
theorem zdJ(z:Int)(h1:decide ((↑(bytesOf z.natAbs).size:Int)>7)=false)(s9_0:(-9223372036854775808:Int)<z∧z<9223372036854775808):PCall P 194 [J6 z] (.tup [.lit (.int .i64 z),.lit (.bool true)]):=
 j4 (.b 7 h1 (.r 9 (zcZ (z) s9_0) .nil)) (by kernel_rfl)
theorem zgK(z:Int)(h1:((bytesOf z.natAbs).toList==[])=true):PCall P 183 [J6 z] (.lit (.int .i64 0)):=
 j4 (.r 3 (J4 (z)) (.b 11 h1 .nil)) (by kernel_rfl)
theorem zf2(z:Int)(h1:((bytesOf z.natAbs).toList==[])=false)(h2:decide (z<0)=true):PCall P 183 [J6 z] (.lit (.int .i64 (-1:Int))):=
 j4 (.r 3 (J4 (z)) (.b 11 h1 (.b 15 h2 .nil))) (by kernel_rfl)
theorem zeo(z:Int)(h1:((bytesOf z.natAbs).toList==[])=false)(h2:decide (z<0)=false):PCall P 183 [J6 z] (.lit (.int .i64 1)):=
 j4 (.r 3 (J4 (z)) (.b 11 h1 (.b 15 h2 .nil))) (by kernel_rfl)
theorem zjY(z:Int):PCall P 186 [J6 z] (.agg [.lit (.bool false),.lit (.string (bytesOf z.natAbs))]):=
 j4 (.r 3 (J4 (z)) (.c (lq 2 2) .nil)) (by kernel_rfl)
theorem zi0(z:Int)(h1:((bytesOf z.natAbs).toList==[])=true):PCall P 132 [J6 z] (.agg [.lit (.bool false),.lit (.string {data:= #[]})]):=
 j4 (.r 3 (J4 (z)) (.b 10 h1 (.c (lq 2 2) .nil))) (by kernel_rfl)
theorem zjk(z:Int)(h1:((bytesOf z.natAbs).toList==[])=false):PCall P 132 [J6 z] (.agg [.lit (.bool !decide (z<0)),.lit (.string (bytesOf z.natAbs))]):=
 j4 (.r 3 (J4 (z)) (.b 10 h1 (.c (lq 2 2) .nil))) (by kernel_rfl)
end Go.Fw
open Go IntKind
namespace Go.Fw
set_option maxRecDepth 100000
theorem zij(n m o i j x V:Nat)(xs ys:List Nat)(h1:decide ((j:Int)<m)=true)(s14_0:(0:Int)≤i64.wrap ((i:Int)+j))(s14_1:o<2^40)(s14_2:(i64.wrap ((i:Int)+j)).toNat+1<o)(s14_3:V+x*ys.getD ((j:Int).toNat*1) 0*4294967296^(i64.wrap ((i:Int)+j)).toNat<4294967296^o)(s14_4:x<4294967296)(s14_5:ys.getD ((j:Int).toNat*1) 0<4294967296)(o1:(0:Int)≤j∧(j:Int)<m)(o2:(j7 ys)[(j:Int).toNat*1]?=some (.lit (.int .u32 ↑(ys.getD ((j:Int).toNat*1) 0))))(o5:BlksCv [some (own (j7 (Q6 4294967296 o V))),some (own (j7 (Q6 4294967296 o (V+x*ys.getD ((j:Int).toNat*1) 0*4294967296^(i64.wrap ((i:Int)+j)).toNat))))])(o6:CvL (own (j7 (Q6 4294967296 o (V+x*ys.getD ((j:Int).toNat*1) 0*4294967296^(i64.wrap ((i:Int)+j)).toNat))))){R:Goal}(hn:J0 R.n [0]=true)(hR:Ok P 243 (loopHead P 243 1) ⟨J3 45 [(1,.cv (.lst m (j7 ys))),(5,.sl 0 0 o 1),(6,MV.fn 258 [.sl 0 0 o 1] []),(7,.cv (.lit (.int .i64 (i:Int)))),(8,.cv (.lit (.int .u32 (x:Int)))),(20,.cv (.lst n (j7 xs))),(21,.cv (.lit (.int .i64 (n:Int)))),(22,.cv (.lit (.int .i64 (i:Int)))),(27,.cv (.lst m (j7 ys))),(28,.cv (.lit (.int .i64 (m:Int)))),(29,.cv (.lit (.int .i64 (i64.wrap ((j:Int)+1)))))],[some (own (j7 (Q6 4294967296 o (V+x*ys.getD ((j:Int).toNat*1) 0*4294967296^(i64.wrap ((i:Int)+j)).toNat))))]⟩ R):Ok P 243 (loopHead P 243 1) ⟨J3 45 [(1,.cv (.lst m (j7 ys))),(5,.sl 0 0 o 1),(6,MV.fn 258 [.sl 0 0 o 1] []),(7,.cv (.lit (.int .i64 (i:Int)))),(8,.cv (.lit (.int .u32 (x:Int)))),(20,.cv (.lst n (j7 xs))),(21,.cv (.lit (.int .i64 (n:Int)))),(22,.cv (.lit (.int .i64 (i:Int)))),(27,.cv (.lst m (j7 ys))),(28,.cv (.lit (.int .i64 (m:Int)))),(29,.cv (.lit (.int .i64 (j:Int))))],[some (own (j7 (Q6 B32 o V)))]⟩ R:=
 okS (keep:=[1,5,6,7,8,20,21,22,27,28,29]) (σ:=[0]) (ors:=[(2,.b true),(5,.r (.lit (.int .u32 ↑(ys.getD ((j:Int).toNat*1) 0)))),(14,.m [0] (.tup []) [some (own (j7 (Q6 B32 o (V+x*ys.getD ((j:Int).toNat*1) 0*B32^(i64.wrap ((i:Int)+j)).toNat))))]),(17,.stop)]) (by kernel_rfl) rfl (.cons h1 (.cons o1 (.cons o2 (.cons (eqn 1) (.cons (zbO (o) (V) (i64.wrap ((i:Int)+j)) (x) (ys.getD ((j:Int).toNat*1) 0) s14_0 s14_1 s14_2 s14_3 s14_4 s14_5) (.cons o5 (.cons o6 .nil))))))) hn hR
theorem zjC(n m o i j x V:Nat)(xs ys:List Nat)(h1:decide ((j:Int)<m)=false)(o1:CvL (own (j7 (Q6 4294967296 o V)))){R:Goal}(hn:J0 R.n [0]=true)(hR:Ok P 243 (loopHead P 243 0) ⟨J3 45 [(1,.cv (.lst m (j7 ys))),(5,.sl 0 0 o 1),(6,MV.fn 258 [.sl 0 0 o 1] []),(20,.cv (.lst n (j7 xs))),(21,.cv (.lit (.int .i64 (n:Int)))),(22,.cv (.lit (.int .i64 (i64.wrap ((i:Int)+1)))))],[some (own (j7 (Q6 4294967296 o V)))]⟩ R):Ok P 243 (loopHead P 243 1) ⟨J3 45 [(1,.cv (.lst m (j7 ys))),(5,.sl 0 0 o 1),(6,MV.fn 258 [.sl 0 0 o 1] []),(7,.cv (.lit (.int .i64 (i:Int)))),(8,.cv (.lit (.int .u32 (x:Int)))),(20,.cv (.lst n (j7 xs))),(21,.cv (.lit (.int .i64 (n:Int)))),(22,.cv (.lit (.int .i64 (i:Int)))),(27,.cv (.lst m (j7 ys))),(28,.cv (.lit (.int .i64 (m:Int)))),(29,.cv (.lit (.int .i64 (j:Int))))],[some (own (j7 (Q6 B32 o V)))]⟩ R:=
 okS (keep:=[1,5,6,20,21,22]) (σ:=[0]) (ors:=[(2,.b false),(5,.stop)]) (by kernel_rfl) rfl (.cons h1 (.cons o1 .nil)) hn hR
end Go.Fw
open Go
namespace Go.Fw
set_option maxRecDepth 100000
theorem z5x{b:Nat}(xs:List Nat)(i:Nat):val b (xs.take i)≤val b xs:=by
 by_cases h:i≤xs.length
 · rw[z0Z (b:=b) xs i h];omega
 · rw[z0j (by omega)];exact Nat.le_refl _
theorem zfj {R : Goal} (hn : J0 R.n [0] = true) (xs ys : List Nat) (hxl : xs.length < 2 ^ 38) (hyl : ys.length < 2 ^ 38) (hx : Dig B32 xs) (hy : Dig B32 ys)
    (hR:R.c (z0q (val B32 xs*val B32 ys))):
    ∀(k i:Nat),xs.length-i=k→i≤xs.length→
     Ok P 243 (loopHead P 243 0) ⟨J3 45 [(1,.cv (.lst ys.length (j7 ys))),(5,.sl 0 0 (xs.length+ys.length+1) 1),(6,.fn 258 [.sl 0 0 (xs.length+ys.length+1) 1] []),(20,.cv (.lst xs.length (j7 xs))),
      (21,.cv (.lit (.int .i64 xs.length))),(22,.cv (.lit (.int .i64 i)))],[some (own (j7 (Q6 B32 (xs.length+ys.length+1) (val B32 (xs.take i)*val B32 ys))))]⟩ R:=by
 have hbound:val B32 xs*val B32 ys<B32^(xs.length+ys.length+1):=by
  have h1:=z0G (by decide:0<B32) xs hx
  have h2:=z0G (by decide:0<B32) ys hy
  have h3:val B32 xs*val B32 ys<B32^xs.length*B32^ys.length:=Nat.mul_lt_mul_of_lt_of_le h1 (Nat.le_of_lt h2) (Nat.pow_pos (by decide))
  rw[←Nat.pow_add]at h3
  exact Nat.lt_trans h3 (Nat.pow_lt_pow_right (by decide) (by omega))
 generalize ho:xs.length+ys.length+1=o at*
 intro k
 induction k with
 |zero=>
  intro i hk hi
  have:i=xs.length:=by omega
  subst this
  rw[List.take_length]
  refine zkU _ _ _ _ _ _ _ (by simp) (j9 _ _ _).symm (U7 (by decide) _ _) (by rw[j9];omega) (z13 (by rw[Q0,j9])) ?_
  rw[show(4294967296:Nat)=B32 from rfl,z0f,Nat.mod_eq_of_lt hbound]
  exact hR
 |succ k ih=>
  intro i hk hi
  have hlt:i<xs.length:=by omega
  have e1:(i:Int).toNat*1=i:=by omega
  have dx:=hx.get (by decide) i
  have htk:=V4 (b:=B32) hlt
  have inner : ∀ (q j : Nat), ys.length - j = q → j ≤ ys.length →
      Ok P 243 (loopHead P 243 1) ⟨J3 45 [(1,.cv (.lst ys.length (j7 ys))),(5,.sl 0 0 o 1),(6,.fn 258 [.sl 0 0 o 1] []),(7,.cv (.lit (.int .i64 i))),(8,.cv (.lit (.int .u32 (xs.getD i 0:Nat)))),
       (20,.cv (.lst xs.length (j7 xs))),(21,.cv (.lit (.int .i64 xs.length))),(22,.cv (.lit (.int .i64 i))),(27,.cv (.lst ys.length (j7 ys))),(28,.cv (.lit (.int .i64 ys.length))),(29,.cv (.lit (.int .i64 j)))],
       [some (own (j7 (Q6 B32 o (val B32 (xs.take i)*val B32 ys+xs.getD i 0*val B32 (ys.take j)*B32^i))))]⟩ R:=by
   intro q
   induction q with
   |zero=>
    intro j hq hj
    have:j=ys.length:=by omega
    subst this
    refine zjC _ _ _ _ _ _ _ _ _ (by simp) (j8 _) hn ?_
    rw[List.take_length,show IntKind.i64.wrap ((i:Int)+1)=((i+1:Nat):Int) by rw[w64 (by omega)];omega]
    have:=ih (i+1) (by omega) (by omega)
    rw[htk,Nat.add_mul,show B32^i*xs.getD i 0*val B32 ys=xs.getD i 0*val B32 ys*B32^i by rw[Nat.mul_comm (B32^i),Nat.mul_assoc,Nat.mul_assoc,Nat.mul_comm (B32^i)]]at this
    exact this
   |succ q ihq=>
    intro j hq hj
    have hjl:j<ys.length:=by omega
    have e2:(j:Int).toNat*1=j:=by omega
    have e3:IntKind.i64.wrap ((i:Int)+(j:Int))=((i+j:Nat):Int):=by rw[w64 (by omega)];omega
    have e4:(((i+j:Nat):Int)).toNat=i+j:=by omega
    have e5:IntKind.i64.wrap ((j:Int)+1)=((j+1:Nat):Int):=by rw[w64 (by omega)];omega
    have dy:=hy.get (by decide) j
    have hty:=V4 (b:=B32) hjl
    have hsum : val B32 (xs.take i) * val B32 ys + xs.getD i 0 * val B32 (ys.take j) * B32 ^ i + xs.getD i 0 * ys.getD j 0 * B32 ^ (i + j) =
        val B32 (xs.take i)*val B32 ys+xs.getD i 0*val B32 (ys.take (j+1))*B32^i:=by
     rw[hty,Nat.mul_add,Nat.add_mul,Nat.pow_add,Nat.add_assoc]
     congr 2
     rw[Nat.mul_comm (B32^j),Nat.mul_assoc (xs.getD i 0),Nat.mul_assoc (xs.getD i 0),Nat.mul_assoc (ys.getD j 0),Nat.mul_comm (B32^j)]
    have hle:val B32 (xs.take i)*val B32 ys+xs.getD i 0*val B32 (ys.take (j+1))*B32^i<B32^o:=by
     refine Nat.lt_of_le_of_lt ?_ hbound
     have h1:val B32 (xs.take (i+1))*val B32 ys≤val B32 xs*val B32 ys:=Nat.mul_le_mul_right _ (z5x _ _)
     rw[htk,Nat.add_mul]at h1
     have h2:xs.getD i 0*val B32 (ys.take (j+1))*B32^i≤B32^i*xs.getD i 0*val B32 ys:=by
      rw[Nat.mul_comm _ (B32^i),←Nat.mul_assoc]
      exact Nat.mul_le_mul_left _ (z5x _ _)
     omega
    refine zij _ _ _ _ _ _ _ _ _ (by simpa using hjl) (by rw[e3];omega) (by omega) (by rw[e3,e4];omega) (by rw[e3,e4,e2];exact hsum ▸ hle) dx (by rw[e2];exact dy) (by omega) (by rw[e2];exact Y1 hjl) (BlksCv.two (j8 _) (j8 _)) (j8 _) hn ?_
    rw[e3,e4,e2,e5,show(4294967296:Nat)=B32 from rfl,hsum]
    exact ihq (j+1) (by omega) (by omega)
  refine zlg _ _ _ _ _ _ _ (by simpa using hlt) (by omega) (by rw[e1];exact Y1 hlt) (j8 _) hn ?_
  have:=inner _ 0 rfl (Nat.zero_le _)
  rw[List.take_zero,show val B32 []=0 from rfl,Nat.mul_zero,Nat.zero_mul,Nat.add_zero]at this
  rw[e1]
  exact this
theorem zgz(a b:Nat)(ha:(dig B32 a).length<2^38)(hb:(dig B32 b).length<2^38):PCall P 243 [z0q a,z0q b] (z0q (a*b)):=by
 have e1:IntKind.i64.wrap (IntKind.i64.wrap (((dig B32 a).length:Int)+(dig B32 b).length)+1)=(((dig B32 a).length+(dig B32 b).length+1:Nat):Int):=by
  rw[w64 (n:=((dig B32 a).length:Int)+(dig B32 b).length) (by omega),w64 (by omega)];omega
 have e2:((((dig B32 a).length+(dig B32 b).length+1:Nat):Int)).toNat=(dig B32 a).length+(dig B32 b).length+1:=by omega
 refine zlc _ _ _ _ (by rw[e1];omega) (by rw[U8];exact j8 _) ?_
 rw[e1,e2,U8,Nat.mul_one]
 have:=zfj (R:= .of (fun x=>x=z0q (a*b))) rfl (dig B32 a) (dig B32 b) ha hb (Y7 (by decide) _) (Y7 (by decide) _) (by rw[Q5 (by decide),Q5 (by decide)];rfl) _ 0 rfl (Nat.zero_le _)
 rw[List.take_zero,show val B32 []=0 from rfl,Nat.zero_mul,z1i]at this
 exact this
end Go.Fw
open Go IntKind
namespace Go.Fw
set_option maxRecDepth 100000
theorem zlL(n:Int)(h1:(decide (n<0))=true)(s7_0:(0:Int)≤u64.wrap ((0:Int)-u64.wrap n))(s7_1:u64.wrap ((0:Int)-u64.wrap n)<18446744073709551616)(s8_0:Sml (u64.wrap ((0:Int)-u64.wrap n)).toNat):PCall P 206 [.lit (.int .i64 n)] (.agg [.lit (.bool (decide (sgn true (u64.wrap ((0:Int)-u64.wrap n)).toNat<0))),.lit (.string (bytesOf (sgn true (u64.wrap ((0:Int)-u64.wrap n)).toNat).natAbs))]):=
 j4 (.b 3 h1 (.r 7 (z7a (u64.wrap ((0:Int)-u64.wrap n)) s7_0 s7_1) (.r 8 (z0F ((u64.wrap ((0:Int)-u64.wrap n)).toNat) (true) s8_0) (.c (lq 2 2) .nil)))) (by kernel_rfl)
theorem zlA(n:Int)(h1:(decide (n<0))=false)(s6_0:(0:Int)≤u64.wrap n)(s6_1:u64.wrap n<18446744073709551616)(s7_0:Sml (u64.wrap n).toNat):PCall P 206 [.lit (.int .i64 n)] (.agg [.lit (.bool (decide (sgn false (u64.wrap n).toNat<0))),.lit (.string (bytesOf (sgn false (u64.wrap n).toNat).natAbs))]):=
 j4 (.b 3 h1 (.r 6 (z7a (u64.wrap n) s6_0 s6_1) (.r 7 (z0F ((u64.wrap n).toNat) (false) s7_0) (.c (lq 2 2) .nil)))) (by kernel_rfl)
theorem zl1(a:Int)(h1:(!decide (a<0))=true):PCall P 189 [J6 a] (.agg [.lit (.bool !(bytesOf a.natAbs).toList==[]),.lit (.string (bytesOf a.natAbs))]):=
 j4 (.r 3 (Q8 (a)) (.b 9 h1 (.c (lq 2 2) .nil))) (by kernel_rfl)
theorem zjf(a:Int)(h1:(!decide (a<0))=false):PCall P 189 [J6 a] (.agg [.lit (.bool false),.lit (.string (bytesOf a.natAbs))]):=
 j4 (.r 3 (Q8 (a)) (.b 9 h1 (.c (lq 2 2) .nil))) (by kernel_rfl)
theorem zgd(a:Int)(h1:((bytesOf a.natAbs).toList==[])=true):PCall P 215 [J6 a] (.lit (.int .i64 0)):=
 j4 (.r 3 (Q8 (a)) (.b 11 h1 .nil)) (by kernel_rfl)
theorem zfB(a:Int)(h1:((bytesOf a.natAbs).toList==[])=false)(h2:(decide (a<0))=true):PCall P 215 [J6 a] (.lit (.int .i64 (-1:Int))):=
 j4 (.r 3 (Q8 (a)) (.b 11 h1 (.b 15 h2 .nil))) (by kernel_rfl)
theorem zeM(a:Int)(h1:((bytesOf a.natAbs).toList==[])=false)(h2:(decide (a<0))=false):PCall P 215 [J6 a] (.lit (.int .i64 1)):=
 j4 (.r 3 (Q8 (a)) (.b 11 h1 (.b 15 h2 .nil))) (by kernel_rfl)
theorem zjq(a b:Int)(h1:(decide (a<0)==decide (b<0))=true)(s14_0:Sml a.natAbs)(s17_0:Sml b.natAbs)(s29_0:(dig 4294967296 a.natAbs).length<2^40)(s29_1:(dig 4294967296 b.natAbs).length<2^40)(s32_0:Sml (a.natAbs+b.natAbs)):PCall P 202 [J6 a,J6 b] (.agg [.lit (.bool (decide (sgn (decide (a<0)) (a.natAbs+b.natAbs)<0))),.lit (.string (bytesOf (sgn (decide (a<0)) (a.natAbs+b.natAbs)).natAbs))]):=
 j4 (.r 4 (Q8 (a)) (.r 8 (Q8 (b)) (.r 14 (z0w (a.natAbs) s14_0) (.r 17 (z0w (b.natAbs) s17_0) (.b 26 h1 (.r 29 (zfd (a.natAbs) (b.natAbs) s29_0 s29_1) (.r 32 (z0F (a.natAbs+b.natAbs) (decide (a<0)) s32_0) (.c (lq 2 2) .nil)))))))) (by kernel_rfl)
theorem zir(a b:Int)(h1:(decide (a<0)==decide (b<0))=false)(h2:(decide (zaG a.natAbs b.natAbs (dig 4294967296 a.natAbs).length (dig 4294967296 b.natAbs).length≥0))=true)(s14_0:Sml a.natAbs)(s17_0:Sml b.natAbs)(s29_0:(dig 4294967296 a.natAbs).length<2^62)(s29_1:(dig 4294967296 b.natAbs).length<2^62)(s35_0:(dig 4294967296 a.natAbs).length<2^40)(s35_1:b.natAbs≤a.natAbs)(s38_0:Sml (a.natAbs-b.natAbs)):PCall P 202 [J6 a,J6 b] (.agg [.lit (.bool (decide (sgn (decide (a<0)) (a.natAbs-b.natAbs)<0))),.lit (.string (bytesOf (sgn (decide (a<0)) (a.natAbs-b.natAbs)).natAbs))]):=
 j4 (.r 4 (Q8 (a)) (.r 8 (Q8 (b)) (.r 14 (z0w (a.natAbs) s14_0) (.r 17 (z0w (b.natAbs) s17_0) (.b 26 h1 (.r 29 (cmp_spec (a.natAbs) (b.natAbs) s29_0 s29_1) (.b 32 h2 (.r 35 (z7V (a.natAbs) (b.natAbs) s35_0 s35_1) (.r 38 (z0F (a.natAbs-b.natAbs) (decide (a<0)) s38_0) (.c (lq 2 2) .nil)))))))))) (by kernel_rfl)
theorem zki(a b:Int)(h1:(decide (a<0)==decide (b<0))=false)(h2:(decide (zaG a.natAbs b.natAbs (dig 4294967296 a.natAbs).length (dig 4294967296 b.natAbs).length≥0))=false)(s14_0:Sml a.natAbs)(s17_0:Sml b.natAbs)(s29_0:(dig 4294967296 a.natAbs).length<2^62)(s29_1:(dig 4294967296 b.natAbs).length<2^62)(s35_0:(dig 4294967296 b.natAbs).length<2^40)(s35_1:a.natAbs≤b.natAbs)(s38_0:Sml (b.natAbs-a.natAbs)):PCall P 202 [J6 a,J6 b] (.agg [.lit (.bool (decide (sgn (decide (b<0)) (b.natAbs-a.natAbs)<0))),.lit (.string (bytesOf (sgn (decide (b<0)) (b.natAbs-a.natAbs)).natAbs))]):=
 j4 (.r 4 (Q8 (a)) (.r 8 (Q8 (b)) (.r 14 (z0w (a.natAbs) s14_0) (.r 17 (z0w (b.natAbs) s17_0) (.b 26 h1 (.r 29 (cmp_spec (a.natAbs) (b.natAbs) s29_0 s29_1) (.b 32 h2 (.r 35 (z7V (b.natAbs) (a.natAbs) s35_0 s35_1) (.r 38 (z0F (b.natAbs-a.natAbs) (decide (b<0)) s38_0) (.c (lq 2 2) .nil)))))))))) (by kernel_rfl)
theorem zhR(a b:Int)(s14_0:Sml a.natAbs)(s17_0:Sml b.natAbs)(s18_0:(dig 4294967296 a.natAbs).length<2^38)(s18_1:(dig 4294967296 b.natAbs).length<2^38)(s24_0:Sml (a.natAbs*b.natAbs)):PCall P 203 [J6 a,J6 b] (.agg [.lit (.bool (decide (sgn (!decide (a<0)==decide (b<0)) (a.natAbs*b.natAbs)<0))),.lit (.string (bytesOf (sgn (!decide (a<0)==decide (b<0)) (a.natAbs*b.natAbs)).natAbs))]):=
 j4 (.r 4 (Q8 (a)) (.r 8 (Q8 (b)) (.r 14 (z0w (a.natAbs) s14_0) (.r 17 (z0w (b.natAbs) s17_0) (.r 18 (zgz (a.natAbs) (b.natAbs) s18_0 s18_1) (.r 24 (z0F (a.natAbs*b.natAbs) (!decide (a<0)==decide (b<0)) s24_0) (.c (lq 2 2) .nil))))))) (by kernel_rfl)
end Go.Fw
