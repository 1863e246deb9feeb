/- A part of the proof that the law returns true for every input: an executor for the model's code, and what functions of the program compute. -/
import Derived.Test.YtcafjpldfnegiaaGreatDoorB11
import Derived.Test.YtcafjpldfnegiaaGreatDoorB15
import Derived.Test.YtcafjpldfnegiaaGreatDoorB43
import Derived.Test.YtcafjpldfnegiaaGreatDoorB44
import Derived.KernelRfl
import Derived.Deep.Slices
open Go IntKind
namespace Go.Fw
set_option maxRecDepth 100000
theorem zn5(l:List (Int×Int))(rs:List RN)(s:VN)(mx:RN)(k mi _mo:Int)(h1:decide (k<(↑rs.length:Int))=true)(s9_0:(-9223372036854775808:Int)≤1∧(1:Int)≤9223372036854775807)(s28_0:RN.raw 1000000 mx=true)(s29_0:VN.raw 1000000 s=true)(s29_1:VN.raw 1000000 (J6 (W8 mi) mx)=true)(o1:(0:Int)≤k∧k<(↑rs.length:Int))(o2:List.take 10 (List.drop (k.toNat*10) (flat RN.l rs))=(RN.l mx))(o6:(0:Int)≤k∧k<(↑l.length:Int))(o7:(flat rdL l)[k.toNat*2+0]?=some (.lit (.int .i64 mi)))(o10:(0:Int)≤k∧k<(↑l.length:Int))(o11:(flat rdL l)[k.toNat*2+0]?=some (.lit (.int .i64 mi))){R:Goal}(hn:J0 R.n [0]=true)(hR:Ok P 11 (loopHead P 11 0) ⟨J2 76 [(0,.cv (.lst l.length (flat rdL l))),(7,.ptr 0 0),(47,.cv (.lst rs.length (flat RN.l rs))),(48,.cv (.lit (.int .i64 (↑rs.length:Int)))),(49,.cv (.lit (.int .i64 (i64.wrap (k+1)))))],[some (vnM (z0h s (J6 (W8 mi) mx)))]⟩ R):Ok P 11 (loopHead P 11 0) ⟨J2 76 [(0,.cv (rdV l)),(7,.ptr 0 0),(47,.cv (nmV rs)),(48,.cv (j6 (↑rs.length:Int))),(49,.cv (j6 k))],[some (vnM s)]⟩ R:=
 z0x (keep:=[0,7,47,48,49]) (σ:=[0]) (.b 2 h1 (.c o1 (.c o2 (.c (eqn 10) (.c (lq 10 10) (.c (zoL ((1:Int)) s9_0) (.c o6 (.c o7 (.c (eqn 1) (.c (zos (mi)) (.c o10 (.c o11 (.c (eqn 1) (.c (zou (mi)) (.c (lq 30 30) (.c (zjD (mi) (mx) s28_0) (.c (zh8 (s) (J6 (W8 mi) mx) s29_0 s29_1) (.c (lq 30 30) (.o 5 (.r mx.c) (.o 9 (.r (RN.c (oN (1:Int)))) (.o 14 (.r (.lit (.int .i64 mi))) (.o 15 (.r (RN.c (kN (z4D mi)))) (.o 20 (.r (.lit (.int .i64 mi))) (.o 21 (.r (RN.c (kN (z7B mi)))) (.o 28 (.r (z4B (J6 (W8 mi) mx).x (J6 (W8 mi) mx).y (J6 (W8 mi) mx).z)) (.o 29 (.r (z4B (z0h s (J6 (W8 mi) mx)).x (z0h s (J6 (W8 mi) mx)).y (z0h s (J6 (W8 mi) mx)).z)) (.o 33 .stop .nil))))))))))))))))))))))))))) (by kernel_rfl) rfl hn hR (.cons (CvL.map_cv _) .nil)
theorem zkZ(l:List (Int×Int))(rs:List RN)(s:VN)(_mx:RN)(k _mi _mo:Int)(h1:decide (k<(↑rs.length:Int))=false)(h2:(zV s)=true){R:Goal}(hR:R.c (.lit (.bool true))):Ok P 11 (loopHead P 11 0) ⟨J2 76 [(0,.cv (rdV l)),(7,.ptr 0 0),(47,.cv (nmV rs)),(48,.cv (j6 (↑rs.length:Int))),(49,.cv (j6 k))],[some (vnM s)]⟩ R:=
 okT (.b 2 h1 (.r 4 ((zeE (s)).eqB h2) .nil)) (by kernel_rfl) hR
end Go.Fw
open Go
namespace Go.Fw
set_option maxRecDepth 100000
def V3.dot'(v w:V3):K:=v.x*w.x+v.y*w.y+v.z*w.z
noncomputable def znZ(m:V3)(x:Int×Int):K:=K.ofInt x.2-V3.dot' m (z5o x.1)
theorem z9C(m:V3)(x:Int×Int):z5Y (kv m) x=kN (znZ m x):=by
 unfold z5Y znZ V3.dot'
 rw[z5f,zgz,show z4M (kv m) (kv (z5o x.1))=kN (m.x*(z5o x.1).x+m.y*(z5o x.1).y+m.z*(z5o x.1).z)from zcv _ _ _ _ _ _,zkE]
noncomputable def z5g(m:V3)(n:V3)(x:Int×Int):V3:=n.add ((z5o x.1).scale (znZ m x))
def S4.rest(s:S4)(m:V3):V3:=⟨s.d.x-(s.a.x*m.x+s.b.x*m.y+s.c.x*m.z),s.d.y-(s.a.y*m.x+s.b.y*m.y+s.c.y*m.z),s.d.z-(s.a.z*m.x+s.b.z*m.y+s.c.z*m.z)⟩
theorem z50(d a b c r r0 r1 r2 o x y z:K):(d-(a*x+b*y+c*z))+r*(o-(x*r0+y*r1+z*r2))=(d+r*o)-((a+r*r0)*x+(b+r*r1)*y+(c+r*r2)*z):=
 (show ∀ρ:Nat→K,(ρ 0-(ρ 1*ρ 9+ρ 2*ρ 10+ρ 3*ρ 11))+ρ 4*(ρ 8-(ρ 9*ρ 5+ρ 10*ρ 6+ρ 11*ρ 7))=(ρ 0+ρ 4*ρ 8)-((ρ 1+ρ 4*ρ 5)*ρ 9+(ρ 2+ρ 4*ρ 6)*ρ 10+(ρ 3+ρ 4*ρ 7)*ρ 11)from fun ρ=>CR.ring ρ rfl) (CR.vr [d,a,b,c,r,r0,r1,r2,o,x,y,z])
theorem zaD(m:V3)(s:S4)(x:Int×Int):z5g m (s.rest m) x=(s.step x).rest m:=by
 unfold z5g S4.rest S4.step znZ V3.dot' V3.add V3.scale
 simp only
 rw[z50,z50,z50]
theorem zpr(m:V3)(l:List (Int×Int)): ∀s:S4,l.foldl (z5g m) (s.rest m)=(l.foldl S4.step s).rest m:=by
 induction l with
 |nil=>intro s;rfl
 |cons x l ih=>intro s;rw[List.foldl_cons,List.foldl_cons,zaD,ih]
theorem z89(m:V3):S4.zero.rest m=⟨0,0,0⟩:=by
 have z: ∀x y z:K,(0:K)-(0*x+0*y+0*z)=0:=fun x y z=>(show ∀ρ:Nat→K,(0:K)-(0*ρ 0+0*ρ 1+0*ρ 2)=0 from fun ρ=>CR.ring ρ rfl) (CR.vr [x,y,z])
 unfold S4.rest S4.zero
 simp only
 rw[z]
theorem zeZ (a1 a2 a3 b1 b2 b3 c1 c2 c3 d1 d2 d3 : K) :
    (a1*(b2*c3-b3*c2)+a2*(b3*c1-b1*c3)+a3*(b1*c2-b2*c1))*d1=a1*(d1*(b2*c3-b3*c2)+d2*(b3*c1-b1*c3)+d3*(b1*c2-b2*c1))+b1*(a1*(d2*c3-d3*c2)+a2*(d3*c1-d1*c3)+a3*(d1*c2-d2*c1))+c1*(a1*(b2*d3-b3*d2)+a2*(b3*d1-b1*d3)+a3*(b1*d2-b2*d1)):=
 (show ∀ρ:Nat→K,(ρ 0*(ρ 4*ρ 8-ρ 5*ρ 7)+ρ 1*(ρ 5*ρ 6-ρ 3*ρ 8)+ρ 2*(ρ 3*ρ 7-ρ 4*ρ 6))*ρ 9=ρ 0*(ρ 9*(ρ 4*ρ 8-ρ 5*ρ 7)+ρ 10*(ρ 5*ρ 6-ρ 3*ρ 8)+ρ 11*(ρ 3*ρ 7-ρ 4*ρ 6))+ρ 3*(ρ 0*(ρ 10*ρ 8-ρ 11*ρ 7)+ρ 1*(ρ 11*ρ 6-ρ 9*ρ 8)+ρ 2*(ρ 9*ρ 7-ρ 10*ρ 6))+ρ 6*(ρ 0*(ρ 4*ρ 11-ρ 5*ρ 10)+ρ 1*(ρ 5*ρ 9-ρ 3*ρ 11)+ρ 2*(ρ 3*ρ 10-ρ 4*ρ 9))from fun ρ=>CR.ring ρ rfl) (CR.vr [a1,a2,a3,b1,b2,b3,c1,c2,c3,d1,d2,d3])
theorem zfx (a1 a2 a3 b1 b2 b3 c1 c2 c3 d1 d2 d3 : K) :
    (a1*(b2*c3-b3*c2)+a2*(b3*c1-b1*c3)+a3*(b1*c2-b2*c1))*d2=a2*(d1*(b2*c3-b3*c2)+d2*(b3*c1-b1*c3)+d3*(b1*c2-b2*c1))+b2*(a1*(d2*c3-d3*c2)+a2*(d3*c1-d1*c3)+a3*(d1*c2-d2*c1))+c2*(a1*(b2*d3-b3*d2)+a2*(b3*d1-b1*d3)+a3*(b1*d2-b2*d1)):=
 (show ∀ρ:Nat→K,(ρ 0*(ρ 4*ρ 8-ρ 5*ρ 7)+ρ 1*(ρ 5*ρ 6-ρ 3*ρ 8)+ρ 2*(ρ 3*ρ 7-ρ 4*ρ 6))*ρ 10=ρ 1*(ρ 9*(ρ 4*ρ 8-ρ 5*ρ 7)+ρ 10*(ρ 5*ρ 6-ρ 3*ρ 8)+ρ 11*(ρ 3*ρ 7-ρ 4*ρ 6))+ρ 4*(ρ 0*(ρ 10*ρ 8-ρ 11*ρ 7)+ρ 1*(ρ 11*ρ 6-ρ 9*ρ 8)+ρ 2*(ρ 9*ρ 7-ρ 10*ρ 6))+ρ 7*(ρ 0*(ρ 4*ρ 11-ρ 5*ρ 10)+ρ 1*(ρ 5*ρ 9-ρ 3*ρ 11)+ρ 2*(ρ 3*ρ 10-ρ 4*ρ 9))from fun ρ=>CR.ring ρ rfl) (CR.vr [a1,a2,a3,b1,b2,b3,c1,c2,c3,d1,d2,d3])
theorem zam (a1 a2 a3 b1 b2 b3 c1 c2 c3 d1 d2 d3 : K) :
    (a1*(b2*c3-b3*c2)+a2*(b3*c1-b1*c3)+a3*(b1*c2-b2*c1))*d3=a3*(d1*(b2*c3-b3*c2)+d2*(b3*c1-b1*c3)+d3*(b1*c2-b2*c1))+b3*(a1*(d2*c3-d3*c2)+a2*(d3*c1-d1*c3)+a3*(d1*c2-d2*c1))+c3*(a1*(b2*d3-b3*d2)+a2*(b3*d1-b1*d3)+a3*(b1*d2-b2*d1)):=
 (show ∀ρ:Nat→K,(ρ 0*(ρ 4*ρ 8-ρ 5*ρ 7)+ρ 1*(ρ 5*ρ 6-ρ 3*ρ 8)+ρ 2*(ρ 3*ρ 7-ρ 4*ρ 6))*ρ 11=ρ 2*(ρ 9*(ρ 4*ρ 8-ρ 5*ρ 7)+ρ 10*(ρ 5*ρ 6-ρ 3*ρ 8)+ρ 11*(ρ 3*ρ 7-ρ 4*ρ 6))+ρ 5*(ρ 0*(ρ 10*ρ 8-ρ 11*ρ 7)+ρ 1*(ρ 11*ρ 6-ρ 9*ρ 8)+ρ 2*(ρ 9*ρ 7-ρ 10*ρ 6))+ρ 8*(ρ 0*(ρ 4*ρ 11-ρ 5*ρ 10)+ρ 1*(ρ 5*ρ 9-ρ 3*ρ 11)+ρ 2*(ρ 3*ρ 10-ρ 4*ρ 9))from fun ρ=>CR.ring ρ rfl) (CR.vr [a1,a2,a3,b1,b2,b3,c1,c2,c3,d1,d2,d3])
theorem z7e{D a b c p q r d:K}(h:D≠0)(e:D*d=a*(D*p)+b*(D*q)+c*(D*r)):d-(a*p+b*q+c*r)=0:=by
 have e2:D*(d-(a*p+b*q+c*r))=D*0:=by
  have s:D*(d-(a*p+b*q+c*r))=D*d-(a*(D*p)+b*(D*q)+c*(D*r)):=(show ∀ρ:Nat→K,ρ 0*(ρ 7-(ρ 1*ρ 4+ρ 2*ρ 5+ρ 3*ρ 6))=ρ 0*ρ 7-(ρ 1*(ρ 0*ρ 4)+ρ 2*(ρ 0*ρ 5)+ρ 3*(ρ 0*ρ 6))from fun ρ=>CR.ring ρ rfl) (CR.vr [D,a,b,c,p,q,r,d])
  rw[s,e,znQ]
  exact(show ∀ρ:Nat→K,(0:K)=ρ 0*0 from fun ρ=>CR.ring ρ rfl) (CR.vr [D])
 exact K.cancel h e2
theorem zfu{l:List (Int×Int)}(h:K.sgn (z7u (z0i l).a (z0i l).b (z0i l).c)≠0):(z0i l).rest (z68 l)=⟨0,0,0⟩:=by
 have hD:z7u (z0i l).a (z0i l).b (z0i l).c≠0:=fun e=>h (K.sgn_zero.2 e)
 unfold S4.rest z68
 simp only
 generalize hs:z0i l=s at*
 rw[z7e hD ?_,z7e hD ?_,z7e hD ?_]
 · rw[K.mul_div _ hD,K.mul_div _ hD,K.mul_div _ hD];exact zam s.a.x s.a.y s.a.z s.b.x s.b.y s.b.z s.c.x s.c.y s.c.z s.d.x s.d.y s.d.z
 · rw[K.mul_div _ hD,K.mul_div _ hD,K.mul_div _ hD];exact zfx s.a.x s.a.y s.a.z s.b.x s.b.y s.b.z s.c.x s.c.y s.c.z s.d.x s.d.y s.d.z
 · rw[K.mul_div _ hD,K.mul_div _ hD,K.mul_div _ hD];exact zeZ s.a.x s.a.y s.a.z s.b.x s.b.y s.b.z s.c.x s.c.y s.c.z s.d.x s.d.y s.d.z
theorem z8P{l:List (Int×Int)}(h:K.sgn (z7u (z0i l).a (z0i l).b (z0i l).c)≠0):l.foldl (z5g (z68 l)) ⟨0,0,0⟩=⟨0,0,0⟩:=by
 rw[←z89 (z68 l),zpr]
 exact(zfu h).trans (z89 _).symm
end Go.Fw
open Go
namespace Go.Fw
set_option maxRecDepth 100000
theorem zov(v:V3):(kv v).ok=true:=by
 unfold VN.ok ok3 kv kV
 rw[zie,zie,zie];rfl
theorem zck:kv ⟨0,0,0⟩=oV 0 0 0:=oV_0.symm
theorem zgw{m:V3}{n:Nat}(hm:sz3 m n){x:Int×Int}(hx: -10000≤x.2∧x.2≤10000):(znZ m x).sz≤3*n+11:=by
 have h:=z32 (zgL (z6e hm) hx)
 rw[z9C,z29]at h
 exact h
theorem zkY(m n:V3)(x:Int×Int):z0h (kv n) (J6 (W8 x.1) (z5Y (kv m) x))=kv (z5g m n x):=by
 unfold z5g
 rw[z5f,z9C,←z8s,←z2B]
theorem z7f{l:List (Int×Int)}(m:V3){k:Nat}(hk:k<l.length):(l.take (k+1)).foldl (z5g m) ⟨0,0,0⟩=z5g m ((l.take k).foldl (z5g m) ⟨0,0,0⟩) l[k]:=by
 rw[List.take_add_one,List.getElem?_eq_getElem hk,List.foldl_append];rfl
theorem zdn{l:List (Int×Int)}{m:V3}(hm:sz3 m 8000)(g:z5W l=true): ∀k,k≤l.length→sz3 ((l.take k).foldl (z5g m) ⟨0,0,0⟩) (k*24014+1)
 |0,_=>by
  have z:(0:K).sz≤1:=of_decide_eq_true (by kernel_rfl)
  exact⟨z,z,z⟩
 |k+1,hk=>by
  have ih:=zdn hm g k (by omega)
  rw[z7f m (by omega)]
  exact z08 (z5q ih (z1G (z3g _) (zgw hm ((z67 g).2 k (by omega))))) (by omega)
theorem zaW(l:List (Int×Int)):(∃e:Int,e≠0∧z0T l=(.zero,e))∨(z5W l=true∧K.sgn (z7u (z0i l).a (z0i l).b (z0i l).c)≠0∧z0T l=(kv (z68 l),0)):=by
 unfold z0T
 cases g:z5W l
 · exact .inl ⟨1,by decide,rfl⟩
 · by_cases h:K.sgn (z7u (z0i l).a (z0i l).b (z0i l).c)=0
   · rw[if_pos rfl,if_pos h];exact .inl ⟨20,by decide,rfl⟩
   · rw[if_pos rfl,if_neg h];exact .inr ⟨rfl,h,rfl⟩
theorem zkb{l:List (Int×Int)}(g:z5W l=true)(m:V3):zcN l (kv m)=(l.map (z5Y (kv m)),0):=by
 unfold zcN
 rw[g,zov];rfl
theorem z8K(l:List (Int×Int)):PCall P 11 [rdV l] (.lit (.bool true)):=by
 cases g:decide ((l.length:Int)>12)
 case true=>exact zkA l g
 have hl:l.length≤12:=by have:=of_decide_eq_false g;omega
 rcases zaW l with⟨e,he,hf⟩|⟨go,hs,hf⟩
 · refine(zkV l g (by rw[hf];exact zpw he) (by omega) hl).eqB ?_
   rw[hf];rfl
 · have hz:=zlM go hl
   have r1:(z0T l).1=kv (z68 l):=by rw[hf]
   have r2:=zkb go (z68 l)
   have hr:(zcN l (z0T l).1)=(l.map (z5Y (kv (z68 l))),0):=by rw[r1,r2]
   refine X5 (znT l g (by rw[hf];rfl) (by rw[hr];rfl) (by rw[hr];exact zpn (by rw[List.length_map])) (by omega) hl (by omega) (by omega) (by rw[r1];exact z6e (z08 hz (by decide))) (by decide) (by decide) (by decide) ?_)
   rw[hr,←zck]
   have key := z6S (fun k => Ok P 11 (loopHead P 11 0) ⟨J2 76 [(0, .cv (rdV l)), (7, .ptr 0 0), (47, .cv (nmV (l.map (z5Y (kv (z68 l)))))), (48, .cv (j6 (l.map (z5Y (kv (z68 l)))).length)), (49, .cv (j6 k))], [some (vnM (kv ((l.take k).foldl (z5g (z68 l)) ⟨0, 0, 0⟩)))]⟩ (.of (· = .lit (.bool true)))) l.length ?_ ?_
   · exact key
   · intro k hk h
     have hb:=(z67 go).2 k hk
     have hk':k<(l.map (z5Y (kv (z68 l)))).length:=by rw[List.length_map];exact hk
     have hm:(l.map (z5Y (kv (z68 l))))[k]=z5Y (kv (z68 l)) l[k]:=List.getElem_map _
     have q:=zdn hz go k (by omega)
     have q1:=zdn hz go (k+1) (by omega)
     rw[z7f _ hk]at q1
     have rr:=zgw hz hb
     have cell:(flat rdL l)[(k:Int).toNat*2+0]?=some (j6 l[k].1):=by
      rw[Int.toNat_natCast,zd3 z15 hk (by decide)];rfl
     have rx:(z5Y (kv (z68 l)) l[k]).raw 1000000=true:=by rw[z9C];exact z4k (Nat.le_trans rr (by decide))
     have rw1:(J6 (W8 l[k].1) (z5Y (kv (z68 l)) l[k])).raw 1000000=true:=by
      rw[z5f,z9C,z2B]
      exact z6e (z08 (z1G (z3g _) rr) (by omega))
     have gg:=z0W zhF hk'
     rw[hm]at gg
     refine zn5 l _ _ (z5Y (kv (z68 l)) l[k]) k l[k].1 0 (decide_eq_true (by omega)) (by decide) rx (z6e (z08 q (by omega))) rw1 (by omega) gg (by omega) cell (by omega) cell rfl ?_
     rw[zkY,w64 (by omega)]
     rw[z7f _ hk]at h
     exact h
   · rw[List.take_length,z8P hs,zck]
     refine zkZ l _ _ .zero l.length 0 0 (decide_eq_false (by rw[List.length_map];omega)) ?_ rfl
     exact z7j _
end Go.Fw
open Go
namespace Go.Fw
theorem zaI(l:List (Int×Int)):PCall P 11 [rdV l] (.lit (.bool true)):=z8K l
end Go.Fw
open Go Go.Proofs Go.Proofs.YtcafjpldfnegiaaGreatDoor
namespace Go.Fw
open Go.ChangeShapes Go.WideShapes Go.ChangeAt Go.RowKit
set_option maxRecDepth 100000
theorem zaQ{α:Type}[Inhabited α] {n:Nat}{q:Nat→α→Prop}(h: ∀i,i<n→ ∃x,q i x): ∃f:Nat→α,∀i,i<n→q i (f i):=
 ⟨fun i=>if hi:i<n then(h i hi).choose else default,fun i hi=>by simp only[dif_pos hi];exact(h i hi).choose_spec⟩
theorem z6l {w : World} {base : Nat} {a : Addr} {n : Nat} {cs : List Value} (h : w.cells? base a n = some cs) (hn : 0 < n) :
    a.spot=none∧ ∃c T fz,w.heap[a.block]?=some (.cells c T fz)∧(c.toList.drop a.off).take n=cs:=by
 obtain⟨_,hlen,hi⟩:=World.cells?_some h
 have h0:=hi 0 hn
 have e0:a.add 0=a:=rfl
 rw[e0]at h0
 unfold World.cell? at h0
 split at h0
 · rename_i c T fz hc
   split at h0
   · rw[List.getElem?_eq_getElem (by omega)]at h0;cases h0
   · rename_i hs
     have hspot:a.spot=none:=by cases e:a.spot with|none=>rfl|some s=>rw[e]at hs;exact absurd rfl hs
     refine⟨hspot,c,T,fz,hc,?_⟩
     refine List.ext_getElem? fun i=>?_
     by_cases hin:i<n
     · rw[List.getElem?_take_of_lt hin,List.getElem?_drop,←hi i hin]
       unfold World.cell? Addr.add
       by_cases hi0:i=0
       · subst hi0
         rw[if_pos rfl,hc]
         simp[hspot]
       · rw[if_neg hi0,hc]
         simp
     · rw[List.getElem?_eq_none (by rw[List.length_take];omega),List.getElem?_eq_none (by omega)]
 · rw[List.getElem?_eq_getElem (by omega)]at h0;cases h0
def zkj(b:Nat)(cs:List Value):Imm:=fun k=>if k=b then some cs else none
theorem z9n(Im:Imm): ∀l:List Value,CV.repL Im (l.map .lit) l
 | []=>by simp only[List.map_nil,CV.repL]
 |x::l=>by
  simp only[List.map_cons,CV.repL]
  exact⟨x,l,rfl,by simp only[CV.rep],z9n Im l⟩
def zom(x:Int×Int):List Value:=[.int .i64 x.1,.int .i64 x.2]
theorem zdx(l:List (Int×Int)):flat rdL l=(l.flatMap zom).map .lit:=by
 induction l with
 |nil=>rfl
 |cons x l ih=>rw[z1E,ih,List.flatMap_cons,List.map_append];rfl
theorem z96(a:Addr)(n:Nat):(a.add n).block=a.block∧(a.add n).off=a.off+n:=by
 unfold Addr.add
 split
 · rename_i h;subst h;exact⟨rfl,rfl⟩
 · exact⟨rfl,rfl⟩
section
variable{H:Type}{enc:TypeId×Value→H}{W:World}{base:Nat}{sp:Nat→Bool}{hd:Bool}
theorem zeG {t e : TypeId} {v : Value} {d : DataW H} {ps : List MemPlace} (hu : Tryz.prog.underlying t = some (.slice e)) (he : z6j Tryz.prog 8 e = some [.i .i64, .i .i64]) (hc : Tryz.prog.cellsOf e = 2) (hv : ∃ a len cap, v = .slice a len cap) (h : DataW.Trod enc Tryz.prog W base sp hd t v d ps) :
    ∃l:List (Int×Int),∃Im:Imm,ImOk Im W∧(rdV l).rep Im v:=by
 obtain⟨fuel,hx⟩:=h
 obtain⟨a0,len0,cap0,rfl⟩:=hv
 rcases Deep.open_slice hu hx with⟨h1,_⟩|⟨a,len,cap,m,n,D,Pl,h1,hb,hl,hm,hmm,_,hel⟩
 · simp only[Value.cells,List.cons.injEq,and_true]at h1
   injection h1 with e1 e2 e3
   subst e1 e2 e3
   refine⟨[],fun _=>none,(fun b cs hb=>by cases hb),?_⟩
   unfold rdV CV.rep
   exact⟨none,0,rfl,Nat.le_refl _,.inl ⟨rfl,rfl⟩⟩
 · simp only[Value.cells,List.cons.injEq,and_true]at h1
   injection h1 with e1 e2 e3
   subst e1
   obtain rfl:=e2.symm
   obtain rfl:=e3.symm
   have hlm:len≤m:=by rw[hmm];split<;>omega
   rw[hc]at hel
   obtain⟨f,hf⟩:=zaQ (α:=Int×Int) (n:=len) (q:=fun i x=>W.cells? base (a.add (i*2)) 2=some (zom x)) (fun i hi=>by
    obtain⟨cs,k1,k2⟩:=hel i (by omega)
    have k3:=z5Q 8 n e cs _ _ k2 he
    simp only[CTs,CT.ok]at k3
    obtain⟨_,_,rfl,⟨x,rfl,_⟩,_,_,rfl,⟨y,rfl,_⟩,rfl⟩:=k3
    exact⟨(x,y),k1⟩)
   by_cases h0:len=0
   · subst h0
     refine⟨[],fun _=>none,(fun b cs hb=>by cases hb),?_⟩
     unfold rdV CV.rep
     exact⟨some a,cap,rfl,hl,.inl ⟨rfl,rfl⟩⟩
   · obtain⟨hs,c,T,fz,hcell,_⟩:=z6l (hf 0 (by omega)) (by decide)
     rw[(z96 a (0*2)).1]at hcell
     have hs':a.spot=none:=hs
     have step: ∀k,k<len→(c.toList.drop (a.off+k*2)).take 2=zom (f k):=fun k hk=>by
      obtain⟨_,c',T',fz',h2,h3⟩:=z6l (hf k hk) (by decide)
      rw[(z96 a (k*2)).1,hcell]at h2
      injection h2 with h2
      injection h2 with h2
      subst h2
      rw[(z96 a (k*2)).2]at h3
      exact h3
     have all: ∀k,k≤len→(c.toList.drop a.off).take (k*2)=((List.range k).map f).flatMap zom:=by
      intro k
      induction k with
      |zero=>intro _;simp
      |succ k ih=>
       intro hk
       rw[List.range_succ,List.map_append,List.flatMap_append,←ih (by omega),Nat.succ_mul,List.take_add,List.drop_drop,step k (by omega)]
       simp
     refine⟨(List.range len).map f,zkj a.block c.toList,?_,?_⟩
     · intro b cs hbb
       unfold zkj at hbb
       split at hbb
       · rename_i hbe
         subst hbe
         injection hbb with hbb
         exact⟨c,T,fz,hcell,hbb⟩
       · cases hbb
     · unfold rdV CV.rep
       have hlen:(flat rdL ((List.range len).map f)).length=len*2:=by rw[z22 z15,List.length_map,List.length_range]
       refine⟨some a,cap,by rw[List.length_map,List.length_range],by rw[List.length_map,List.length_range];exact hl,.inr ⟨a.block,a.off,c.toList,?_,?_,?_⟩⟩
       · rw[←hs']
       · unfold zkj;rw[if_pos rfl]
       · rw[hlen,all len (Nat.le_refl _),zdx]
         exact z9n _ _
end
theorem zce {f : FuncId} {cs : List CV} {W : World} {args : Array Value} (Im : Imm) (him : ImOk Im W) (h : PCall P f cs (.lit (.bool true))) (ha : CV.repL Im cs args.toList) :
    Calls Tryz.prog f args W fun e W'=>e= .returned (.bool true)∧Below W.heap.size W W':=by
 refine(h Im W args him ha).mono ?_
 rintro e W' ⟨y,v,I',rfl,rfl,hv,_,_,hb,_⟩
 simp only[CV.rep]at hv
 subst hv
 exact⟨rfl,hb⟩
end Go.Fw
open Go Go.Proofs Go.Proofs.YtcafjpldfnegiaaGreatDoor
namespace Go.Fw
open Go.ChangeShapes Go.WideShapes Go.ChangeAt Go.RowKit
set_option maxRecDepth 100000
theorem zbV {H : Type} {enc : TypeId × Value → H} (W : World) (base : Nat) (args : Array Value) (ds gs : List (DataW H)) (before : List MemPlace)
    (hval: ∀(j:Nat) t v,Tryz.f11.params[j]?=some t→args[j]?=some v→Value.okWide Tryz.prog W .any base t v)
    (hW:DataW.Whole enc Tryz.prog Tryz.f11.params.toList Rows.calibrateNormalSpec.vars false W args.toList ds gs before):
    Calls Tryz.prog 11 args W fun e W'=>e= .returned (.bool true)∧Below W.heap.size W W':=by
 obtain⟨p,q,hA,hV,_,_,_⟩:=hW
 rw[Tryz.params11]at hA hval
 obtain⟨v0,vs0,d0,ds0,p0,q0,ha0,hd0,_,h0,r0⟩:=trodAll_cons hA
 obtain⟨hz,hzd,_⟩:=trodAll_nil r0
 subst hz
 obtain rfl:args= #[v0]:=by cases args;simp_all
 obtain⟨l0,Im,him,rp0⟩:=zeG Tryz.underlying68 (by kernel_rfl) (by kernel_rfl) (okWide_slice Tryz.underlying68 (hval 0 68 v0 rfl rfl)) h0
 exact zce Im him (zaI l0) ⟨_,_,rfl,rp0,rfl⟩
end Go.Fw
