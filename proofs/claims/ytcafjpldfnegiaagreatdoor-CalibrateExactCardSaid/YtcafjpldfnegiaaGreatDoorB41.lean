/- A part of the proof that the law returns true for every input: an executor for the model's code, and what functions of the program compute. -/
import Derived.Test.YtcafjpldfnegiaaGreatDoorB11
import Derived.Test.YtcafjpldfnegiaaGreatDoorB15
import Derived.Test.YtcafjpldfnegiaaGreatDoorB37
import Derived.Test.YtcafjpldfnegiaaGreatDoorB39
import Derived.Test.YtcafjpldfnegiaaGreatDoorB40
import Derived.KernelRfl
open Go IntKind
namespace Go.Fw
set_option maxRecDepth 100000
theorem zlM(a b c v:VN)(k:RN)(d:VN.raw 1000000 v=true)(e:RN.raw 1000000 k=true)(f:VN.raw 1000000 a=true)(g:VN.raw 1000000 (J6 v k)=true)(o4:BlksCv (List.take 1 [some (v3M (z0k a (J6 v k)) b c),some (vnM v),some (own (RN.l k)),none,none])):z1K P 140 [some (v3M a b c)] [.ptr 0 0,.agg (vnM v),.agg (own k.l)] (.tup []) (List.take 1 [some (v3M (z0k a (J6 v k)) b c),some (vnM v),some (own (RN.l k)),none,none]):=
 z9t (ors:=[(8,.r (z5d (J6 v k).x (J6 v k).y (J6 v k).z)),(9,.r (z5d (z0k a (J6 v k)).x (z0k a (J6 v k)).y (z0k a (J6 v k)).z)),(12,.a)]) (by kernel_rfl) (.cons (z4x v k d e) (.cons (z9D a (J6 v k) f g) (.cons (lq 30 90) (.cons (lq 1 5) (.cons o4 .nil)))))
theorem zk7(a b c v:VN)(k:RN)(d:VN.raw 1000000 v=true)(e:RN.raw 1000000 k=true)(f:VN.raw 1000000 b=true)(g:VN.raw 1000000 (J6 v k)=true)(o4:BlksCv (List.take 1 [some (v3M a (z0k b (J6 v k)) c),some (vnM v),some (own (RN.l k)),none,none])):z1K P 140 [some (v3M a b c)] [.ptr 0 30,.agg (vnM v),.agg (own k.l)] (.tup []) (List.take 1 [some (v3M a (z0k b (J6 v k)) c),some (vnM v),some (own (RN.l k)),none,none]):=
 z9t (ors:=[(8,.r (z5d (J6 v k).x (J6 v k).y (J6 v k).z)),(9,.r (z5d (z0k b (J6 v k)).x (z0k b (J6 v k)).y (z0k b (J6 v k)).z)),(12,.a)]) (by kernel_rfl) (.cons (z4x v k d e) (.cons (z9D b (J6 v k) f g) (.cons (lq 60 90) (.cons (lq 1 5) (.cons o4 .nil)))))
theorem zmo(a b c v:VN)(k:RN)(d:VN.raw 1000000 v=true)(e:RN.raw 1000000 k=true)(f:VN.raw 1000000 c=true)(g:VN.raw 1000000 (J6 v k)=true)(o4:BlksCv (List.take 1 [some (v3M a b (z0k c (J6 v k))),some (vnM v),some (own (RN.l k)),none,none])):z1K P 140 [some (v3M a b c)] [.ptr 0 60,.agg (vnM v),.agg (own k.l)] (.tup []) (List.take 1 [some (v3M a b (z0k c (J6 v k))),some (vnM v),some (own (RN.l k)),none,none]):=
 z9t (ors:=[(8,.r (z5d (J6 v k).x (J6 v k).y (J6 v k).z)),(9,.r (z5d (z0k c (J6 v k)).x (z0k c (J6 v k)).y (z0k c (J6 v k)).z)),(12,.a)]) (by kernel_rfl) (.cons (z4x v k d e) (.cons (z9D c (J6 v k) f g) (.cons (lq 90 90) (.cons (lq 1 5) (.cons o4 .nil)))))
theorem zmQ(a v:VN)(k:RN)(d:VN.raw 1000000 v=true)(e:RN.raw 1000000 k=true)(f:VN.raw 1000000 a=true)(g:VN.raw 1000000 (J6 v k)=true)(o4:BlksCv (List.take 1 [some (vnM (z0k a (J6 v k))),some (vnM v),some (own (RN.l k)),none,none])):z1K P 140 [some (vnM a)] [.ptr 0 0,.agg (vnM v),.cv k.c] (.tup []) (List.take 1 [some (vnM (z0k a (J6 v k))),some (vnM v),some (own (RN.l k)),none,none]):=
 z9t (ors:=[(8,.r (z5d (J6 v k).x (J6 v k).y (J6 v k).z)),(9,.r (z5d (z0k a (J6 v k)).x (z0k a (J6 v k)).y (z0k a (J6 v k)).z)),(12,.a)]) (by kernel_rfl) (.cons (z4x v k d e) (.cons (z9D a (J6 v k) f g) (.cons (lq 30 30) (.cons (lq 1 5) (.cons o4 .nil)))))
theorem z4D{x:List CV}{l:List Blk}:BlksCv (List.take 1 (some (own x)::l)):=by
 intro b hb
 simp only[List.take_succ_cons,List.take_zero,List.mem_singleton]at hb
 subst hb
 intro cells hc
 cases hc
 exact CvL.map_cv _
section
variable{n:Nat}{v:VN}{k:RN}
theorem zkH(a b c v:VN)(k:RN)(ha:a.raw 1000000=true)(hv:v.raw 100000=true)(hk:k.raw 100000=true):z1K P 140 [some (v3M a b c)] [.ptr 0 0,.agg (vnM v),.agg (own k.l)] (.tup []) [some (v3M (z0k a (J6 v k)) b c)]:=
 zlM a b c v k (VN.raw_mono hv (by decide)) (RN.raw_mono hk (by decide)) ha (VN.raw_mono (z2l hv hk) (by decide)) z4D
theorem zl3(a b c v:VN)(k:RN)(ha:b.raw 1000000=true)(hv:v.raw 100000=true)(hk:k.raw 100000=true):z1K P 140 [some (v3M a b c)] [.ptr 0 30,.agg (vnM v),.agg (own k.l)] (.tup []) [some (v3M a (z0k b (J6 v k)) c)]:=
 zk7 a b c v k (VN.raw_mono hv (by decide)) (RN.raw_mono hk (by decide)) ha (VN.raw_mono (z2l hv hk) (by decide)) z4D
theorem zkd(a b c v:VN)(k:RN)(ha:c.raw 1000000=true)(hv:v.raw 100000=true)(hk:k.raw 100000=true):z1K P 140 [some (v3M a b c)] [.ptr 0 60,.agg (vnM v),.agg (own k.l)] (.tup []) [some (v3M a b (z0k c (J6 v k)))]:=
 zmo a b c v k (VN.raw_mono hv (by decide)) (RN.raw_mono hk (by decide)) ha (VN.raw_mono (z2l hv hk) (by decide)) z4D
theorem zk4(a v:VN)(k:RN)(ha:a.raw 1000000=true)(hv:v.raw 100000=true)(hk:k.raw 100000=true):z1K P 140 [some (vnM a)] [.ptr 0 0,.agg (vnM v),.cv k.c] (.tup []) [some (vnM (z0k a (J6 v k)))]:=
 zmQ a v k (VN.raw_mono hv (by decide)) (RN.raw_mono hk (by decide)) ha (VN.raw_mono (z2l hv hk) (by decide)) z4D
end
theorem zcF(u v w:VN)(hu:u.raw 1000=true)(hv:v.raw 1000=true)(hw:w.raw 1000=true):PCall P 145 [.lst 3 (v3L u v w)] (Y3 u v w).c:=zkj u v w hu hv hw
theorem zkT(l:List (Int×Int))(a b c d:VN)(k:Int)(h:decide (k<(↑l.length:Int))=false)(hs:(z9e (Y3 a b c)==0)=true)(e:VN.raw 1000 a=true)(f:VN.raw 1000 b=true)(g:VN.raw 1000 c=true)(i:RN.raw 1000000 (Y3 a b c)=true)(o3:(v3M a b c)=(v3M a b c)){R:Goal}(hR:R.c (.tup [z3U,.lit (.int .i64 20)])):Ok P 60 (loopHead P 60 0) ⟨J3 96 [(2,.ptr 0 0),(5,.ptr 1 0),(6,.ptr 2 0),(7,.cv (CV.lit (Value.func (Fn.func 140) #[] #[]))),(27,.cv (rdV l)),(28,.cv (j7 (↑l.length:Int))),(29,.cv (j7 k))],[some (vnM VN.zero),some (v3M a b c),some (vnM d)]⟩ R:=
 okT (.b 2 h (.c (lq 90 90) (.c (zcF a b c e f g) (.c o3 (.c (lq 10 10) (.c (zbT (Y3 a b c) i) (.o 4 (.k (RN.c (Y3 a b c)) [(v3L a b c)]) (.o 8 (.r (.lit (.int .i64 (z9e (Y3 a b c))))) (.b 10 hs (.c (lq 30 30) .nil)))))))))) (by kernel_rfl) hR
theorem zmK(l:List (Int×Int))(a b c d:VN)(k:Int)(h:decide (k<(↑l.length:Int))=false)(hs:(z9e (Y3 a b c)==0)=false)(e1:((z1q (Y3 d b c) (Y3 a b c)).snd != 0)=false)(e2:((z1q (Y3 a d c) (Y3 a b c)).snd != 0)=false)(e3:((z1q (Y3 a b d) (Y3 a b c)).snd != 0)=false)(e:VN.raw 1000 a=true)(f:VN.raw 1000 b=true)(g:VN.raw 1000 c=true)(i:RN.raw 1000000 (Y3 a b c)=true)(j:VN.raw 1000 d=true)(m:VN.raw 1000 b=true)(n:VN.raw 1000 c=true)(p:RN.raw 1000000 (Y3 d b c)=true)(q:RN.raw 1000000 (Y3 a b c)=true)(s:VN.raw 1000 a=true)(t:VN.raw 1000 d=true)(u:VN.raw 1000 c=true)(v:RN.raw 1000000 (Y3 a d c)=true)(w:RN.raw 1000000 (Y3 a b c)=true)(x:VN.raw 1000 a=true)(y:VN.raw 1000 b=true)(z:VN.raw 1000 d=true)(a0:RN.raw 1000000 (Y3 a b d)=true)(a1:RN.raw 1000000 (Y3 a b c)=true)(o3:(v3M a b c)=(v3M a b c))(o12:(v3M d b c)=(v3M d b c))(o23:(v3M a d c)=(v3M a d c))(o34:(v3M a b d)=(v3M a b d)){R:Goal}(hR:R.c (.tup [z5d (z1q (Y3 d b c) (Y3 a b c)).fst (z1q (Y3 a d c) (Y3 a b c)).fst (z1q (Y3 a b d) (Y3 a b c)).fst,.lit (.int .i64 0)])):Ok P 60 (loopHead P 60 0) ⟨J3 96 [(2,.ptr 0 0),(5,.ptr 1 0),(6,.ptr 2 0),(7,.cv (CV.lit (Value.func (Fn.func 140) #[] #[]))),(27,.cv (rdV l)),(28,.cv (j7 (↑l.length:Int))),(29,.cv (j7 k))],[some (vnM VN.zero),some (v3M a b c),some (vnM d)]⟩ R:=
 okT (.c h (.c (lq 90 90) (.c (zcF a b c e f g) (.c o3 (.c (lq 10 10) (.c (zbT (Y3 a b c) i) (.c hs (.c (lq 90 90) (.c (bq 0 3) (.c (lq 30 90) (.c (lq 90 90) (.c (zcF d b c j m n) (.c o12 (.c (zcs (Y3 d b c) (Y3 a b c) p q) (.c (lq 10 10) (.c e1 (.c (bq 0 3) (.c (lq 10 30) (.c (lq 90 90) (.c (bq 1 3) (.c (lq 60 90) (.c (lq 90 90) (.c (zcF a d c s t u) (.c o23 (.c (zcs (Y3 a d c) (Y3 a b c) v w) (.c (lq 10 10) (.c e2 (.c (bq 1 3) (.c (lq 20 30) (.c (lq 90 90) (.c (bq 2 3) (.c (lq 90 90) (.c (lq 90 90) (.c (zcF a b d x y z) (.c o34 (.c (zcs (Y3 a b d) (Y3 a b c) a0 a1) (.c (lq 10 10) (.c e3 (.c (bq 2 3) (.c (lq 30 30) (.c (bq 0 3) (.c (bq 1 3) (.c (bq 2 3) (.c (lq 30 30) (.o 2 (.b false) (.o 4 (.k (RN.c (Y3 a b c)) [(v3L a b c)]) (.o 8 (.r (.lit (.int .i64 (z9e (Y3 a b c))))) (.o 10 (.b false) (.o 26 (.k (RN.c (Y3 d b c)) [(v3L d b c)]) (.o 28 (.r (.tup [RN.c (z1q (Y3 d b c) (Y3 a b c)).fst,.lit (.int .i64 (z1q (Y3 d b c) (Y3 a b c)).2)])) (.o 37 (.b false) (.o 57 (.k (RN.c (Y3 a d c)) [(v3L a d c)]) (.o 59 (.r (.tup [RN.c (z1q (Y3 a d c) (Y3 a b c)).fst,.lit (.int .i64 (z1q (Y3 a d c) (Y3 a b c)).2)])) (.o 68 (.b false) (.o 88 (.k (RN.c (Y3 a b d)) [(v3L a b d)]) (.o 90 (.r (.tup [RN.c (z1q (Y3 a b d) (Y3 a b c)).fst,.lit (.int .i64 (z1q (Y3 a b d) (Y3 a b c)).2)])) (.o 99 (.b false) .nil))))))))))))))))))))))))))))))))))))))))))))))))))))))))) (by kernel_rfl) hR
theorem zov:oV 0 0 0=kV 0 0 0:=by
 have e: ∀v:VN,v=⟨v.x,v.y,v.z⟩:=fun _=>rfl
 rw[e (oV 0 0 0),zn6,znb,znd,z8R];rfl
theorem z8t{x k:K}(hk:K.sgn k=1):K.sgn (x*k)=K.sgn x:=by rw[K.sgn_mul,hk,Int.mul_one]
theorem z7G{x k:K}(h:x≠0)(hk:K.sgn k=1):x*k≠0:=fun e=>h (K.sgn_zero.1 (by rw[←z8t hk,e];exact K.sgn_zero.2 rfl))
theorem zcj(a b c a' b' c':K):z3n (kV a b c) (kV a' b' c')=kV (b*c'-c*b') (c*a'-a*c') (a*b'-b*a'):=by
 unfold z3n kV
 rw[z89,z89,z1p,z1p,z1p];rfl
theorem zi6(a1 a2 a3 b1 b2 b3 c1 c2 c3:K):Y3 (kV a1 a2 a3) (kV b1 b2 b3) (kV c1 c2 c3)=kN (a1*(b2*c3-b3*c2)+a2*(b3*c1-b1*c3)+a3*(b1*c2-b2*c1)):=by
 unfold Y3
 rw[zcj,zd1]
theorem zmj(x:K):x-x=0:=(show ∀ρ:Nat→K,ρ 0-ρ 0=0 from fun ρ=>CR.ring ρ rfl) (CR.vr [x])
noncomputable def kv(v:V3):VN:=kV v.x v.y v.z
noncomputable def z1u(i:Int):V3:=⟨K.ofInt 1,z6y i,zae i⟩
theorem z78(i:Int):X0 i=kv (z1u i):=by unfold X0 kv z1u kV;rw[z8R]
theorem z91(v w:V3):z0k (kv v) (kv w)=kv (v.add w):=zhy _ _ _ _ _ _
theorem z4u(v:V3)(k:K):J6 (kv v) (kN k)=kv (v.scale k):=zbC _ _ _ _
def z4l(a b c:V3):K:=a.x*(b.y*c.z-b.z*c.y)+a.y*(b.z*c.x-b.x*c.z)+a.z*(b.x*c.y-b.y*c.x)
theorem z45(a b c:V3):Y3 (kv a) (kv b) (kv c)=kN (z4l a b c):=zi6 _ _ _ _ _ _ _ _ _
def sz3(v:V3)(n:Nat):Prop:=v.x.sz≤n∧v.y.sz≤n∧v.z.sz≤n
theorem z0A{v:V3}{n m:Nat}(h:sz3 v n)(hm:n≤m):sz3 v m:=⟨Nat.le_trans h.1 hm,Nat.le_trans h.2.1 hm,Nat.le_trans h.2.2 hm⟩
theorem zg7{v:V3}{n:Nat}(h:sz3 v n):(kv v).raw n=true:=z0c.2 ⟨z5l h.1,z5l h.2.1,z5l h.2.2⟩
theorem z6O{v w:V3}{a b:Nat}(hv:sz3 v a)(hw:sz3 w b):sz3 (v.add w) (a+b+1):=by
 obtain⟨x,y,z⟩:=hv
 obtain⟨x',y',z'⟩:=hw
 have h1:=K.sz_add v.x w.x
 have h2:=K.sz_add v.y w.y
 have h3:=K.sz_add v.z w.z
 exact⟨Nat.le_trans h1 (by omega),Nat.le_trans h2 (by omega),Nat.le_trans h3 (by omega)⟩
theorem z36{v:V3}{k:K}{a b:Nat}(hv:sz3 v a)(hk:k.sz≤b):sz3 (v.scale k) (a+b+1):=by
 obtain⟨x,y,z⟩:=hv
 have h1:=K.sz_mul v.x k
 have h2:=K.sz_mul v.y k
 have h3:=K.sz_mul v.z k
 exact⟨Nat.le_trans h1 (by omega),Nat.le_trans h2 (by omega),Nat.le_trans h3 (by omega)⟩
theorem zls:(K.ofInt 1).sz≤1:=of_decide_eq_true (by kernel_rfl)
theorem z4U(i:Int):sz3 (z1u i) 1:=⟨zls,zfJ i,zfX i⟩
theorem zlY{a b c:V3}{n:Nat}(ha:sz3 a n)(hb:sz3 b n)(hc:sz3 c n):(z4l a b c).sz≤15*n+14:=by
 obtain⟨a1,a2,a3⟩:=ha
 obtain⟨b1,b2,b3⟩:=hb
 obtain⟨c1,c2,c3⟩:=hc
 have min: ∀{p q r s:K},p.sz≤n→q.sz≤n→r.sz≤n→s.sz≤n→(p*q-r*s).sz≤4*n+3:=fun {p q r s} h1 h2 h3 h4=>by
  have m1:=K.sz_mul p q
  have m2:=K.sz_mul r s
  have m3:=K.sz_sub (p*q) (r*s)
  omega
 have t: ∀{p q:K},p.sz≤n→q.sz≤4*n+3→(p*q).sz≤5*n+4:=fun {p q} h1 h2=>by
  have m1:=K.sz_mul p q
  omega
 have t1:=t a1 (min b2 c3 b3 c2)
 have t2:=t a2 (min b3 c1 b1 c3)
 have t3:=t a3 (min b1 c2 b2 c1)
 unfold z4l
 have s1:=K.sz_add (a.x*(b.y*c.z-b.z*c.y)) (a.y*(b.z*c.x-b.x*c.z))
 have s2:=K.sz_add (a.x*(b.y*c.z-b.z*c.y)+a.y*(b.z*c.x-b.x*c.z)) (a.z*(b.x*c.y-b.y*c.x))
 omega
structure S4 where
 a:V3
 b:V3
 c:V3
 d:V3
noncomputable def S4.step(s:S4)(x:Int×Int):S4:=⟨s.a.add ((z1u x.1).scale (z1u x.1).x),s.b.add ((z1u x.1).scale (z1u x.1).y),s.c.add ((z1u x.1).scale (z1u x.1).z),s.d.add ((z1u x.1).scale (K.ofInt x.2))⟩
def S4.zero:S4:=⟨⟨0,0,0⟩,⟨0,0,0⟩,⟨0,0,0⟩,⟨0,0,0⟩⟩
noncomputable def z02(l:List (Int×Int)):S4:=l.foldl S4.step .zero
theorem z7m{l:List (Int×Int)}{k:Nat}(hk:k<l.length):z02 (l.take (k+1))=(z02 (l.take k)).step l[k]:=by
 unfold z02
 rw[List.take_add_one,List.getElem?_eq_getElem hk,List.foldl_append]
 rfl
theorem z8a{l:List (Int×Int)}(h:z4j l=true): ∀k,k≤l.length→(sz3 (z02 (l.take k)).a (4*k+1)∧sz3 (z02 (l.take k)).b (4*k+1)∧sz3 (z02 (l.take k)).c (4*k+1))∧sz3 (z02 (l.take k)).d (5*k+1)
 |0,_=>by
  have z:(0:K).sz≤1:=of_decide_eq_true (by kernel_rfl)
  exact⟨⟨⟨z,z,z⟩,⟨z,z,z⟩,⟨z,z,z⟩⟩,⟨z,z,z⟩⟩
 |k+1,hk=>by
  obtain⟨⟨h1,h2,h3⟩,h4⟩:=z8a h k (by omega)
  have hb:=(z71 h).2 k (by omega)
  obtain⟨r1,r2,r3⟩:=z4U l[k].1
  rw[z7m (by omega)]
  exact⟨⟨z0A (z6O h1 (z36 (z4U _) r1)) (by omega),z0A (z6O h2 (z36 (z4U _) r2)) (by omega),z0A (z6O h3 (z36 (z4U _) r3)) (by omega)⟩,
   z0A (z6O h4 (z36 (z4U _) (z7s hb))) (by omega)⟩
theorem zmd(v:V3)(i:Int):z0k (kv v) (J6 (X0 i) (X0 i).x)=kv (v.add ((z1u i).scale (z1u i).x)):=by
 rw[z78,←z91,←z4u];rfl
theorem zkA(v:V3)(i:Int):z0k (kv v) (J6 (X0 i) (X0 i).y)=kv (v.add ((z1u i).scale (z1u i).y)):=by
 rw[z78,←z91,←z4u];rfl
theorem zlT(v:V3)(i:Int):z0k (kv v) (J6 (X0 i) (X0 i).z)=kv (v.add ((z1u i).scale (z1u i).z)):=by
 rw[z78,←z91,←z4u];rfl
theorem zky(v:V3)(i o:Int):z0k (kv v) (J6 (X0 i) (oN o))=kv (v.add ((z1u i).scale (K.ofInt o))):=by
 rw[z78,←z91,←z4u,z8R]
theorem z4y{x y:List CV}:BlksCv [some (own x),some (own y)]:=by
 intro b hb
 simp only[List.mem_cons,List.not_mem_nil,or_false]at hb
 rcases hb with rfl|rfl<;>(intro cells hc;cases hc;exact CvL.map_cv _)
theorem zkX(l:List (Int×Int))(g:z4j l=true)(a:l.length<2^30)(d e f:(-9223372036854775808:Int)≤0∧(0:Int)≤9223372036854775807){R:CV→Prop}(hR:Ok P 60 (loopHead P 60 0) ⟨J3 96 [(2,.ptr 0 0),(5,.ptr (0+1) 0),(6,.ptr (0+1+1) 0),(7,.cv (CV.lit (Value.func (Fn.func 140) {toList:=[]} {toList:=[]}))),(27,.cv (.lst l.length (flat rdL l))),(28,.cv (.lit (.int .i64 (↑l.length:Int)))),(29,.cv (.lit (.int .i64 0)))],[some (vnM (VN.zero)),some (v3M (oV (0:Int) (0:Int) (0:Int)) (oV (0:Int) (0:Int) (0:Int)) (oV (0:Int) (0:Int) (0:Int))),some (vnM (oV (0:Int) (0:Int) (0:Int)))]⟩ (.of R)):W5 P 60 [rdV l] R:=
 Y2 (keep:=[2,5,6,7,27,28,29]) (σ:=[0,4,5]) (.r 3 ((z4N l a).eqB g) (.r 6 (znS (0:Int) (0:Int) (0:Int) d e f) (.c (lq 30 30) (.c (lq 90 90) (.c (lq 30 30) (.o 22 .stop .nil)))))) (by kernel_rfl) rfl hR (.cons (CvL.map_cv _) (.cons (CvL.map_cv _) (.cons (CvL.map_cv _) .nil)))
theorem zgz(l:List (Int×Int))(g:z4j l=false)(a:l.length<2^30):PCall P 60 [rdV l] (.tup [z3U,.lit (.int .i64 1)]):=
 j5 (.r 3 ((z4N l a).eqB g) (.c (lq 30 30) .nil)) (by kernel_rfl)
theorem zhl(l:List (Int×Int))(a b c d:VN)(k mi mo:Int)(h:decide (k<(↑l.length:Int))=true)(e:VN.raw 1000000 a=true)(f:VN.raw 100000 (X0 mi)=true)(g:RN.raw 100000 (X0 mi).x=true)(i:VN.raw 1000000 b=true)(j:VN.raw 100000 (X0 mi)=true)(p:RN.raw 100000 (X0 mi).y=true)(q:VN.raw 1000000 c=true)(s:VN.raw 100000 (X0 mi)=true)(t:RN.raw 100000 (X0 mi).z=true)(u:(-9223372036854775808:Int)≤mo∧mo≤9223372036854775807)(v:VN.raw 1000000 d=true)(w:VN.raw 100000 (X0 mi)=true)(a0:RN.raw 100000 (oN mo)=true)(o1:(0:Int)≤k∧k<(↑l.length:Int))(o2:List.take 2 (List.drop (k.toNat*2) (flat rdL l))=[.lit (.int .i64 mi),.lit (.int .i64 mo)])(o9:BlksCv [some (v3M a b c),some (v3M (z0k a (J6 (X0 mi) (X0 mi).x)) b c)])(o12:BlksCv [some (v3M (z0k a (J6 (X0 mi) (X0 mi).x)) b c),some (v3M (z0k a (J6 (X0 mi) (X0 mi).x)) (z0k b (J6 (X0 mi) (X0 mi).y)) c)])(o15:BlksCv [some (v3M (z0k a (J6 (X0 mi) (X0 mi).x)) (z0k b (J6 (X0 mi) (X0 mi).y)) c),some (v3M (z0k a (J6 (X0 mi) (X0 mi).x)) (z0k b (J6 (X0 mi) (X0 mi).y)) (z0k c (J6 (X0 mi) (X0 mi).z)))])(o18:BlksCv [some (vnM d),some (vnM (z0k d (J6 (X0 mi) (oN mo))))]){R:Goal}(hn:j9 R.n [0,1,2]=true)(hR:Ok P 60 (loopHead P 60 0) ⟨J3 96 [(2,.ptr 0 0),(5,.ptr (0+1) 0),(6,.ptr (0+1+1) 0),(7,.cv (CV.lit (Value.func (Fn.func 140) {toList:=[]} {toList:=[]}))),(27,.cv (.lst l.length (flat rdL l))),(28,.cv (.lit (.int .i64 (↑l.length:Int)))),(29,.cv (.lit (.int .i64 (i64.wrap (k+1)))))],[some (vnM (VN.zero)),some (v3M (z0k a (J6 (X0 mi) (X0 mi).x)) (z0k b (J6 (X0 mi) (X0 mi).y)) (z0k c (J6 (X0 mi) (X0 mi).z))),some (vnM (z0k d (J6 (X0 mi) (oN mo))))]⟩ R):Ok P 60 (loopHead P 60 0) ⟨J3 96 [(2,.ptr 0 0),(5,.ptr 1 0),(6,.ptr 2 0),(7,.cv (CV.lit (Value.func (Fn.func 140) #[] #[]))),(27,.cv (rdV l)),(28,.cv (j7 (↑l.length:Int))),(29,.cv (j7 k))],[some (vnM VN.zero),some (v3M a b c),some (vnM d)]⟩ R:=
 z16 (keep:=[2,5,6,7,27,28,29]) (σ:=[0,1,2]) (.b 2 h (.c o1 (.c o2 (.c (eqn 2) (.c (lq 2 2) (.c (zda mi) (.c (lq 30 30) (.c (bq 0 3) (.c (zkH a b c (X0 mi) ((X0 mi).x) e f g) (.c o9 (.c (bq 1 3) (.c (zl3 (z0k a (J6 (X0 mi) (X0 mi).x)) b c (X0 mi) ((X0 mi).y) i j p) (.c o12 (.c (bq 2 3) (.c (zkd (z0k a (J6 (X0 mi) (X0 mi).x)) (z0k b (J6 (X0 mi) (X0 mi).y)) c (X0 mi) ((X0 mi).z) q s t) (.c o15 (.c (zdc mo u) (.c (zk4 d (X0 mi) (oN mo) v w a0) (.c o18 (.o 4 (.r (.agg [.lit (.int .i64 mi),.lit (.int .i64 mo)])) (.o 9 (.r (z5d (X0 mi).x (X0 mi).y (X0 mi).z)) (.o 17 (.m [1] (.tup []) [some (v3M (z0k a (J6 (X0 mi) (X0 mi).x)) b c)]) (.o 23 (.m [1] (.tup []) [some (v3M (z0k a (J6 (X0 mi) (X0 mi).x)) (z0k b (J6 (X0 mi) (X0 mi).y)) c)]) (.o 29 (.m [1] (.tup []) [some (v3M (z0k a (J6 (X0 mi) (X0 mi).x)) (z0k b (J6 (X0 mi) (X0 mi).y)) (z0k c (J6 (X0 mi) (X0 mi).z)))]) (.o 34 (.r (RN.c (oN mo))) (.o 35 (.m [2] (.tup []) [some (vnM (z0k d (J6 (X0 mi) (oN mo))))]) (.o 38 .stop .nil))))))))))))))))))))))))))) (by kernel_rfl) rfl hn hR (.cons (CvL.map_cv _) (.cons (CvL.map_cv _) (.cons (CvL.map_cv _) .nil)))
noncomputable def ziV(l:List (Int×Int))(k:Nat)(s:S4):St:=⟨J3 96 [(2,.ptr 0 0),(5,.ptr 1 0),(6,.ptr 2 0),(7,.cv (.lit (.func (.func 140) #[] #[]))),(27,.cv (rdV l)),(28,.cv (j7 l.length)),(29,.cv (j7 k))],[some (vnM VN.zero),some (v3M (kv s.a) (kv s.b) (kv s.c)),some (vnM (kv s.d))]⟩
theorem zel{R:Goal}(hn:j9 R.n [0,1,2]=true)(l:List (Int×Int))(g:z4j l=true)(hR:Ok P 60 (loopHead P 60 0) (ziV l l.length (z02 l)) R):Ok P 60 (loopHead P 60 0) (ziV l 0 .zero) R:=by
 have hl:=(z71 g).1
 have key:=z86 (fun k=>Ok P 60 (loopHead P 60 0) (ziV l k (z02 (l.take k))) R) l.length ?_ ?_
 · exact key
 · intro k hk h
   obtain⟨⟨h1,h2,h3⟩,h4⟩:=z8a g k (by omega)
   have hb:=(z71 g).2 k hk
   have up: ∀{v:V3} {n:Nat},sz3 v n→n≤1000000→(kv v).raw 1000000=true:=fun hv hn=>zg7 (z0A hv hn)
   have rr:(X0 l[k].1).raw 100000=true:=VN.raw_mono (z8v _) (by decide)
   obtain⟨rx,ry,rz⟩:=z0c.1 rr
   refine zhl l _ _ _ _ k l[k].1 l[k].2 (decide_eq_true (by omega)) (up h1 (by omega)) rr rx (up h2 (by omega)) rr ry (up h3 (by omega)) rr rz (by omega) (up h4 (by omega)) rr (z3f (Nat.le_trans (z7s hb) (by decide))) (by omega) (z2p z3Y hk) z4y z4y z4y z4y hn ?_
   rw[zmd,zkA,zlT,zky,w64 (by omega)]
   rw[z7m hk]at h
   exact h
 · rw[List.take_length];exact hR
noncomputable def z3t(l:List (Int×Int)):V3:=⟨K.div (z4l (z02 l).d (z02 l).b (z02 l).c) (z4l (z02 l).a (z02 l).b (z02 l).c),K.div (z4l (z02 l).a (z02 l).d (z02 l).c) (z4l (z02 l).a (z02 l).b (z02 l).c),K.div (z4l (z02 l).a (z02 l).b (z02 l).d) (z4l (z02 l).a (z02 l).b (z02 l).c)⟩
noncomputable def z1X(l:List (Int×Int)):VN×Int:=if z4j l then(if K.sgn (z4l (z02 l).a (z02 l).b (z02 l).c)=0 then(.zero,20)else(kv (z3t l),0))else(.zero,1)
theorem znZ{x y:K}(h:K.sgn y≠0):((z1q (kN x) (kN y)).2 != 0)=false:=by
 unfold z1q
 rw[z0X,z0X]
 dsimp only
 rw[if_neg h];rfl
theorem zdo{l:List (Int×Int)}(h:z4j l=true)(hl:l.length≤12):(sz3 (z02 l).a 61∧sz3 (z02 l).b 61∧sz3 (z02 l).c 61)∧sz3 (z02 l).d 61:=by
 obtain⟨⟨h1,h2,h3⟩,h4⟩:=z8a h l.length (Nat.le_refl _)
 rw[List.take_length]at h1 h2 h3 h4
 exact⟨⟨z0A h1 (by omega),z0A h2 (by omega),z0A h3 (by omega)⟩,z0A h4 (by omega)⟩
theorem zhJ(l:List (Int×Int))(hl:l.length≤12):PCall P 60 [rdV l] (.tup [(z1X l).1.c,j7 (z1X l).2]):=by
 unfold z1X
 cases g:z4j l
 · exact zgz l g (by omega)
 rw[if_pos rfl]
 obtain⟨⟨h1,h2,h3⟩,h4⟩:=zdo g hl
 have t: ∀{v:V3},sz3 v 61→(kv v).raw 1000=true:=fun hv=>zg7 (z0A hv (by decide))
 have ed:z9e (Y3 (kv (z02 l).a) (kv (z02 l).b) (kv (z02 l).c))=K.sgn (z4l (z02 l).a (z02 l).b (z02 l).c):=by rw[z45,zga]
 have dr: ∀{a b c:V3},sz3 a 61→sz3 b 61→sz3 c 61→(Y3 (kv a) (kv b) (kv c)).raw 1000000=true:=fun ha hb hc=>by
  rw[z45]
  exact z5l (Nat.le_trans (zlY ha hb hc) (by decide))
 refine V0 (zkX l g (by omega) (by decide) (by decide) (by decide) ?_)
 rw[zov]
 refine zel rfl l g ?_
 by_cases hs:K.sgn (z4l (z02 l).a (z02 l).b (z02 l).c)=0
 · rw[if_pos hs]
   exact zkT l _ _ _ _ l.length (decide_eq_false (by omega)) (beq_iff_eq.2 (ed.trans hs)) (t h1) (t h2) (t h3) (dr h1 h2 h3) rfl rfl
 · rw[if_neg hs]
   have ne: ∀x y z:V3,((z1q (Y3 (kv x) (kv y) (kv z)) (Y3 (kv (z02 l).a) (kv (z02 l).b) (kv (z02 l).c))).2 != 0)=false:=fun x y z=>by
    rw[z45,z45]
    exact znZ hs
   refine zmK l _ _ _ _ l.length (decide_eq_false (by omega)) (zos (by rw[ed];exact hs)) (ne _ _ _) (ne _ _ _) (ne _ _ _) (t h1) (t h2) (t h3) (dr h1 h2 h3) (t h4) (t h2) (t h3) (dr h4 h2 h3) (dr h1 h2 h3) (t h1) (t h4) (t h3) (dr h1 h4 h3) (dr h1 h2 h3) (t h1) (t h2) (t h4) (dr h1 h2 h4) (dr h1 h2 h3) rfl rfl rfl rfl ?_
   rw[z45,z45,z45,z45,zc5 _ _ hs,zc5 _ _ hs,zc5 _ _ hs]
   rfl
theorem zmI:z1X [(0,7),(6,5),(12,3),(18,5)]=(oV 5 2 0,0):=by
 unfold z1X
 rw[if_pos (by decide),if_neg (by decide+kernel)]
 have e:z3t [(0,7),(6,5),(12,3),(18,5)]=⟨K.ofInt 5,K.ofInt 2,K.ofInt 0⟩:=by kernel_rfl
 rw[e]
 have o: ∀v:VN,v=⟨v.x,v.y,v.z⟩:=fun _=>rfl
 rw[o (oV 5 2 0),zn6,znb,znd,z8R,z8R,z8R];rfl
theorem zox:PCall P 60 [.lst 4 [j7 0,j7 7,j7 6,j7 5,j7 12,j7 3,j7 18,j7 5]] (.tup [(oV 5 2 0).c,j7 0]):=by
 have h:=zhJ [(0,7),(6,5),(12,3),(18,5)] (by decide)
 rw[zmI]at h
 exact h
theorem zin(_q:(rnB (oV (5:Int) (2:Int) (0:Int)).x (oV (5:Int) (2:Int) (0:Int)).x&&(rnB (oV (5:Int) (2:Int) (0:Int)).y (oV (5:Int) (2:Int) (0:Int)).y&&(rnB (oV (5:Int) (2:Int) (0:Int)).z (oV (5:Int) (2:Int) (0:Int)).z&&true)))=true)(a:(-9223372036854775808:Int)≤(5:Int)∧(5:Int)≤(9223372036854775807:Int))(d:(-9223372036854775808:Int)≤(2:Int)∧(2:Int)≤(9223372036854775807:Int))(e:(-9223372036854775808:Int)≤(0:Int)∧(0:Int)≤(9223372036854775807:Int)):PCall P (59:FuncId) [] (CV.lit (Value.bool (rnB (oV (5:Int) (2:Int) (0:Int)).x (oV (5:Int) (2:Int) (0:Int)).x&&(rnB (oV (5:Int) (2:Int) (0:Int)).y (oV (5:Int) (2:Int) (0:Int)).y&&(rnB (oV (5:Int) (2:Int) (0:Int)).z (oV (5:Int) (2:Int) (0:Int)).z&&true))))):=
 j5 (.c zox (.c (show [MV.cv (CV.lit (Value.int i64 (0:Int))),MV.cv (CV.lit (Value.int i64 (7:Int))),MV.cv (CV.lit (Value.int i64 (6:Int))),MV.cv (CV.lit (Value.int i64 (5:Int))),MV.cv (CV.lit (Value.int i64 (12:Int))),MV.cv (CV.lit (Value.int i64 (3:Int))),MV.cv (CV.lit (Value.int i64 (18:Int))),MV.cv (CV.lit (Value.int i64 (5:Int)))]=[MV.cv (CV.lit (Value.int i64 (0:Int))),MV.cv (CV.lit (Value.int i64 (7:Int))),MV.cv (CV.lit (Value.int i64 (6:Int))),MV.cv (CV.lit (Value.int i64 (5:Int))),MV.cv (CV.lit (Value.int i64 (12:Int))),MV.cv (CV.lit (Value.int i64 (3:Int))),MV.cv (CV.lit (Value.int i64 (18:Int))),MV.cv (CV.lit (Value.int i64 (5:Int)))]from rfl) (.c (show 30≤30 from(by decide)) (.c (zfL (5:Int) (2:Int) (0:Int) a d e) (.o 6 (Or.k (CV.tup [z5d (oV (5:Int) (2:Int) (0:Int)).x (oV (5:Int) (2:Int) (0:Int)).y (oV (5:Int) (2:Int) (0:Int)).z,CV.lit (Value.int i64 (0:Int))]) [[CV.lit (Value.int i64 (0:Int)),CV.lit (Value.int i64 (7:Int)),CV.lit (Value.int i64 (6:Int)),CV.lit (Value.int i64 (5:Int)),CV.lit (Value.int i64 (12:Int)),CV.lit (Value.int i64 (3:Int)),CV.lit (Value.int i64 (18:Int)),CV.lit (Value.int i64 (5:Int))]]) (.o 17 (Or.r (z5d (oV (5:Int) (2:Int) (0:Int)).x (oV (5:Int) (2:Int) (0:Int)).y (oV (5:Int) (2:Int) (0:Int)).z)) .nil)))))) (by kernel_rfl)
theorem z6P(x:RN):rnB x x=true:=zgP.2 rfl
theorem z6T(v:VN):(rnB v.x v.x&&(rnB v.y v.y&&(rnB v.z v.z&&true)))=true:=by
 rw[z6P,z6P,z6P];rfl
theorem z8q:PCall P 59 [] (.lit (.bool true)):=(zin (z6T _) (by decide) (by decide) (by decide)).eqB (z6T _)
def V3.dot'(v w:V3):K:=v.x*w.x+v.y*w.y+v.z*w.z
noncomputable def z84(m:V3)(x:Int×Int):K:=K.ofInt x.2-V3.dot' m (z1u x.1)
theorem zm2(m:V3)(x:Int×Int):z5T (kv m) x=kN (z84 m x):=by
 unfold z5T z84 V3.dot'
 rw[z78,z8R,show z4q (kv m) (kv (z1u x.1))=kN (m.x*(z1u x.1).x+m.y*(z1u x.1).y+m.z*(z1u x.1).z)from zd1 _ _ _ _ _ _,zmA]
noncomputable def z8m(m:V3)(n:V3)(x:Int×Int):V3:=n.add ((z1u x.1).scale (z84 m x))
def S4.rest(s:S4)(m:V3):V3:=⟨s.d.x-(s.a.x*m.x+s.b.x*m.y+s.c.x*m.z),s.d.y-(s.a.y*m.x+s.b.y*m.y+s.c.y*m.z),s.d.z-(s.a.z*m.x+s.b.z*m.y+s.c.z*m.z)⟩
theorem z4O(d a b c r r0 r1 r2 o x y z:K):(d-(a*x+b*y+c*z))+r*(o-(x*r0+y*r1+z*r2))=(d+r*o)-((a+r*r0)*x+(b+r*r1)*y+(c+r*r2)*z):=
 (show ∀ρ:Nat→K,(ρ 0-(ρ 1*ρ 9+ρ 2*ρ 10+ρ 3*ρ 11))+ρ 4*(ρ 8-(ρ 9*ρ 5+ρ 10*ρ 6+ρ 11*ρ 7))=(ρ 0+ρ 4*ρ 8)-((ρ 1+ρ 4*ρ 5)*ρ 9+(ρ 2+ρ 4*ρ 6)*ρ 10+(ρ 3+ρ 4*ρ 7)*ρ 11)from fun ρ=>CR.ring ρ rfl) (CR.vr [d,a,b,c,r,r0,r1,r2,o,x,y,z])
theorem zar(m:V3)(s:S4)(x:Int×Int):z8m m (s.rest m) x=(s.step x).rest m:=by
 unfold z8m S4.rest S4.step z84 V3.dot' V3.add V3.scale
 simp only
 rw[z4O,z4O,z4O]
theorem zoH(m:V3)(l:List (Int×Int)): ∀s:S4,l.foldl (z8m m) (s.rest m)=(l.foldl S4.step s).rest m:=by
 induction l with
 |nil=>intro s;rfl
 |cons x l ih=>intro s;rw[List.foldl_cons,List.foldl_cons,zar,ih]
theorem z77(m:V3):S4.zero.rest m=⟨0,0,0⟩:=by
 have z: ∀x y z:K,(0:K)-(0*x+0*y+0*z)=0:=fun x y z=>(show ∀ρ:Nat→K,(0:K)-(0*ρ 0+0*ρ 1+0*ρ 2)=0 from fun ρ=>CR.ring ρ rfl) (CR.vr [x,y,z])
 unfold S4.rest S4.zero
 simp only
 rw[z]
theorem zdY (a1 a2 a3 b1 b2 b3 c1 c2 c3 d1 d2 d3 : K) :
    (a1*(b2*c3-b3*c2)+a2*(b3*c1-b1*c3)+a3*(b1*c2-b2*c1))*d1=a1*(d1*(b2*c3-b3*c2)+d2*(b3*c1-b1*c3)+d3*(b1*c2-b2*c1))+b1*(a1*(d2*c3-d3*c2)+a2*(d3*c1-d1*c3)+a3*(d1*c2-d2*c1))+c1*(a1*(b2*d3-b3*d2)+a2*(b3*d1-b1*d3)+a3*(b1*d2-b2*d1)):=
 (show ∀ρ:Nat→K,(ρ 0*(ρ 4*ρ 8-ρ 5*ρ 7)+ρ 1*(ρ 5*ρ 6-ρ 3*ρ 8)+ρ 2*(ρ 3*ρ 7-ρ 4*ρ 6))*ρ 9=ρ 0*(ρ 9*(ρ 4*ρ 8-ρ 5*ρ 7)+ρ 10*(ρ 5*ρ 6-ρ 3*ρ 8)+ρ 11*(ρ 3*ρ 7-ρ 4*ρ 6))+ρ 3*(ρ 0*(ρ 10*ρ 8-ρ 11*ρ 7)+ρ 1*(ρ 11*ρ 6-ρ 9*ρ 8)+ρ 2*(ρ 9*ρ 7-ρ 10*ρ 6))+ρ 6*(ρ 0*(ρ 4*ρ 11-ρ 5*ρ 10)+ρ 1*(ρ 5*ρ 9-ρ 3*ρ 11)+ρ 2*(ρ 3*ρ 10-ρ 4*ρ 9))from fun ρ=>CR.ring ρ rfl) (CR.vr [a1,a2,a3,b1,b2,b3,c1,c2,c3,d1,d2,d3])
theorem ze0 (a1 a2 a3 b1 b2 b3 c1 c2 c3 d1 d2 d3 : K) :
    (a1*(b2*c3-b3*c2)+a2*(b3*c1-b1*c3)+a3*(b1*c2-b2*c1))*d2=a2*(d1*(b2*c3-b3*c2)+d2*(b3*c1-b1*c3)+d3*(b1*c2-b2*c1))+b2*(a1*(d2*c3-d3*c2)+a2*(d3*c1-d1*c3)+a3*(d1*c2-d2*c1))+c2*(a1*(b2*d3-b3*d2)+a2*(b3*d1-b1*d3)+a3*(b1*d2-b2*d1)):=
 (show ∀ρ:Nat→K,(ρ 0*(ρ 4*ρ 8-ρ 5*ρ 7)+ρ 1*(ρ 5*ρ 6-ρ 3*ρ 8)+ρ 2*(ρ 3*ρ 7-ρ 4*ρ 6))*ρ 10=ρ 1*(ρ 9*(ρ 4*ρ 8-ρ 5*ρ 7)+ρ 10*(ρ 5*ρ 6-ρ 3*ρ 8)+ρ 11*(ρ 3*ρ 7-ρ 4*ρ 6))+ρ 4*(ρ 0*(ρ 10*ρ 8-ρ 11*ρ 7)+ρ 1*(ρ 11*ρ 6-ρ 9*ρ 8)+ρ 2*(ρ 9*ρ 7-ρ 10*ρ 6))+ρ 7*(ρ 0*(ρ 4*ρ 11-ρ 5*ρ 10)+ρ 1*(ρ 5*ρ 9-ρ 3*ρ 11)+ρ 2*(ρ 3*ρ 10-ρ 4*ρ 9))from fun ρ=>CR.ring ρ rfl) (CR.vr [a1,a2,a3,b1,b2,b3,c1,c2,c3,d1,d2,d3])
theorem zal (a1 a2 a3 b1 b2 b3 c1 c2 c3 d1 d2 d3 : K) :
    (a1*(b2*c3-b3*c2)+a2*(b3*c1-b1*c3)+a3*(b1*c2-b2*c1))*d3=a3*(d1*(b2*c3-b3*c2)+d2*(b3*c1-b1*c3)+d3*(b1*c2-b2*c1))+b3*(a1*(d2*c3-d3*c2)+a2*(d3*c1-d1*c3)+a3*(d1*c2-d2*c1))+c3*(a1*(b2*d3-b3*d2)+a2*(b3*d1-b1*d3)+a3*(b1*d2-b2*d1)):=
 (show ∀ρ:Nat→K,(ρ 0*(ρ 4*ρ 8-ρ 5*ρ 7)+ρ 1*(ρ 5*ρ 6-ρ 3*ρ 8)+ρ 2*(ρ 3*ρ 7-ρ 4*ρ 6))*ρ 11=ρ 2*(ρ 9*(ρ 4*ρ 8-ρ 5*ρ 7)+ρ 10*(ρ 5*ρ 6-ρ 3*ρ 8)+ρ 11*(ρ 3*ρ 7-ρ 4*ρ 6))+ρ 5*(ρ 0*(ρ 10*ρ 8-ρ 11*ρ 7)+ρ 1*(ρ 11*ρ 6-ρ 9*ρ 8)+ρ 2*(ρ 9*ρ 7-ρ 10*ρ 6))+ρ 8*(ρ 0*(ρ 4*ρ 11-ρ 5*ρ 10)+ρ 1*(ρ 5*ρ 9-ρ 3*ρ 11)+ρ 2*(ρ 3*ρ 10-ρ 4*ρ 9))from fun ρ=>CR.ring ρ rfl) (CR.vr [a1,a2,a3,b1,b2,b3,c1,c2,c3,d1,d2,d3])
theorem z6D{D a b c p q r d:K}(h:D≠0)(e:D*d=a*(D*p)+b*(D*q)+c*(D*r)):d-(a*p+b*q+c*r)=0:=by
 have e2:D*(d-(a*p+b*q+c*r))=D*0:=by
  have s:D*(d-(a*p+b*q+c*r))=D*d-(a*(D*p)+b*(D*q)+c*(D*r)):=(show ∀ρ:Nat→K,ρ 0*(ρ 7-(ρ 1*ρ 4+ρ 2*ρ 5+ρ 3*ρ 6))=ρ 0*ρ 7-(ρ 1*(ρ 0*ρ 4)+ρ 2*(ρ 0*ρ 5)+ρ 3*(ρ 0*ρ 6))from fun ρ=>CR.ring ρ rfl) (CR.vr [D,a,b,c,p,q,r,d])
  rw[s,e,zmj]
  exact(show ∀ρ:Nat→K,(0:K)=ρ 0*0 from fun ρ=>CR.ring ρ rfl) (CR.vr [D])
 exact K.cancel h e2
theorem zek{l:List (Int×Int)}(h:K.sgn (z4l (z02 l).a (z02 l).b (z02 l).c)≠0):(z02 l).rest (z3t l)=⟨0,0,0⟩:=by
 have hD:z4l (z02 l).a (z02 l).b (z02 l).c≠0:=fun e=>h (K.sgn_zero.2 e)
 unfold S4.rest z3t
 simp only
 generalize hs:z02 l=s at*
 rw[z6D hD ?_,z6D hD ?_,z6D hD ?_]
 · rw[K.mul_div _ hD,K.mul_div _ hD,K.mul_div _ hD];exact zal s.a.x s.a.y s.a.z s.b.x s.b.y s.b.z s.c.x s.c.y s.c.z s.d.x s.d.y s.d.z
 · rw[K.mul_div _ hD,K.mul_div _ hD,K.mul_div _ hD];exact ze0 s.a.x s.a.y s.a.z s.b.x s.b.y s.b.z s.c.x s.c.y s.c.z s.d.x s.d.y s.d.z
 · rw[K.mul_div _ hD,K.mul_div _ hD,K.mul_div _ hD];exact zdY s.a.x s.a.y s.a.z s.b.x s.b.y s.b.z s.c.x s.c.y s.c.z s.d.x s.d.y s.d.z
theorem z8N{l:List (Int×Int)}(h:K.sgn (z4l (z02 l).a (z02 l).b (z02 l).c)≠0):l.foldl (z8m (z3t l)) ⟨0,0,0⟩=⟨0,0,0⟩:=by
 rw[←z77 (z3t l),zoH]
 exact(zek h).trans (z77 _).symm
theorem znu(v:V3):(kv v).ok=true:=by
 unfold VN.ok ok3 kv kV
 rw[ziX,ziX,ziX];rfl
theorem ziZ{l:List (Int×Int)}(g:z4j l=true)(m:V3):z4e l (kv m)=(l.map (z5T (kv m)),0):=by
 unfold z4e
 rw[g,znu];rfl
theorem zcD{α β:Type}(f:β→List CV)(g:α→β)(l:List α):flat f (l.map g)=flat (fun x=>f (g x)) l:=by
 induction l with
 |nil=>rfl
 |cons x l ih=>rw[List.map_cons,z0R,z0R,ih]
theorem z7Q{P:Program}{f:FuncId}{args:List CV}{v:CV}(h:PCall P f (.lst 0 []::args) v):PCall P f (.lit (.slice none 0 0)::args) v:=by
 intro Im w vs him hrep
 refine h Im w vs him ?_
 unfold CV.repL at hrep ⊢
 obtain⟨y,ys,h1,h2,h3⟩:=hrep
 refine⟨y,ys,h1,?_,h3⟩
 unfold CV.rep at h2 ⊢
 exact⟨none,0,h2,Nat.le_refl _,.inl ⟨rfl,rfl⟩⟩
theorem zdu:z1X []=(.zero,20):=by
 unfold z1X
 rw[if_pos (by decide),if_pos (by decide+kernel)]
theorem zgK:PCall P 60 [.lst 0 []] (.tup [VN.zero.c,j7 20]):=by
 have h:=zhJ [] (by decide)
 rw[zdu]at h
 exact h
def zoe(v w:V3)(p r:K):V3:=⟨v.x*p+w.x*r,v.y*p+w.y*r,v.z*p+w.z*r⟩
theorem V3.ext{v w:V3}(h1:v.x=w.x)(h2:v.y=w.y)(h3:v.z=w.z):v=w:=by
 cases v;cases w;simp only at h1 h2 h3;subst h1 h2 h3;rfl
theorem ziG{l:List (Int×Int)}(hl:l.length≤48)(h: ∀k (hk:k<l.length),-10000≤l[k].2∧l[k].2≤10000):z4j l=true:=by
 unfold z4j
 rw[decide_eq_true hl,Bool.true_and,List.all_eq_true]
 intro x hx
 obtain⟨k,hk,rfl⟩:=List.getElem_of_mem hx
 exact decide_eq_true (h k hk)
theorem zfy{l:List (Int×Int)}(g:z4j l=true)(h:K.sgn (z4l (z02 l).a (z02 l).b (z02 l).c)=0):z1X l=(.zero,20):=by
 unfold z1X
 rw[g,if_pos rfl,if_pos h]
theorem zcH{l:List (Int×Int)}(g:z4j l=true)(h:K.sgn (z4l (z02 l).a (z02 l).b (z02 l).c)≠0):z1X l=(kv (z3t l),0):=by
 unfold z1X
 rw[g,if_pos rfl,if_neg h]
def psV(l:List Int):CV:= .lst l.length (l.map fun n=> .lit (.int .u8 n))
noncomputable def xp(l:List Bool):Code:=z5i l z3l
noncomputable def zna:List Item:=[.code (xp [true,true,true,true,true,true,true,false,true]),.code (xp [true,true,true,true,true,true,true,true])]
end Go.Fw
