/- A part of the proof that the law returns true for every input: an executor for the model's code, and what functions of the program compute. -/
import Derived.Test.YtcafjpldfnegiaaGreatDoorB11
import Derived.Test.YtcafjpldfnegiaaGreatDoorB15
import Derived.Test.YtcafjpldfnegiaaGreatDoorB35
import Derived.Test.YtcafjpldfnegiaaGreatDoorB40
import Derived.Test.YtcafjpldfnegiaaGreatDoorB41
import Derived.Test.YtcafjpldfnegiaaGreatDoorB42
import Derived.Test.YtcafjpldfnegiaaGreatDoorB43
import Derived.KernelRfl
open Go IntKind
namespace Go.Fw
set_option maxRecDepth 100000
theorem zoi(a b c v:VN)(k:RN)(s8_0:VN.raw 1000000 v=true)(s8_1:RN.raw 1000000 k=true)(s9_0:VN.raw 1000000 a=true)(s9_1:VN.raw 1000000 (J8 v k)=true)(o4:BlksCv (List.take 1 [some (v3M (z0t a (J8 v k)) b c),some (vnM v),some (own (RN.l k)),none,none])):z1U P 140 [some (v3M a b c)] [.ptr 0 0,.agg (vnM v),.agg (own k.l)] (.tup []) (List.take 1 [some (v3M (z0t a (J8 v k)) b c),some (vnM v),some (own (RN.l k)),none,none]):=
 z9K (ors:=[(8,.r (z3J (J8 v k).x (J8 v k).y (J8 v k).z)),(9,.r (z3J (z0t a (J8 v k)).x (z0t a (J8 v k)).y (z0t a (J8 v k)).z)),(12,.a)]) (by kernel_rfl) (.cons (z4Q (v) (k) s8_0 s8_1) (.cons (z9A (a) (J8 v k) s9_0 s9_1) (.cons (lq 30 90) (.cons (lq 1 5) (.cons o4 .nil)))))
theorem zoy(a b c v:VN)(k:RN)(s8_0:VN.raw 1000000 v=true)(s8_1:RN.raw 1000000 k=true)(s9_0:VN.raw 1000000 b=true)(s9_1:VN.raw 1000000 (J8 v k)=true)(o4:BlksCv (List.take 1 [some (v3M a (z0t b (J8 v k)) c),some (vnM v),some (own (RN.l k)),none,none])):z1U P 140 [some (v3M a b c)] [.ptr 0 30,.agg (vnM v),.agg (own k.l)] (.tup []) (List.take 1 [some (v3M a (z0t b (J8 v k)) c),some (vnM v),some (own (RN.l k)),none,none]):=
 z9K (ors:=[(8,.r (z3J (J8 v k).x (J8 v k).y (J8 v k).z)),(9,.r (z3J (z0t b (J8 v k)).x (z0t b (J8 v k)).y (z0t b (J8 v k)).z)),(12,.a)]) (by kernel_rfl) (.cons (z4Q (v) (k) s8_0 s8_1) (.cons (z9A (b) (J8 v k) s9_0 s9_1) (.cons (lq 60 90) (.cons (lq 1 5) (.cons o4 .nil)))))
theorem zl7(a b c v:VN)(k:RN)(s8_0:VN.raw 1000000 v=true)(s8_1:RN.raw 1000000 k=true)(s9_0:VN.raw 1000000 c=true)(s9_1:VN.raw 1000000 (J8 v k)=true)(o4:BlksCv (List.take 1 [some (v3M a b (z0t c (J8 v k))),some (vnM v),some (own (RN.l k)),none,none])):z1U P 140 [some (v3M a b c)] [.ptr 0 60,.agg (vnM v),.agg (own k.l)] (.tup []) (List.take 1 [some (v3M a b (z0t c (J8 v k))),some (vnM v),some (own (RN.l k)),none,none]):=
 z9K (ors:=[(8,.r (z3J (J8 v k).x (J8 v k).y (J8 v k).z)),(9,.r (z3J (z0t c (J8 v k)).x (z0t c (J8 v k)).y (z0t c (J8 v k)).z)),(12,.a)]) (by kernel_rfl) (.cons (z4Q (v) (k) s8_0 s8_1) (.cons (z9A (c) (J8 v k) s9_0 s9_1) (.cons (lq 90 90) (.cons (lq 1 5) (.cons o4 .nil)))))
theorem zlG(a v:VN)(k:RN)(s8_0:VN.raw 1000000 v=true)(s8_1:RN.raw 1000000 k=true)(s9_0:VN.raw 1000000 a=true)(s9_1:VN.raw 1000000 (J8 v k)=true)(o4:BlksCv (List.take 1 [some (vnM (z0t a (J8 v k))),some (vnM v),some (own (RN.l k)),none,none])):z1U P 140 [some (vnM a)] [.ptr 0 0,.agg (vnM v),.cv k.c] (.tup []) (List.take 1 [some (vnM (z0t a (J8 v k))),some (vnM v),some (own (RN.l k)),none,none]):=
 z9K (ors:=[(8,.r (z3J (J8 v k).x (J8 v k).y (J8 v k).z)),(9,.r (z3J (z0t a (J8 v k)).x (z0t a (J8 v k)).y (z0t a (J8 v k)).z)),(12,.a)]) (by kernel_rfl) (.cons (z4Q (v) (k) s8_0 s8_1) (.cons (z9A (a) (J8 v k) s9_0 s9_1) (.cons (lq 30 30) (.cons (lq 1 5) (.cons o4 .nil)))))
end Go.Fw
open Go
namespace Go.Fw
set_option maxRecDepth 100000
theorem z4P{x:List CV}{l:List Blk}:BlksCv (List.take 1 (some (own x)::l)):=by
 intro b hb
 simp only[List.take_succ_cons,List.take_zero,List.mem_singleton]at hb
 subst hb
 intro cells hc
 cases hc
 exact CvL.map_cv _
section
variable{n:Nat}{v:VN}{k:RN}
theorem zn4(a b c v:VN)(k:RN)(ha:a.raw 1000000=true)(hv:v.raw 100000=true)(hk:k.raw 100000=true):z1U P 140 [some (v3M a b c)] [.ptr 0 0,.agg (vnM v),.agg (own k.l)] (.tup []) [some (v3M (z0t a (J8 v k)) b c)]:=
 zoi a b c v k (VN.raw_mono hv (by decide)) (RN.raw_mono hk (by decide)) ha (VN.raw_mono (z2I hv hk) (by decide)) z4P
theorem zom(a b c v:VN)(k:RN)(ha:b.raw 1000000=true)(hv:v.raw 100000=true)(hk:k.raw 100000=true):z1U P 140 [some (v3M a b c)] [.ptr 0 30,.agg (vnM v),.agg (own k.l)] (.tup []) [some (v3M a (z0t b (J8 v k)) c)]:=
 zoy a b c v k (VN.raw_mono hv (by decide)) (RN.raw_mono hk (by decide)) ha (VN.raw_mono (z2I hv hk) (by decide)) z4P
theorem zmZ(a b c v:VN)(k:RN)(ha:c.raw 1000000=true)(hv:v.raw 100000=true)(hk:k.raw 100000=true):z1U P 140 [some (v3M a b c)] [.ptr 0 60,.agg (vnM v),.agg (own k.l)] (.tup []) [some (v3M a b (z0t c (J8 v k)))]:=
 zl7 a b c v k (VN.raw_mono hv (by decide)) (RN.raw_mono hk (by decide)) ha (VN.raw_mono (z2I hv hk) (by decide)) z4P
theorem zmI(a v:VN)(k:RN)(ha:a.raw 1000000=true)(hv:v.raw 100000=true)(hk:k.raw 100000=true):z1U P 140 [some (vnM a)] [.ptr 0 0,.agg (vnM v),.cv k.c] (.tup []) [some (vnM (z0t a (J8 v k)))]:=
 zlG a v k (VN.raw_mono hv (by decide)) (RN.raw_mono hk (by decide)) ha (VN.raw_mono (z2I hv hk) (by decide)) z4P
end
end Go.Fw
open Go
namespace Go.Fw
set_option maxRecDepth 100000
theorem zcZ(u v w:VN)(hu:u.raw 1000=true)(hv:v.raw 1000=true)(hw:w.raw 1000=true):PCall P 145 [.lst 3 (v3L u v w)] (W1 u v w).c:=zmG u v w hu hv hw
end Go.Fw
open Go IntKind
namespace Go.Fw
set_option maxRecDepth 100000
theorem zmh(l:List (Int×Int))(a b c d:VN)(k:Int)(h:decide (k<(↑l.length:Int))=false)(hs:(zf9 (W1 a b c)==0)=true)(s4_0:VN.raw 1000 a=true)(s4_1:VN.raw 1000 b=true)(s4_2:VN.raw 1000 c=true)(s8_0:RN.raw 1000000 (W1 a b c)=true)(o3:(v3M a b c)=(v3M a b c)){R:Goal}(hR:R.c (.tup [z2p,.lit (.int .i64 20)])):Ok P 60 (loopHead P 60 0) ⟨J2 96 [(2,.ptr 0 0),(5,.ptr 1 0),(6,.ptr 2 0),(7,.cv (CV.lit (Value.func (Fn.func 140) #[] #[]))),(27,.cv (rdV l)),(28,.cv (j5 (↑l.length:Int))),(29,.cv (j5 k))],[some (vnM VN.zero),some (v3M a b c),some (vnM d)]⟩ R:=
 okT (.b 2 h (.c (lq 90 90) (.c (zcZ (a) (b) (c) s4_0 s4_1 s4_2) (.c o3 (.c (lq 10 10) (.c (zc2 (W1 a b c) s8_0) (.o 4 (.k (RN.c (W1 a b c)) [(v3L a b c)]) (.o 8 (.r (.lit (.int .i64 (zf9 (W1 a b c))))) (.b 10 hs (.c (lq 30 30) .nil)))))))))) (by kernel_rfl) hR
theorem zmC(l:List (Int×Int))(a b c d:VN)(k:Int)(h:decide (k<(↑l.length:Int))=false)(hs:(zf9 (W1 a b c)==0)=false)(e1:((z1H (W1 d b c) (W1 a b c)).snd != 0)=false)(e2:((z1H (W1 a d c) (W1 a b c)).snd != 0)=false)(e3:((z1H (W1 a b d) (W1 a b c)).snd != 0)=false)(s4_0:VN.raw 1000 a=true)(s4_1:VN.raw 1000 b=true)(s4_2:VN.raw 1000 c=true)(s8_0:RN.raw 1000000 (W1 a b c)=true)(s26_0:VN.raw 1000 d=true)(s26_1:VN.raw 1000 b=true)(s26_2:VN.raw 1000 c=true)(s28_0:RN.raw 1000000 (W1 d b c)=true)(s28_1:RN.raw 1000000 (W1 a b c)=true)(s57_0:VN.raw 1000 a=true)(s57_1:VN.raw 1000 d=true)(s57_2:VN.raw 1000 c=true)(s59_0:RN.raw 1000000 (W1 a d c)=true)(s59_1:RN.raw 1000000 (W1 a b c)=true)(s88_0:VN.raw 1000 a=true)(s88_1:VN.raw 1000 b=true)(s88_2:VN.raw 1000 d=true)(s90_0:RN.raw 1000000 (W1 a b d)=true)(s90_1:RN.raw 1000000 (W1 a b c)=true)(o3:(v3M a b c)=(v3M a b c))(o12:(v3M d b c)=(v3M d b c))(o23:(v3M a d c)=(v3M a d c))(o34:(v3M a b d)=(v3M a b d)){R:Goal}(hR:R.c (.tup [z3J (z1H (W1 d b c) (W1 a b c)).fst (z1H (W1 a d c) (W1 a b c)).fst (z1H (W1 a b d) (W1 a b c)).fst,.lit (.int .i64 0)])):Ok P 60 (loopHead P 60 0) ⟨J2 96 [(2,.ptr 0 0),(5,.ptr 1 0),(6,.ptr 2 0),(7,.cv (CV.lit (Value.func (Fn.func 140) #[] #[]))),(27,.cv (rdV l)),(28,.cv (j5 (↑l.length:Int))),(29,.cv (j5 k))],[some (vnM VN.zero),some (v3M a b c),some (vnM d)]⟩ R:=
 okT (.c h (.c (lq 90 90) (.c (zcZ (a) (b) (c) s4_0 s4_1 s4_2) (.c o3 (.c (lq 10 10) (.c (zc2 (W1 a b c) s8_0) (.c hs (.c (lq 90 90) (.c (bq 0 3) (.c (lq 30 90) (.c (lq 90 90) (.c (zcZ (d) (b) (c) s26_0 s26_1 s26_2) (.c o12 (.c (zdn (W1 d b c) (W1 a b c) s28_0 s28_1) (.c (lq 10 10) (.c e1 (.c (bq 0 3) (.c (lq 10 30) (.c (lq 90 90) (.c (bq 1 3) (.c (lq 60 90) (.c (lq 90 90) (.c (zcZ (a) (d) (c) s57_0 s57_1 s57_2) (.c o23 (.c (zdn (W1 a d c) (W1 a b c) s59_0 s59_1) (.c (lq 10 10) (.c e2 (.c (bq 1 3) (.c (lq 20 30) (.c (lq 90 90) (.c (bq 2 3) (.c (lq 90 90) (.c (lq 90 90) (.c (zcZ (a) (b) (d) s88_0 s88_1 s88_2) (.c o34 (.c (zdn (W1 a b d) (W1 a b c) s90_0 s90_1) (.c (lq 10 10) (.c e3 (.c (bq 2 3) (.c (lq 30 30) (.c (bq 0 3) (.c (bq 1 3) (.c (bq 2 3) (.c (lq 30 30) (.o 2 (.b false) (.o 4 (.k (RN.c (W1 a b c)) [(v3L a b c)]) (.o 8 (.r (.lit (.int .i64 (zf9 (W1 a b c))))) (.o 10 (.b false) (.o 26 (.k (RN.c (W1 d b c)) [(v3L d b c)]) (.o 28 (.r (.tup [RN.c (z1H (W1 d b c) (W1 a b c)).fst,.lit (.int .i64 (z1H (W1 d b c) (W1 a b c)).2)])) (.o 37 (.b false) (.o 57 (.k (RN.c (W1 a d c)) [(v3L a d c)]) (.o 59 (.r (.tup [RN.c (z1H (W1 a d c) (W1 a b c)).fst,.lit (.int .i64 (z1H (W1 a d c) (W1 a b c)).2)])) (.o 68 (.b false) (.o 88 (.k (RN.c (W1 a b d)) [(v3L a b d)]) (.o 90 (.r (.tup [RN.c (z1H (W1 a b d) (W1 a b c)).fst,.lit (.int .i64 (z1H (W1 a b d) (W1 a b c)).2)])) (.o 99 (.b false) .nil))))))))))))))))))))))))))))))))))))))))))))))))))))))))) (by kernel_rfl) hR
end Go.Fw
open Go
namespace Go.Fw
set_option maxRecDepth 100000
theorem zpK:oV 0 0 0=kV 0 0 0:=by
 have e: ∀v:VN,v=⟨v.x,v.y,v.z⟩:=fun _=>rfl
 rw[e (oV 0 0 0),zpx,zpv,zpF,zgx];rfl
end Go.Fw
open Go
namespace Go.Fw
set_option maxRecDepth 100000
theorem z8T{x k:K}(hk:K.sgn k=1):K.sgn (x*k)=K.sgn x:=by rw[K.sgn_mul,hk,Int.mul_one]
theorem z80{x k:K}(h:x≠0)(hk:K.sgn k=1):x*k≠0:=fun e=>h (K.sgn_zero.1 (by rw[←z8T hk,e];exact K.sgn_zero.2 rfl))
end Go.Fw
open Go
namespace Go.Fw
set_option maxRecDepth 100000
theorem zcu(a b c a' b' c':K):z3E (kV a b c) (kV a' b' c')=kV (b*c'-c*b') (c*a'-a*c') (a*b'-b*a'):=by
 unfold z3E kV
 rw[z7N,z7N,z1P,z1P,z1P];rfl
theorem zi8(a1 a2 a3 b1 b2 b3 c1 c2 c3:K):W1 (kV a1 a2 a3) (kV b1 b2 b3) (kV c1 c2 c3)=kN (a1*(b2*c3-b3*c2)+a2*(b3*c1-b1*c3)+a3*(b1*c2-b2*c1)):=by
 unfold W1
 rw[zcu,zid]
theorem zml(x:K):x-x=0:=(show ∀ρ:Nat→K,ρ 0-ρ 0=0 from fun ρ=>CR.ring ρ rfl) (CR.vr [x])
end Go.Fw
open Go
namespace Go.Fw
set_option maxRecDepth 100000
noncomputable def kv(v:V3):VN:=kV v.x v.y v.z
noncomputable def z5f(i:Int):V3:=⟨K.ofInt 1,X9 i,U0 i⟩
theorem zac(i:Int):z08 i=kv (z5f i):=by unfold z08 kv z5f kV;rw[zgx]
theorem zab(v w:V3):z0t (kv v) (kv w)=kv (v.add w):=zj6 _ _ _ _ _ _
theorem z4W(v:V3)(k:K):J8 (kv v) (kN k)=kv (v.scale k):=zdv _ _ _ _
def z2i(a b c:V3):K:=a.x*(b.y*c.z-b.z*c.y)+a.y*(b.z*c.x-b.x*c.z)+a.z*(b.x*c.y-b.y*c.x)
theorem z4p(a b c:V3):W1 (kv a) (kv b) (kv c)=kN (z2i a b c):=zi8 _ _ _ _ _ _ _ _ _
def sz3(v:V3)(n:Nat):Prop:=v.x.sz≤n∧v.y.sz≤n∧v.z.sz≤n
theorem z0K{v:V3}{n m:Nat}(h:sz3 v n)(hm:n≤m):sz3 v m:=⟨Nat.le_trans h.1 hm,Nat.le_trans h.2.1 hm,Nat.le_trans h.2.2 hm⟩
theorem zgF{v:V3}{n:Nat}(h:sz3 v n):(kv v).raw n=true:=z0a.2 ⟨z33 h.1,z33 h.2.1,z33 h.2.2⟩
theorem z7i{v w:V3}{a b:Nat}(hv:sz3 v a)(hw:sz3 w b):sz3 (v.add w) (a+b+1):=by
 obtain⟨x,y,z⟩:=hv
 obtain⟨x',y',z'⟩:=hw
 have h1:=K.sz_add v.x w.x
 have h2:=K.sz_add v.y w.y
 have h3:=K.sz_add v.z w.z
 exact⟨Nat.le_trans h1 (by omega),Nat.le_trans h2 (by omega),Nat.le_trans h3 (by omega)⟩
theorem z3U{v:V3}{k:K}{a b:Nat}(hv:sz3 v a)(hk:k.sz≤b):sz3 (v.scale k) (a+b+1):=by
 obtain⟨x,y,z⟩:=hv
 have h1:=K.sz_mul v.x k
 have h2:=K.sz_mul v.y k
 have h3:=K.sz_mul v.z k
 exact⟨Nat.le_trans h1 (by omega),Nat.le_trans h2 (by omega),Nat.le_trans h3 (by omega)⟩
theorem zne:(K.ofInt 1).sz≤1:=of_decide_eq_true (by kernel_rfl)
theorem z5p(i:Int):sz3 (z5f i) 1:=⟨zne,zcr i,zca i⟩
theorem z8G{a b c:V3}{n:Nat}(ha:sz3 a n)(hb:sz3 b n)(hc:sz3 c n):(z2i a b c).sz≤15*n+14:=by
 obtain⟨a1,a2,a3⟩:=ha
 obtain⟨b1,b2,b3⟩:=hb
 obtain⟨c1,c2,c3⟩:=hc
 have min: ∀{p q r s:K},p.sz≤n→q.sz≤n→r.sz≤n→s.sz≤n→(p*q-r*s).sz≤4*n+3:=fun {p q r s} h1 h2 h3 h4=>by
  have m1:=K.sz_mul p q
  have m2:=K.sz_mul r s
  have m3:=K.sz_sub (p*q) (r*s)
  omega
 have t: ∀{p q:K},p.sz≤n→q.sz≤4*n+3→(p*q).sz≤5*n+4:=fun {p q} h1 h2=>by
  have m1:=K.sz_mul p q
  omega
 have t1:=t a1 (min b2 c3 b3 c2)
 have t2:=t a2 (min b3 c1 b1 c3)
 have t3:=t a3 (min b1 c2 b2 c1)
 unfold z2i
 have s1:=K.sz_add (a.x*(b.y*c.z-b.z*c.y)) (a.y*(b.z*c.x-b.x*c.z))
 have s2:=K.sz_add (a.x*(b.y*c.z-b.z*c.y)+a.y*(b.z*c.x-b.x*c.z)) (a.z*(b.x*c.y-b.y*c.x))
 omega
structure S4 where
 a:V3
 b:V3
 c:V3
 d:V3
noncomputable def S4.step(s:S4)(x:Int×Int):S4:=⟨s.a.add ((z5f x.1).scale (z5f x.1).x),s.b.add ((z5f x.1).scale (z5f x.1).y),s.c.add ((z5f x.1).scale (z5f x.1).z),s.d.add ((z5f x.1).scale (K.ofInt x.2))⟩
def S4.zero:S4:=⟨⟨0,0,0⟩,⟨0,0,0⟩,⟨0,0,0⟩,⟨0,0,0⟩⟩
noncomputable def Y9(l:List (Int×Int)):S4:=l.foldl S4.step .zero
theorem z85{l:List (Int×Int)}{k:Nat}(hk:k<l.length):Y9 (l.take (k+1))=(Y9 (l.take k)).step l[k]:=by
 unfold Y9
 rw[List.take_add_one,List.getElem?_eq_getElem hk,List.foldl_append]
 rfl
theorem z8O{l:List (Int×Int)}(h:z4w l=true): ∀k,k≤l.length→(sz3 (Y9 (l.take k)).a (4*k+1)∧sz3 (Y9 (l.take k)).b (4*k+1)∧sz3 (Y9 (l.take k)).c (4*k+1))∧sz3 (Y9 (l.take k)).d (5*k+1)
 |0,_=>by
  have z:(0:K).sz≤1:=of_decide_eq_true (by kernel_rfl)
  exact⟨⟨⟨z,z,z⟩,⟨z,z,z⟩,⟨z,z,z⟩⟩,⟨z,z,z⟩⟩
 |k+1,hk=>by
  obtain⟨⟨h1,h2,h3⟩,h4⟩:=z8O h k (by omega)
  have hb:=(z8w h).2 k (by omega)
  obtain⟨r1,r2,r3⟩:=z5p l[k].1
  rw[z85 (by omega)]
  exact⟨⟨z0K (z7i h1 (z3U (z5p _) r1)) (by omega),z0K (z7i h2 (z3U (z5p _) r2)) (by omega),z0K (z7i h3 (z3U (z5p _) r3)) (by omega)⟩,
   z0K (z7i h4 (z3U (z5p _) (zgu hb))) (by omega)⟩
theorem zmn(v:V3)(i:Int):z0t (kv v) (J8 (z08 i) (z08 i).x)=kv (v.add ((z5f i).scale (z5f i).x)):=by
 rw[zac,←zab,←z4W];rfl
theorem zm6(v:V3)(i:Int):z0t (kv v) (J8 (z08 i) (z08 i).y)=kv (v.add ((z5f i).scale (z5f i).y)):=by
 rw[zac,←zab,←z4W];rfl
theorem zlo(v:V3)(i:Int):z0t (kv v) (J8 (z08 i) (z08 i).z)=kv (v.add ((z5f i).scale (z5f i).z)):=by
 rw[zac,←zab,←z4W];rfl
theorem znc(v:V3)(i o:Int):z0t (kv v) (J8 (z08 i) (oN o))=kv (v.add ((z5f i).scale (K.ofInt o))):=by
 rw[zac,←zab,←z4W,zgx]
theorem z4N{x y:List CV}:BlksCv [some (own x),some (own y)]:=by
 intro b hb
 simp only[List.mem_cons,List.not_mem_nil,or_false]at hb
 rcases hb with rfl|rfl<;>(intro cells hc;cases hc;exact CvL.map_cv _)
end Go.Fw
open Go IntKind
namespace Go.Fw
set_option maxRecDepth 100000
theorem zkZ(l:List (Int×Int))(g:z4w l=true)(s3_0:l.length<2^30)(s6_0 s6_1 s6_2:(-9223372036854775808:Int)≤0∧(0:Int)≤9223372036854775807){R:CV→Prop}(hR:Ok P 60 (loopHead P 60 0) ⟨J2 96 [(2,.ptr 0 0),(5,.ptr (0+1) 0),(6,.ptr (0+1+1) 0),(7,.cv (CV.lit (Value.func (Fn.func 140) {toList:=[]} {toList:=[]}))),(27,.cv (.lst l.length (flat rdL l))),(28,.cv (.lit (.int .i64 (↑l.length:Int)))),(29,.cv (.lit (.int .i64 0)))],[some (vnM (VN.zero)),some (v3M (oV (0:Int) (0:Int) (0:Int)) (oV (0:Int) (0:Int) (0:Int)) (oV (0:Int) (0:Int) (0:Int))),some (vnM (oV (0:Int) (0:Int) (0:Int)))]⟩ (.of R)):W6 P 60 [rdV l] R:=
 Y3 (keep:=[2,5,6,7,27,28,29]) (σ:=[0,4,5]) (.r 3 ((z72 (l) s3_0).eqB g) (.r 6 (zpj ((0:Int)) ((0:Int)) ((0:Int)) s6_0 s6_1 s6_2) (.c (lq 30 30) (.c (lq 90 90) (.c (lq 30 30) (.o 22 .stop .nil)))))) (by kernel_rfl) rfl hR (.cons (CvL.map_cv _) (.cons (CvL.map_cv _) (.cons (CvL.map_cv _) .nil)))
theorem ziM(l:List (Int×Int))(g:z4w l=false)(s3_0:l.length<2^30):PCall P 60 [rdV l] (.tup [z2p,.lit (.int .i64 1)]):=
 j6 (.r 3 ((z72 (l) s3_0).eqB g) (.c (lq 30 30) .nil)) (by kernel_rfl)
theorem zjl(l:List (Int×Int))(a b c d:VN)(k mi mo:Int)(h:decide (k<(↑l.length:Int))=true)(s17_0:VN.raw 1000000 a=true)(s17_1:VN.raw 100000 (z08 mi)=true)(s17_2:RN.raw 100000 (z08 mi).x=true)(s23_0:VN.raw 1000000 b=true)(s23_1:VN.raw 100000 (z08 mi)=true)(s23_2:RN.raw 100000 (z08 mi).y=true)(s29_0:VN.raw 1000000 c=true)(s29_1:VN.raw 100000 (z08 mi)=true)(s29_2:RN.raw 100000 (z08 mi).z=true)(s34_0:(-9223372036854775808:Int)≤mo∧mo≤9223372036854775807)(s35_0:VN.raw 1000000 d=true)(s35_1:VN.raw 100000 (z08 mi)=true)(s35_2:RN.raw 100000 (oN mo)=true)(o1:(0:Int)≤k∧k<(↑l.length:Int))(o2:List.take 2 (List.drop (k.toNat*2) (flat rdL l))=[.lit (.int .i64 mi),.lit (.int .i64 mo)])(o9:BlksCv [some (v3M a b c),some (v3M (z0t a (J8 (z08 mi) (z08 mi).x)) b c)])(o12:BlksCv [some (v3M (z0t a (J8 (z08 mi) (z08 mi).x)) b c),some (v3M (z0t a (J8 (z08 mi) (z08 mi).x)) (z0t b (J8 (z08 mi) (z08 mi).y)) c)])(o15:BlksCv [some (v3M (z0t a (J8 (z08 mi) (z08 mi).x)) (z0t b (J8 (z08 mi) (z08 mi).y)) c),some (v3M (z0t a (J8 (z08 mi) (z08 mi).x)) (z0t b (J8 (z08 mi) (z08 mi).y)) (z0t c (J8 (z08 mi) (z08 mi).z)))])(o18:BlksCv [some (vnM d),some (vnM (z0t d (J8 (z08 mi) (oN mo))))]){R:Goal}(hn:J0 R.n [0,1,2]=true)(hR:Ok P 60 (loopHead P 60 0) ⟨J2 96 [(2,.ptr 0 0),(5,.ptr (0+1) 0),(6,.ptr (0+1+1) 0),(7,.cv (CV.lit (Value.func (Fn.func 140) {toList:=[]} {toList:=[]}))),(27,.cv (.lst l.length (flat rdL l))),(28,.cv (.lit (.int .i64 (↑l.length:Int)))),(29,.cv (.lit (.int .i64 (i64.wrap (k+1)))))],[some (vnM (VN.zero)),some (v3M (z0t a (J8 (z08 mi) (z08 mi).x)) (z0t b (J8 (z08 mi) (z08 mi).y)) (z0t c (J8 (z08 mi) (z08 mi).z))),some (vnM (z0t d (J8 (z08 mi) (oN mo))))]⟩ R):Ok P 60 (loopHead P 60 0) ⟨J2 96 [(2,.ptr 0 0),(5,.ptr 1 0),(6,.ptr 2 0),(7,.cv (CV.lit (Value.func (Fn.func 140) #[] #[]))),(27,.cv (rdV l)),(28,.cv (j5 (↑l.length:Int))),(29,.cv (j5 k))],[some (vnM VN.zero),some (v3M a b c),some (vnM d)]⟩ R:=
 z0C (keep:=[2,5,6,7,27,28,29]) (σ:=[0,1,2]) (.b 2 h (.c o1 (.c o2 (.c (eqn 2) (.c (lq 2 2) (.c (zlb (mi)) (.c (lq 30 30) (.c (bq 0 3) (.c (zn4 (a) (b) (c) (z08 mi) ((z08 mi).x) s17_0 s17_1 s17_2) (.c o9 (.c (bq 1 3) (.c (zom (z0t a (J8 (z08 mi) (z08 mi).x)) (b) (c) (z08 mi) ((z08 mi).y) s23_0 s23_1 s23_2) (.c o12 (.c (bq 2 3) (.c (zmZ (z0t a (J8 (z08 mi) (z08 mi).x)) (z0t b (J8 (z08 mi) (z08 mi).y)) (c) (z08 mi) ((z08 mi).z) s29_0 s29_1 s29_2) (.c o15 (.c (zkF (mo) s34_0) (.c (zmI (d) (z08 mi) (oN mo) s35_0 s35_1 s35_2) (.c o18 (.o 4 (.r (.agg [.lit (.int .i64 mi),.lit (.int .i64 mo)])) (.o 9 (.r (z3J (z08 mi).x (z08 mi).y (z08 mi).z)) (.o 17 (.m [1] (.tup []) [some (v3M (z0t a (J8 (z08 mi) (z08 mi).x)) b c)]) (.o 23 (.m [1] (.tup []) [some (v3M (z0t a (J8 (z08 mi) (z08 mi).x)) (z0t b (J8 (z08 mi) (z08 mi).y)) c)]) (.o 29 (.m [1] (.tup []) [some (v3M (z0t a (J8 (z08 mi) (z08 mi).x)) (z0t b (J8 (z08 mi) (z08 mi).y)) (z0t c (J8 (z08 mi) (z08 mi).z)))]) (.o 34 (.r (RN.c (oN mo))) (.o 35 (.m [2] (.tup []) [some (vnM (z0t d (J8 (z08 mi) (oN mo))))]) (.o 38 .stop .nil))))))))))))))))))))))))))) (by kernel_rfl) rfl hn hR (.cons (CvL.map_cv _) (.cons (CvL.map_cv _) (.cons (CvL.map_cv _) .nil)))
end Go.Fw
open Go
namespace Go.Fw
set_option maxRecDepth 100000
noncomputable def zgH(l:List (Int×Int))(k:Nat)(s:S4):St:=⟨J2 96 [(2,.ptr 0 0),(5,.ptr 1 0),(6,.ptr 2 0),(7,.cv (.lit (.func (.func 140) #[] #[]))),(27,.cv (rdV l)),(28,.cv (j5 l.length)),(29,.cv (j5 k))],[some (vnM VN.zero),some (v3M (kv s.a) (kv s.b) (kv s.c)),some (vnM (kv s.d))]⟩
theorem zeT{R:Goal}(hn:J0 R.n [0,1,2]=true)(l:List (Int×Int))(g:z4w l=true)(hR:Ok P 60 (loopHead P 60 0) (zgH l l.length (Y9 l)) R):Ok P 60 (loopHead P 60 0) (zgH l 0 .zero) R:=by
 have hl:=(z8w g).1
 have key:=z9j (fun k=>Ok P 60 (loopHead P 60 0) (zgH l k (Y9 (l.take k))) R) l.length ?_ ?_
 · exact key
 · intro k hk h
   obtain⟨⟨h1,h2,h3⟩,h4⟩:=z8O g k (by omega)
   have hb:=(z8w g).2 k hk
   have up: ∀{v:V3} {n:Nat},sz3 v n→n≤1000000→(kv v).raw 1000000=true:=fun hv hn=>zgF (z0K hv hn)
   have rr:(z08 l[k].1).raw 100000=true:=VN.raw_mono (zgM _) (by decide)
   obtain⟨rx,ry,rz⟩:=z0a.1 rr
   refine zjl l _ _ _ _ k l[k].1 l[k].2 (decide_eq_true (by omega)) (up h1 (by omega)) rr rx (up h2 (by omega)) rr ry (up h3 (by omega)) rr rz (by omega) (up h4 (by omega)) rr (zbB (Nat.le_trans (zgu hb) (by decide))) (by omega) (z0X z0E hk) z4N z4N z4N z4N hn ?_
   rw[zmn,zm6,zlo,znc,w64 (by omega)]
   rw[z85 hk]at h
   exact h
 · rw[List.take_length];exact hR
noncomputable def z2S(l:List (Int×Int)):V3:=⟨K.div (z2i (Y9 l).d (Y9 l).b (Y9 l).c) (z2i (Y9 l).a (Y9 l).b (Y9 l).c),K.div (z2i (Y9 l).a (Y9 l).d (Y9 l).c) (z2i (Y9 l).a (Y9 l).b (Y9 l).c),K.div (z2i (Y9 l).a (Y9 l).b (Y9 l).d) (z2i (Y9 l).a (Y9 l).b (Y9 l).c)⟩
noncomputable def z2a(l:List (Int×Int)):VN×Int:=if z4w l then(if K.sgn (z2i (Y9 l).a (Y9 l).b (Y9 l).c)=0 then(.zero,20)else(kv (z2S l),0))else(.zero,1)
theorem zp5{x y:K}(h:K.sgn y≠0):((z1H (kN x) (kN y)).2 != 0)=false:=by
 unfold z1H
 rw[z2x,z2x]
 dsimp only
 rw[if_neg h];rfl
theorem zaf{l:List (Int×Int)}(h:z4w l=true)(hl:l.length≤12):(sz3 (Y9 l).a 61∧sz3 (Y9 l).b 61∧sz3 (Y9 l).c 61)∧sz3 (Y9 l).d 61:=by
 obtain⟨⟨h1,h2,h3⟩,h4⟩:=z8O h l.length (Nat.le_refl _)
 rw[List.take_length]at h1 h2 h3 h4
 exact⟨⟨z0K h1 (by omega),z0K h2 (by omega),z0K h3 (by omega)⟩,z0K h4 (by omega)⟩
theorem zno{l:List (Int×Int)}(h:z4w l=true)(hl:l.length≤12):sz3 (z2S l) 8000:=by
 obtain⟨⟨h1,h2,h3⟩,h4⟩:=zaf h hl
 have d:=z8G h1 h2 h3
 have e: ∀{x:K},x.sz≤15*61+14→(K.div x (z2i (Y9 l).a (Y9 l).b (Y9 l).c)).sz≤8000:=fun {x} hx=>Nat.le_trans (K.sz_div _ _) (by omega)
 exact⟨e (z8G h4 h2 h3),e (z8G h1 h4 h3),e (z8G h1 h2 h4)⟩
theorem z9m(l:List (Int×Int))(hl:l.length≤12):PCall P 60 [rdV l] (.tup [(z2a l).1.c,j5 (z2a l).2]):=by
 unfold z2a
 cases g:z4w l
 · exact ziM l g (by omega)
 rw[if_pos rfl]
 obtain⟨⟨h1,h2,h3⟩,h4⟩:=zaf g hl
 have t: ∀{v:V3},sz3 v 61→(kv v).raw 1000=true:=fun hv=>zgF (z0K hv (by decide))
 have ed:zf9 (W1 (kv (Y9 l).a) (kv (Y9 l).b) (kv (Y9 l).c))=K.sgn (z2i (Y9 l).a (Y9 l).b (Y9 l).c):=by rw[z4p,znA]
 have dr: ∀{a b c:V3},sz3 a 61→sz3 b 61→sz3 c 61→(W1 (kv a) (kv b) (kv c)).raw 1000000=true:=fun ha hb hc=>by
  rw[z4p]
  exact z33 (Nat.le_trans (z8G ha hb hc) (by decide))
 refine V6 (zkZ l g (by omega) (by decide) (by decide) (by decide) ?_)
 rw[zpK]
 refine zeT rfl l g ?_
 by_cases hs:K.sgn (z2i (Y9 l).a (Y9 l).b (Y9 l).c)=0
 · rw[if_pos hs]
   exact zmh l _ _ _ _ l.length (decide_eq_false (by omega)) (beq_iff_eq.2 (ed.trans hs)) (t h1) (t h2) (t h3) (dr h1 h2 h3) rfl rfl
 · rw[if_neg hs]
   have ne: ∀x y z:V3,((z1H (W1 (kv x) (kv y) (kv z)) (W1 (kv (Y9 l).a) (kv (Y9 l).b) (kv (Y9 l).c))).2 != 0)=false:=fun x y z=>by
    rw[z4p,z4p]
    exact zp5 hs
   refine zmC l _ _ _ _ l.length (decide_eq_false (by omega)) (zpY (by rw[ed];exact hs)) (ne _ _ _) (ne _ _ _) (ne _ _ _) (t h1) (t h2) (t h3) (dr h1 h2 h3) (t h4) (t h2) (t h3) (dr h4 h2 h3) (dr h1 h2 h3) (t h1) (t h4) (t h3) (dr h1 h4 h3) (dr h1 h2 h3) (t h1) (t h2) (t h4) (dr h1 h2 h4) (dr h1 h2 h3) rfl rfl rfl rfl ?_
   rw[z4p,z4p,z4p,z4p,zds _ _ hs,zds _ _ hs,zds _ _ hs]
   rfl
theorem zo2:z2a [(0,7),(6,5),(12,3),(18,5)]=(oV 5 2 0,0):=by
 unfold z2a
 rw[if_pos (by decide),if_neg (by decide+kernel)]
 have e:z2S [(0,7),(6,5),(12,3),(18,5)]=⟨K.ofInt 5,K.ofInt 2,K.ofInt 0⟩:=by kernel_rfl
 rw[e]
 have o: ∀v:VN,v=⟨v.x,v.y,v.z⟩:=fun _=>rfl
 rw[o (oV 5 2 0),zpx,zpv,zpF,zgx,zgx,zgx];rfl
theorem Fit4:PCall P 60 [.lst 4 [j5 0,j5 7,j5 6,j5 5,j5 12,j5 3,j5 18,j5 5]] (.tup [(oV 5 2 0).c,j5 0]):=by
 have h:=z9m [(0,7),(6,5),(12,3),(18,5)] (by decide)
 rw[zo2]at h
 exact h
end Go.Fw
open Go
namespace Go.Fw
set_option maxRecDepth 100000
theorem ziI(_q:(rnB (oV (5:Int) (2:Int) (0:Int)).x (oV (5:Int) (2:Int) (0:Int)).x&&(rnB (oV (5:Int) (2:Int) (0:Int)).y (oV (5:Int) (2:Int) (0:Int)).y&&(rnB (oV (5:Int) (2:Int) (0:Int)).z (oV (5:Int) (2:Int) (0:Int)).z&&true)))=true)(s17_0:(-9223372036854775808:Int)≤(5:Int)∧(5:Int)≤(9223372036854775807:Int))(s17_1:(-9223372036854775808:Int)≤(2:Int)∧(2:Int)≤(9223372036854775807:Int))(s17_2:(-9223372036854775808:Int)≤(0:Int)∧(0:Int)≤(9223372036854775807:Int)):PCall P (59:FuncId) [] (CV.lit (Value.bool (rnB (oV (5:Int) (2:Int) (0:Int)).x (oV (5:Int) (2:Int) (0:Int)).x&&(rnB (oV (5:Int) (2:Int) (0:Int)).y (oV (5:Int) (2:Int) (0:Int)).y&&(rnB (oV (5:Int) (2:Int) (0:Int)).z (oV (5:Int) (2:Int) (0:Int)).z&&true))))):=
 j6 (.c (Go.Fw.Fit4) (.c (show [MV.cv (CV.lit (Value.int IntKind.i64 (0:Int))),MV.cv (CV.lit (Value.int IntKind.i64 (7:Int))),MV.cv (CV.lit (Value.int IntKind.i64 (6:Int))),MV.cv (CV.lit (Value.int IntKind.i64 (5:Int))),MV.cv (CV.lit (Value.int IntKind.i64 (12:Int))),MV.cv (CV.lit (Value.int IntKind.i64 (3:Int))),MV.cv (CV.lit (Value.int IntKind.i64 (18:Int))),MV.cv (CV.lit (Value.int IntKind.i64 (5:Int)))]=[MV.cv (CV.lit (Value.int IntKind.i64 (0:Int))),MV.cv (CV.lit (Value.int IntKind.i64 (7:Int))),MV.cv (CV.lit (Value.int IntKind.i64 (6:Int))),MV.cv (CV.lit (Value.int IntKind.i64 (5:Int))),MV.cv (CV.lit (Value.int IntKind.i64 (12:Int))),MV.cv (CV.lit (Value.int IntKind.i64 (3:Int))),MV.cv (CV.lit (Value.int IntKind.i64 (18:Int))),MV.cv (CV.lit (Value.int IntKind.i64 (5:Int)))]from rfl) (.c (show 30≤30 from(by decide)) (.c (Go.Fw.V4Of_r ((5:Int)) ((2:Int)) ((0:Int)) s17_0 s17_1 s17_2) (.o 6 (Or.k (CV.tup [z3J (oV (5:Int) (2:Int) (0:Int)).x (oV (5:Int) (2:Int) (0:Int)).y (oV (5:Int) (2:Int) (0:Int)).z,CV.lit (Value.int IntKind.i64 (0:Int))]) [[CV.lit (Value.int IntKind.i64 (0:Int)),CV.lit (Value.int IntKind.i64 (7:Int)),CV.lit (Value.int IntKind.i64 (6:Int)),CV.lit (Value.int IntKind.i64 (5:Int)),CV.lit (Value.int IntKind.i64 (12:Int)),CV.lit (Value.int IntKind.i64 (3:Int)),CV.lit (Value.int IntKind.i64 (18:Int)),CV.lit (Value.int IntKind.i64 (5:Int))]]) (.o 17 (Or.r (z3J (oV (5:Int) (2:Int) (0:Int)).x (oV (5:Int) (2:Int) (0:Int)).y (oV (5:Int) (2:Int) (0:Int)).z)) .nil)))))) (by kernel_rfl)
end Go.Fw
open Go
namespace Go.Fw
set_option maxRecDepth 100000
theorem z7m(x:RN):rnB x x=true:=zcz.2 rfl
end Go.Fw
open Go
namespace Go.Fw
set_option maxRecDepth 100000
theorem z9w(v:VN):(rnB v.x v.x&&(rnB v.y v.y&&(rnB v.z v.z&&true)))=true:=by
 rw[z7m,z7m,z7m];rfl
theorem z97:PCall P 59 [] (.lit (.bool true)):=(ziI (z9w _) (by decide) (by decide) (by decide)).eqB (z9w _)
end Go.Fw
open Go
namespace Go.Fw
set_option maxRecDepth 100000
def S4.rest(s:S4)(m:V3):V3:=⟨s.d.x-(s.a.x*m.x+s.b.x*m.y+s.c.x*m.z),s.d.y-(s.a.y*m.x+s.b.y*m.y+s.c.y*m.z),s.d.z-(s.a.z*m.x+s.b.z*m.y+s.c.z*m.z)⟩
theorem zeB (a1 a2 a3 b1 b2 b3 c1 c2 c3 d1 d2 d3 : K) :
    (a1*(b2*c3-b3*c2)+a2*(b3*c1-b1*c3)+a3*(b1*c2-b2*c1))*d1=a1*(d1*(b2*c3-b3*c2)+d2*(b3*c1-b1*c3)+d3*(b1*c2-b2*c1))+b1*(a1*(d2*c3-d3*c2)+a2*(d3*c1-d1*c3)+a3*(d1*c2-d2*c1))+c1*(a1*(b2*d3-b3*d2)+a2*(b3*d1-b1*d3)+a3*(b1*d2-b2*d1)):=
 (show ∀ρ:Nat→K,(ρ 0*(ρ 4*ρ 8-ρ 5*ρ 7)+ρ 1*(ρ 5*ρ 6-ρ 3*ρ 8)+ρ 2*(ρ 3*ρ 7-ρ 4*ρ 6))*ρ 9=ρ 0*(ρ 9*(ρ 4*ρ 8-ρ 5*ρ 7)+ρ 10*(ρ 5*ρ 6-ρ 3*ρ 8)+ρ 11*(ρ 3*ρ 7-ρ 4*ρ 6))+ρ 3*(ρ 0*(ρ 10*ρ 8-ρ 11*ρ 7)+ρ 1*(ρ 11*ρ 6-ρ 9*ρ 8)+ρ 2*(ρ 9*ρ 7-ρ 10*ρ 6))+ρ 6*(ρ 0*(ρ 4*ρ 11-ρ 5*ρ 10)+ρ 1*(ρ 5*ρ 9-ρ 3*ρ 11)+ρ 2*(ρ 3*ρ 10-ρ 4*ρ 9))from fun ρ=>CR.ring ρ rfl) (CR.vr [a1,a2,a3,b1,b2,b3,c1,c2,c3,d1,d2,d3])
theorem zeP (a1 a2 a3 b1 b2 b3 c1 c2 c3 d1 d2 d3 : K) :
    (a1*(b2*c3-b3*c2)+a2*(b3*c1-b1*c3)+a3*(b1*c2-b2*c1))*d2=a2*(d1*(b2*c3-b3*c2)+d2*(b3*c1-b1*c3)+d3*(b1*c2-b2*c1))+b2*(a1*(d2*c3-d3*c2)+a2*(d3*c1-d1*c3)+a3*(d1*c2-d2*c1))+c2*(a1*(b2*d3-b3*d2)+a2*(b3*d1-b1*d3)+a3*(b1*d2-b2*d1)):=
 (show ∀ρ:Nat→K,(ρ 0*(ρ 4*ρ 8-ρ 5*ρ 7)+ρ 1*(ρ 5*ρ 6-ρ 3*ρ 8)+ρ 2*(ρ 3*ρ 7-ρ 4*ρ 6))*ρ 10=ρ 1*(ρ 9*(ρ 4*ρ 8-ρ 5*ρ 7)+ρ 10*(ρ 5*ρ 6-ρ 3*ρ 8)+ρ 11*(ρ 3*ρ 7-ρ 4*ρ 6))+ρ 4*(ρ 0*(ρ 10*ρ 8-ρ 11*ρ 7)+ρ 1*(ρ 11*ρ 6-ρ 9*ρ 8)+ρ 2*(ρ 9*ρ 7-ρ 10*ρ 6))+ρ 7*(ρ 0*(ρ 4*ρ 11-ρ 5*ρ 10)+ρ 1*(ρ 5*ρ 9-ρ 3*ρ 11)+ρ 2*(ρ 3*ρ 10-ρ 4*ρ 9))from fun ρ=>CR.ring ρ rfl) (CR.vr [a1,a2,a3,b1,b2,b3,c1,c2,c3,d1,d2,d3])
theorem zas (a1 a2 a3 b1 b2 b3 c1 c2 c3 d1 d2 d3 : K) :
    (a1*(b2*c3-b3*c2)+a2*(b3*c1-b1*c3)+a3*(b1*c2-b2*c1))*d3=a3*(d1*(b2*c3-b3*c2)+d2*(b3*c1-b1*c3)+d3*(b1*c2-b2*c1))+b3*(a1*(d2*c3-d3*c2)+a2*(d3*c1-d1*c3)+a3*(d1*c2-d2*c1))+c3*(a1*(b2*d3-b3*d2)+a2*(b3*d1-b1*d3)+a3*(b1*d2-b2*d1)):=
 (show ∀ρ:Nat→K,(ρ 0*(ρ 4*ρ 8-ρ 5*ρ 7)+ρ 1*(ρ 5*ρ 6-ρ 3*ρ 8)+ρ 2*(ρ 3*ρ 7-ρ 4*ρ 6))*ρ 11=ρ 2*(ρ 9*(ρ 4*ρ 8-ρ 5*ρ 7)+ρ 10*(ρ 5*ρ 6-ρ 3*ρ 8)+ρ 11*(ρ 3*ρ 7-ρ 4*ρ 6))+ρ 5*(ρ 0*(ρ 10*ρ 8-ρ 11*ρ 7)+ρ 1*(ρ 11*ρ 6-ρ 9*ρ 8)+ρ 2*(ρ 9*ρ 7-ρ 10*ρ 6))+ρ 8*(ρ 0*(ρ 4*ρ 11-ρ 5*ρ 10)+ρ 1*(ρ 5*ρ 9-ρ 3*ρ 11)+ρ 2*(ρ 3*ρ 10-ρ 4*ρ 9))from fun ρ=>CR.ring ρ rfl) (CR.vr [a1,a2,a3,b1,b2,b3,c1,c2,c3,d1,d2,d3])
theorem z75{D a b c p q r d:K}(h:D≠0)(e:D*d=a*(D*p)+b*(D*q)+c*(D*r)):d-(a*p+b*q+c*r)=0:=by
 have e2:D*(d-(a*p+b*q+c*r))=D*0:=by
  have s:D*(d-(a*p+b*q+c*r))=D*d-(a*(D*p)+b*(D*q)+c*(D*r)):=(show ∀ρ:Nat→K,ρ 0*(ρ 7-(ρ 1*ρ 4+ρ 2*ρ 5+ρ 3*ρ 6))=ρ 0*ρ 7-(ρ 1*(ρ 0*ρ 4)+ρ 2*(ρ 0*ρ 5)+ρ 3*(ρ 0*ρ 6))from fun ρ=>CR.ring ρ rfl) (CR.vr [D,a,b,c,p,q,r,d])
  rw[s,e,zml]
  exact(show ∀ρ:Nat→K,(0:K)=ρ 0*0 from fun ρ=>CR.ring ρ rfl) (CR.vr [D])
 exact K.cancel h e2
theorem zev{l:List (Int×Int)}(h:K.sgn (z2i (Y9 l).a (Y9 l).b (Y9 l).c)≠0):(Y9 l).rest (z2S l)=⟨0,0,0⟩:=by
 have hD:z2i (Y9 l).a (Y9 l).b (Y9 l).c≠0:=fun e=>h (K.sgn_zero.2 e)
 unfold S4.rest z2S
 simp only
 generalize hs:Y9 l=s at*
 rw[z75 hD ?_,z75 hD ?_,z75 hD ?_]
 · rw[K.mul_div _ hD,K.mul_div _ hD,K.mul_div _ hD];exact zas s.a.x s.a.y s.a.z s.b.x s.b.y s.b.z s.c.x s.c.y s.c.z s.d.x s.d.y s.d.z
 · rw[K.mul_div _ hD,K.mul_div _ hD,K.mul_div _ hD];exact zeP s.a.x s.a.y s.a.z s.b.x s.b.y s.b.z s.c.x s.c.y s.c.z s.d.x s.d.y s.d.z
 · rw[K.mul_div _ hD,K.mul_div _ hD,K.mul_div _ hD];exact zeB s.a.x s.a.y s.a.z s.b.x s.b.y s.b.z s.c.x s.c.y s.c.z s.d.x s.d.y s.d.z
end Go.Fw
