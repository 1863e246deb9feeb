/- A part of the proof that the law returns true for every input: an executor for the model's code, and what functions of the program compute. -/
import Derived.Test.YtcafjpldfnegiaaDoorB11
import Derived.Test.YtcafjpldfnegiaaDoorB15
import Derived.Test.YtcafjpldfnegiaaDoorB26
import Derived.Test.YtcafjpldfnegiaaDoorB28
import Derived.Test.YtcafjpldfnegiaaDoorB29
import Derived.Test.YtcafjpldfnegiaaDoorB30
import Derived.Test.YtcafjpldfnegiaaDoorB31
import Derived.KernelRfl
open Go IntKind
namespace Go.Fw
set_option maxRecDepth 100000
theorem Q4.Sm.mono{n m:Nat}{x:Q4}(h:Q4.Sm n x)(k:n≤m):Q4.Sm m x:=⟨h.1.mono k,h.2.1.mono k,h.2.2.1.mono k,h.2.2.2.mono k⟩
theorem Q4.Sm.mul{n m:Nat}{x y:Q4}(h:Q4.Sm n x)(k:Q4.Sm m y):Q4.Sm (n+m+4) (Q4.mul x y):=by
 obtain⟨h0,h1,h2,h3⟩:=h
 obtain⟨k0,k1,k2,k3⟩:=k
 have p: ∀{a b:Int},By n a→By m b→By (n+m+1) (a*b):=fun u v=>(u.mul v).mono (by omega)
 have q: ∀{a b:Int} (f:Int),-100≤f∧f≤100→By n a→By m b→By (n+m+1) (f*a*b):=fun f hf u v=>by
  have:=(u.mul v).k hf
  rwa[←Int.mul_assoc]at this
 have s: ∀{a b c d:Int},By (n+m+1) a→By (n+m+1) b→By (n+m+1) c→By (n+m+1) d→By (n+m+4) (a+b+c+d):=fun a b c d=>
  ((a.add b).add (c.mono (by omega))).add (d.mono (by omega))
 exact⟨s (p h0 k0) (q 2 (by decide) h1 k1) (q 3 (by decide) h2 k2) (q 6 (by decide) h3 k3),s (p h0 k1) (p h1 k0) (q 3 (by decide) h2 k3) (q 3 (by decide) h3 k2),
  s (p h0 k2) (p h2 k0) (q 2 (by decide) h1 k3) (q 2 (by decide) h3 k1),s (p h0 k3) (p h3 k0) (p h1 k2) (p h2 k1)⟩
theorem zhs{a b:Int}(h:a≠b):(a==b)=false:=by
 cases e:a==b
 · rfl
 · exact absurd (beq_iff_eq.1 e) h
theorem zfS(l:List (Int×Int))(hl:l.length<2^30):PCall P 19 [rdV l,.lit (.func (.func 20) #[] #[])] (.lit (.bool (!l.all rdP))):=
 (zeM l hl).eq (by rw[z9h])
noncomputable def X1(i:Int):VN:=⟨oN 1,kN (z59 i),kN (z7n i)⟩
theorem zge(i:Int):PCall P 13 [J1 i] (X1 i).c:=zfe i (by decide)
def vnL(v:VN):List CV:=v.x.l++(v.y.l++v.z.l)
def vnM(v:VN):List MV:=own (vnL v)
theorem zet(l:List (Int×Int))(h1:decide ((↑l.length:Int)≤48)=true)(h2:(!l.all rdP)=true)(a:l.length<2^30):PCall P 8 [rdV l] (.lit (.bool false)):=
 j3 (.b 4 h1 (.r 6 ((zfS l a).eqB h2) .nil)) (by kernel_rfl)
theorem zeV(l:List (Int×Int))(h1:decide ((↑l.length:Int)≤48)=true)(h2:(!l.all rdP)=false)(a:l.length<2^30):PCall P 8 [rdV l] (.lit (.bool true)):=
 j3 (.b 4 h1 (.r 6 ((zfS l a).eqB h2) .nil)) (by kernel_rfl)
theorem zfK(l:List (Int×Int))(h1:decide ((↑l.length:Int)≤48)=false):PCall P 8 [rdV l] (.lit (.bool false)):=
 j3 (.b 4 h1 .nil) (by kernel_rfl)
theorem z9s(l:List (Int×Int))(hl:l.length<2^30):PCall P 8 [rdV l] (.lit (.bool (z73 l))):=by
 have e:decide ((l.length:Int)≤48)=decide (l.length≤48):=by rw[decide_eq_decide];omega
 unfold z73
 rw[←e]
 cases h1:decide ((l.length:Int)≤48)
 · exact zfK l h1
 · cases h2:l.all rdP
   · exact(zet l h1 (by rw[h2];rfl) hl).eq (by rw[show(l.all fun x=>decide (-10000≤x.2∧x.2≤10000))=false from h2];rfl)
   · exact(zeV l h1 (by rw[h2];rfl) hl).eq (by rw[show(l.all fun x=>decide (-10000≤x.2∧x.2≤10000))=true from h2];rfl)
theorem zcH(i:Int):(X1 i).raw 1=true:=U2.2 ⟨zdM,zec i (by decide),zdZ i (by decide)⟩
theorem z8K{l:List (Int×Int)}(h:z73 l=true):l.length≤48∧ ∀k (hk:k<l.length),-10000≤l[k].2∧l[k].2≤10000:=by
 unfold z73 at h
 simp only[Bool.and_eq_true,decide_eq_true_eq,List.all_eq_true]at h
 exact⟨h.1,fun k hk=>h.2 _ (List.getElem_mem hk)⟩
theorem zbA{n:Int}(h: -10000≤n∧n≤10000):(K.ofInt n).sz≤2:=K.sz_int n (by decide) (by omega)
theorem zgo(u v w:VN)(a:VN.raw 1000 u=true)(d:VN.raw 1000 v=true)(e:VN.raw 1000 w=true):PCall P 15 [.lst 3 (vnL u++(vnL v++vnL w))] (RN.c (Q3 u v w)):=
 j3 (.c (bq 0 3) (.c (bq 1 3) (.c (bq 2 3) (.r 10 (zeN u v w a d e) (.c (lq 10 10) .nil))))) (by kernel_rfl)
def v3L(a b c:VN):List CV:=vnL a++(vnL b++vnL c)
def v3M(a b c:VN):List MV:=own (v3L a b c)
theorem zgs(a b c v:VN)(k:RN)(d:VN.raw 1000000 v=true)(e:RN.raw 1000000 k=true)(f:VN.raw 1000000 a=true)(g:VN.raw 1000000 (j6 v k)=true)(o4:BlksCv (List.take 1 [some (v3M (V9 a (j6 v k)) b c),some (vnM v),some (own (RN.l k)),none,none])):z2j P 10 [some (v3M a b c)] [.ptr 0 0,.agg (vnM v),.agg (own k.l)] (.tup []) (List.take 1 [some (v3M (V9 a (j6 v k)) b c),some (vnM v),some (own (RN.l k)),none,none]):=
 z6M (ors:=[(8,.r (z3g (j6 v k).x (j6 v k).y (j6 v k).z)),(9,.r (z3g (V9 a (j6 v k)).x (V9 a (j6 v k)).y (V9 a (j6 v k)).z)),(12,.a)]) (by kernel_rfl) (.cons (z3l v k d e) (.cons (z77 a (j6 v k) f g) (.cons (lq 30 90) (.cons (lq 1 5) (.cons o4 .nil)))))
theorem zga(a b c v:VN)(k:RN)(d:VN.raw 1000000 v=true)(e:RN.raw 1000000 k=true)(f:VN.raw 1000000 b=true)(g:VN.raw 1000000 (j6 v k)=true)(o4:BlksCv (List.take 1 [some (v3M a (V9 b (j6 v k)) c),some (vnM v),some (own (RN.l k)),none,none])):z2j P 10 [some (v3M a b c)] [.ptr 0 30,.agg (vnM v),.agg (own k.l)] (.tup []) (List.take 1 [some (v3M a (V9 b (j6 v k)) c),some (vnM v),some (own (RN.l k)),none,none]):=
 z6M (ors:=[(8,.r (z3g (j6 v k).x (j6 v k).y (j6 v k).z)),(9,.r (z3g (V9 b (j6 v k)).x (V9 b (j6 v k)).y (V9 b (j6 v k)).z)),(12,.a)]) (by kernel_rfl) (.cons (z3l v k d e) (.cons (z77 b (j6 v k) f g) (.cons (lq 60 90) (.cons (lq 1 5) (.cons o4 .nil)))))
theorem zfL(a b c v:VN)(k:RN)(d:VN.raw 1000000 v=true)(e:RN.raw 1000000 k=true)(f:VN.raw 1000000 c=true)(g:VN.raw 1000000 (j6 v k)=true)(o4:BlksCv (List.take 1 [some (v3M a b (V9 c (j6 v k))),some (vnM v),some (own (RN.l k)),none,none])):z2j P 10 [some (v3M a b c)] [.ptr 0 60,.agg (vnM v),.agg (own k.l)] (.tup []) (List.take 1 [some (v3M a b (V9 c (j6 v k))),some (vnM v),some (own (RN.l k)),none,none]):=
 z6M (ors:=[(8,.r (z3g (j6 v k).x (j6 v k).y (j6 v k).z)),(9,.r (z3g (V9 c (j6 v k)).x (V9 c (j6 v k)).y (V9 c (j6 v k)).z)),(12,.a)]) (by kernel_rfl) (.cons (z3l v k d e) (.cons (z77 c (j6 v k) f g) (.cons (lq 90 90) (.cons (lq 1 5) (.cons o4 .nil)))))
theorem zg8(a v:VN)(k:RN)(d:VN.raw 1000000 v=true)(e:RN.raw 1000000 k=true)(f:VN.raw 1000000 a=true)(g:VN.raw 1000000 (j6 v k)=true)(o4:BlksCv (List.take 1 [some (vnM (V9 a (j6 v k))),some (vnM v),some (own (RN.l k)),none,none])):z2j P 10 [some (vnM a)] [.ptr 0 0,.agg (vnM v),.cv k.c] (.tup []) (List.take 1 [some (vnM (V9 a (j6 v k))),some (vnM v),some (own (RN.l k)),none,none]):=
 z6M (ors:=[(8,.r (z3g (j6 v k).x (j6 v k).y (j6 v k).z)),(9,.r (z3g (V9 a (j6 v k)).x (V9 a (j6 v k)).y (V9 a (j6 v k)).z)),(12,.a)]) (by kernel_rfl) (.cons (z3l v k d e) (.cons (z77 a (j6 v k) f g) (.cons (lq 30 30) (.cons (lq 1 5) (.cons o4 .nil)))))
theorem z3c{x:List CV}{l:List Blk}:BlksCv (List.take 1 (some (own x)::l)):=by
 intro b hb
 simp only[List.take_succ_cons,List.take_zero,List.mem_singleton]at hb
 subst hb
 intro cells hc
 cases hc
 exact CvL.map_cv _
section
variable{n:Nat}{v:VN}{k:RN}
theorem zgq(a b c v:VN)(k:RN)(ha:a.raw 1000000=true)(hv:v.raw 100000=true)(hk:k.raw 100000=true):z2j P 10 [some (v3M a b c)] [.ptr 0 0,.agg (vnM v),.agg (own k.l)] (.tup []) [some (v3M (V9 a (j6 v k)) b c)]:=
 zgs a b c v k (VN.raw_mono hv (by decide)) (RN.raw_mono hk (by decide)) ha (VN.raw_mono (z1u hv hk) (by decide)) z3c
theorem zgh(a b c v:VN)(k:RN)(ha:b.raw 1000000=true)(hv:v.raw 100000=true)(hk:k.raw 100000=true):z2j P 10 [some (v3M a b c)] [.ptr 0 30,.agg (vnM v),.agg (own k.l)] (.tup []) [some (v3M a (V9 b (j6 v k)) c)]:=
 zga a b c v k (VN.raw_mono hv (by decide)) (RN.raw_mono hk (by decide)) ha (VN.raw_mono (z1u hv hk) (by decide)) z3c
theorem zg7(a b c v:VN)(k:RN)(ha:c.raw 1000000=true)(hv:v.raw 100000=true)(hk:k.raw 100000=true):z2j P 10 [some (v3M a b c)] [.ptr 0 60,.agg (vnM v),.agg (own k.l)] (.tup []) [some (v3M a b (V9 c (j6 v k)))]:=
 zfL a b c v k (VN.raw_mono hv (by decide)) (RN.raw_mono hk (by decide)) ha (VN.raw_mono (z1u hv hk) (by decide)) z3c
theorem zf6(a v:VN)(k:RN)(ha:a.raw 1000000=true)(hv:v.raw 100000=true)(hk:k.raw 100000=true):z2j P 10 [some (vnM a)] [.ptr 0 0,.agg (vnM v),.cv k.c] (.tup []) [some (vnM (V9 a (j6 v k)))]:=
 zg8 a v k (VN.raw_mono hv (by decide)) (RN.raw_mono hk (by decide)) ha (VN.raw_mono (z1u hv hk) (by decide)) z3c
end
theorem z8z(u v w:VN)(hu:u.raw 1000=true)(hv:v.raw 1000=true)(hw:w.raw 1000=true):PCall P 15 [.lst 3 (v3L u v w)] (Q3 u v w).c:=zgo u v w hu hv hw
theorem zgb(l:List (Int×Int))(a b c d:VN)(k:Int)(h:decide (k<(↑l.length:Int))=false)(hs:(zaL (Q3 a b c)==0)=true)(e:VN.raw 1000 a=true)(f:VN.raw 1000 b=true)(g:VN.raw 1000 c=true)(i:RN.raw 1000000 (Q3 a b c)=true)(o3:(v3M a b c)=(v3M a b c)){R:Goal}(hR:R.c (.tup [z2N,.lit (.int .i64 20)])):Ok P 5 (loopHead P 5 0) ⟨J6 96 [(2,.ptr 0 0),(5,.ptr 1 0),(6,.ptr 2 0),(7,.cv (CV.lit (Value.func (Fn.func 10) #[] #[]))),(27,.cv (rdV l)),(28,.cv (J1 (↑l.length:Int))),(29,.cv (J1 k))],[some (vnM VN.zero),some (v3M a b c),some (vnM d)]⟩ R:=
 okT (.b 2 h (.c (lq 90 90) (.c (z8z a b c e f g) (.c o3 (.c (lq 10 10) (.c (z9M (Q3 a b c) i) (.o 4 (.k (RN.c (Q3 a b c)) [(v3L a b c)]) (.o 8 (.r (.lit (.int .i64 (zaL (Q3 a b c))))) (.b 10 hs (.c (lq 30 30) .nil)))))))))) (by kernel_rfl) hR
theorem zfh(l:List (Int×Int))(a b c d:VN)(k:Int)(h:decide (k<(↑l.length:Int))=false)(hs:(zaL (Q3 a b c)==0)=false)(e1:((z0K (Q3 d b c) (Q3 a b c)).snd != 0)=false)(e2:((z0K (Q3 a d c) (Q3 a b c)).snd != 0)=false)(e3:((z0K (Q3 a b d) (Q3 a b c)).snd != 0)=false)(e:VN.raw 1000 a=true)(f:VN.raw 1000 b=true)(g:VN.raw 1000 c=true)(i:RN.raw 1000000 (Q3 a b c)=true)(j:VN.raw 1000 d=true)(m:VN.raw 1000 b=true)(n:VN.raw 1000 c=true)(p:RN.raw 1000000 (Q3 d b c)=true)(q:RN.raw 1000000 (Q3 a b c)=true)(s:VN.raw 1000 a=true)(t:VN.raw 1000 d=true)(u:VN.raw 1000 c=true)(v:RN.raw 1000000 (Q3 a d c)=true)(w:RN.raw 1000000 (Q3 a b c)=true)(x:VN.raw 1000 a=true)(y:VN.raw 1000 b=true)(z:VN.raw 1000 d=true)(a0:RN.raw 1000000 (Q3 a b d)=true)(a1:RN.raw 1000000 (Q3 a b c)=true)(o3:(v3M a b c)=(v3M a b c))(o12:(v3M d b c)=(v3M d b c))(o23:(v3M a d c)=(v3M a d c))(o34:(v3M a b d)=(v3M a b d)){R:Goal}(hR:R.c (.tup [z3g (z0K (Q3 d b c) (Q3 a b c)).fst (z0K (Q3 a d c) (Q3 a b c)).fst (z0K (Q3 a b d) (Q3 a b c)).fst,.lit (.int .i64 0)])):Ok P 5 (loopHead P 5 0) ⟨J6 96 [(2,.ptr 0 0),(5,.ptr 1 0),(6,.ptr 2 0),(7,.cv (CV.lit (Value.func (Fn.func 10) #[] #[]))),(27,.cv (rdV l)),(28,.cv (J1 (↑l.length:Int))),(29,.cv (J1 k))],[some (vnM VN.zero),some (v3M a b c),some (vnM d)]⟩ R:=
 okT (.c h (.c (lq 90 90) (.c (z8z a b c e f g) (.c o3 (.c (lq 10 10) (.c (z9M (Q3 a b c) i) (.c hs (.c (lq 90 90) (.c (bq 0 3) (.c (lq 30 90) (.c (lq 90 90) (.c (z8z d b c j m n) (.c o12 (.c (z9j (Q3 d b c) (Q3 a b c) p q) (.c (lq 10 10) (.c e1 (.c (bq 0 3) (.c (lq 10 30) (.c (lq 90 90) (.c (bq 1 3) (.c (lq 60 90) (.c (lq 90 90) (.c (z8z a d c s t u) (.c o23 (.c (z9j (Q3 a d c) (Q3 a b c) v w) (.c (lq 10 10) (.c e2 (.c (bq 1 3) (.c (lq 20 30) (.c (lq 90 90) (.c (bq 2 3) (.c (lq 90 90) (.c (lq 90 90) (.c (z8z a b d x y z) (.c o34 (.c (z9j (Q3 a b d) (Q3 a b c) a0 a1) (.c (lq 10 10) (.c e3 (.c (bq 2 3) (.c (lq 30 30) (.c (bq 0 3) (.c (bq 1 3) (.c (bq 2 3) (.c (lq 30 30) (.o 2 (.b false) (.o 4 (.k (RN.c (Q3 a b c)) [(v3L a b c)]) (.o 8 (.r (.lit (.int .i64 (zaL (Q3 a b c))))) (.o 10 (.b false) (.o 26 (.k (RN.c (Q3 d b c)) [(v3L d b c)]) (.o 28 (.r (.tup [RN.c (z0K (Q3 d b c) (Q3 a b c)).fst,.lit (.int .i64 (z0K (Q3 d b c) (Q3 a b c)).2)])) (.o 37 (.b false) (.o 57 (.k (RN.c (Q3 a d c)) [(v3L a d c)]) (.o 59 (.r (.tup [RN.c (z0K (Q3 a d c) (Q3 a b c)).fst,.lit (.int .i64 (z0K (Q3 a d c) (Q3 a b c)).2)])) (.o 68 (.b false) (.o 88 (.k (RN.c (Q3 a b d)) [(v3L a b d)]) (.o 90 (.r (.tup [RN.c (z0K (Q3 a b d) (Q3 a b c)).fst,.lit (.int .i64 (z0K (Q3 a b d) (Q3 a b c)).2)])) (.o 99 (.b false) .nil))))))))))))))))))))))))))))))))))))))))))))))))))))))))) (by kernel_rfl) hR
theorem zhp:oV 0 0 0=kV 0 0 0:=by
 have e: ∀v:VN,v=⟨v.x,v.y,v.z⟩:=fun _=>rfl
 rw[e (oV 0 0 0),zhg,zhi,zhn,zcD];rfl
theorem z6I{x k:K}(hk:K.sgn k=1):K.sgn (x*k)=K.sgn x:=by rw[K.sgn_mul,hk,Int.mul_one]
theorem z6U{x k:K}(h:x≠0)(hk:K.sgn k=1):x*k≠0:=fun e=>h (K.sgn_zero.1 (by rw[←z6I hk,e];exact K.sgn_zero.2 rfl))
theorem z88(a b c a' b' c':K):z25 (kV a b c) (kV a' b' c')=kV (b*c'-c*b') (c*a'-a*c') (a*b'-b*a'):=by
 unfold z25 kV
 rw[z6u,z6u,z1z,z1z,z1z];rfl
theorem zde(a1 a2 a3 b1 b2 b3 c1 c2 c3:K):Q3 (kV a1 a2 a3) (kV b1 b2 b3) (kV c1 c2 c3)=kN (a1*(b2*c3-b3*c2)+a2*(b3*c1-b1*c3)+a3*(b1*c2-b2*c1)):=by
 unfold Q3
 rw[z88,zcQ]
noncomputable def kv(v:V3):VN:=kV v.x v.y v.z
noncomputable def z5B(i:Int):V3:=⟨K.ofInt 1,z59 i,z7n i⟩
theorem z7d(i:Int):X1 i=kv (z5B i):=by unfold X1 kv z5B kV;rw[zcD]
theorem z76(v w:V3):V9 (kv v) (kv w)=kv (v.add w):=zcA _ _ _ _ _ _
theorem z3i(v:V3)(k:K):j6 (kv v) (kN k)=kv (v.scale k):=z9Q _ _ _ _
def z81(a b c:V3):K:=a.x*(b.y*c.z-b.z*c.y)+a.y*(b.z*c.x-b.x*c.z)+a.z*(b.x*c.y-b.y*c.x)
theorem z2Y(a b c:V3):Q3 (kv a) (kv b) (kv c)=kN (z81 a b c):=zde _ _ _ _ _ _ _ _ _
def sz3(v:V3)(n:Nat):Prop:=v.x.sz≤n∧v.y.sz≤n∧v.z.sz≤n
theorem z00{v:V3}{n m:Nat}(h:sz3 v n)(hm:n≤m):sz3 v m:=⟨Nat.le_trans h.1 hm,Nat.le_trans h.2.1 hm,Nat.le_trans h.2.2 hm⟩
theorem zbU{v:V3}{n:Nat}(h:sz3 v n):(kv v).raw n=true:=U2.2 ⟨z46 h.1,z46 h.2.1,z46 h.2.2⟩
theorem z58{v w:V3}{a b:Nat}(hv:sz3 v a)(hw:sz3 w b):sz3 (v.add w) (a+b+1):=by
 obtain⟨x,y,z⟩:=hv
 obtain⟨x',y',z'⟩:=hw
 have h1:=K.sz_add v.x w.x
 have h2:=K.sz_add v.y w.y
 have h3:=K.sz_add v.z w.z
 exact⟨Nat.le_trans h1 (by omega),Nat.le_trans h2 (by omega),Nat.le_trans h3 (by omega)⟩
theorem z24{v:V3}{k:K}{a b:Nat}(hv:sz3 v a)(hk:k.sz≤b):sz3 (v.scale k) (a+b+1):=by
 obtain⟨x,y,z⟩:=hv
 have h1:=K.sz_mul v.x k
 have h2:=K.sz_mul v.y k
 have h3:=K.sz_mul v.z k
 exact⟨Nat.le_trans h1 (by omega),Nat.le_trans h2 (by omega),Nat.le_trans h3 (by omega)⟩
theorem zf2:(K.ofInt 1).sz≤1:=of_decide_eq_true (by kernel_rfl)
theorem z3u(i:Int):sz3 (z5B i) 1:=⟨zf2,zbP i,zbK i⟩
theorem zeW{a b c:V3}{n:Nat}(ha:sz3 a n)(hb:sz3 b n)(hc:sz3 c n):(z81 a b c).sz≤15*n+14:=by
 obtain⟨a1,a2,a3⟩:=ha
 obtain⟨b1,b2,b3⟩:=hb
 obtain⟨c1,c2,c3⟩:=hc
 have min: ∀{p q r s:K},p.sz≤n→q.sz≤n→r.sz≤n→s.sz≤n→(p*q-r*s).sz≤4*n+3:=fun {p q r s} h1 h2 h3 h4=>by
  have m1:=K.sz_mul p q
  have m2:=K.sz_mul r s
  have m3:=K.sz_sub (p*q) (r*s)
  omega
 have t: ∀{p q:K},p.sz≤n→q.sz≤4*n+3→(p*q).sz≤5*n+4:=fun {p q} h1 h2=>by
  have m1:=K.sz_mul p q
  omega
 have t1:=t a1 (min b2 c3 b3 c2)
 have t2:=t a2 (min b3 c1 b1 c3)
 have t3:=t a3 (min b1 c2 b2 c1)
 unfold z81
 have s1:=K.sz_add (a.x*(b.y*c.z-b.z*c.y)) (a.y*(b.z*c.x-b.x*c.z))
 have s2:=K.sz_add (a.x*(b.y*c.z-b.z*c.y)+a.y*(b.z*c.x-b.x*c.z)) (a.z*(b.x*c.y-b.y*c.x))
 omega
structure S4 where
 a:V3
 b:V3
 c:V3
 d:V3
noncomputable def S4.step(s:S4)(x:Int×Int):S4:=⟨s.a.add ((z5B x.1).scale (z5B x.1).x),s.b.add ((z5B x.1).scale (z5B x.1).y),s.c.add ((z5B x.1).scale (z5B x.1).z),s.d.add ((z5B x.1).scale (K.ofInt x.2))⟩
def S4.zero:S4:=⟨⟨0,0,0⟩,⟨0,0,0⟩,⟨0,0,0⟩,⟨0,0,0⟩⟩
noncomputable def z0c(l:List (Int×Int)):S4:=l.foldl S4.step .zero
theorem z67{l:List (Int×Int)}{k:Nat}(hk:k<l.length):z0c (l.take (k+1))=(z0c (l.take k)).step l[k]:=by
 unfold z0c
 rw[List.take_add_one,List.getElem?_eq_getElem hk,List.foldl_append]
 rfl
theorem z6F{l:List (Int×Int)}(h:z73 l=true): ∀k,k≤l.length→(sz3 (z0c (l.take k)).a (4*k+1)∧sz3 (z0c (l.take k)).b (4*k+1)∧sz3 (z0c (l.take k)).c (4*k+1))∧sz3 (z0c (l.take k)).d (5*k+1)
 |0,_=>by
  have z:(0:K).sz≤1:=of_decide_eq_true (by kernel_rfl)
  exact⟨⟨⟨z,z,z⟩,⟨z,z,z⟩,⟨z,z,z⟩⟩,⟨z,z,z⟩⟩
 |k+1,hk=>by
  obtain⟨⟨h1,h2,h3⟩,h4⟩:=z6F h k (by omega)
  have hb:=(z8K h).2 k (by omega)
  obtain⟨r1,r2,r3⟩:=z3u l[k].1
  rw[z67 (by omega)]
  exact⟨⟨z00 (z58 h1 (z24 (z3u _) r1)) (by omega),z00 (z58 h2 (z24 (z3u _) r2)) (by omega),z00 (z58 h3 (z24 (z3u _) r3)) (by omega)⟩,
   z00 (z58 h4 (z24 (z3u _) (zbA hb))) (by omega)⟩
theorem zft(v:V3)(i:Int):V9 (kv v) (j6 (X1 i) (X1 i).x)=kv (v.add ((z5B i).scale (z5B i).x)):=by
 rw[z7d,←z76,←z3i];rfl
theorem zeH(v:V3)(i:Int):V9 (kv v) (j6 (X1 i) (X1 i).y)=kv (v.add ((z5B i).scale (z5B i).y)):=by
 rw[z7d,←z76,←z3i];rfl
theorem zeS(v:V3)(i:Int):V9 (kv v) (j6 (X1 i) (X1 i).z)=kv (v.add ((z5B i).scale (z5B i).z)):=by
 rw[z7d,←z76,←z3i];rfl
theorem zf9(v:V3)(i o:Int):V9 (kv v) (j6 (X1 i) (oN o))=kv (v.add ((z5B i).scale (K.ofInt o))):=by
 rw[z7d,←z76,←z3i,zcD]
theorem z3k{x y:List CV}:BlksCv [some (own x),some (own y)]:=by
 intro b hb
 simp only[List.mem_cons,List.not_mem_nil,or_false]at hb
 rcases hb with rfl|rfl<;>(intro cells hc;cases hc;exact CvL.map_cv _)
theorem zeA(l:List (Int×Int))(g:z73 l=true)(a:l.length<2^30)(d e f:(-9223372036854775808:Int)≤0∧(0:Int)≤9223372036854775807){R:CV→Prop}(hR:Ok P 5 (loopHead P 5 0) ⟨J6 96 [(2,.ptr 0 0),(5,.ptr (0+1) 0),(6,.ptr (0+1+1) 0),(7,.cv (CV.lit (Value.func (Fn.func 10) {toList:=[]} {toList:=[]}))),(27,.cv (.lst l.length (flat rdL l))),(28,.cv (.lit (.int .i64 (↑l.length:Int)))),(29,.cv (.lit (.int .i64 0)))],[some (vnM (VN.zero)),some (v3M (oV (0:Int) (0:Int) (0:Int)) (oV (0:Int) (0:Int) (0:Int)) (oV (0:Int) (0:Int) (0:Int))),some (vnM (oV (0:Int) (0:Int) (0:Int)))]⟩ (.of R)):W9 P 5 [rdV l] R:=
 W7 (keep:=[2,5,6,7,27,28,29]) (σ:=[0,4,5]) (.r 3 ((z9s l a).eqB g) (.r 6 (zh3 (0:Int) (0:Int) (0:Int) d e f) (.c (lq 30 30) (.c (lq 90 90) (.c (lq 30 30) (.o 22 .stop .nil)))))) (by kernel_rfl) rfl hR (.cons (CvL.map_cv _) (.cons (CvL.map_cv _) (.cons (CvL.map_cv _) .nil)))
theorem zdQ(l:List (Int×Int))(g:z73 l=false)(a:l.length<2^30):PCall P 5 [rdV l] (.tup [z2N,.lit (.int .i64 1)]):=
 j3 (.r 3 ((z9s l a).eqB g) (.c (lq 30 30) .nil)) (by kernel_rfl)
theorem zdF(l:List (Int×Int))(a b c d:VN)(k mi mo:Int)(h:decide (k<(↑l.length:Int))=true)(e:VN.raw 1000000 a=true)(f:VN.raw 100000 (X1 mi)=true)(g:RN.raw 100000 (X1 mi).x=true)(i:VN.raw 1000000 b=true)(j:VN.raw 100000 (X1 mi)=true)(p:RN.raw 100000 (X1 mi).y=true)(q:VN.raw 1000000 c=true)(s:VN.raw 100000 (X1 mi)=true)(t:RN.raw 100000 (X1 mi).z=true)(u:(-9223372036854775808:Int)≤mo∧mo≤9223372036854775807)(v:VN.raw 1000000 d=true)(w:VN.raw 100000 (X1 mi)=true)(a0:RN.raw 100000 (oN mo)=true)(o1:(0:Int)≤k∧k<(↑l.length:Int))(o2:List.take 2 (List.drop (k.toNat*2) (flat rdL l))=[.lit (.int .i64 mi),.lit (.int .i64 mo)])(o9:BlksCv [some (v3M a b c),some (v3M (V9 a (j6 (X1 mi) (X1 mi).x)) b c)])(o12:BlksCv [some (v3M (V9 a (j6 (X1 mi) (X1 mi).x)) b c),some (v3M (V9 a (j6 (X1 mi) (X1 mi).x)) (V9 b (j6 (X1 mi) (X1 mi).y)) c)])(o15:BlksCv [some (v3M (V9 a (j6 (X1 mi) (X1 mi).x)) (V9 b (j6 (X1 mi) (X1 mi).y)) c),some (v3M (V9 a (j6 (X1 mi) (X1 mi).x)) (V9 b (j6 (X1 mi) (X1 mi).y)) (V9 c (j6 (X1 mi) (X1 mi).z)))])(o18:BlksCv [some (vnM d),some (vnM (V9 d (j6 (X1 mi) (oN mo))))]){R:Goal}(hn:j7 R.n [0,1,2]=true)(hR:Ok P 5 (loopHead P 5 0) ⟨J6 96 [(2,.ptr 0 0),(5,.ptr (0+1) 0),(6,.ptr (0+1+1) 0),(7,.cv (CV.lit (Value.func (Fn.func 10) {toList:=[]} {toList:=[]}))),(27,.cv (.lst l.length (flat rdL l))),(28,.cv (.lit (.int .i64 (↑l.length:Int)))),(29,.cv (.lit (.int .i64 (i64.wrap (k+1)))))],[some (vnM (VN.zero)),some (v3M (V9 a (j6 (X1 mi) (X1 mi).x)) (V9 b (j6 (X1 mi) (X1 mi).y)) (V9 c (j6 (X1 mi) (X1 mi).z))),some (vnM (V9 d (j6 (X1 mi) (oN mo))))]⟩ R):Ok P 5 (loopHead P 5 0) ⟨J6 96 [(2,.ptr 0 0),(5,.ptr 1 0),(6,.ptr 2 0),(7,.cv (CV.lit (Value.func (Fn.func 10) #[] #[]))),(27,.cv (rdV l)),(28,.cv (J1 (↑l.length:Int))),(29,.cv (J1 k))],[some (vnM VN.zero),some (v3M a b c),some (vnM d)]⟩ R:=
 z39 (keep:=[2,5,6,7,27,28,29]) (σ:=[0,1,2]) (.b 2 h (.c o1 (.c o2 (.c (eqn 2) (.c (lq 2 2) (.c (zge mi) (.c (lq 30 30) (.c (bq 0 3) (.c (zgq a b c (X1 mi) ((X1 mi).x) e f g) (.c o9 (.c (bq 1 3) (.c (zgh (V9 a (j6 (X1 mi) (X1 mi).x)) b c (X1 mi) ((X1 mi).y) i j p) (.c o12 (.c (bq 2 3) (.c (zg7 (V9 a (j6 (X1 mi) (X1 mi).x)) (V9 b (j6 (X1 mi) (X1 mi).y)) c (X1 mi) ((X1 mi).z) q s t) (.c o15 (.c (zf8 mo u) (.c (zf6 d (X1 mi) (oN mo) v w a0) (.c o18 (.o 4 (.r (.agg [.lit (.int .i64 mi),.lit (.int .i64 mo)])) (.o 9 (.r (z3g (X1 mi).x (X1 mi).y (X1 mi).z)) (.o 17 (.m [1] (.tup []) [some (v3M (V9 a (j6 (X1 mi) (X1 mi).x)) b c)]) (.o 23 (.m [1] (.tup []) [some (v3M (V9 a (j6 (X1 mi) (X1 mi).x)) (V9 b (j6 (X1 mi) (X1 mi).y)) c)]) (.o 29 (.m [1] (.tup []) [some (v3M (V9 a (j6 (X1 mi) (X1 mi).x)) (V9 b (j6 (X1 mi) (X1 mi).y)) (V9 c (j6 (X1 mi) (X1 mi).z)))]) (.o 34 (.r (RN.c (oN mo))) (.o 35 (.m [2] (.tup []) [some (vnM (V9 d (j6 (X1 mi) (oN mo))))]) (.o 38 .stop .nil))))))))))))))))))))))))))) (by kernel_rfl) rfl hn hR (.cons (CvL.map_cv _) (.cons (CvL.map_cv _) (.cons (CvL.map_cv _) .nil)))
noncomputable def zcS(l:List (Int×Int))(k:Nat)(s:S4):St:=⟨J6 96 [(2,.ptr 0 0),(5,.ptr 1 0),(6,.ptr 2 0),(7,.cv (.lit (.func (.func 10) #[] #[]))),(27,.cv (rdV l)),(28,.cv (J1 l.length)),(29,.cv (J1 k))],[some (vnM VN.zero),some (v3M (kv s.a) (kv s.b) (kv s.c)),some (vnM (kv s.d))]⟩
theorem zaZ{R:Goal}(hn:j7 R.n [0,1,2]=true)(l:List (Int×Int))(g:z73 l=true)(hR:Ok P 5 (loopHead P 5 0) (zcS l l.length (z0c l)) R):Ok P 5 (loopHead P 5 0) (zcS l 0 .zero) R:=by
 have hl:=(z8K g).1
 have key:=z6z (fun k=>Ok P 5 (loopHead P 5 0) (zcS l k (z0c (l.take k))) R) l.length ?_ ?_
 · exact key
 · intro k hk h
   obtain⟨⟨h1,h2,h3⟩,h4⟩:=z6F g k (by omega)
   have hb:=(z8K g).2 k hk
   have up: ∀{v:V3} {n:Nat},sz3 v n→n≤1000000→(kv v).raw 1000000=true:=fun hv hn=>zbU (z00 hv hn)
   have rr:(X1 l[k].1).raw 100000=true:=VN.raw_mono (zcH _) (by decide)
   obtain⟨rx,ry,rz⟩:=U2.1 rr
   refine zdF l _ _ _ _ k l[k].1 l[k].2 (decide_eq_true (by omega)) (up h1 (by omega)) rr rx (up h2 (by omega)) rr ry (up h3 (by omega)) rr rz (by omega) (up h4 (by omega)) rr (zgf (Nat.le_trans (zbA hb) (by decide))) (by omega) (z2m z0b hk) z3k z3k z3k z3k hn ?_
   rw[zft,zeH,zeS,zf9,w64 (by omega)]
   rw[z67 hk]at h
   exact h
 · rw[List.take_length];exact hR
noncomputable def zgQ(l:List (Int×Int)):V3:=⟨K.div (z81 (z0c l).d (z0c l).b (z0c l).c) (z81 (z0c l).a (z0c l).b (z0c l).c),K.div (z81 (z0c l).a (z0c l).d (z0c l).c) (z81 (z0c l).a (z0c l).b (z0c l).c),K.div (z81 (z0c l).a (z0c l).b (z0c l).d) (z81 (z0c l).a (z0c l).b (z0c l).c)⟩
noncomputable def U5(l:List (Int×Int)):VN×Int:=if z73 l then(if K.sgn (z81 (z0c l).a (z0c l).b (z0c l).c)=0 then(.zero,20)else(kv (zgQ l),0))else(.zero,1)
theorem zgH{x y:K}(h:K.sgn y≠0):((z0K (kN x) (kN y)).2 != 0)=false:=by
 unfold z0K
 rw[z2c,z2c]
 dsimp only
 rw[if_neg h];rfl
theorem zaD{l:List (Int×Int)}(h:z73 l=true)(hl:l.length≤12):(sz3 (z0c l).a 61∧sz3 (z0c l).b 61∧sz3 (z0c l).c 61)∧sz3 (z0c l).d 61:=by
 obtain⟨⟨h1,h2,h3⟩,h4⟩:=z6F h l.length (Nat.le_refl _)
 rw[List.take_length]at h1 h2 h3 h4
 exact⟨⟨z00 h1 (by omega),z00 h2 (by omega),z00 h3 (by omega)⟩,z00 h4 (by omega)⟩
theorem zev(l:List (Int×Int))(hl:l.length≤12):PCall P 5 [rdV l] (.tup [(U5 l).1.c,J1 (U5 l).2]):=by
 unfold U5
 cases g:z73 l
 · exact zdQ l g (by omega)
 rw[if_pos rfl]
 obtain⟨⟨h1,h2,h3⟩,h4⟩:=zaD g hl
 have t: ∀{v:V3},sz3 v 61→(kv v).raw 1000=true:=fun hv=>zbU (z00 hv (by decide))
 have ed:zaL (Q3 (kv (z0c l).a) (kv (z0c l).b) (kv (z0c l).c))=K.sgn (z81 (z0c l).a (z0c l).b (z0c l).c):=by rw[z2Y,zfi]
 have dr: ∀{a b c:V3},sz3 a 61→sz3 b 61→sz3 c 61→(Q3 (kv a) (kv b) (kv c)).raw 1000000=true:=fun ha hb hc=>by
  rw[z2Y]
  exact z46 (Nat.le_trans (zeW ha hb hc) (by decide))
 refine z9O (zeA l g (by omega) (by decide) (by decide) (by decide) ?_)
 rw[zhp]
 refine zaZ rfl l g ?_
 by_cases hs:K.sgn (z81 (z0c l).a (z0c l).b (z0c l).c)=0
 · rw[if_pos hs]
   exact zgb l _ _ _ _ l.length (decide_eq_false (by omega)) (beq_iff_eq.2 (ed.trans hs)) (t h1) (t h2) (t h3) (dr h1 h2 h3) rfl rfl
 · rw[if_neg hs]
   have ne: ∀x y z:V3,((z0K (Q3 (kv x) (kv y) (kv z)) (Q3 (kv (z0c l).a) (kv (z0c l).b) (kv (z0c l).c))).2 != 0)=false:=fun x y z=>by
    rw[z2Y,z2Y]
    exact zgH hs
   refine zfh l _ _ _ _ l.length (decide_eq_false (by omega)) (zhs (by rw[ed];exact hs)) (ne _ _ _) (ne _ _ _) (ne _ _ _) (t h1) (t h2) (t h3) (dr h1 h2 h3) (t h4) (t h2) (t h3) (dr h4 h2 h3) (dr h1 h2 h3) (t h1) (t h4) (t h3) (dr h1 h4 h3) (dr h1 h2 h3) (t h1) (t h2) (t h4) (dr h1 h2 h4) (dr h1 h2 h3) rfl rfl rfl rfl ?_
   rw[z2Y,z2Y,z2Y,z2Y,z8R _ _ hs,z8R _ _ hs,z8R _ _ hs]
   rfl
theorem zg3:U5 [(0,7),(6,5),(12,3),(18,5)]=(oV 5 2 0,0):=by
 unfold U5
 rw[if_pos (by decide),if_neg (by decide+kernel)]
 have e:zgQ [(0,7),(6,5),(12,3),(18,5)]=⟨K.ofInt 5,K.ofInt 2,K.ofInt 0⟩:=by kernel_rfl
 rw[e]
 have o: ∀v:VN,v=⟨v.x,v.y,v.z⟩:=fun _=>rfl
 rw[o (oV 5 2 0),zhg,zhi,zhn,zcD,zcD,zcD];rfl
theorem zhv:PCall P 5 [.lst 4 [J1 0,J1 7,J1 6,J1 5,J1 12,J1 3,J1 18,J1 5]] (.tup [(oV 5 2 0).c,J1 0]):=by
 have h:=zev [(0,7),(6,5),(12,3),(18,5)] (by decide)
 rw[zg3]at h
 exact h
theorem zca(n:Nat)(es:List CV){Q:MV→List CV→Prop}(hR:Ok P (6:FuncId) (loopHead P (6:FuncId) 0) ⟨J6 18 [(3,MV.cv (CV.lit (Value.slice none 0 0))),(6,MV.cv (CV.lst n es)),(7,MV.cv (CV.lit (Value.int i64 (↑n:Int)))),(8,MV.cv (CV.lit (Value.int i64 (0:Int))))],[]⟩ (.fresh (z3F Q))):z4r P (6:FuncId) [CV.lst n es] Q:=
 zbS (keep:=[3,6,7,8]) (σ:=[]) (ors:=[(5,Or.stop)]) (by kernel_rfl) rfl .nil hR
theorem zdu(n:Nat)(es:List CV)(k:Int)(mi:Int)(mo:Int)(h1:(decide (k<(↑n:Int)))=true)(o1:(0:Int)≤k∧k<(↑n:Int))(o2:List.take 2 (List.drop (k.toNat*2) es)=[CV.lit (Value.int i64 mi),CV.lit (Value.int i64 mo)]){R:Goal}(hn:j7 R.n [2]=true)(hR:Ok P (6:FuncId) (loopHead P (6:FuncId) 0) ⟨J6 18 [(3,MV.sl 0 0 1 2),(6,MV.cv (CV.lst n es)),(7,MV.cv (CV.lit (Value.int i64 (↑n:Int)))),(8,MV.cv (CV.lit (Value.int i64 (i64.wrap (k+(1:Int))))))],[some [MV.cv (CV.lit (Value.int i64 mi)),MV.cv (CV.lit (Value.int i64 mo))]]⟩ R):Ok P (6:FuncId) (loopHead P (6:FuncId) 0) ({tm:=J6 18 [(3,MV.cv (CV.lit (Value.slice none 0 0))),(6,MV.cv (CV.lst n es)),(7,MV.cv (J1 (↑n:Int))),(8,MV.cv (J1 k))],hp:=[]}) R:=
 zgY (m:=0) (keep:=[3,6,7,8]) (σ:=[2]) (ors:=[(2,Or.b true),(4,Or.r (CV.agg [CV.lit (Value.int i64 mi),CV.lit (Value.int i64 mo)])),(14,Or.stop)]) (by kernel_rfl) rfl (.cons h1 (.cons o1 (.cons o2 (.cons (show 2=2 from(by decide)) (.cons (show 2≤2 from(by decide)) (.cons (show 16≤1099511627776 from(by decide)) (.cons (show 1≤1099511627776 from(by decide)) (.cons (show 0<1 from(by decide)) (.cons (show 2=2 from(by decide)) (.cons (show CvL [MV.cv (CV.lit (Value.int i64 mi)),MV.cv (CV.lit (Value.int i64 mo))]from(by simp[CvL])) .nil)))))))))) hn hR
theorem zcb(n:Nat)(c:Nat)(es:List CV)(out:List CV)(k:Int)(mi:Int)(mo:Int)(h1:(decide (k<(↑n:Int)))=true)(o1:(0:Int)≤k∧k<(↑n:Int))(o2:List.take 2 (List.drop (k.toNat*2) es)=[CV.lit (Value.int i64 mi),CV.lit (Value.int i64 mo)])(o5:(c+1)*16≤1099511627776)(o6:c+1≤1099511627776)(o7:(own out).length=c*2)(o8:zdi [MV.cv (CV.lit (Value.int i64 mi)),MV.cv (CV.lit (Value.int i64 mo))])(o10:CvL (own out++[MV.cv (CV.lit (Value.int i64 mi)),MV.cv (CV.lit (Value.int i64 mo))])){R:Goal}(hn:j7 R.n [3]=true)(hR:Ok P (6:FuncId) (loopHead P (6:FuncId) 0) ⟨J6 18 [(3,MV.sl 0 0 (c+1) 2),(6,MV.cv (CV.lst n es)),(7,MV.cv (CV.lit (Value.int i64 (↑n:Int)))),(8,MV.cv (CV.lit (Value.int i64 (i64.wrap (k+(1:Int))))))],[some (own out++[MV.cv (CV.lit (Value.int i64 mi)),MV.cv (CV.lit (Value.int i64 mo))])]⟩ R):Ok P (6:FuncId) (loopHead P (6:FuncId) 0) ({tm:=J6 18 [(3,MV.sl 0 0 c 2),(6,MV.cv (CV.lst n es)),(7,MV.cv (J1 (↑n:Int))),(8,MV.cv (J1 k))],hp:=[some (own out)]}) R:=
 zgY (m:=1) (keep:=[3,6,7,8]) (σ:=[3]) (ors:=[(2,Or.b true),(4,Or.r (CV.agg [CV.lit (Value.int i64 mi),CV.lit (Value.int i64 mo)])),(14,Or.stop)]) (by kernel_rfl) rfl (.cons h1 (.cons o1 (.cons o2 (.cons (show 2=2 from(by decide)) (.cons (show 2≤2 from(by decide)) (.cons o5 (.cons o6 (.cons o7 (.cons o8 (.cons (show 2=2 from(by decide)) (.cons o10 .nil))))))))))) hn hR
theorem zdg(n:Nat)(c:Nat)(es:List CV)(out:List CV)(k:Int)(_mi:Int)(_mo:Int)(h1:(decide (k<(↑n:Int)))=false){R:Goal}(hn:R.Fresh)(hR:R.m (MV.sl 0 0 c 2) [some (own out)]):Ok P (6:FuncId) (loopHead P (6:FuncId) 0) ({tm:=J6 18 [(3,MV.sl 0 0 c 2),(6,MV.cv (CV.lst n es)),(7,MV.cv (J1 (↑n:Int))),(8,MV.cv (J1 k))],hp:=[some (own out)]}) R:=
 zhj 1 (ors:=[(2,Or.b false),(5,Or.m [0] MV.unk [])]) (by kernel_rfl) (.cons h1 (.cons (show CvL (own out)from(J8 _)) .nil)) hn hR
def S4.rest(s:S4)(m:V3):V3:=⟨s.d.x-(s.a.x*m.x+s.b.x*m.y+s.c.x*m.z),s.d.y-(s.a.y*m.x+s.b.y*m.y+s.c.y*m.z),s.d.z-(s.a.z*m.x+s.b.z*m.y+s.c.z*m.z)⟩
theorem zcu(_q:(rnB (oV (5:Int) (2:Int) (0:Int)).x (oV (5:Int) (2:Int) (0:Int)).x&&(rnB (oV (5:Int) (2:Int) (0:Int)).y (oV (5:Int) (2:Int) (0:Int)).y&&(rnB (oV (5:Int) (2:Int) (0:Int)).z (oV (5:Int) (2:Int) (0:Int)).z&&true)))=true)(a:(-9223372036854775808:Int)≤(5:Int)∧(5:Int)≤(9223372036854775807:Int))(d:(-9223372036854775808:Int)≤(2:Int)∧(2:Int)≤(9223372036854775807:Int))(e:(-9223372036854775808:Int)≤(0:Int)∧(0:Int)≤(9223372036854775807:Int)):PCall P (4:FuncId) [] (CV.lit (Value.bool (rnB (oV (5:Int) (2:Int) (0:Int)).x (oV (5:Int) (2:Int) (0:Int)).x&&(rnB (oV (5:Int) (2:Int) (0:Int)).y (oV (5:Int) (2:Int) (0:Int)).y&&(rnB (oV (5:Int) (2:Int) (0:Int)).z (oV (5:Int) (2:Int) (0:Int)).z&&true))))):=
 j3 (.c zhv (.c (show [MV.cv (CV.lit (Value.int i64 (0:Int))),MV.cv (CV.lit (Value.int i64 (7:Int))),MV.cv (CV.lit (Value.int i64 (6:Int))),MV.cv (CV.lit (Value.int i64 (5:Int))),MV.cv (CV.lit (Value.int i64 (12:Int))),MV.cv (CV.lit (Value.int i64 (3:Int))),MV.cv (CV.lit (Value.int i64 (18:Int))),MV.cv (CV.lit (Value.int i64 (5:Int)))]=[MV.cv (CV.lit (Value.int i64 (0:Int))),MV.cv (CV.lit (Value.int i64 (7:Int))),MV.cv (CV.lit (Value.int i64 (6:Int))),MV.cv (CV.lit (Value.int i64 (5:Int))),MV.cv (CV.lit (Value.int i64 (12:Int))),MV.cv (CV.lit (Value.int i64 (3:Int))),MV.cv (CV.lit (Value.int i64 (18:Int))),MV.cv (CV.lit (Value.int i64 (5:Int)))]from rfl) (.c (show 30≤30 from(by decide)) (.c (zfp (5:Int) (2:Int) (0:Int) a d e) (.o 6 (Or.k (CV.tup [z3g (oV (5:Int) (2:Int) (0:Int)).x (oV (5:Int) (2:Int) (0:Int)).y (oV (5:Int) (2:Int) (0:Int)).z,CV.lit (Value.int i64 (0:Int))]) [[CV.lit (Value.int i64 (0:Int)),CV.lit (Value.int i64 (7:Int)),CV.lit (Value.int i64 (6:Int)),CV.lit (Value.int i64 (5:Int)),CV.lit (Value.int i64 (12:Int)),CV.lit (Value.int i64 (3:Int)),CV.lit (Value.int i64 (18:Int)),CV.lit (Value.int i64 (5:Int))]]) (.o 17 (Or.r (z3g (oV (5:Int) (2:Int) (0:Int)).x (oV (5:Int) (2:Int) (0:Int)).y (oV (5:Int) (2:Int) (0:Int)).z)) .nil)))))) (by kernel_rfl)
theorem z4R(x:RN):rnB x x=true:=zcl.2 rfl
theorem z57(v:VN):(rnB v.x v.x&&(rnB v.y v.y&&(rnB v.z v.z&&true)))=true:=by
 rw[z4R,z4R,z4R];rfl
theorem z2A:PCall P 4 [] (.lit (.bool true)):=(zcu (z57 _) (by decide) (by decide) (by decide)).eqB (z57 _)
def zhl(v w:V3)(p r:K):V3:=⟨v.x*p+w.x*r,v.y*p+w.y*r,v.z*p+w.z*r⟩
theorem V3.ext{v w:V3}(h1:v.x=w.x)(h2:v.y=w.y)(h3:v.z=w.z):v=w:=by
 cases v;cases w;simp only at h1 h2 h3;subst h1 h2 h3;rfl
end Go.Fw
