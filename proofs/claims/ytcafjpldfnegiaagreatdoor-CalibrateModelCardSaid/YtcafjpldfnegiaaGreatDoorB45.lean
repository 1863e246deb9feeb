/- A part of the proof that the law returns true for every input: an executor for the model's code, and what functions of the program compute. -/
import Derived.Test.YtcafjpldfnegiaaGreatDoorB11
import Derived.Test.YtcafjpldfnegiaaGreatDoorB15
import Derived.Test.YtcafjpldfnegiaaGreatDoorB40
import Derived.Test.YtcafjpldfnegiaaGreatDoorB41
import Derived.Test.YtcafjpldfnegiaaGreatDoorB42
import Derived.Test.YtcafjpldfnegiaaGreatDoorB43
import Derived.Test.YtcafjpldfnegiaaGreatDoorB44
import Derived.KernelRfl
open Go IntKind
namespace Go.Fw
set_option maxRecDepth 100000
theorem zkg(l:List (Int×Int))(m:VN)(k mi mo:Int)(h1:decide (k<(↑l.length:Int))=true)(a:VN.raw 10000 m=true)(d:(-9223372036854775808:Int)≤mo∧mo≤9223372036854775807)(e:RN.raw 1000000 (oN mo)=true)(f:RN.raw 1000000 (X4 m mi).fst=true)(o1:(0:Int)≤k∧k<(↑l.length:Int))(o2:(flat rdL l)[k.toNat*2+0]?=some (.lit (.int .i64 mi)))(o6:(0:Int)≤k∧k<(↑l.length:Int))(o7:(flat rdL l)[k.toNat*2+1]?=some (.lit (.int .i64 mo))){R:Goal}(hn:j7 R.n [0,6]=true)(hR:Ok P 113 (loopHead P 113 0) ⟨J1 46 [(0,.cv (.lst l.length (flat rdL l))),(3,.ptr 0 0),(6,.sl (0+1) 0 1 10),(7,.cv (.lit (.int .i64 (i64.wrap (k+1)))))],[some (vnM m),some (own ((z2E (oN mo) (X4 m mi).fst)).l)]⟩ R):Ok P 113 (loopHead P 113 0) ⟨J1 46 [(0,.cv (rdV l)),(3,.ptr 0 0),(6,.cv (CV.lit (Value.slice none 0 0))),(7,.cv (j5 k))],[some (vnM m)]⟩ R:=
 z07 (keep:=[0,3,6,7]) (σ:=[0,6]) (.b 5 h1 (.c o1 (.l 11 o2 (.c (eqn 1) (.c (z4x m mi a) (.c (lq 10 10) (.c o6 (.c o7 (.c (eqn 1) (.c (zgv mo d) (.c (zef (oN mo) ((X4 m mi).fst) e f) (.c (lq 120 1099511627776) (.c (lq 1 1099511627776) (.c (show 0<1 from by decide) (.c (eqn 10) (.o 12 (.r (.tup [RN.c (X4 m mi).fst,.lit (.int .i64 (X4 m mi).2)])) (.o 24 (.r (.lit (.int .i64 mo))) (.o 25 (.r (RN.c (oN mo))) (.o 27 (.r (RN.c (z2E (oN mo) (X4 m mi).fst))) (.o 34 .stop .nil)))))))))))))))))))) (by kernel_rfl) rfl hn hR (.cons (CvL.map_cv _) (.cons (CvL.map_cv _) .nil))
theorem zjF(l:List (Int×Int))(m:VN)(k _mi _mo:Int)(h1:decide (k<(↑l.length:Int))=false){R:Goal}(hR:R.c (.tup [CV.lit (Value.slice none 0 0),.lit (.int .i64 0)])):Ok P 113 (loopHead P 113 0) ⟨J1 46 [(0,.cv (rdV l)),(3,.ptr 0 0),(6,.cv (CV.lit (Value.slice none 0 0))),(7,.cv (j5 k))],[some (vnM m)]⟩ R:=
 okT (.b 5 h1 .nil) (by kernel_rfl) hR
theorem zlW(l:List (Int×Int))(m:VN)(k mi mo:Int)(c:Nat)(out:List CV)(h1:decide (k<(↑l.length:Int))=true)(a:VN.raw 10000 m=true)(d:(-9223372036854775808:Int)≤mo∧mo≤9223372036854775807)(e:RN.raw 1000000 (oN mo)=true)(f:RN.raw 1000000 (X4 m mi).fst=true)(o1:(0:Int)≤k∧k<(↑l.length:Int))(o2:(flat rdL l)[k.toNat*2+0]?=some (.lit (.int .i64 mi)))(o6:(0:Int)≤k∧k<(↑l.length:Int))(o7:(flat rdL l)[k.toNat*2+1]?=some (.lit (.int .i64 mo)))(o11:(c+1)*120≤1099511627776)(o12:c+1≤1099511627776)(o13:(own out).length=c*10)(o14:zb7 (own ((z2E (oN mo) (X4 m mi).fst)).l))(o17:CvL (own out++(own ((z2E (oN mo) (X4 m mi).fst)).l))){R:Goal}(hn:j7 R.n [0,7]=true)(hR:Ok P 113 (loopHead P 113 0) ⟨J1 46 [(0,.cv (.lst l.length (flat rdL l))),(3,.ptr 0 0),(6,.sl (0+1) 0 (c+1) 10),(7,.cv (.lit (.int .i64 (i64.wrap (k+1)))))],[some (vnM m),some (own out++(own ((z2E (oN mo) (X4 m mi).fst)).l))]⟩ R):Ok P 113 (loopHead P 113 0) ⟨J1 46 [(0,.cv (rdV l)),(3,.ptr 0 0),(6,.sl 1 0 c 10),(7,.cv (j5 k))],[some (vnM m),some (own out)]⟩ R:=
 z07 (keep:=[0,3,6,7]) (σ:=[0,7]) (.b 5 h1 (.c o1 (.l 11 o2 (.c (eqn 1) (.c (z4x m mi a) (.c (lq 10 10) (.c o6 (.c o7 (.c (eqn 1) (.c (zgv mo d) (.c (zef (oN mo) ((X4 m mi).fst) e f) (.c o11 (.c o12 (.c o13 (.c o14 (.c (eqn 10) (.o 12 (.r (.tup [RN.c (X4 m mi).fst,.lit (.int .i64 (X4 m mi).2)])) (.o 24 (.r (.lit (.int .i64 mo))) (.o 25 (.r (RN.c (oN mo))) (.o 27 (.r (RN.c (z2E (oN mo) (X4 m mi).fst))) (.o 34 .stop .nil))))))))))))))))))))) (by kernel_rfl) rfl hn hR (.cons (CvL.map_cv _) (.cons o17 .nil))
theorem zkq(l:List (Int×Int))(m:VN)(k _mi _mo:Int)(c:Nat)(out:List CV)(h1:decide (k<(↑l.length:Int))=false)(o1:List.take (c*10) (List.drop 0 (own out))=List.map MV.cv out){R:Goal}(hR:R.c (.tup [.lst c out,.lit (.int .i64 0)])):Ok P 113 (loopHead P 113 0) ⟨J1 46 [(0,.cv (rdV l)),(3,.ptr 0 0),(6,.sl 1 0 c 10),(7,.cv (j5 k))],[some (vnM m),some (own out)]⟩ R:=
 okT (.b 5 h1 (.c o1 (.o 9 (.r (CV.lit undef) [out]) .nil))) (by kernel_rfl) hR
theorem zli(xs:List RN)(s mx:RN)(k:Int)(h1:decide (k<(↑xs.length:Int))=true)(a d:RN.raw 1000000 mx=true)(e:RN.raw 1000000 s=true)(f:RN.raw 1000000 (z9k mx mx)=true)(o1:(0:Int)≤k∧k<(↑xs.length:Int))(o2:List.take 10 (List.drop (k.toNat*10) (flat RN.l xs))=(mx).l){R:Goal}(hn:j7 R.n [0,1]=true)(hR:Ok P 69 (loopHead P 69 0) ⟨J1 35 [(4,.ptr 0 0),(8,.ptr (0+1) 0),(22,.cv (.lst xs.length (flat RN.l xs))),(23,.cv (.lit (.int .i64 (↑xs.length:Int)))),(24,.cv (.lit (.int .i64 (i64.wrap (k+1)))))],[some (own [.lit (.bool false),.lit (.string RN.zero.s0),.lit (.bool false),.lit (.string RN.zero.s1),.lit (.bool false),.lit (.string RN.zero.s2),.lit (.bool false),.lit (.string RN.zero.s3),.lit (.bool false),.lit (.string RN.zero.s4)]),some (own ((z3l s (z9k mx mx))).l)]⟩ R):Ok P 69 (loopHead P 69 0) ⟨J1 35 [(4,.ptr 0 0),(8,.ptr 1 0),(22,.cv (nmV xs)),(23,.cv (j5 (↑xs.length:Int))),(24,.cv (j5 k))],[some (own RN.zero.l),some (own s.l)]⟩ R:=
 z07 (keep:=[4,8,22,23,24]) (σ:=[0,1]) (.b 2 h1 (.c o1 (.c o2 (.c (eqn 10) (.c (lq 10 10) (.c (zq3 mx mx a d) (.c (zaN s (z9k mx mx) e f) (.c (lq 10 10) (.o 4 (.r mx.c) (.o 10 (.r (RN.c (z9k mx mx))) (.o 11 (.r (RN.c (z3l s (z9k mx mx)))) (.o 15 .stop .nil)))))))))))) (by kernel_rfl) rfl hn hR (.cons (J0 _) (.cons (CvL.map_cv _) .nil))
theorem zjT(xs:List RN)(s _mx:RN)(k:Int)(h1:decide (k<(↑xs.length:Int))=false){R:Goal}(hR:R.c (.tup [RN.c s,.lit (.int .i64 0)])):Ok P 69 (loopHead P 69 0) ⟨J1 35 [(4,.ptr 0 0),(8,.ptr 1 0),(22,.cv (nmV xs)),(23,.cv (j5 (↑xs.length:Int))),(24,.cv (j5 k))],[some (own RN.zero.l),some (own s.l)]⟩ R:=
 okT (.b 2 h1 (.c (lq 10 10) .nil)) (by kernel_rfl) hR
theorem zaJ{x y:RN}{a b:Nat}(hx:x.raw a=true)(hy:y.raw b=true):(z3l x y).raw (a+b+1)=true:=by
 have h1:=z0U hx
 have h2:=z0U hy
 have h3:=zeq (toO x) (toO y)
 exact z19 (by omega)
theorem zah{x y:RN}{a b:Nat}(hx:x.raw a=true)(hy:y.raw b=true):(z2E x y).raw (a+b+1)=true:=by
 have h1:=z0U hx
 have h2:=z0U hy
 have h3:=zf4 (toO x) (toO y)
 exact z19 (by omega)
theorem zbt{x y:RN}{a b:Nat}(hx:x.raw a=true)(hy:y.raw b=true):(z9k x y).raw (a+b+1)=true:=by
 have h1:=z0U hx
 have h2:=z0U hy
 have h3:=zmB (toO x) (toO y)
 exact z19 (by omega)
theorem z8x{v w:VN}{n m:Nat}(hv:v.raw n=true)(hw:w.raw m=true):(z3y v w).raw (3*(n+m+1)+2)=true:=by
 refine z19 ?_
 cases ev:toV v with
 |none=>exact Nat.zero_le _
 |some a=>
  cases ew:toV w with
  |none=>exact Nat.zero_le _
  |some b=>
   obtain⟨x,y,z⟩:=z1p ev hv
   obtain⟨x',y',z'⟩:=z1p ew hw
   have m1:=K.sz_mul a.x b.x
   have m2:=K.sz_mul a.y b.y
   have m3:=K.sz_mul a.z b.z
   have m4:=K.sz_add (a.x*b.x) (a.y*b.y)
   have m5:=K.sz_add (a.x*b.x+a.y*b.y) (a.z*b.z)
   show(a.x*b.x+a.y*b.y+a.z*b.z).sz≤_
   omega
theorem zmI{m:VN}{n:Nat}(hm:m.raw n=true){x:Int×Int}(hx: -10000≤x.2∧x.2≤10000):(z6I m x).raw (3*n+11)=true:=
 RN.raw_mono (zah (z55 (z69 hx)) (z8x hm (z2V x.1))) (by omega)
noncomputable def zfK:RN→List RN→RN
 |s,[]=>s
 |s,x::l=>zfK (z3l s (z9k x x)) l
noncomputable def zaI(l:List (Int×Int))(m:VN):RN×Int:=if(z1W l m).2=0 then(zfK (oN 0) (z1W l m).1,0)else(.zero,(z1W l m).2)
theorem zhi (n : Nat) (hn : n ≤ 30000) {R : Goal} (hR0 : j7 R.n [0, 1] = true) (xs : List RN) (hx : ∀ k (hk : k < xs.length), xs[k].raw n = true) (hl : xs.length ≤ 12) (d : Nat) : ∀ (k : Nat) (s : RN), k + d = xs.length → s.raw (k * (2 * n + 2) + 1) = true → R.c (.tup [(zfK s (xs.drop k)).c, j5 0]) →
    Ok P 69 (loopHead P 69 0) ⟨J1 35 [(4,.ptr 0 0),(8,.ptr 1 0),(22,.cv (nmV xs)),(23,.cv (j5 xs.length)),(24,.cv (j5 k))],[some (own RN.zero.l),some (own s.l)]⟩ R:=by
 induction d with
 |zero=>
  intro k s hk _ hR
  rw[List.drop_eq_nil_of_le (by omega)]at hR
  exact zjT xs s .zero k (decide_eq_false (by omega)) hR
 |succ d ih=>
  intro k s hk hs hR
  have hlt:k<xs.length:=by omega
  rw[List.drop_eq_getElem_cons hlt]at hR
  have hm:k*(2*n+2)≤11*(2*n+2):=Nat.mul_le_mul_right _ (by omega)
  have x1:=hx k hlt
  have q:=zbt x1 x1
  refine zli xs s xs[k] k (decide_eq_true (by omega)) (RN.raw_mono x1 (by omega)) (RN.raw_mono x1 (by omega)) (RN.raw_mono hs (by omega)) (RN.raw_mono q (by omega)) (by omega) (z0O z9J hlt) hR0 ?_
  rw[w64 (by omega)]
  refine ih (k+1) _ (by omega) (RN.raw_mono (zaJ hs q) ?_) hR
  rw[Nat.add_mul];omega
theorem zbr{l:List (Int×Int)}{m:VN}{n:Nat}(hm:m.raw n=true): ∀k (hk:k<(z1W l m).1.length),(z1W l m).1[k].raw (3*n+11)=true:=by
 cases g:z3t l
 · have e:z1W l m=([],1):=by unfold z1W;rw[g];rfl
   intro k hk
   rw[e]at hk
   exact absurd hk (by simp)
 cases g2:m.ok
 · have e:z1W l m=([],1):=by unfold z1W;rw[g,g2];rfl
   intro k hk
   rw[e]at hk
   exact absurd hk (by simp)
 · have e:z1W l m=(l.map (z6I m),0):=by unfold z1W;rw[g,g2];rfl
   rw[e]
   intro k hk
   have hk':k<l.length:=by simpa using hk
   have:(l.map (z6I m))[k]=z6I m l[k]:=List.getElem_map _
   show(l.map (z6I m))[k].raw _=true
   rw[this]
   exact zmI hm ((z6T g).2 k hk')
theorem z7T(l:List (Int×Int))(m:VN):(z1W l m).1.length≤l.length:=by
 unfold z1W
 split
 · simp
 · simp
theorem zak(l:List (Int×Int))(m:VN)(hl:l.length≤12)(hm:m.raw 8000=true):PCall P 69 [rdV l,m.c] (.tup [(zaI l m).1.c,j5 (zaI l m).2]):=by
 have hm':=VN.raw_mono hm (show 8000≤10000 by decide)
 unfold zaI
 by_cases h:(z1W l m).2=0
 · rw[if_pos h]
   refine Y6 (zrN l m (bne_self_iff h) (by omega) hm' (by decide) ?_)
   exact zhi (3*8000+11) (by decide) rfl _ (zbr hm) (Nat.le_trans (z7T l m) hl) (z1W l m).1.length 0 (oN 0) (by omega) (z55 (by decide+kernel)) rfl
 · rw[if_neg h]
   exact znn l m (bne_iff_ne.2 h) (by omega) hm'
 where bne_self_iff {a:Int} (h:a=0):(a != 0)=false:=by rw[h];rfl
def v3L(a b c:VN):List CV:=vnL a++(vnL b++vnL c)
def v3M(a b c:VN):List MV:=own (v3L a b c)
theorem znb(a b c v:VN)(k:RN)(d:VN.raw 1000000 v=true)(e:RN.raw 1000000 k=true)(f:VN.raw 1000000 a=true)(g:VN.raw 1000000 (Q0 v k)=true)(o4:BlksCv (List.take 1 [some (v3M (z0G a (Q0 v k)) b c),some (vnM v),some (own (RN.l k)),none,none])):z2l P 140 [some (v3M a b c)] [.ptr 0 0,.agg (vnM v),.agg (own k.l)] (.tup []) (List.take 1 [some (v3M (z0G a (Q0 v k)) b c),some (vnM v),some (own (RN.l k)),none,none]):=
 zaH (ors:=[(8,.r (z5f (Q0 v k).x (Q0 v k).y (Q0 v k).z)),(9,.r (z5f (z0G a (Q0 v k)).x (z0G a (Q0 v k)).y (z0G a (Q0 v k)).z)),(12,.a)]) (by kernel_rfl) (.cons (z5A v k d e) (.cons (zb3 a (Q0 v k) f g) (.cons (lq 30 90) (.cons (lq 1 5) (.cons o4 .nil)))))
theorem zny(a b c v:VN)(k:RN)(d:VN.raw 1000000 v=true)(e:RN.raw 1000000 k=true)(f:VN.raw 1000000 b=true)(g:VN.raw 1000000 (Q0 v k)=true)(o4:BlksCv (List.take 1 [some (v3M a (z0G b (Q0 v k)) c),some (vnM v),some (own (RN.l k)),none,none])):z2l P 140 [some (v3M a b c)] [.ptr 0 30,.agg (vnM v),.agg (own k.l)] (.tup []) (List.take 1 [some (v3M a (z0G b (Q0 v k)) c),some (vnM v),some (own (RN.l k)),none,none]):=
 zaH (ors:=[(8,.r (z5f (Q0 v k).x (Q0 v k).y (Q0 v k).z)),(9,.r (z5f (z0G b (Q0 v k)).x (z0G b (Q0 v k)).y (z0G b (Q0 v k)).z)),(12,.a)]) (by kernel_rfl) (.cons (z5A v k d e) (.cons (zb3 b (Q0 v k) f g) (.cons (lq 60 90) (.cons (lq 1 5) (.cons o4 .nil)))))
theorem zq1(a b c v:VN)(k:RN)(d:VN.raw 1000000 v=true)(e:RN.raw 1000000 k=true)(f:VN.raw 1000000 c=true)(g:VN.raw 1000000 (Q0 v k)=true)(o4:BlksCv (List.take 1 [some (v3M a b (z0G c (Q0 v k))),some (vnM v),some (own (RN.l k)),none,none])):z2l P 140 [some (v3M a b c)] [.ptr 0 60,.agg (vnM v),.agg (own k.l)] (.tup []) (List.take 1 [some (v3M a b (z0G c (Q0 v k))),some (vnM v),some (own (RN.l k)),none,none]):=
 zaH (ors:=[(8,.r (z5f (Q0 v k).x (Q0 v k).y (Q0 v k).z)),(9,.r (z5f (z0G c (Q0 v k)).x (z0G c (Q0 v k)).y (z0G c (Q0 v k)).z)),(12,.a)]) (by kernel_rfl) (.cons (z5A v k d e) (.cons (zb3 c (Q0 v k) f g) (.cons (lq 90 90) (.cons (lq 1 5) (.cons o4 .nil)))))
theorem zoV(a v:VN)(k:RN)(d:VN.raw 1000000 v=true)(e:RN.raw 1000000 k=true)(f:VN.raw 1000000 a=true)(g:VN.raw 1000000 (Q0 v k)=true)(o4:BlksCv (List.take 1 [some (vnM (z0G a (Q0 v k))),some (vnM v),some (own (RN.l k)),none,none])):z2l P 140 [some (vnM a)] [.ptr 0 0,.agg (vnM v),.cv k.c] (.tup []) (List.take 1 [some (vnM (z0G a (Q0 v k))),some (vnM v),some (own (RN.l k)),none,none]):=
 zaH (ors:=[(8,.r (z5f (Q0 v k).x (Q0 v k).y (Q0 v k).z)),(9,.r (z5f (z0G a (Q0 v k)).x (z0G a (Q0 v k)).y (z0G a (Q0 v k)).z)),(12,.a)]) (by kernel_rfl) (.cons (z5A v k d e) (.cons (zb3 a (Q0 v k) f g) (.cons (lq 30 30) (.cons (lq 1 5) (.cons o4 .nil)))))
theorem z5n{x:List CV}{l:List Blk}:BlksCv (List.take 1 (some (own x)::l)):=by
 intro b hb
 simp only[List.take_succ_cons,List.take_zero,List.mem_singleton]at hb
 subst hb
 intro cells hc
 cases hc
 exact CvL.map_cv _
section
variable{n:Nat}{v:VN}{k:RN}
theorem zrS(a b c v:VN)(k:RN)(ha:a.raw 1000000=true)(hv:v.raw 100000=true)(hk:k.raw 100000=true):z2l P 140 [some (v3M a b c)] [.ptr 0 0,.agg (vnM v),.agg (own k.l)] (.tup []) [some (v3M (z0G a (Q0 v k)) b c)]:=
 znb a b c v k (VN.raw_mono hv (by decide)) (RN.raw_mono hk (by decide)) ha (VN.raw_mono (z36 hv hk) (by decide)) z5n
theorem znt(a b c v:VN)(k:RN)(ha:b.raw 1000000=true)(hv:v.raw 100000=true)(hk:k.raw 100000=true):z2l P 140 [some (v3M a b c)] [.ptr 0 30,.agg (vnM v),.agg (own k.l)] (.tup []) [some (v3M a (z0G b (Q0 v k)) c)]:=
 zny a b c v k (VN.raw_mono hv (by decide)) (RN.raw_mono hk (by decide)) ha (VN.raw_mono (z36 hv hk) (by decide)) z5n
theorem zq7(a b c v:VN)(k:RN)(ha:c.raw 1000000=true)(hv:v.raw 100000=true)(hk:k.raw 100000=true):z2l P 140 [some (v3M a b c)] [.ptr 0 60,.agg (vnM v),.agg (own k.l)] (.tup []) [some (v3M a b (z0G c (Q0 v k)))]:=
 zq1 a b c v k (VN.raw_mono hv (by decide)) (RN.raw_mono hk (by decide)) ha (VN.raw_mono (z36 hv hk) (by decide)) z5n
theorem znq(a v:VN)(k:RN)(ha:a.raw 1000000=true)(hv:v.raw 100000=true)(hk:k.raw 100000=true):z2l P 140 [some (vnM a)] [.ptr 0 0,.agg (vnM v),.cv k.c] (.tup []) [some (vnM (z0G a (Q0 v k)))]:=
 zoV a v k (VN.raw_mono hv (by decide)) (RN.raw_mono hk (by decide)) ha (VN.raw_mono (z36 hv hk) (by decide)) z5n
end
theorem zez(u v w:VN)(hu:u.raw 1000=true)(hv:v.raw 1000=true)(hw:w.raw 1000=true):PCall P 145 [.lst 3 (v3L u v w)] (W8 u v w).c:=zsa u v w hu hv hw
theorem zpe(l:List (Int×Int))(a b c d:VN)(k:Int)(h:decide (k<(↑l.length:Int))=false)(hs:(zdC (W8 a b c)==0)=true)(e:VN.raw 1000 a=true)(f:VN.raw 1000 b=true)(g:VN.raw 1000 c=true)(i:RN.raw 1000000 (W8 a b c)=true)(o3:(v3M a b c)=(v3M a b c)){R:Goal}(hR:R.c (.tup [z4C,.lit (.int .i64 20)])):Ok P 60 (loopHead P 60 0) ⟨J1 96 [(2,.ptr 0 0),(5,.ptr 1 0),(6,.ptr 2 0),(7,.cv (CV.lit (Value.func (Fn.func 140) #[] #[]))),(27,.cv (rdV l)),(28,.cv (j5 (↑l.length:Int))),(29,.cv (j5 k))],[some (vnM VN.zero),some (v3M a b c),some (vnM d)]⟩ R:=
 okT (.b 2 h (.c (lq 90 90) (.c (zez a b c e f g) (.c o3 (.c (lq 10 10) (.c (z9Y (W8 a b c) i) (.o 4 (.k (RN.c (W8 a b c)) [(v3L a b c)]) (.o 8 (.r (.lit (.int .i64 (zdC (W8 a b c))))) (.b 10 hs (.c (lq 30 30) .nil)))))))))) (by kernel_rfl) hR
theorem zpQ(l:List (Int×Int))(a b c d:VN)(k:Int)(h:decide (k<(↑l.length:Int))=false)(hs:(zdC (W8 a b c)==0)=false)(e1:((z1Z (W8 d b c) (W8 a b c)).snd != 0)=false)(e2:((z1Z (W8 a d c) (W8 a b c)).snd != 0)=false)(e3:((z1Z (W8 a b d) (W8 a b c)).snd != 0)=false)(e:VN.raw 1000 a=true)(f:VN.raw 1000 b=true)(g:VN.raw 1000 c=true)(i:RN.raw 1000000 (W8 a b c)=true)(j:VN.raw 1000 d=true)(m:VN.raw 1000 b=true)(n:VN.raw 1000 c=true)(p:RN.raw 1000000 (W8 d b c)=true)(q:RN.raw 1000000 (W8 a b c)=true)(s:VN.raw 1000 a=true)(t:VN.raw 1000 d=true)(u:VN.raw 1000 c=true)(v:RN.raw 1000000 (W8 a d c)=true)(w:RN.raw 1000000 (W8 a b c)=true)(x:VN.raw 1000 a=true)(y:VN.raw 1000 b=true)(z:VN.raw 1000 d=true)(a0:RN.raw 1000000 (W8 a b d)=true)(a1:RN.raw 1000000 (W8 a b c)=true)(o3:(v3M a b c)=(v3M a b c))(o12:(v3M d b c)=(v3M d b c))(o23:(v3M a d c)=(v3M a d c))(o34:(v3M a b d)=(v3M a b d)){R:Goal}(hR:R.c (.tup [z5f (z1Z (W8 d b c) (W8 a b c)).fst (z1Z (W8 a d c) (W8 a b c)).fst (z1Z (W8 a b d) (W8 a b c)).fst,.lit (.int .i64 0)])):Ok P 60 (loopHead P 60 0) ⟨J1 96 [(2,.ptr 0 0),(5,.ptr 1 0),(6,.ptr 2 0),(7,.cv (CV.lit (Value.func (Fn.func 140) #[] #[]))),(27,.cv (rdV l)),(28,.cv (j5 (↑l.length:Int))),(29,.cv (j5 k))],[some (vnM VN.zero),some (v3M a b c),some (vnM d)]⟩ R:=
 okT (.c h (.c (lq 90 90) (.c (zez a b c e f g) (.c o3 (.c (lq 10 10) (.c (z9Y (W8 a b c) i) (.c hs (.c (lq 90 90) (.c (bq 0 3) (.c (lq 30 90) (.c (lq 90 90) (.c (zez d b c j m n) (.c o12 (.c (zdS (W8 d b c) (W8 a b c) p q) (.c (lq 10 10) (.c e1 (.c (bq 0 3) (.c (lq 10 30) (.c (lq 90 90) (.c (bq 1 3) (.c (lq 60 90) (.c (lq 90 90) (.c (zez a d c s t u) (.c o23 (.c (zdS (W8 a d c) (W8 a b c) v w) (.c (lq 10 10) (.c e2 (.c (bq 1 3) (.c (lq 20 30) (.c (lq 90 90) (.c (bq 2 3) (.c (lq 90 90) (.c (lq 90 90) (.c (zez a b d x y z) (.c o34 (.c (zdS (W8 a b d) (W8 a b c) a0 a1) (.c (lq 10 10) (.c e3 (.c (bq 2 3) (.c (lq 30 30) (.c (bq 0 3) (.c (bq 1 3) (.c (bq 2 3) (.c (lq 30 30) (.o 2 (.b false) (.o 4 (.k (RN.c (W8 a b c)) [(v3L a b c)]) (.o 8 (.r (.lit (.int .i64 (zdC (W8 a b c))))) (.o 10 (.b false) (.o 26 (.k (RN.c (W8 d b c)) [(v3L d b c)]) (.o 28 (.r (.tup [RN.c (z1Z (W8 d b c) (W8 a b c)).fst,.lit (.int .i64 (z1Z (W8 d b c) (W8 a b c)).2)])) (.o 37 (.b false) (.o 57 (.k (RN.c (W8 a d c)) [(v3L a d c)]) (.o 59 (.r (.tup [RN.c (z1Z (W8 a d c) (W8 a b c)).fst,.lit (.int .i64 (z1Z (W8 a d c) (W8 a b c)).2)])) (.o 68 (.b false) (.o 88 (.k (RN.c (W8 a b d)) [(v3L a b d)]) (.o 90 (.r (.tup [RN.c (z1Z (W8 a b d) (W8 a b c)).fst,.lit (.int .i64 (z1Z (W8 a b d) (W8 a b c)).2)])) (.o 99 (.b false) .nil))))))))))))))))))))))))))))))))))))))))))))))))))))))))) (by kernel_rfl) hR
theorem ztW:oV 0 0 0=kV 0 0 0:=by
 have e: ∀v:VN,v=⟨v.x,v.y,v.z⟩:=fun _=>rfl
 rw[e (oV 0 0 0),ztP,ztQ,ztN,zks];rfl
theorem z9W{x k:K}(hk:K.sgn k=1):K.sgn (x*k)=K.sgn x:=by rw[K.sgn_mul,hk,Int.mul_one]
theorem z6c{x k:K}(h:x≠0)(hk:K.sgn k=1):x*k≠0:=fun e=>h (K.sgn_zero.1 (by rw[←z9W hk,e];exact K.sgn_zero.2 rfl))
theorem zcP(a b c a' b' c':K):z3Z (kV a b c) (kV a' b' c')=kV (b*c'-c*b') (c*a'-a*c') (a*b'-b*a'):=by
 unfold z3Z kV
 rw[za4,za4,z1C,z1C,z1C];rfl
theorem zjh(a1 a2 a3 b1 b2 b3 c1 c2 c3:K):W8 (kV a1 a2 a3) (kV b1 b2 b3) (kV c1 c2 c3)=kN (a1*(b2*c3-b3*c2)+a2*(b3*c1-b1*c3)+a3*(b1*c2-b2*c1)):=by
 unfold W8
 rw[zcP,zeS]
noncomputable def kv(v:V3):VN:=kV v.x v.y v.z
noncomputable def z6E(i:Int):V3:=⟨K.ofInt 1,z5o i,z9n i⟩
theorem z9h(i:Int):X7 i=kv (z6E i):=by unfold X7 kv z6E kV;rw[zks]
theorem zai(v w:V3):z0G (kv v) (kv w)=kv (v.add w):=zkE _ _ _ _ _ _
theorem z5w(v:V3)(k:K):Q0 (kv v) (kN k)=kv (v.scale k):=zfa _ _ _ _
def zcw(a b c:V3):K:=a.x*(b.y*c.z-b.z*c.y)+a.y*(b.z*c.x-b.x*c.z)+a.z*(b.x*c.y-b.y*c.x)
theorem z58(a b c:V3):W8 (kv a) (kv b) (kv c)=kN (zcw a b c):=zjh _ _ _ _ _ _ _ _ _
def sz3(v:V3)(n:Nat):Prop:=v.x.sz≤n∧v.y.sz≤n∧v.z.sz≤n
theorem z0Z{v:V3}{n m:Nat}(h:sz3 v n)(hm:n≤m):sz3 v m:=⟨Nat.le_trans h.1 hm,Nat.le_trans h.2.1 hm,Nat.le_trans h.2.2 hm⟩
theorem zin{v:V3}{n:Nat}(h:sz3 v n):(kv v).raw n=true:=z0z.2 ⟨z3q h.1,z3q h.2.1,z3q h.2.2⟩
theorem z80{v w:V3}{a b:Nat}(hv:sz3 v a)(hw:sz3 w b):sz3 (v.add w) (a+b+1):=by
 obtain⟨x,y,z⟩:=hv
 obtain⟨x',y',z'⟩:=hw
 have h1:=K.sz_add v.x w.x
 have h2:=K.sz_add v.y w.y
 have h3:=K.sz_add v.z w.z
 exact⟨Nat.le_trans h1 (by omega),Nat.le_trans h2 (by omega),Nat.le_trans h3 (by omega)⟩
theorem z4k{v:V3}{k:K}{a b:Nat}(hv:sz3 v a)(hk:k.sz≤b):sz3 (v.scale k) (a+b+1):=by
 obtain⟨x,y,z⟩:=hv
 have h1:=K.sz_mul v.x k
 have h2:=K.sz_mul v.y k
 have h3:=K.sz_mul v.z k
 exact⟨Nat.le_trans h1 (by omega),Nat.le_trans h2 (by omega),Nat.le_trans h3 (by omega)⟩
theorem zqc:(K.ofInt 1).sz≤1:=of_decide_eq_true (by kernel_rfl)
theorem z6f(i:Int):sz3 (z6E i) 1:=⟨zqc,zio i,zix i⟩
theorem zs9{a b c:V3}{n:Nat}(ha:sz3 a n)(hb:sz3 b n)(hc:sz3 c n):(zcw a b c).sz≤15*n+14:=by
 obtain⟨a1,a2,a3⟩:=ha
 obtain⟨b1,b2,b3⟩:=hb
 obtain⟨c1,c2,c3⟩:=hc
 have min: ∀{p q r s:K},p.sz≤n→q.sz≤n→r.sz≤n→s.sz≤n→(p*q-r*s).sz≤4*n+3:=fun {p q r s} h1 h2 h3 h4=>by
  have m1:=K.sz_mul p q
  have m2:=K.sz_mul r s
  have m3:=K.sz_sub (p*q) (r*s)
  omega
 have t: ∀{p q:K},p.sz≤n→q.sz≤4*n+3→(p*q).sz≤5*n+4:=fun {p q} h1 h2=>by
  have m1:=K.sz_mul p q
  omega
 have t1:=t a1 (min b2 c3 b3 c2)
 have t2:=t a2 (min b3 c1 b1 c3)
 have t3:=t a3 (min b1 c2 b2 c1)
 unfold zcw
 have s1:=K.sz_add (a.x*(b.y*c.z-b.z*c.y)) (a.y*(b.z*c.x-b.x*c.z))
 have s2:=K.sz_add (a.x*(b.y*c.z-b.z*c.y)+a.y*(b.z*c.x-b.x*c.z)) (a.z*(b.x*c.y-b.y*c.x))
 omega
structure S4 where
 a:V3
 b:V3
 c:V3
 d:V3
noncomputable def S4.step(s:S4)(x:Int×Int):S4:=⟨s.a.add ((z6E x.1).scale (z6E x.1).x),s.b.add ((z6E x.1).scale (z6E x.1).y),s.c.add ((z6E x.1).scale (z6E x.1).z),s.d.add ((z6E x.1).scale (K.ofInt x.2))⟩
def S4.zero:S4:=⟨⟨0,0,0⟩,⟨0,0,0⟩,⟨0,0,0⟩,⟨0,0,0⟩⟩
noncomputable def z1A(l:List (Int×Int)):S4:=l.foldl S4.step .zero
theorem z9g{l:List (Int×Int)}{k:Nat}(hk:k<l.length):z1A (l.take (k+1))=(z1A (l.take k)).step l[k]:=by
 unfold z1A
 rw[List.take_add_one,List.getElem?_eq_getElem hk,List.foldl_append]
 rfl
theorem z9F{l:List (Int×Int)}(h:z3t l=true): ∀k,k≤l.length→(sz3 (z1A (l.take k)).a (4*k+1)∧sz3 (z1A (l.take k)).b (4*k+1)∧sz3 (z1A (l.take k)).c (4*k+1))∧sz3 (z1A (l.take k)).d (5*k+1)
 |0,_=>by
  have z:(0:K).sz≤1:=of_decide_eq_true (by kernel_rfl)
  exact⟨⟨⟨z,z,z⟩,⟨z,z,z⟩,⟨z,z,z⟩⟩,⟨z,z,z⟩⟩
 |k+1,hk=>by
  obtain⟨⟨h1,h2,h3⟩,h4⟩:=z9F h k (by omega)
  have hb:=(z6T h).2 k (by omega)
  obtain⟨r1,r2,r3⟩:=z6f l[k].1
  rw[z9g (by omega)]
  exact⟨⟨z0Z (z80 h1 (z4k (z6f _) r1)) (by omega),z0Z (z80 h2 (z4k (z6f _) r2)) (by omega),z0Z (z80 h3 (z4k (z6f _) r3)) (by omega)⟩,
   z0Z (z80 h4 (z4k (z6f _) (z69 hb))) (by omega)⟩
theorem zqH(v:V3)(i:Int):z0G (kv v) (Q0 (X7 i) (X7 i).x)=kv (v.add ((z6E i).scale (z6E i).x)):=by
 rw[z9h,←zai,←z5w];rfl
theorem zoC(v:V3)(i:Int):z0G (kv v) (Q0 (X7 i) (X7 i).y)=kv (v.add ((z6E i).scale (z6E i).y)):=by
 rw[z9h,←zai,←z5w];rfl
theorem zq4(v:V3)(i:Int):z0G (kv v) (Q0 (X7 i) (X7 i).z)=kv (v.add ((z6E i).scale (z6E i).z)):=by
 rw[z9h,←zai,←z5w];rfl
theorem zpb(v:V3)(i o:Int):z0G (kv v) (Q0 (X7 i) (oN o))=kv (v.add ((z6E i).scale (K.ofInt o))):=by
 rw[z9h,←zai,←z5w,zks]
theorem z5x{x y:List CV}:BlksCv [some (own x),some (own y)]:=by
 intro b hb
 simp only[List.mem_cons,List.not_mem_nil,or_false]at hb
 rcases hb with rfl|rfl<;>(intro cells hc;cases hc;exact CvL.map_cv _)
theorem zqw(l:List (Int×Int))(g:z3t l=true)(a:l.length<2^30)(d e f:(-9223372036854775808:Int)≤0∧(0:Int)≤9223372036854775807){R:CV→Prop}(hR:Ok P 60 (loopHead P 60 0) ⟨J1 96 [(2,.ptr 0 0),(5,.ptr (0+1) 0),(6,.ptr (0+1+1) 0),(7,.cv (CV.lit (Value.func (Fn.func 140) {toList:=[]} {toList:=[]}))),(27,.cv (.lst l.length (flat rdL l))),(28,.cv (.lit (.int .i64 (↑l.length:Int)))),(29,.cv (.lit (.int .i64 0)))],[some (vnM (VN.zero)),some (v3M (oV (0:Int) (0:Int) (0:Int)) (oV (0:Int) (0:Int) (0:Int)) (oV (0:Int) (0:Int) (0:Int))),some (vnM (oV (0:Int) (0:Int) (0:Int)))]⟩ (.of R)):Y3 P 60 [rdV l] R:=
 Z6 (keep:=[2,5,6,7,27,28,29]) (σ:=[0,4,5]) (.r 3 ((z3v l a).eqB g) (.r 6 (ztt (0:Int) (0:Int) (0:Int) d e f) (.c (lq 30 30) (.c (lq 90 90) (.c (lq 30 30) (.o 22 .stop .nil)))))) (by kernel_rfl) rfl hR (.cons (CvL.map_cv _) (.cons (CvL.map_cv _) (.cons (CvL.map_cv _) .nil)))
theorem zjC(l:List (Int×Int))(g:z3t l=false)(a:l.length<2^30):PCall P 60 [rdV l] (.tup [z4C,.lit (.int .i64 1)]):=
 j3 (.r 3 ((z3v l a).eqB g) (.c (lq 30 30) .nil)) (by kernel_rfl)
theorem zld(l:List (Int×Int))(a b c d:VN)(k mi mo:Int)(h:decide (k<(↑l.length:Int))=true)(e:VN.raw 1000000 a=true)(f:VN.raw 100000 (X7 mi)=true)(g:RN.raw 100000 (X7 mi).x=true)(i:VN.raw 1000000 b=true)(j:VN.raw 100000 (X7 mi)=true)(p:RN.raw 100000 (X7 mi).y=true)(q:VN.raw 1000000 c=true)(s:VN.raw 100000 (X7 mi)=true)(t:RN.raw 100000 (X7 mi).z=true)(u:(-9223372036854775808:Int)≤mo∧mo≤9223372036854775807)(v:VN.raw 1000000 d=true)(w:VN.raw 100000 (X7 mi)=true)(a0:RN.raw 100000 (oN mo)=true)(o1:(0:Int)≤k∧k<(↑l.length:Int))(o2:List.take 2 (List.drop (k.toNat*2) (flat rdL l))=[.lit (.int .i64 mi),.lit (.int .i64 mo)])(o9:BlksCv [some (v3M a b c),some (v3M (z0G a (Q0 (X7 mi) (X7 mi).x)) b c)])(o12:BlksCv [some (v3M (z0G a (Q0 (X7 mi) (X7 mi).x)) b c),some (v3M (z0G a (Q0 (X7 mi) (X7 mi).x)) (z0G b (Q0 (X7 mi) (X7 mi).y)) c)])(o15:BlksCv [some (v3M (z0G a (Q0 (X7 mi) (X7 mi).x)) (z0G b (Q0 (X7 mi) (X7 mi).y)) c),some (v3M (z0G a (Q0 (X7 mi) (X7 mi).x)) (z0G b (Q0 (X7 mi) (X7 mi).y)) (z0G c (Q0 (X7 mi) (X7 mi).z)))])(o18:BlksCv [some (vnM d),some (vnM (z0G d (Q0 (X7 mi) (oN mo))))]){R:Goal}(hn:j7 R.n [0,1,2]=true)(hR:Ok P 60 (loopHead P 60 0) ⟨J1 96 [(2,.ptr 0 0),(5,.ptr (0+1) 0),(6,.ptr (0+1+1) 0),(7,.cv (CV.lit (Value.func (Fn.func 140) {toList:=[]} {toList:=[]}))),(27,.cv (.lst l.length (flat rdL l))),(28,.cv (.lit (.int .i64 (↑l.length:Int)))),(29,.cv (.lit (.int .i64 (i64.wrap (k+1)))))],[some (vnM (VN.zero)),some (v3M (z0G a (Q0 (X7 mi) (X7 mi).x)) (z0G b (Q0 (X7 mi) (X7 mi).y)) (z0G c (Q0 (X7 mi) (X7 mi).z))),some (vnM (z0G d (Q0 (X7 mi) (oN mo))))]⟩ R):Ok P 60 (loopHead P 60 0) ⟨J1 96 [(2,.ptr 0 0),(5,.ptr 1 0),(6,.ptr 2 0),(7,.cv (CV.lit (Value.func (Fn.func 140) #[] #[]))),(27,.cv (rdV l)),(28,.cv (j5 (↑l.length:Int))),(29,.cv (j5 k))],[some (vnM VN.zero),some (v3M a b c),some (vnM d)]⟩ R:=
 z07 (keep:=[2,5,6,7,27,28,29]) (σ:=[0,1,2]) (.b 2 h (.c o1 (.c o2 (.c (eqn 2) (.c (lq 2 2) (.c (zaT mi) (.c (lq 30 30) (.c (bq 0 3) (.c (zrS a b c (X7 mi) ((X7 mi).x) e f g) (.c o9 (.c (bq 1 3) (.c (znt (z0G a (Q0 (X7 mi) (X7 mi).x)) b c (X7 mi) ((X7 mi).y) i j p) (.c o12 (.c (bq 2 3) (.c (zq7 (z0G a (Q0 (X7 mi) (X7 mi).x)) (z0G b (Q0 (X7 mi) (X7 mi).y)) c (X7 mi) ((X7 mi).z) q s t) (.c o15 (.c (zdk mo u) (.c (znq d (X7 mi) (oN mo) v w a0) (.c o18 (.o 4 (.r (.agg [.lit (.int .i64 mi),.lit (.int .i64 mo)])) (.o 9 (.r (z5f (X7 mi).x (X7 mi).y (X7 mi).z)) (.o 17 (.m [1] (.tup []) [some (v3M (z0G a (Q0 (X7 mi) (X7 mi).x)) b c)]) (.o 23 (.m [1] (.tup []) [some (v3M (z0G a (Q0 (X7 mi) (X7 mi).x)) (z0G b (Q0 (X7 mi) (X7 mi).y)) c)]) (.o 29 (.m [1] (.tup []) [some (v3M (z0G a (Q0 (X7 mi) (X7 mi).x)) (z0G b (Q0 (X7 mi) (X7 mi).y)) (z0G c (Q0 (X7 mi) (X7 mi).z)))]) (.o 34 (.r (RN.c (oN mo))) (.o 35 (.m [2] (.tup []) [some (vnM (z0G d (Q0 (X7 mi) (oN mo))))]) (.o 38 .stop .nil))))))))))))))))))))))))))) (by kernel_rfl) rfl hn hR (.cons (CvL.map_cv _) (.cons (CvL.map_cv _) (.cons (CvL.map_cv _) .nil)))
noncomputable def zn4(l:List (Int×Int))(k:Nat)(s:S4):St:=⟨J1 96 [(2,.ptr 0 0),(5,.ptr 1 0),(6,.ptr 2 0),(7,.cv (.lit (.func (.func 140) #[] #[]))),(27,.cv (rdV l)),(28,.cv (j5 l.length)),(29,.cv (j5 k))],[some (vnM VN.zero),some (v3M (kv s.a) (kv s.b) (kv s.c)),some (vnM (kv s.d))]⟩
theorem zfA{R:Goal}(hn:j7 R.n [0,1,2]=true)(l:List (Int×Int))(g:z3t l=true)(hR:Ok P 60 (loopHead P 60 0) (zn4 l l.length (z1A l)) R):Ok P 60 (loopHead P 60 0) (zn4 l 0 .zero) R:=by
 have hl:=(z6T g).1
 have key:=z5H (fun k=>Ok P 60 (loopHead P 60 0) (zn4 l k (z1A (l.take k))) R) l.length ?_ ?_
 · exact key
 · intro k hk h
   obtain⟨⟨h1,h2,h3⟩,h4⟩:=z9F g k (by omega)
   have hb:=(z6T g).2 k hk
   have up: ∀{v:V3} {n:Nat},sz3 v n→n≤1000000→(kv v).raw 1000000=true:=fun hv hn=>zin (z0Z hv hn)
   have rr:(X7 l[k].1).raw 100000=true:=VN.raw_mono (z2V _) (by decide)
   obtain⟨rx,ry,rz⟩:=z0z.1 rr
   refine zld l _ _ _ _ k l[k].1 l[k].2 (decide_eq_true (by omega)) (up h1 (by omega)) rr rx (up h2 (by omega)) rr ry (up h3 (by omega)) rr rz (by omega) (up h4 (by omega)) rr (z55 (Nat.le_trans (z69 hb) (by decide))) (by omega) (z0O z1a hk) z5x z5x z5x z5x hn ?_
   rw[zqH,zoC,zq4,zpb,w64 (by omega)]
   rw[z9g hk]at h
   exact h
 · rw[List.take_length];exact hR
noncomputable def ztC(l:List (Int×Int)):V3:=⟨K.div (zcw (z1A l).d (z1A l).b (z1A l).c) (zcw (z1A l).a (z1A l).b (z1A l).c),K.div (zcw (z1A l).a (z1A l).d (z1A l).c) (zcw (z1A l).a (z1A l).b (z1A l).c),K.div (zcw (z1A l).a (z1A l).b (z1A l).d) (zcw (z1A l).a (z1A l).b (z1A l).c)⟩
noncomputable def znk(l:List (Int×Int)):VN×Int:=if z3t l then(if K.sgn (zcw (z1A l).a (z1A l).b (z1A l).c)=0 then(.zero,20)else(kv (ztC l),0))else(.zero,1)
theorem zsO{x y:K}(h:K.sgn y≠0):((z1Z (kN x) (kN y)).2 != 0)=false:=by
 unfold z1Z
 rw[z20,z20]
 dsimp only
 rw[if_neg h];rfl
theorem zgH{l:List (Int×Int)}(h:z3t l=true)(hl:l.length≤12):(sz3 (z1A l).a 61∧sz3 (z1A l).b 61∧sz3 (z1A l).c 61)∧sz3 (z1A l).d 61:=by
 obtain⟨⟨h1,h2,h3⟩,h4⟩:=z9F h l.length (Nat.le_refl _)
 rw[List.take_length]at h1 h2 h3 h4
 exact⟨⟨z0Z h1 (by omega),z0Z h2 (by omega),z0Z h3 (by omega)⟩,z0Z h4 (by omega)⟩
theorem ztr(l:List (Int×Int))(hl:l.length≤12):PCall P 60 [rdV l] (.tup [(znk l).1.c,j5 (znk l).2]):=by
 unfold znk
 cases g:z3t l
 · exact zjC l g (by omega)
 rw[if_pos rfl]
 obtain⟨⟨h1,h2,h3⟩,h4⟩:=zgH g hl
 have t: ∀{v:V3},sz3 v 61→(kv v).raw 1000=true:=fun hv=>zin (z0Z hv (by decide))
 have ed:zdC (W8 (kv (z1A l).a) (kv (z1A l).b) (kv (z1A l).c))=K.sgn (zcw (z1A l).a (z1A l).b (z1A l).c):=by rw[z58,zhX]
 have dr: ∀{a b c:V3},sz3 a 61→sz3 b 61→sz3 c 61→(W8 (kv a) (kv b) (kv c)).raw 1000000=true:=fun ha hb hc=>by
  rw[z58]
  exact z3q (Nat.le_trans (zs9 ha hb hc) (by decide))
 refine Y6 (zqw l g (by omega) (by decide) (by decide) (by decide) ?_)
 rw[ztW]
 refine zfA rfl l g ?_
 by_cases hs:K.sgn (zcw (z1A l).a (z1A l).b (z1A l).c)=0
 · rw[if_pos hs]
   exact zpe l _ _ _ _ l.length (decide_eq_false (by omega)) (beq_iff_eq.2 (ed.trans hs)) (t h1) (t h2) (t h3) (dr h1 h2 h3) rfl rfl
 · rw[if_neg hs]
   have ne: ∀x y z:V3,((z1Z (W8 (kv x) (kv y) (kv z)) (W8 (kv (z1A l).a) (kv (z1A l).b) (kv (z1A l).c))).2 != 0)=false:=fun x y z=>by
    rw[z58,z58]
    exact zsO hs
   refine zpQ l _ _ _ _ l.length (decide_eq_false (by omega)) (zuf (by rw[ed];exact hs)) (ne _ _ _) (ne _ _ _) (ne _ _ _) (t h1) (t h2) (t h3) (dr h1 h2 h3) (t h4) (t h2) (t h3) (dr h4 h2 h3) (dr h1 h2 h3) (t h1) (t h4) (t h3) (dr h1 h4 h3) (dr h1 h2 h3) (t h1) (t h2) (t h4) (dr h1 h2 h4) (dr h1 h2 h3) rfl rfl rfl rfl ?_
   rw[z58,z58,z58,z58,zdE _ _ hs,zdE _ _ hs,zdE _ _ hs]
   rfl
theorem zrv:znk [(0,7),(6,5),(12,3),(18,5)]=(oV 5 2 0,0):=by
 unfold znk
 rw[if_pos (by decide),if_neg (by decide+kernel)]
 have e:ztC [(0,7),(6,5),(12,3),(18,5)]=⟨K.ofInt 5,K.ofInt 2,K.ofInt 0⟩:=by kernel_rfl
 rw[e]
 have o: ∀v:VN,v=⟨v.x,v.y,v.z⟩:=fun _=>rfl
 rw[o (oV 5 2 0),ztP,ztQ,ztN,zks,zks,zks];rfl
theorem ztZ:PCall P 60 [.lst 4 [j5 0,j5 7,j5 6,j5 5,j5 12,j5 3,j5 18,j5 5]] (.tup [(oV 5 2 0).c,j5 0]):=by
 have h:=ztr [(0,7),(6,5),(12,3),(18,5)] (by decide)
 rw[zrv]at h
 exact h
theorem zj2(_q:(rnB (oV (5:Int) (2:Int) (0:Int)).x (oV (5:Int) (2:Int) (0:Int)).x&&(rnB (oV (5:Int) (2:Int) (0:Int)).y (oV (5:Int) (2:Int) (0:Int)).y&&(rnB (oV (5:Int) (2:Int) (0:Int)).z (oV (5:Int) (2:Int) (0:Int)).z&&true)))=true)(a:(-9223372036854775808:Int)≤(5:Int)∧(5:Int)≤(9223372036854775807:Int))(d:(-9223372036854775808:Int)≤(2:Int)∧(2:Int)≤(9223372036854775807:Int))(e:(-9223372036854775808:Int)≤(0:Int)∧(0:Int)≤(9223372036854775807:Int)):PCall P (59:FuncId) [] (CV.lit (Value.bool (rnB (oV (5:Int) (2:Int) (0:Int)).x (oV (5:Int) (2:Int) (0:Int)).x&&(rnB (oV (5:Int) (2:Int) (0:Int)).y (oV (5:Int) (2:Int) (0:Int)).y&&(rnB (oV (5:Int) (2:Int) (0:Int)).z (oV (5:Int) (2:Int) (0:Int)).z&&true))))):=
 j3 (.c ztZ (.c (show [MV.cv (CV.lit (Value.int i64 (0:Int))),MV.cv (CV.lit (Value.int i64 (7:Int))),MV.cv (CV.lit (Value.int i64 (6:Int))),MV.cv (CV.lit (Value.int i64 (5:Int))),MV.cv (CV.lit (Value.int i64 (12:Int))),MV.cv (CV.lit (Value.int i64 (3:Int))),MV.cv (CV.lit (Value.int i64 (18:Int))),MV.cv (CV.lit (Value.int i64 (5:Int)))]=[MV.cv (CV.lit (Value.int i64 (0:Int))),MV.cv (CV.lit (Value.int i64 (7:Int))),MV.cv (CV.lit (Value.int i64 (6:Int))),MV.cv (CV.lit (Value.int i64 (5:Int))),MV.cv (CV.lit (Value.int i64 (12:Int))),MV.cv (CV.lit (Value.int i64 (3:Int))),MV.cv (CV.lit (Value.int i64 (18:Int))),MV.cv (CV.lit (Value.int i64 (5:Int)))]from rfl) (.c (show 30≤30 from(by decide)) (.c (zo4 (5:Int) (2:Int) (0:Int) a d e) (.o 6 (Or.k (CV.tup [z5f (oV (5:Int) (2:Int) (0:Int)).x (oV (5:Int) (2:Int) (0:Int)).y (oV (5:Int) (2:Int) (0:Int)).z,CV.lit (Value.int i64 (0:Int))]) [[CV.lit (Value.int i64 (0:Int)),CV.lit (Value.int i64 (7:Int)),CV.lit (Value.int i64 (6:Int)),CV.lit (Value.int i64 (5:Int)),CV.lit (Value.int i64 (12:Int)),CV.lit (Value.int i64 (3:Int)),CV.lit (Value.int i64 (18:Int)),CV.lit (Value.int i64 (5:Int))]]) (.o 17 (Or.r (z5f (oV (5:Int) (2:Int) (0:Int)).x (oV (5:Int) (2:Int) (0:Int)).y (oV (5:Int) (2:Int) (0:Int)).z)) .nil)))))) (by kernel_rfl)
theorem z1I(x:RN):rnB x x=true:=zl6.2 rfl
theorem zaP(v:VN):(rnB v.x v.x&&(rnB v.y v.y&&(rnB v.z v.z&&true)))=true:=by
 rw[z1I,z1I,z1I];rfl
theorem z4F:PCall P 59 [] (.lit (.bool true)):=(zj2 (zaP _) (by decide) (by decide) (by decide)).eqB (zaP _)
def S4.rest(s:S4)(m:V3):V3:=⟨s.d.x-(s.a.x*m.x+s.b.x*m.y+s.c.x*m.z),s.d.y-(s.a.y*m.x+s.b.y*m.y+s.c.y*m.z),s.d.z-(s.a.z*m.x+s.b.z*m.y+s.c.z*m.z)⟩
def ztG(v w:V3)(p r:K):V3:=⟨v.x*p+w.x*r,v.y*p+w.y*r,v.z*p+w.z*r⟩
theorem V3.ext{v w:V3}(h1:v.x=w.x)(h2:v.y=w.y)(h3:v.z=w.z):v=w:=by
 cases v;cases w;simp only at h1 h2 h3;subst h1 h2 h3;rfl
end Go.Fw
