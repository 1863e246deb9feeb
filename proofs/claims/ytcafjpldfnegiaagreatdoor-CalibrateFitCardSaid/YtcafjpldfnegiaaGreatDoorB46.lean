/- A part of the proof that the law returns true for every input: an executor for the model's code, and what functions of the program compute. -/
import Derived.Test.YtcafjpldfnegiaaGreatDoorB11
import Derived.Test.YtcafjpldfnegiaaGreatDoorB15
import Derived.Test.YtcafjpldfnegiaaGreatDoorB43
import Derived.Test.YtcafjpldfnegiaaGreatDoorB44
import Derived.Test.YtcafjpldfnegiaaGreatDoorB45
import Derived.KernelRfl
open Go IntKind
namespace Go.Fw
set_option maxRecDepth 100000
theorem zhP(l:List (Int×Int))(m:VN)(g:z0H l=true)(g2:m.ok=true)(s4_0:l.length<2^30)(s8_0:VN.raw 1000000 m=true){R:CV→Prop}(hR:Ok P 113 (loopHead P 113 0) ⟨J1 46 [(0,.cv (.lst l.length (flat rdL l))),(3,.ptr 0 0),(6,.cv (CV.lit (Value.slice none 0 0))),(7,.cv (.lit (.int .i64 0)))],[some (vnM m)]⟩ (.of R)):Y6 P 113 [rdV l,m.c] R:=
 Y0 (keep:=[0,3,6,7]) (σ:=[0]) (.r 4 ((z2r (l) s4_0).eqB g) (.r 8 ((z2x (m) s8_0).eqB g2) (.o 14 .stop .nil))) (by kernel_rfl) rfl hR (.cons (CvL.map_cv _) .nil)
theorem zjh(l:List (Int×Int))(m:VN)(g:z0H l=false)(s4_0:l.length<2^30):PCall P 113 [rdV l,m.c] (.tup [CV.lit (Value.slice none 0 0),.lit (.int .i64 1)]):=
 j3 (.r 4 ((z2r (l) s4_0).eqB g) .nil) (by kernel_rfl)
theorem zk4(l:List (Int×Int))(m:VN)(g:z0H l=true)(g2:m.ok=false)(s4_0:l.length<2^30)(s8_0:VN.raw 1000000 m=true):PCall P 113 [rdV l,m.c] (.tup [CV.lit (Value.slice none 0 0),.lit (.int .i64 1)]):=
 j3 (.r 4 ((z2r (l) s4_0).eqB g) (.r 8 ((z2x (m) s8_0).eqB g2) .nil)) (by kernel_rfl)
theorem zqc(u v w:VN)(s10_0:VN.raw 1000 u=true)(s10_1:VN.raw 1000 v=true)(s10_2:VN.raw 1000 w=true):PCall P 145 [.lst 3 (vnL u++(vnL v++vnL w))] (RN.c (Z8 u v w)):=
 j3 (.c (bq 0 3) (.c (bq 1 3) (.c (bq 2 3) (.r 10 (zpO (u) (v) (w) s10_0 s10_1 s10_2) (.c (lq 10 10) .nil))))) (by kernel_rfl)
end Go.Fw
open Go IntKind
namespace Go.Fw
set_option maxRecDepth 100000
theorem zkq(l:List (Int×Int))(m:VN)(k mi mo:Int)(h1:decide (k<(↑l.length:Int))=true)(s12_0:VN.raw 10000 m=true)(s25_0:(-9223372036854775808:Int)≤mo∧mo≤9223372036854775807)(s27_0:RN.raw 1000000 (oN mo)=true)(s27_1:RN.raw 1000000 (z2b m mi).fst=true)(o1:(0:Int)≤k∧k<(↑l.length:Int))(o2:(flat rdL l)[k.toNat*2+0]?=some (.lit (.int .i64 mi)))(o6:(0:Int)≤k∧k<(↑l.length:Int))(o7:(flat rdL l)[k.toNat*2+1]?=some (.lit (.int .i64 mo))){R:Goal}(hn:j8 R.n [0,6]=true)(hR:Ok P 113 (loopHead P 113 0) ⟨J1 46 [(0,.cv (.lst l.length (flat rdL l))),(3,.ptr 0 0),(6,.sl (0+1) 0 1 10),(7,.cv (.lit (.int .i64 (i64.wrap (k+1)))))],[some (vnM m),some (own ((z3j (oN mo) (z2b m mi).fst)).l)]⟩ R):Ok P 113 (loopHead P 113 0) ⟨J1 46 [(0,.cv (rdV l)),(3,.ptr 0 0),(6,.cv (CV.lit (Value.slice none 0 0))),(7,.cv (j5 k))],[some (vnM m)]⟩ R:=
 z0n (keep:=[0,3,6,7]) (σ:=[0,6]) (.b 5 h1 (.c o1 (.l 11 o2 (.c (eqn 1) (.c (zd0 (m) (mi) s12_0) (.c (lq 10 10) (.c o6 (.c o7 (.c (eqn 1) (.c (zeX (mo) s25_0) (.c (zcn (oN mo) ((z2b m mi).fst) s27_0 s27_1) (.c (lq 120 1099511627776) (.c (lq 1 1099511627776) (.c (show 0<1 from by decide) (.c (eqn 10) (.o 12 (.r (.tup [RN.c (z2b m mi).fst,.lit (.int .i64 (z2b m mi).2)])) (.o 24 (.r (.lit (.int .i64 mo))) (.o 25 (.r (RN.c (oN mo))) (.o 27 (.r (RN.c (z3j (oN mo) (z2b m mi).fst))) (.o 34 .stop .nil)))))))))))))))))))) (by kernel_rfl) rfl hn hR (.cons (CvL.map_cv _) (.cons (CvL.map_cv _) .nil))
theorem zmn(l:List (Int×Int))(m:VN)(k _mi _mo:Int)(h1:decide (k<(↑l.length:Int))=false){R:Goal}(hR:R.c (.tup [CV.lit (Value.slice none 0 0),.lit (.int .i64 0)])):Ok P 113 (loopHead P 113 0) ⟨J1 46 [(0,.cv (rdV l)),(3,.ptr 0 0),(6,.cv (CV.lit (Value.slice none 0 0))),(7,.cv (j5 k))],[some (vnM m)]⟩ R:=
 okT (.b 5 h1 .nil) (by kernel_rfl) hR
theorem zjI(l:List (Int×Int))(m:VN)(k mi mo:Int)(c:Nat)(out:List CV)(h1:decide (k<(↑l.length:Int))=true)(s12_0:VN.raw 10000 m=true)(s25_0:(-9223372036854775808:Int)≤mo∧mo≤9223372036854775807)(s27_0:RN.raw 1000000 (oN mo)=true)(s27_1:RN.raw 1000000 (z2b m mi).fst=true)(o1:(0:Int)≤k∧k<(↑l.length:Int))(o2:(flat rdL l)[k.toNat*2+0]?=some (.lit (.int .i64 mi)))(o6:(0:Int)≤k∧k<(↑l.length:Int))(o7:(flat rdL l)[k.toNat*2+1]?=some (.lit (.int .i64 mo)))(o11:(c+1)*120≤1099511627776)(o12:c+1≤1099511627776)(o13:(own out).length=c*10)(o14:z6T (own ((z3j (oN mo) (z2b m mi).fst)).l))(o17:CvL (own out++(own ((z3j (oN mo) (z2b m mi).fst)).l))){R:Goal}(hn:j8 R.n [0,7]=true)(hR:Ok P 113 (loopHead P 113 0) ⟨J1 46 [(0,.cv (.lst l.length (flat rdL l))),(3,.ptr 0 0),(6,.sl (0+1) 0 (c+1) 10),(7,.cv (.lit (.int .i64 (i64.wrap (k+1)))))],[some (vnM m),some (own out++(own ((z3j (oN mo) (z2b m mi).fst)).l))]⟩ R):Ok P 113 (loopHead P 113 0) ⟨J1 46 [(0,.cv (rdV l)),(3,.ptr 0 0),(6,.sl 1 0 c 10),(7,.cv (j5 k))],[some (vnM m),some (own out)]⟩ R:=
 z0n (keep:=[0,3,6,7]) (σ:=[0,7]) (.b 5 h1 (.c o1 (.l 11 o2 (.c (eqn 1) (.c (zd0 (m) (mi) s12_0) (.c (lq 10 10) (.c o6 (.c o7 (.c (eqn 1) (.c (zeX (mo) s25_0) (.c (zcn (oN mo) ((z2b m mi).fst) s27_0 s27_1) (.c o11 (.c o12 (.c o13 (.c o14 (.c (eqn 10) (.o 12 (.r (.tup [RN.c (z2b m mi).fst,.lit (.int .i64 (z2b m mi).2)])) (.o 24 (.r (.lit (.int .i64 mo))) (.o 25 (.r (RN.c (oN mo))) (.o 27 (.r (RN.c (z3j (oN mo) (z2b m mi).fst))) (.o 34 .stop .nil))))))))))))))))))))) (by kernel_rfl) rfl hn hR (.cons (CvL.map_cv _) (.cons o17 .nil))
theorem zkM(l:List (Int×Int))(m:VN)(k _mi _mo:Int)(c:Nat)(out:List CV)(h1:decide (k<(↑l.length:Int))=false)(o1:List.take (c*10) (List.drop 0 (own out))=List.map MV.cv out){R:Goal}(hR:R.c (.tup [.lst c out,.lit (.int .i64 0)])):Ok P 113 (loopHead P 113 0) ⟨J1 46 [(0,.cv (rdV l)),(3,.ptr 0 0),(6,.sl 1 0 c 10),(7,.cv (j5 k))],[some (vnM m),some (own out)]⟩ R:=
 okT (.b 5 h1 (.c o1 (.o 9 (.r (CV.lit undef) [out]) .nil))) (by kernel_rfl) hR
end Go.Fw
open Go
namespace Go.Fw
set_option maxRecDepth 100000
theorem zfn{x y:RN}{a b:Nat}(hx:x.raw a=true)(hy:y.raw b=true):(z3j x y).raw (a+b+1)=true:=by
 have h1:=z1K hx
 have h2:=z1K hy
 have h3:=zdD (toO x) (toO y)
 exact z1O (by omega)
theorem z9k{v w:VN}{n m:Nat}(hv:v.raw n=true)(hw:w.raw m=true):(z38 v w).raw (3*(n+m+1)+2)=true:=by
 refine z1O ?_
 cases ev:toV v with
 |none=>exact Nat.zero_le _
 |some a=>
  cases ew:toV w with
  |none=>exact Nat.zero_le _
  |some b=>
   obtain⟨x,y,z⟩:=z0u ev hv
   obtain⟨x',y',z'⟩:=z0u ew hw
   have m1:=K.sz_mul a.x b.x
   have m2:=K.sz_mul a.y b.y
   have m3:=K.sz_mul a.z b.z
   have m4:=K.sz_add (a.x*b.x) (a.y*b.y)
   have m5:=K.sz_add (a.x*b.x+a.y*b.y) (a.z*b.z)
   show(a.x*b.x+a.y*b.y+a.z*b.z).sz≤_
   omega
theorem zly{m:VN}{n:Nat}(hm:m.raw n=true){x:Int×Int}(hx: -10000≤x.2∧x.2≤10000):(z2X m x).raw (3*n+11)=true:=
 RN.raw_mono (zfn (z6i (z53 hx)) (z9k hm (z4C x.1))) (by omega)
end Go.Fw
open Go
namespace Go.Fw
set_option maxRecDepth 100000
def v3L(a b c:VN):List CV:=vnL a++(vnL b++vnL c)
def v3M(a b c:VN):List MV:=own (v3L a b c)
end Go.Fw
open Go IntKind
namespace Go.Fw
set_option maxRecDepth 100000
theorem zpP(a b c v:VN)(k:RN)(s8_0:VN.raw 1000000 v=true)(s8_1:RN.raw 1000000 k=true)(s9_0:VN.raw 1000000 a=true)(s9_1:VN.raw 1000000 (J2 v k)=true)(o4:BlksCv (List.take 1 [some (v3M (z05 a (J2 v k)) b c),some (vnM v),some (own (RN.l k)),none,none])):z2c P 140 [some (v3M a b c)] [.ptr 0 0,.agg (vnM v),.agg (own k.l)] (.tup []) (List.take 1 [some (v3M (z05 a (J2 v k)) b c),some (vnM v),some (own (RN.l k)),none,none]):=
 zaM (ors:=[(8,.r (z39 (J2 v k).x (J2 v k).y (J2 v k).z)),(9,.r (z39 (z05 a (J2 v k)).x (z05 a (J2 v k)).y (z05 a (J2 v k)).z)),(12,.a)]) (by kernel_rfl) (.cons (z5q (v) (k) s8_0 s8_1) (.cons (zaL (a) (J2 v k) s9_0 s9_1) (.cons (lq 30 90) (.cons (lq 1 5) (.cons o4 .nil)))))
theorem zqe(a b c v:VN)(k:RN)(s8_0:VN.raw 1000000 v=true)(s8_1:RN.raw 1000000 k=true)(s9_0:VN.raw 1000000 b=true)(s9_1:VN.raw 1000000 (J2 v k)=true)(o4:BlksCv (List.take 1 [some (v3M a (z05 b (J2 v k)) c),some (vnM v),some (own (RN.l k)),none,none])):z2c P 140 [some (v3M a b c)] [.ptr 0 30,.agg (vnM v),.agg (own k.l)] (.tup []) (List.take 1 [some (v3M a (z05 b (J2 v k)) c),some (vnM v),some (own (RN.l k)),none,none]):=
 zaM (ors:=[(8,.r (z39 (J2 v k).x (J2 v k).y (J2 v k).z)),(9,.r (z39 (z05 b (J2 v k)).x (z05 b (J2 v k)).y (z05 b (J2 v k)).z)),(12,.a)]) (by kernel_rfl) (.cons (z5q (v) (k) s8_0 s8_1) (.cons (zaL (b) (J2 v k) s9_0 s9_1) (.cons (lq 60 90) (.cons (lq 1 5) (.cons o4 .nil)))))
theorem zqp(a b c v:VN)(k:RN)(s8_0:VN.raw 1000000 v=true)(s8_1:RN.raw 1000000 k=true)(s9_0:VN.raw 1000000 c=true)(s9_1:VN.raw 1000000 (J2 v k)=true)(o4:BlksCv (List.take 1 [some (v3M a b (z05 c (J2 v k))),some (vnM v),some (own (RN.l k)),none,none])):z2c P 140 [some (v3M a b c)] [.ptr 0 60,.agg (vnM v),.agg (own k.l)] (.tup []) (List.take 1 [some (v3M a b (z05 c (J2 v k))),some (vnM v),some (own (RN.l k)),none,none]):=
 zaM (ors:=[(8,.r (z39 (J2 v k).x (J2 v k).y (J2 v k).z)),(9,.r (z39 (z05 c (J2 v k)).x (z05 c (J2 v k)).y (z05 c (J2 v k)).z)),(12,.a)]) (by kernel_rfl) (.cons (z5q (v) (k) s8_0 s8_1) (.cons (zaL (c) (J2 v k) s9_0 s9_1) (.cons (lq 90 90) (.cons (lq 1 5) (.cons o4 .nil)))))
theorem zqv(a v:VN)(k:RN)(s8_0:VN.raw 1000000 v=true)(s8_1:RN.raw 1000000 k=true)(s9_0:VN.raw 1000000 a=true)(s9_1:VN.raw 1000000 (J2 v k)=true)(o4:BlksCv (List.take 1 [some (vnM (z05 a (J2 v k))),some (vnM v),some (own (RN.l k)),none,none])):z2c P 140 [some (vnM a)] [.ptr 0 0,.agg (vnM v),.cv k.c] (.tup []) (List.take 1 [some (vnM (z05 a (J2 v k))),some (vnM v),some (own (RN.l k)),none,none]):=
 zaM (ors:=[(8,.r (z39 (J2 v k).x (J2 v k).y (J2 v k).z)),(9,.r (z39 (z05 a (J2 v k)).x (z05 a (J2 v k)).y (z05 a (J2 v k)).z)),(12,.a)]) (by kernel_rfl) (.cons (z5q (v) (k) s8_0 s8_1) (.cons (zaL (a) (J2 v k) s9_0 s9_1) (.cons (lq 30 30) (.cons (lq 1 5) (.cons o4 .nil)))))
end Go.Fw
open Go
namespace Go.Fw
set_option maxRecDepth 100000
theorem z5r{x:List CV}{l:List Blk}:BlksCv (List.take 1 (some (own x)::l)):=by
 intro b hb
 simp only[List.take_succ_cons,List.take_zero,List.mem_singleton]at hb
 subst hb
 intro cells hc
 cases hc
 exact CvL.map_cv _
section
variable{n:Nat}{v:VN}{k:RN}
theorem zq2(a b c v:VN)(k:RN)(ha:a.raw 1000000=true)(hv:v.raw 100000=true)(hk:k.raw 100000=true):z2c P 140 [some (v3M a b c)] [.ptr 0 0,.agg (vnM v),.agg (own k.l)] (.tup []) [some (v3M (z05 a (J2 v k)) b c)]:=
 zpP a b c v k (VN.raw_mono hv (by decide)) (RN.raw_mono hk (by decide)) ha (VN.raw_mono (z28 hv hk) (by decide)) z5r
theorem zpw(a b c v:VN)(k:RN)(ha:b.raw 1000000=true)(hv:v.raw 100000=true)(hk:k.raw 100000=true):z2c P 140 [some (v3M a b c)] [.ptr 0 30,.agg (vnM v),.agg (own k.l)] (.tup []) [some (v3M a (z05 b (J2 v k)) c)]:=
 zqe a b c v k (VN.raw_mono hv (by decide)) (RN.raw_mono hk (by decide)) ha (VN.raw_mono (z28 hv hk) (by decide)) z5r
theorem zpm(a b c v:VN)(k:RN)(ha:c.raw 1000000=true)(hv:v.raw 100000=true)(hk:k.raw 100000=true):z2c P 140 [some (v3M a b c)] [.ptr 0 60,.agg (vnM v),.agg (own k.l)] (.tup []) [some (v3M a b (z05 c (J2 v k)))]:=
 zqp a b c v k (VN.raw_mono hv (by decide)) (RN.raw_mono hk (by decide)) ha (VN.raw_mono (z28 hv hk) (by decide)) z5r
theorem zoe(a v:VN)(k:RN)(ha:a.raw 1000000=true)(hv:v.raw 100000=true)(hk:k.raw 100000=true):z2c P 140 [some (vnM a)] [.ptr 0 0,.agg (vnM v),.cv k.c] (.tup []) [some (vnM (z05 a (J2 v k)))]:=
 zqv a v k (VN.raw_mono hv (by decide)) (RN.raw_mono hk (by decide)) ha (VN.raw_mono (z28 hv hk) (by decide)) z5r
end
end Go.Fw
open Go
namespace Go.Fw
set_option maxRecDepth 100000
theorem zeA(u v w:VN)(hu:u.raw 1000=true)(hv:v.raw 1000=true)(hw:w.raw 1000=true):PCall P 145 [.lst 3 (v3L u v w)] (Z8 u v w).c:=zqc u v w hu hv hw
end Go.Fw
open Go IntKind
namespace Go.Fw
set_option maxRecDepth 100000
theorem znG(l:List (Int×Int))(a b c d:VN)(k:Int)(h:decide (k<(↑l.length:Int))=false)(hs:(z50 (Z8 a b c)==0)=true)(s4_0:VN.raw 1000 a=true)(s4_1:VN.raw 1000 b=true)(s4_2:VN.raw 1000 c=true)(s8_0:RN.raw 1000000 (Z8 a b c)=true)(o3:(v3M a b c)=(v3M a b c)){R:Goal}(hR:R.c (.tup [z0I,.lit (.int .i64 20)])):Ok P 60 (loopHead P 60 0) ⟨J1 96 [(2,.ptr 0 0),(5,.ptr 1 0),(6,.ptr 2 0),(7,.cv (CV.lit (Value.func (Fn.func 140) #[] #[]))),(27,.cv (rdV l)),(28,.cv (j5 (↑l.length:Int))),(29,.cv (j5 k))],[some (vnM VN.zero),some (v3M a b c),some (vnM d)]⟩ R:=
 okT (.b 2 h (.c (lq 90 90) (.c (zeA (a) (b) (c) s4_0 s4_1 s4_2) (.c o3 (.c (lq 10 10) (.c (z6y (Z8 a b c) s8_0) (.o 4 (.k (RN.c (Z8 a b c)) [(v3L a b c)]) (.o 8 (.r (.lit (.int .i64 (z50 (Z8 a b c))))) (.b 10 hs (.c (lq 30 30) .nil)))))))))) (by kernel_rfl) hR
theorem zqk(l:List (Int×Int))(a b c d:VN)(k:Int)(h:decide (k<(↑l.length:Int))=false)(hs:(z50 (Z8 a b c)==0)=false)(e1:((z17 (Z8 d b c) (Z8 a b c)).snd != 0)=false)(e2:((z17 (Z8 a d c) (Z8 a b c)).snd != 0)=false)(e3:((z17 (Z8 a b d) (Z8 a b c)).snd != 0)=false)(s4_0:VN.raw 1000 a=true)(s4_1:VN.raw 1000 b=true)(s4_2:VN.raw 1000 c=true)(s8_0:RN.raw 1000000 (Z8 a b c)=true)(s26_0:VN.raw 1000 d=true)(s26_1:VN.raw 1000 b=true)(s26_2:VN.raw 1000 c=true)(s28_0:RN.raw 1000000 (Z8 d b c)=true)(s28_1:RN.raw 1000000 (Z8 a b c)=true)(s57_0:VN.raw 1000 a=true)(s57_1:VN.raw 1000 d=true)(s57_2:VN.raw 1000 c=true)(s59_0:RN.raw 1000000 (Z8 a d c)=true)(s59_1:RN.raw 1000000 (Z8 a b c)=true)(s88_0:VN.raw 1000 a=true)(s88_1:VN.raw 1000 b=true)(s88_2:VN.raw 1000 d=true)(s90_0:RN.raw 1000000 (Z8 a b d)=true)(s90_1:RN.raw 1000000 (Z8 a b c)=true)(o3:(v3M a b c)=(v3M a b c))(o12:(v3M d b c)=(v3M d b c))(o23:(v3M a d c)=(v3M a d c))(o34:(v3M a b d)=(v3M a b d)){R:Goal}(hR:R.c (.tup [z39 (z17 (Z8 d b c) (Z8 a b c)).fst (z17 (Z8 a d c) (Z8 a b c)).fst (z17 (Z8 a b d) (Z8 a b c)).fst,.lit (.int .i64 0)])):Ok P 60 (loopHead P 60 0) ⟨J1 96 [(2,.ptr 0 0),(5,.ptr 1 0),(6,.ptr 2 0),(7,.cv (CV.lit (Value.func (Fn.func 140) #[] #[]))),(27,.cv (rdV l)),(28,.cv (j5 (↑l.length:Int))),(29,.cv (j5 k))],[some (vnM VN.zero),some (v3M a b c),some (vnM d)]⟩ R:=
 okT (.c h (.c (lq 90 90) (.c (zeA (a) (b) (c) s4_0 s4_1 s4_2) (.c o3 (.c (lq 10 10) (.c (z6y (Z8 a b c) s8_0) (.c hs (.c (lq 90 90) (.c (bq 0 3) (.c (lq 30 90) (.c (lq 90 90) (.c (zeA (d) (b) (c) s26_0 s26_1 s26_2) (.c o12 (.c (ze0 (Z8 d b c) (Z8 a b c) s28_0 s28_1) (.c (lq 10 10) (.c e1 (.c (bq 0 3) (.c (lq 10 30) (.c (lq 90 90) (.c (bq 1 3) (.c (lq 60 90) (.c (lq 90 90) (.c (zeA (a) (d) (c) s57_0 s57_1 s57_2) (.c o23 (.c (ze0 (Z8 a d c) (Z8 a b c) s59_0 s59_1) (.c (lq 10 10) (.c e2 (.c (bq 1 3) (.c (lq 20 30) (.c (lq 90 90) (.c (bq 2 3) (.c (lq 90 90) (.c (lq 90 90) (.c (zeA (a) (b) (d) s88_0 s88_1 s88_2) (.c o34 (.c (ze0 (Z8 a b d) (Z8 a b c) s90_0 s90_1) (.c (lq 10 10) (.c e3 (.c (bq 2 3) (.c (lq 30 30) (.c (bq 0 3) (.c (bq 1 3) (.c (bq 2 3) (.c (lq 30 30) (.o 2 (.b false) (.o 4 (.k (RN.c (Z8 a b c)) [(v3L a b c)]) (.o 8 (.r (.lit (.int .i64 (z50 (Z8 a b c))))) (.o 10 (.b false) (.o 26 (.k (RN.c (Z8 d b c)) [(v3L d b c)]) (.o 28 (.r (.tup [RN.c (z17 (Z8 d b c) (Z8 a b c)).fst,.lit (.int .i64 (z17 (Z8 d b c) (Z8 a b c)).2)])) (.o 37 (.b false) (.o 57 (.k (RN.c (Z8 a d c)) [(v3L a d c)]) (.o 59 (.r (.tup [RN.c (z17 (Z8 a d c) (Z8 a b c)).fst,.lit (.int .i64 (z17 (Z8 a d c) (Z8 a b c)).2)])) (.o 68 (.b false) (.o 88 (.k (RN.c (Z8 a b d)) [(v3L a b d)]) (.o 90 (.r (.tup [RN.c (z17 (Z8 a b d) (Z8 a b c)).fst,.lit (.int .i64 (z17 (Z8 a b d) (Z8 a b c)).2)])) (.o 99 (.b false) .nil))))))))))))))))))))))))))))))))))))))))))))))))))))))))) (by kernel_rfl) hR
end Go.Fw
open Go
namespace Go.Fw
set_option maxRecDepth 100000
theorem zrM:oV 0 0 0=kV 0 0 0:=by
 have e: ∀v:VN,v=⟨v.x,v.y,v.z⟩:=fun _=>rfl
 rw[e (oV 0 0 0),zrK,zrH,zrL,zhD];rfl
def zrU(x:K):K:=if K.sgn x<0 then-x else x
theorem zrv(x:K): - -x=x:=(show ∀ρ:Nat→K,- -ρ 0=ρ 0 from fun ρ=>CR.ring ρ rfl) (CR.vr [x])
theorem zno(x:K):z0P (kN x)=kN (zrU x):=by
 unfold z0P zrU
 rw[zaT]
 split
 · rw[zeB]
 · rw[zeB,zeB,zrv]
end Go.Fw
open Go
namespace Go.Fw
set_option maxRecDepth 100000
theorem z9N{x k:K}(hk:K.sgn k=1):K.sgn (x*k)=K.sgn x:=by rw[K.sgn_mul,hk,Int.mul_one]
theorem z9j{x k:K}(h:x≠0)(hk:K.sgn k=1):x*k≠0:=fun e=>h (K.sgn_zero.1 (by rw[←z9N hk,e];exact K.sgn_zero.2 rfl))
end Go.Fw
open Go
namespace Go.Fw
set_option maxRecDepth 100000
theorem zeF(a b c a' b' c':K):z1A (kV a b c) (kV a' b' c')=kV (b*c'-c*b') (c*a'-a*c') (a*b'-b*a'):=by
 unfold z1A kV
 rw[z9p,z9p,z1Q,z1Q,z1Q];rfl
theorem zm0(a1 a2 a3 b1 b2 b3 c1 c2 c3:K):Z8 (kV a1 a2 a3) (kV b1 b2 b3) (kV c1 c2 c3)=kN (a1*(b2*c3-b3*c2)+a2*(b3*c1-b1*c3)+a3*(b1*c2-b2*c1)):=by
 unfold Z8
 rw[zeF,zcW]
theorem zow(x:K):x-x=0:=(show ∀ρ:Nat→K,ρ 0-ρ 0=0 from fun ρ=>CR.ring ρ rfl) (CR.vr [x])
end Go.Fw
open Go
namespace Go.Fw
set_option maxRecDepth 100000
noncomputable def kv(v:V3):VN:=kV v.x v.y v.z
noncomputable def z6C(i:Int):V3:=⟨K.ofInt 1,z5v i,z9m i⟩
theorem z8D(i:Int):Z0 i=kv (z6C i):=by unfold Z0 kv z6C kV;rw[zhD]
theorem zae(v w:V3):z05 (kv v) (kv w)=kv (v.add w):=ziY _ _ _ _ _ _
theorem z5t(v:V3)(k:K):J2 (kv v) (kN k)=kv (v.scale k):=zcZ _ _ _ _
def z8u(a b c:V3):K:=a.x*(b.y*c.z-b.z*c.y)+a.y*(b.z*c.x-b.x*c.z)+a.z*(b.x*c.y-b.y*c.x)
theorem z1E(a b c:V3):Z8 (kv a) (kv b) (kv c)=kN (z8u a b c):=zm0 _ _ _ _ _ _ _ _ _
def sz3(v:V3)(n:Nat):Prop:=v.x.sz≤n∧v.y.sz≤n∧v.z.sz≤n
theorem z0c{v:V3}{n m:Nat}(h:sz3 v n)(hm:n≤m):sz3 v m:=⟨Nat.le_trans h.1 hm,Nat.le_trans h.2.1 hm,Nat.le_trans h.2.2 hm⟩
theorem z6p{v:V3}{n:Nat}(h:sz3 v n):(kv v).raw n=true:=z0s.2 ⟨z40 h.1,z40 h.2.1,z40 h.2.2⟩
theorem z7Q{v w:V3}{a b:Nat}(hv:sz3 v a)(hw:sz3 w b):sz3 (v.add w) (a+b+1):=by
 obtain⟨x,y,z⟩:=hv
 obtain⟨x',y',z'⟩:=hw
 have h1:=K.sz_add v.x w.x
 have h2:=K.sz_add v.y w.y
 have h3:=K.sz_add v.z w.z
 exact⟨Nat.le_trans h1 (by omega),Nat.le_trans h2 (by omega),Nat.le_trans h3 (by omega)⟩
theorem z3Z{v:V3}{k:K}{a b:Nat}(hv:sz3 v a)(hk:k.sz≤b):sz3 (v.scale k) (a+b+1):=by
 obtain⟨x,y,z⟩:=hv
 have h1:=K.sz_mul v.x k
 have h2:=K.sz_mul v.y k
 have h3:=K.sz_mul v.z k
 exact⟨Nat.le_trans h1 (by omega),Nat.le_trans h2 (by omega),Nat.le_trans h3 (by omega)⟩
theorem zpn:(K.ofInt 1).sz≤1:=of_decide_eq_true (by kernel_rfl)
theorem z6s(i:Int):sz3 (z6C i) 1:=⟨zpn,zhI i,zhu i⟩
theorem z6K{a b c:V3}{n:Nat}(ha:sz3 a n)(hb:sz3 b n)(hc:sz3 c n):(z8u a b c).sz≤15*n+14:=by
 obtain⟨a1,a2,a3⟩:=ha
 obtain⟨b1,b2,b3⟩:=hb
 obtain⟨c1,c2,c3⟩:=hc
 have min: ∀{p q r s:K},p.sz≤n→q.sz≤n→r.sz≤n→s.sz≤n→(p*q-r*s).sz≤4*n+3:=fun {p q r s} h1 h2 h3 h4=>by
  have m1:=K.sz_mul p q
  have m2:=K.sz_mul r s
  have m3:=K.sz_sub (p*q) (r*s)
  omega
 have t: ∀{p q:K},p.sz≤n→q.sz≤4*n+3→(p*q).sz≤5*n+4:=fun {p q} h1 h2=>by
  have m1:=K.sz_mul p q
  omega
 have t1:=t a1 (min b2 c3 b3 c2)
 have t2:=t a2 (min b3 c1 b1 c3)
 have t3:=t a3 (min b1 c2 b2 c1)
 unfold z8u
 have s1:=K.sz_add (a.x*(b.y*c.z-b.z*c.y)) (a.y*(b.z*c.x-b.x*c.z))
 have s2:=K.sz_add (a.x*(b.y*c.z-b.z*c.y)+a.y*(b.z*c.x-b.x*c.z)) (a.z*(b.x*c.y-b.y*c.x))
 omega
structure S4 where
 a:V3
 b:V3
 c:V3
 d:V3
noncomputable def S4.step(s:S4)(x:Int×Int):S4:=⟨s.a.add ((z6C x.1).scale (z6C x.1).x),s.b.add ((z6C x.1).scale (z6C x.1).y),s.c.add ((z6C x.1).scale (z6C x.1).z),s.d.add ((z6C x.1).scale (K.ofInt x.2))⟩
def S4.zero:S4:=⟨⟨0,0,0⟩,⟨0,0,0⟩,⟨0,0,0⟩,⟨0,0,0⟩⟩
noncomputable def z0w(l:List (Int×Int)):S4:=l.foldl S4.step .zero
theorem z65{l:List (Int×Int)}{k:Nat}(hk:k<l.length):z0w (l.take (k+1))=(z0w (l.take k)).step l[k]:=by
 unfold z0w
 rw[List.take_add_one,List.getElem?_eq_getElem hk,List.foldl_append]
 rfl
theorem z85{l:List (Int×Int)}(h:z0H l=true): ∀k,k≤l.length→(sz3 (z0w (l.take k)).a (4*k+1)∧sz3 (z0w (l.take k)).b (4*k+1)∧sz3 (z0w (l.take k)).c (4*k+1))∧sz3 (z0w (l.take k)).d (5*k+1)
 |0,_=>by
  have z:(0:K).sz≤1:=of_decide_eq_true (by kernel_rfl)
  exact⟨⟨⟨z,z,z⟩,⟨z,z,z⟩,⟨z,z,z⟩⟩,⟨z,z,z⟩⟩
 |k+1,hk=>by
  obtain⟨⟨h1,h2,h3⟩,h4⟩:=z85 h k (by omega)
  have hb:=(z3e h).2 k (by omega)
  obtain⟨r1,r2,r3⟩:=z6s l[k].1
  rw[z65 (by omega)]
  exact⟨⟨z0c (z7Q h1 (z3Z (z6s _) r1)) (by omega),z0c (z7Q h2 (z3Z (z6s _) r2)) (by omega),z0c (z7Q h3 (z3Z (z6s _) r3)) (by omega)⟩,
   z0c (z7Q h4 (z3Z (z6s _) (z53 hb))) (by omega)⟩
theorem zhs(v:V3)(i:Int):z05 (kv v) (J2 (Z0 i) (Z0 i).x)=kv (v.add ((z6C i).scale (z6C i).x)):=by
 rw[z8D,←zae,←z5t];rfl
theorem zhv(v:V3)(i:Int):z05 (kv v) (J2 (Z0 i) (Z0 i).y)=kv (v.add ((z6C i).scale (z6C i).y)):=by
 rw[z8D,←zae,←z5t];rfl
theorem zhB(v:V3)(i:Int):z05 (kv v) (J2 (Z0 i) (Z0 i).z)=kv (v.add ((z6C i).scale (z6C i).z)):=by
 rw[z8D,←zae,←z5t];rfl
theorem zhh(v:V3)(i o:Int):z05 (kv v) (J2 (Z0 i) (oN o))=kv (v.add ((z6C i).scale (K.ofInt o))):=by
 rw[z8D,←zae,←z5t,zhD]
theorem z5i{x y:List CV}:BlksCv [some (own x),some (own y)]:=by
 intro b hb
 simp only[List.mem_cons,List.not_mem_nil,or_false]at hb
 rcases hb with rfl|rfl<;>(intro cells hc;cases hc;exact CvL.map_cv _)
end Go.Fw
open Go IntKind
namespace Go.Fw
set_option maxRecDepth 100000
theorem znR(l:List (Int×Int))(g:z0H l=true)(s3_0:l.length<2^30)(s6_0 s6_1 s6_2:(-9223372036854775808:Int)≤0∧(0:Int)≤9223372036854775807){R:CV→Prop}(hR:Ok P 60 (loopHead P 60 0) ⟨J1 96 [(2,.ptr 0 0),(5,.ptr (0+1) 0),(6,.ptr (0+1+1) 0),(7,.cv (CV.lit (Value.func (Fn.func 140) {toList:=[]} {toList:=[]}))),(27,.cv (.lst l.length (flat rdL l))),(28,.cv (.lit (.int .i64 (↑l.length:Int)))),(29,.cv (.lit (.int .i64 0)))],[some (vnM (VN.zero)),some (v3M (oV (0:Int) (0:Int) (0:Int)) (oV (0:Int) (0:Int) (0:Int)) (oV (0:Int) (0:Int) (0:Int))),some (vnM (oV (0:Int) (0:Int) (0:Int)))]⟩ (.of R)):Y6 P 60 [rdV l] R:=
 Y0 (keep:=[2,5,6,7,27,28,29]) (σ:=[0,4,5]) (.r 3 ((z3y (l) s3_0).eqB g) (.r 6 (zr3 ((0:Int)) ((0:Int)) ((0:Int)) s6_0 s6_1 s6_2) (.c (lq 30 30) (.c (lq 90 90) (.c (lq 30 30) (.o 22 .stop .nil)))))) (by kernel_rfl) rfl hR (.cons (CvL.map_cv _) (.cons (CvL.map_cv _) (.cons (CvL.map_cv _) .nil)))
theorem zdz(l:List (Int×Int))(g:z0H l=false)(s3_0:l.length<2^30):PCall P 60 [rdV l] (.tup [z0I,.lit (.int .i64 1)]):=
 j3 (.r 3 ((z3y (l) s3_0).eqB g) (.c (lq 30 30) .nil)) (by kernel_rfl)
theorem zi7(l:List (Int×Int))(a b c d:VN)(k mi mo:Int)(h:decide (k<(↑l.length:Int))=true)(s17_0:VN.raw 1000000 a=true)(s17_1:VN.raw 100000 (Z0 mi)=true)(s17_2:RN.raw 100000 (Z0 mi).x=true)(s23_0:VN.raw 1000000 b=true)(s23_1:VN.raw 100000 (Z0 mi)=true)(s23_2:RN.raw 100000 (Z0 mi).y=true)(s29_0:VN.raw 1000000 c=true)(s29_1:VN.raw 100000 (Z0 mi)=true)(s29_2:RN.raw 100000 (Z0 mi).z=true)(s34_0:(-9223372036854775808:Int)≤mo∧mo≤9223372036854775807)(s35_0:VN.raw 1000000 d=true)(s35_1:VN.raw 100000 (Z0 mi)=true)(s35_2:RN.raw 100000 (oN mo)=true)(o1:(0:Int)≤k∧k<(↑l.length:Int))(o2:List.take 2 (List.drop (k.toNat*2) (flat rdL l))=[.lit (.int .i64 mi),.lit (.int .i64 mo)])(o9:BlksCv [some (v3M a b c),some (v3M (z05 a (J2 (Z0 mi) (Z0 mi).x)) b c)])(o12:BlksCv [some (v3M (z05 a (J2 (Z0 mi) (Z0 mi).x)) b c),some (v3M (z05 a (J2 (Z0 mi) (Z0 mi).x)) (z05 b (J2 (Z0 mi) (Z0 mi).y)) c)])(o15:BlksCv [some (v3M (z05 a (J2 (Z0 mi) (Z0 mi).x)) (z05 b (J2 (Z0 mi) (Z0 mi).y)) c),some (v3M (z05 a (J2 (Z0 mi) (Z0 mi).x)) (z05 b (J2 (Z0 mi) (Z0 mi).y)) (z05 c (J2 (Z0 mi) (Z0 mi).z)))])(o18:BlksCv [some (vnM d),some (vnM (z05 d (J2 (Z0 mi) (oN mo))))]){R:Goal}(hn:j8 R.n [0,1,2]=true)(hR:Ok P 60 (loopHead P 60 0) ⟨J1 96 [(2,.ptr 0 0),(5,.ptr (0+1) 0),(6,.ptr (0+1+1) 0),(7,.cv (CV.lit (Value.func (Fn.func 140) {toList:=[]} {toList:=[]}))),(27,.cv (.lst l.length (flat rdL l))),(28,.cv (.lit (.int .i64 (↑l.length:Int)))),(29,.cv (.lit (.int .i64 (i64.wrap (k+1)))))],[some (vnM (VN.zero)),some (v3M (z05 a (J2 (Z0 mi) (Z0 mi).x)) (z05 b (J2 (Z0 mi) (Z0 mi).y)) (z05 c (J2 (Z0 mi) (Z0 mi).z))),some (vnM (z05 d (J2 (Z0 mi) (oN mo))))]⟩ R):Ok P 60 (loopHead P 60 0) ⟨J1 96 [(2,.ptr 0 0),(5,.ptr 1 0),(6,.ptr 2 0),(7,.cv (CV.lit (Value.func (Fn.func 140) #[] #[]))),(27,.cv (rdV l)),(28,.cv (j5 (↑l.length:Int))),(29,.cv (j5 k))],[some (vnM VN.zero),some (v3M a b c),some (vnM d)]⟩ R:=
 z0n (keep:=[2,5,6,7,27,28,29]) (σ:=[0,1,2]) (.b 2 h (.c o1 (.c o2 (.c (eqn 2) (.c (lq 2 2) (.c (zeO (mi)) (.c (lq 30 30) (.c (bq 0 3) (.c (zq2 (a) (b) (c) (Z0 mi) ((Z0 mi).x) s17_0 s17_1 s17_2) (.c o9 (.c (bq 1 3) (.c (zpw (z05 a (J2 (Z0 mi) (Z0 mi).x)) (b) (c) (Z0 mi) ((Z0 mi).y) s23_0 s23_1 s23_2) (.c o12 (.c (bq 2 3) (.c (zpm (z05 a (J2 (Z0 mi) (Z0 mi).x)) (z05 b (J2 (Z0 mi) (Z0 mi).y)) (c) (Z0 mi) ((Z0 mi).z) s29_0 s29_1 s29_2) (.c o15 (.c (zgn (mo) s34_0) (.c (zoe (d) (Z0 mi) (oN mo) s35_0 s35_1 s35_2) (.c o18 (.o 4 (.r (.agg [.lit (.int .i64 mi),.lit (.int .i64 mo)])) (.o 9 (.r (z39 (Z0 mi).x (Z0 mi).y (Z0 mi).z)) (.o 17 (.m [1] (.tup []) [some (v3M (z05 a (J2 (Z0 mi) (Z0 mi).x)) b c)]) (.o 23 (.m [1] (.tup []) [some (v3M (z05 a (J2 (Z0 mi) (Z0 mi).x)) (z05 b (J2 (Z0 mi) (Z0 mi).y)) c)]) (.o 29 (.m [1] (.tup []) [some (v3M (z05 a (J2 (Z0 mi) (Z0 mi).x)) (z05 b (J2 (Z0 mi) (Z0 mi).y)) (z05 c (J2 (Z0 mi) (Z0 mi).z)))]) (.o 34 (.r (RN.c (oN mo))) (.o 35 (.m [2] (.tup []) [some (vnM (z05 d (J2 (Z0 mi) (oN mo))))]) (.o 38 .stop .nil))))))))))))))))))))))))))) (by kernel_rfl) rfl hn hR (.cons (CvL.map_cv _) (.cons (CvL.map_cv _) (.cons (CvL.map_cv _) .nil)))
end Go.Fw
open Go
namespace Go.Fw
set_option maxRecDepth 100000
noncomputable def zll(l:List (Int×Int))(k:Nat)(s:S4):St:=⟨J1 96 [(2,.ptr 0 0),(5,.ptr 1 0),(6,.ptr 2 0),(7,.cv (.lit (.func (.func 140) #[] #[]))),(27,.cv (rdV l)),(28,.cv (j5 l.length)),(29,.cv (j5 k))],[some (vnM VN.zero),some (v3M (kv s.a) (kv s.b) (kv s.c)),some (vnM (kv s.d))]⟩
theorem zg7{R:Goal}(hn:j8 R.n [0,1,2]=true)(l:List (Int×Int))(g:z0H l=true)(hR:Ok P 60 (loopHead P 60 0) (zll l l.length (z0w l)) R):Ok P 60 (loopHead P 60 0) (zll l 0 .zero) R:=by
 have hl:=(z3e g).1
 have key:=z4v (fun k=>Ok P 60 (loopHead P 60 0) (zll l k (z0w (l.take k))) R) l.length ?_ ?_
 · exact key
 · intro k hk h
   obtain⟨⟨h1,h2,h3⟩,h4⟩:=z85 g k (by omega)
   have hb:=(z3e g).2 k hk
   have up: ∀{v:V3} {n:Nat},sz3 v n→n≤1000000→(kv v).raw 1000000=true:=fun hv hn=>z6p (z0c hv hn)
   have rr:(Z0 l[k].1).raw 100000=true:=VN.raw_mono (z4C _) (by decide)
   obtain⟨rx,ry,rz⟩:=z0s.1 rr
   refine zi7 l _ _ _ _ k l[k].1 l[k].2 (decide_eq_true (by omega)) (up h1 (by omega)) rr rx (up h2 (by omega)) rr ry (up h3 (by omega)) rr rz (by omega) (up h4 (by omega)) rr (z6i (Nat.le_trans (z53 hb) (by decide))) (by omega) (U3 z03 hk) z5i z5i z5i z5i hn ?_
   rw[zhs,zhv,zhB,zhh,w64 (by omega)]
   rw[z65 hk]at h
   exact h
 · rw[List.take_length];exact hR
noncomputable def z7x(l:List (Int×Int)):V3:=⟨K.div (z8u (z0w l).d (z0w l).b (z0w l).c) (z8u (z0w l).a (z0w l).b (z0w l).c),K.div (z8u (z0w l).a (z0w l).d (z0w l).c) (z8u (z0w l).a (z0w l).b (z0w l).c),K.div (z8u (z0w l).a (z0w l).b (z0w l).d) (z8u (z0w l).a (z0w l).b (z0w l).c)⟩
noncomputable def z0N(l:List (Int×Int)):VN×Int:=if z0H l then(if K.sgn (z8u (z0w l).a (z0w l).b (z0w l).c)=0 then(.zero,20)else(kv (z7x l),0))else(.zero,1)
theorem zr5{x y:K}(h:K.sgn y≠0):((z17 (kN x) (kN y)).2 != 0)=false:=by
 unfold z17
 rw[z1Y,z1Y]
 dsimp only
 rw[if_neg h];rfl
theorem z7e{l:List (Int×Int)}(h:z0H l=true)(hl:l.length≤12):(sz3 (z0w l).a 61∧sz3 (z0w l).b 61∧sz3 (z0w l).c 61)∧sz3 (z0w l).d 61:=by
 obtain⟨⟨h1,h2,h3⟩,h4⟩:=z85 h l.length (Nat.le_refl _)
 rw[List.take_length]at h1 h2 h3 h4
 exact⟨⟨z0c h1 (by omega),z0c h2 (by omega),z0c h3 (by omega)⟩,z0c h4 (by omega)⟩
theorem zna{l:List (Int×Int)}(h:z0H l=true)(hl:l.length≤12):sz3 (z7x l) 8000:=by
 obtain⟨⟨h1,h2,h3⟩,h4⟩:=z7e h hl
 have d:=z6K h1 h2 h3
 have e: ∀{x:K},x.sz≤15*61+14→(K.div x (z8u (z0w l).a (z0w l).b (z0w l).c)).sz≤8000:=fun {x} hx=>Nat.le_trans (K.sz_div _ _) (by omega)
 exact⟨e (z6K h4 h2 h3),e (z6K h1 h4 h3),e (z6K h1 h2 h4)⟩
theorem zpM(l:List (Int×Int))(hl:l.length≤12):PCall P 60 [rdV l] (.tup [(z0N l).1.c,j5 (z0N l).2]):=by
 unfold z0N
 cases g:z0H l
 · exact zdz l g (by omega)
 rw[if_pos rfl]
 obtain⟨⟨h1,h2,h3⟩,h4⟩:=z7e g hl
 have t: ∀{v:V3},sz3 v 61→(kv v).raw 1000=true:=fun hv=>z6p (z0c hv (by decide))
 have ed:z50 (Z8 (kv (z0w l).a) (kv (z0w l).b) (kv (z0w l).c))=K.sgn (z8u (z0w l).a (z0w l).b (z0w l).c):=by rw[z1E,zaT]
 have dr: ∀{a b c:V3},sz3 a 61→sz3 b 61→sz3 c 61→(Z8 (kv a) (kv b) (kv c)).raw 1000000=true:=fun ha hb hc=>by
  rw[z1E]
  exact z40 (Nat.le_trans (z6K ha hb hc) (by decide))
 refine X2 (znR l g (by omega) (by decide) (by decide) (by decide) ?_)
 rw[zrM]
 refine zg7 rfl l g ?_
 by_cases hs:K.sgn (z8u (z0w l).a (z0w l).b (z0w l).c)=0
 · rw[if_pos hs]
   exact znG l _ _ _ _ l.length (decide_eq_false (by omega)) (beq_iff_eq.2 (ed.trans hs)) (t h1) (t h2) (t h3) (dr h1 h2 h3) rfl rfl
 · rw[if_neg hs]
   have ne: ∀x y z:V3,((z17 (Z8 (kv x) (kv y) (kv z)) (Z8 (kv (z0w l).a) (kv (z0w l).b) (kv (z0w l).c))).2 != 0)=false:=fun x y z=>by
    rw[z1E,z1E]
    exact zr5 hs
   refine zqk l _ _ _ _ l.length (decide_eq_false (by omega)) (zrO (by rw[ed];exact hs)) (ne _ _ _) (ne _ _ _) (ne _ _ _) (t h1) (t h2) (t h3) (dr h1 h2 h3) (t h4) (t h2) (t h3) (dr h4 h2 h3) (dr h1 h2 h3) (t h1) (t h4) (t h3) (dr h1 h4 h3) (dr h1 h2 h3) (t h1) (t h2) (t h4) (dr h1 h2 h4) (dr h1 h2 h3) rfl rfl rfl rfl ?_
   rw[z1E,z1E,z1E,z1E,z6L _ _ hs,z6L _ _ hs,z6L _ _ hs]
   rfl
theorem zq8:z0N [(0,7),(6,5),(12,3),(18,5)]=(oV 5 2 0,0):=by
 unfold z0N
 rw[if_pos (by decide),if_neg (by decide+kernel)]
 have e:z7x [(0,7),(6,5),(12,3),(18,5)]=⟨K.ofInt 5,K.ofInt 2,K.ofInt 0⟩:=by kernel_rfl
 rw[e]
 have o: ∀v:VN,v=⟨v.x,v.y,v.z⟩:=fun _=>rfl
 rw[o (oV 5 2 0),zrK,zrH,zrL,zhD,zhD,zhD];rfl
theorem Fit4:PCall P 60 [.lst 4 [j5 0,j5 7,j5 6,j5 5,j5 12,j5 3,j5 18,j5 5]] (.tup [(oV 5 2 0).c,j5 0]):=by
 have h:=zpM [(0,7),(6,5),(12,3),(18,5)] (by decide)
 rw[zq8]at h
 exact h
end Go.Fw
open Go
namespace Go.Fw
set_option maxRecDepth 100000
theorem zkL(_q:(rnB (oV (5:Int) (2:Int) (0:Int)).x (oV (5:Int) (2:Int) (0:Int)).x&&(rnB (oV (5:Int) (2:Int) (0:Int)).y (oV (5:Int) (2:Int) (0:Int)).y&&(rnB (oV (5:Int) (2:Int) (0:Int)).z (oV (5:Int) (2:Int) (0:Int)).z&&true)))=true)(s17_0:(-9223372036854775808:Int)≤(5:Int)∧(5:Int)≤(9223372036854775807:Int))(s17_1:(-9223372036854775808:Int)≤(2:Int)∧(2:Int)≤(9223372036854775807:Int))(s17_2:(-9223372036854775808:Int)≤(0:Int)∧(0:Int)≤(9223372036854775807:Int)):PCall P (59:FuncId) [] (CV.lit (Value.bool (rnB (oV (5:Int) (2:Int) (0:Int)).x (oV (5:Int) (2:Int) (0:Int)).x&&(rnB (oV (5:Int) (2:Int) (0:Int)).y (oV (5:Int) (2:Int) (0:Int)).y&&(rnB (oV (5:Int) (2:Int) (0:Int)).z (oV (5:Int) (2:Int) (0:Int)).z&&true))))):=
 j3 (.c (Go.Fw.Fit4) (.c (show [MV.cv (CV.lit (Value.int IntKind.i64 (0:Int))),MV.cv (CV.lit (Value.int IntKind.i64 (7:Int))),MV.cv (CV.lit (Value.int IntKind.i64 (6:Int))),MV.cv (CV.lit (Value.int IntKind.i64 (5:Int))),MV.cv (CV.lit (Value.int IntKind.i64 (12:Int))),MV.cv (CV.lit (Value.int IntKind.i64 (3:Int))),MV.cv (CV.lit (Value.int IntKind.i64 (18:Int))),MV.cv (CV.lit (Value.int IntKind.i64 (5:Int)))]=[MV.cv (CV.lit (Value.int IntKind.i64 (0:Int))),MV.cv (CV.lit (Value.int IntKind.i64 (7:Int))),MV.cv (CV.lit (Value.int IntKind.i64 (6:Int))),MV.cv (CV.lit (Value.int IntKind.i64 (5:Int))),MV.cv (CV.lit (Value.int IntKind.i64 (12:Int))),MV.cv (CV.lit (Value.int IntKind.i64 (3:Int))),MV.cv (CV.lit (Value.int IntKind.i64 (18:Int))),MV.cv (CV.lit (Value.int IntKind.i64 (5:Int)))]from rfl) (.c (show 30≤30 from(by decide)) (.c (Go.Fw.V4Of_r ((5:Int)) ((2:Int)) ((0:Int)) s17_0 s17_1 s17_2) (.o 6 (Or.k (CV.tup [z39 (oV (5:Int) (2:Int) (0:Int)).x (oV (5:Int) (2:Int) (0:Int)).y (oV (5:Int) (2:Int) (0:Int)).z,CV.lit (Value.int IntKind.i64 (0:Int))]) [[CV.lit (Value.int IntKind.i64 (0:Int)),CV.lit (Value.int IntKind.i64 (7:Int)),CV.lit (Value.int IntKind.i64 (6:Int)),CV.lit (Value.int IntKind.i64 (5:Int)),CV.lit (Value.int IntKind.i64 (12:Int)),CV.lit (Value.int IntKind.i64 (3:Int)),CV.lit (Value.int IntKind.i64 (18:Int)),CV.lit (Value.int IntKind.i64 (5:Int))]]) (.o 17 (Or.r (z39 (oV (5:Int) (2:Int) (0:Int)).x (oV (5:Int) (2:Int) (0:Int)).y (oV (5:Int) (2:Int) (0:Int)).z)) .nil)))))) (by kernel_rfl)
end Go.Fw
open Go
namespace Go.Fw
set_option maxRecDepth 100000
theorem z7h(x:RN):rnB x x=true:=zhW.2 rfl
end Go.Fw
open Go
namespace Go.Fw
set_option maxRecDepth 100000
theorem z5n(v:VN):(rnB v.x v.x&&(rnB v.y v.y&&(rnB v.z v.z&&true)))=true:=by
 rw[z7h,z7h,z7h];rfl
theorem z4j:PCall P 59 [] (.lit (.bool true)):=(zkL (z5n _) (by decide) (by decide) (by decide)).eqB (z5n _)
end Go.Fw
open Go
namespace Go.Fw
set_option maxRecDepth 100000
def V3.dot'(v w:V3):K:=v.x*w.x+v.y*w.y+v.z*w.z
noncomputable def zqX(m:V3)(x:Int×Int):K:=K.ofInt x.2-V3.dot' m (z6C x.1)
theorem zdn(m:V3)(x:Int×Int):z2X (kv m) x=kN (zqX m x):=by
 unfold z2X zqX V3.dot'
 rw[z8D,zhD,show z38 (kv m) (kv (z6C x.1))=kN (m.x*(z6C x.1).x+m.y*(z6C x.1).y+m.z*(z6C x.1).z)from zcW _ _ _ _ _ _,zhl]
def S4.rest(s:S4)(m:V3):V3:=⟨s.d.x-(s.a.x*m.x+s.b.x*m.y+s.c.x*m.z),s.d.y-(s.a.y*m.x+s.b.y*m.y+s.c.y*m.z),s.d.z-(s.a.z*m.x+s.b.z*m.y+s.c.z*m.z)⟩
end Go.Fw
open Go
namespace Go.Fw
set_option maxRecDepth 100000
theorem zn3(v:V3):(kv v).ok=true:=by
 unfold VN.ok ok3 kv kV
 rw[zmm,zmm,zmm];rfl
theorem zp0{m:V3}{n:Nat}(hm:sz3 m n){x:Int×Int}(hx: -10000≤x.2∧x.2≤10000):(zqX m x).sz≤3*n+11:=by
 have h:=z1K (zly (z6p hm) hx)
 rw[zdn,z1Y]at h
 exact h
theorem zc6(l:List (Int×Int)):(∃e:Int,e≠0∧z0N l=(.zero,e))∨(z0H l=true∧K.sgn (z8u (z0w l).a (z0w l).b (z0w l).c)≠0∧z0N l=(kv (z7x l),0)):=by
 unfold z0N
 cases g:z0H l
 · exact .inl ⟨1,by decide,rfl⟩
 · by_cases h:K.sgn (z8u (z0w l).a (z0w l).b (z0w l).c)=0
   · rw[if_pos rfl,if_pos h];exact .inl ⟨20,by decide,rfl⟩
   · rw[if_pos rfl,if_neg h];exact .inr ⟨rfl,h,rfl⟩
theorem zlA{l:List (Int×Int)}(g:z0H l=true)(m:V3):z7u l (kv m)=(l.map (z2X (kv m)),0):=by
 unfold z7u
 rw[g,zn3];rfl
end Go.Fw
