/- A part of the proof that the law returns true for every input: an executor for the model's code, and what functions of the program compute. -/
import Derived.Test.YtcafjpldfnegiaaGreatDoorB11
import Derived.Test.YtcafjpldfnegiaaGreatDoorB15
import Derived.Test.YtcafjpldfnegiaaGreatDoorB41
import Derived.Test.YtcafjpldfnegiaaGreatDoorB42
import Derived.KernelRfl
open Go IntKind
namespace Go.Fw
set_option maxRecDepth 100000
theorem zh8(l:List (Int×Int))(m:VN)(g:z5Y l=true)(g2:m.ok=true)(s4_0:l.length<2^30)(s8_0:VN.raw 1000000 m=true){R:CV→Prop}(hR:Ok P 62 (loopHead P 62 0) ⟨J3 37 [(3,.ptr 0 0),(6,.cv (CV.lit (Value.slice none 0 0))),(17,.cv (.lst l.length (flat rdL l))),(18,.cv (.lit (.int .i64 (↑l.length:Int)))),(19,.cv (.lit (.int .i64 0)))],[some (vnM m)]⟩ (.of R)):W6 P 62 [rdV l,m.c] R:=
 Y4 (keep:=[3,6,17,18,19]) (σ:=[0]) (.r 4 ((z5E (l) s4_0).eqB g) (.r 8 ((zeK (m) s8_0).eqB g2) (.o 16 .stop .nil))) (by kernel_rfl) rfl hR (.cons (CvL.map_cv _) .nil)
theorem zjK(l:List (Int×Int))(m:VN)(g:z5Y l=false)(s4_0:l.length<2^30):PCall P 62 [rdV l,m.c] (.tup [CV.lit (Value.slice none 0 0),.lit (.int .i64 1)]):=
 j5 (.r 4 ((z5E (l) s4_0).eqB g) .nil) (by kernel_rfl)
theorem zjf(l:List (Int×Int))(m:VN)(g:z5Y l=true)(g2:m.ok=false)(s4_0:l.length<2^30)(s8_0:VN.raw 1000000 m=true):PCall P 62 [rdV l,m.c] (.tup [CV.lit (Value.slice none 0 0),.lit (.int .i64 1)]):=
 j5 (.r 4 ((z5E (l) s4_0).eqB g) (.r 8 ((zeK (m) s8_0).eqB g2) .nil)) (by kernel_rfl)
theorem zir(l:List (Int×Int))(m:VN)(k mi mo:Int)(h1:decide (k<(↑l.length:Int))=true)(s10_0:(-9223372036854775808:Int)≤mo∧mo≤9223372036854775807)(s15_0:VN.raw 10000 m=true)(s15_1:VN.raw 10000 (X8 mi)=true)(s16_0:RN.raw 1000000 (oN mo)=true)(s16_1:RN.raw 1000000 (z50 m (X8 mi))=true)(o1:(0:Int)≤k∧k<(↑l.length:Int))(o2:List.take 2 (List.drop (k.toNat*2) (flat rdL l))=[.lit (.int .i64 mi),.lit (.int .i64 mo)]){R:Goal}(hn:J0 R.n [0,7]=true)(hR:Ok P 62 (loopHead P 62 0) ⟨J3 37 [(3,.ptr 0 0),(6,.sl (0+1) 0 1 10),(17,.cv (.lst l.length (flat rdL l))),(18,.cv (.lit (.int .i64 (↑l.length:Int)))),(19,.cv (.lit (.int .i64 (i64.wrap (k+1)))))],[some (vnM m),some (own ((z4U (oN mo) (z50 m (X8 mi)))).l)]⟩ R):Ok P 62 (loopHead P 62 0) ⟨J3 37 [(3,.ptr 0 0),(6,.cv (CV.lit (Value.slice none 0 0))),(17,.cv (rdV l)),(18,.cv (j6 (↑l.length:Int))),(19,.cv (j6 k))],[some (vnM m)]⟩ R:=
 z0D (keep:=[3,6,17,18,19]) (σ:=[0,7]) (.b 2 h1 (.c o1 (.c o2 (.c (eqn 2) (.c (lq 2 2) (.c (zbX (mo) s10_0) (.c (zee (mi)) (.c (zbL (m) (X8 mi) s15_0 s15_1) (.c (zgO (oN mo) (z50 m (X8 mi)) s16_0 s16_1) (.c (lq 120 1099511627776) (.c (lq 1 1099511627776) (.c (show 0<1 from by decide) (.c (eqn 10) (.o 4 (.r (.agg [.lit (.int .i64 mi),.lit (.int .i64 mo)])) (.o 10 (.r (RN.c (oN mo))) (.o 14 (.r (z5D (X8 mi).x (X8 mi).y (X8 mi).z)) (.o 15 (.r (RN.c (z50 m (X8 mi)))) (.o 16 (.r (RN.c (z4U (oN mo) (z50 m (X8 mi))))) (.o 22 .stop .nil))))))))))))))))))) (by kernel_rfl) rfl hn hR (.cons (CvL.map_cv _) (.cons (CvL.map_cv _) .nil))
theorem zis(l:List (Int×Int))(m:VN)(k _mi _mo:Int)(h1:decide (k<(↑l.length:Int))=false){R:Goal}(hR:R.c (.tup [CV.lit (Value.slice none 0 0),.lit (.int .i64 0)])):Ok P 62 (loopHead P 62 0) ⟨J3 37 [(3,.ptr 0 0),(6,.cv (CV.lit (Value.slice none 0 0))),(17,.cv (rdV l)),(18,.cv (j6 (↑l.length:Int))),(19,.cv (j6 k))],[some (vnM m)]⟩ R:=
 okT (.b 2 h1 .nil) (by kernel_rfl) hR
theorem zkh(l:List (Int×Int))(m:VN)(k mi mo:Int)(c:Nat)(out:List CV)(h1:decide (k<(↑l.length:Int))=true)(s10_0:(-9223372036854775808:Int)≤mo∧mo≤9223372036854775807)(s15_0:VN.raw 10000 m=true)(s15_1:VN.raw 10000 (X8 mi)=true)(s16_0:RN.raw 1000000 (oN mo)=true)(s16_1:RN.raw 1000000 (z50 m (X8 mi))=true)(o1:(0:Int)≤k∧k<(↑l.length:Int))(o2:List.take 2 (List.drop (k.toNat*2) (flat rdL l))=[.lit (.int .i64 mi),.lit (.int .i64 mo)])(o9:(c+1)*120≤1099511627776)(o10:c+1≤1099511627776)(o11:(own out).length=c*10)(o12:zbI (own ((z4U (oN mo) (z50 m (X8 mi)))).l))(o15:CvL (own out++(own ((z4U (oN mo) (z50 m (X8 mi)))).l))){R:Goal}(hn:J0 R.n [0,8]=true)(hR:Ok P 62 (loopHead P 62 0) ⟨J3 37 [(3,.ptr 0 0),(6,.sl (0+1) 0 (c+1) 10),(17,.cv (.lst l.length (flat rdL l))),(18,.cv (.lit (.int .i64 (↑l.length:Int)))),(19,.cv (.lit (.int .i64 (i64.wrap (k+1)))))],[some (vnM m),some (own out++(own ((z4U (oN mo) (z50 m (X8 mi)))).l))]⟩ R):Ok P 62 (loopHead P 62 0) ⟨J3 37 [(3,.ptr 0 0),(6,.sl 1 0 c 10),(17,.cv (rdV l)),(18,.cv (j6 (↑l.length:Int))),(19,.cv (j6 k))],[some (vnM m),some (own out)]⟩ R:=
 z0D (keep:=[3,6,17,18,19]) (σ:=[0,8]) (.b 2 h1 (.c o1 (.c o2 (.c (eqn 2) (.c (lq 2 2) (.c (zbX (mo) s10_0) (.c (zee (mi)) (.c (zbL (m) (X8 mi) s15_0 s15_1) (.c (zgO (oN mo) (z50 m (X8 mi)) s16_0 s16_1) (.c o9 (.c o10 (.c o11 (.c o12 (.c (eqn 10) (.o 4 (.r (.agg [.lit (.int .i64 mi),.lit (.int .i64 mo)])) (.o 10 (.r (RN.c (oN mo))) (.o 14 (.r (z5D (X8 mi).x (X8 mi).y (X8 mi).z)) (.o 15 (.r (RN.c (z50 m (X8 mi)))) (.o 16 (.r (RN.c (z4U (oN mo) (z50 m (X8 mi))))) (.o 22 .stop .nil)))))))))))))))))))) (by kernel_rfl) rfl hn hR (.cons (CvL.map_cv _) (.cons o15 .nil))
theorem zhS(l:List (Int×Int))(m:VN)(k _mi _mo:Int)(c:Nat)(out:List CV)(h1:decide (k<(↑l.length:Int))=false)(o1:List.take (c*10) (List.drop 0 (own out))=List.map MV.cv out){R:Goal}(hR:R.c (.tup [.lst c out,.lit (.int .i64 0)])):Ok P 62 (loopHead P 62 0) ⟨J3 37 [(3,.ptr 0 0),(6,.sl 1 0 c 10),(17,.cv (rdV l)),(18,.cv (j6 (↑l.length:Int))),(19,.cv (j6 k))],[some (vnM m),some (own out)]⟩ R:=
 okT (.b 2 h1 (.c o1 (.o 6 (.r (CV.lit undef) [out]) .nil))) (by kernel_rfl) hR
end Go.Fw
open Go
namespace Go.Fw
set_option maxRecDepth 100000
theorem z4l{P:Program}{f:FuncId}{args:List CV}{c:CV}(h:PCall P f args (.tup [.lit (.slice none 0 0),c])):PCall P f args (.tup [.lst 0 [],c]):=by
 intro Im w vs him hrep
 refine(h Im w vs him hrep).mono ?_
 rintro e w' ⟨y,v,Im',rfl,rfl,hv,h1,h2,h3,h4⟩
 refine⟨y,_,Im',rfl,rfl,?_,h1,h2,h3,h4⟩
 unfold CV.rep at hv ⊢
 obtain⟨ys,h5,h6⟩:=hv
 refine⟨ys,h5,?_⟩
 unfold CV.repL at h6 ⊢
 obtain⟨y0,ys0,h7,h8,h9⟩:=h6
 refine⟨y0,ys0,h7,?_,h9⟩
 unfold CV.rep at h8 ⊢
 exact⟨none,0,h8,Nat.le_refl _,.inl ⟨rfl,rfl⟩⟩
noncomputable def z6B(m:VN)(x:Int×Int):RN:=z4U (oN x.2) (z50 m (X8 x.1))
noncomputable def z44(l:List (Int×Int))(m:VN):List RN×Int:=if z5Y l&&m.ok then(l.map (z6B m),0)else([],1)
theorem z7R{l:List (Int×Int)}(h:z5Y l=true):l.length≤48∧ ∀k (hk:k<l.length),-10000≤l[k].2∧l[k].2≤10000:=by
 unfold z5Y at h
 simp only[Bool.and_eq_true,decide_eq_true_eq,List.all_eq_true]at h
 exact⟨h.1,fun k hk=>h.2 _ (List.getElem_mem hk)⟩
theorem z87{n:Int}(h: -10000≤n∧n≤10000):(K.ofInt n).sz≤2:=K.sz_int n (by decide) (by omega)
theorem zfZ(m:VN)(l:List (Int×Int)):flat RN.l (l.map (z6B m))=flat (fun x=>(z6B m x).l) l:=by
 induction l with
 |nil=>rfl
 |cons x l ih=>rw[List.map_cons,z1T,z1T,ih]
theorem zkL(a b:List CV):CvL (own a++own b):=by rw[show own a++own b=own (a++b)from(zdm a b).symm];exact CvL.map_cv _
theorem znX(l:List (Int×Int))(m:VN)(g:z5Y l=true)(g2:m.ok=true)(hm:m.raw 10000=true):PCall P 62 [rdV l,m.c] (.tup [nmV (l.map (z6B m)),j6 0]):=by
 have h6:=VN.raw_mono hm (show 10000≤1000000 by decide)
 obtain⟨hl,hb⟩:=z7R g
 have hr: ∀i,(X8 i).raw 10000=true:=fun i=>VN.raw_mono (z9q i) (by decide)
 have hd: ∀i,(z50 m (X8 i)).raw 1000000=true:=fun i=>RN.raw_mono (zd9 hm (hr i)) (by decide)
 cases l with
 |nil=>
  refine z4l (zh8 [] m g g2 (by decide) h6 (R := (· = _)) (zis [] m 0 0 0 rfl rfl))
 |cons x t=>
  generalize hx:x::t=l at*
  have hne:l≠[]:=by rw[←hx];exact List.cons_ne_nil _ _
  refine zh8 l m g g2 (by omega) h6 (R := (· = _)) ?_
  refine zau (s:=10) l (fun x=>(z6B m x).l) (fun _=>rfl) (fun k o=>Ok P 62 (loopHead P 62 0) (match o with
   |none=>⟨J3 37 [(3,.ptr 0 0),(6,.cv (.lit (.slice none 0 0))),(17,.cv (rdV l)),(18,.cv (j6 l.length)),(19,.cv (j6 k))],[some (vnM m)]⟩
   | some (c, out) => ⟨J3 37 [(3, .ptr 0 0), (6, .sl 1 0 c 10), (17, .cv (rdV l)), (18, .cv (j6 l.length)), (19, .cv (j6 k))], [some (vnM m), some (own out)]⟩) (.of (· = .tup [nmV (l.map (z6B m)), j6 0]))) ?_ ?_ hne ?_
  · intro k hk h
    have b:=hb k hk
    refine zir l m k l[k].1 l[k].2 (decide_eq_true (by omega)) (by omega) hm (hr _) (z6r (Nat.le_trans (z87 b) (by decide))) (hd _) (by omega) (z1m z1C hk) rfl ?_
    rw[w64 (by omega)]
    exact h
  · intro k hk c out hc ho h
    have b:=hb k hk
    refine zkh l m k l[k].1 l[k].2 c out (decide_eq_true (by omega)) (by omega) hm (hr _) (z6r (Nat.le_trans (z87 b) (by decide))) (hd _) (by omega) (z1m z1C hk) (by omega) (by omega) (by simp[own,ho]) ?_ ?_ rfl ?_
    · simp[zbI,MV.one,own,RN.l]
    · exact zkL _ _
    · rw[w64 (by omega),show ∀a b:List CV,own a++own b=own (a++b)from fun a b=>(zdm a b).symm]
      exact h
  · refine zhS l m l.length 0 0 l.length (flat (fun x=>(z6B m x).l) l) (decide_eq_false (by omega)) ?_ ?_
    · rw[List.drop_zero,List.take_of_length_le (by simp[own,z27 (f:=fun x=>(z6B m x).l) (s:=10) (fun _=>rfl)])];rfl
    · show CV.tup _=CV.tup _
      unfold nmV
      rw[zfZ,List.length_map]
theorem zh0(l:List (Int×Int))(m:VN)(hl:l.length<2^30)(hm:m.raw 10000=true):PCall P 62 [rdV l,m.c] (.tup [nmV (z44 l m).1,j6 (z44 l m).2]):=by
 unfold z44
 cases g:z5Y l
 · exact z4l (zjK l m g hl)
 cases g2:m.ok
 · exact z4l (zjf l m g g2 hl (VN.raw_mono hm (by decide)))
 · exact znX l m g g2 hm
end Go.Fw
open Go IntKind
namespace Go.Fw
set_option maxRecDepth 100000
theorem zlR(l:List (Int×Int))(m:VN)(h1:((z44 l m).2 != 0)=true)(s5_0:l.length<2^30)(s5_1:VN.raw 10000 m=true):PCall P 69 [rdV l,m.c] (.tup [.agg z0w,.lit (.int .i64 (z44 l m).2)]):=
 j5 (.r 5 (zh0 (l) (m) s5_0 s5_1) (.b 13 h1 (.c (lq 10 10) .nil))) (by kernel_rfl)
theorem zop(l:List (Int×Int))(m:VN)(h1:((z44 l m).2 != 0)=false)(s5_0:l.length<2^30)(s5_1:VN.raw 10000 m=true)(s14_0:(-9223372036854775808:Int)≤0∧(0:Int)≤9223372036854775807){R:CV→Prop}(hR:Ok P 69 (loopHead P 69 0) ⟨J3 35 [(4,.ptr 0 0),(8,.ptr (0+1) 0),(22,.cv (.lst (z44 l m).1.length (flat RN.l (z44 l m).1))),(23,.cv (.lit (.int .i64 (↑(z44 l m).1.length:Int)))),(24,.cv (.lit (.int .i64 0)))],[some [.cv (.lit (.bool false)),.cv (.lit (.string {data:= #[]})),.cv (.lit (.bool false)),.cv (.lit (.string {data:= #[]})),.cv (.lit (.bool false)),.cv (.lit (.string {data:= #[]})),.cv (.lit (.bool false)),.cv (.lit (.string {data:= #[]})),.cv (.lit (.bool false)),.cv (.lit (.string {data:= #[]}))],some (own ((oN (0:Int))).l)]⟩ (.of R)):W6 P 69 [rdV l,m.c] R:=
 Y4 (keep:=[4,8,22,23,24]) (σ:=[1,4]) (.r 5 (zh0 (l) (m) s5_0 s5_1) (.b 13 h1 (.r 14 (zbX ((0:Int)) s14_0) (.c (lq 10 10) (.o 20 .stop .nil))))) (by kernel_rfl) rfl hR (.cons (by simp[CvL]) (.cons (CvL.map_cv _) .nil))
theorem zly(u v w:VN)(s10_0:VN.raw 1000 u=true)(s10_1:VN.raw 1000 v=true)(s10_2:VN.raw 1000 w=true):PCall P 145 [.lst 3 (vnL u++(vnL v++vnL w))] (RN.c (W1 u v w)):=
 j5 (.c (bq 0 3) (.c (bq 1 3) (.c (bq 2 3) (.r 10 (zl5 (u) (v) (w) s10_0 s10_1 s10_2) (.c (lq 10 10) .nil))))) (by kernel_rfl)
end Go.Fw
open Go IntKind
namespace Go.Fw
set_option maxRecDepth 100000
theorem zi4(xs:List RN)(s mx:RN)(k:Int)(h1:decide (k<(↑xs.length:Int))=true)(s10_0 s10_1:RN.raw 1000000 mx=true)(s11_0:RN.raw 1000000 s=true)(s11_1:RN.raw 1000000 (zb7 mx mx)=true)(o1:(0:Int)≤k∧k<(↑xs.length:Int))(o2:List.take 10 (List.drop (k.toNat*10) (flat RN.l xs))=(mx).l){R:Goal}(hn:J0 R.n [0,1]=true)(hR:Ok P 69 (loopHead P 69 0) ⟨J3 35 [(4,.ptr 0 0),(8,.ptr (0+1) 0),(22,.cv (.lst xs.length (flat RN.l xs))),(23,.cv (.lit (.int .i64 (↑xs.length:Int)))),(24,.cv (.lit (.int .i64 (i64.wrap (k+1)))))],[some (own [.lit (.bool false),.lit (.string RN.zero.s0),.lit (.bool false),.lit (.string RN.zero.s1),.lit (.bool false),.lit (.string RN.zero.s2),.lit (.bool false),.lit (.string RN.zero.s3),.lit (.bool false),.lit (.string RN.zero.s4)]),some (own ((z2S s (zb7 mx mx))).l)]⟩ R):Ok P 69 (loopHead P 69 0) ⟨J3 35 [(4,.ptr 0 0),(8,.ptr 1 0),(22,.cv (nmV xs)),(23,.cv (j6 (↑xs.length:Int))),(24,.cv (j6 k))],[some (own RN.zero.l),some (own s.l)]⟩ R:=
 z0D (keep:=[4,8,22,23,24]) (σ:=[0,1]) (.b 2 h1 (.c o1 (.c o2 (.c (eqn 10) (.c (lq 10 10) (.c (zmY (mx) (mx) s10_0 s10_1) (.c (za6 (s) (zb7 mx mx) s11_0 s11_1) (.c (lq 10 10) (.o 4 (.r mx.c) (.o 10 (.r (RN.c (zb7 mx mx))) (.o 11 (.r (RN.c (z2S s (zb7 mx mx)))) (.o 15 .stop .nil)))))))))))) (by kernel_rfl) rfl hn hR (.cons (j9 _) (.cons (CvL.map_cv _) .nil))
theorem zj2(xs:List RN)(s _mx:RN)(k:Int)(h1:decide (k<(↑xs.length:Int))=false){R:Goal}(hR:R.c (.tup [RN.c s,.lit (.int .i64 0)])):Ok P 69 (loopHead P 69 0) ⟨J3 35 [(4,.ptr 0 0),(8,.ptr 1 0),(22,.cv (nmV xs)),(23,.cv (j6 (↑xs.length:Int))),(24,.cv (j6 k))],[some (own RN.zero.l),some (own s.l)]⟩ R:=
 okT (.b 2 h1 (.c (lq 10 10) .nil)) (by kernel_rfl) hR
end Go.Fw
open Go
namespace Go.Fw
set_option maxRecDepth 100000
theorem z9T{x y:RN}{a b:Nat}(hx:x.raw a=true)(hy:y.raw b=true):(z2S x y).raw (a+b+1)=true:=by
 have h1:=z15 hx
 have h2:=z15 hy
 have h3:=zdv (toO x) (toO y)
 exact z0U (by omega)
theorem zah{x y:RN}{a b:Nat}(hx:x.raw a=true)(hy:y.raw b=true):(z4U x y).raw (a+b+1)=true:=by
 have h1:=z15 hx
 have h2:=z15 hy
 have h3:=ziy (toO x) (toO y)
 exact z0U (by omega)
theorem zan{x y:RN}{a b:Nat}(hx:x.raw a=true)(hy:y.raw b=true):(zb7 x y).raw (a+b+1)=true:=by
 have h1:=z15 hx
 have h2:=z15 hy
 have h3:=zhL (toO x) (toO y)
 exact z0U (by omega)
theorem zdJ{v w:VN}{n m:Nat}(hv:v.raw n=true)(hw:w.raw m=true):(z50 v w).raw (3*(n+m+1)+2)=true:=by
 refine z0U ?_
 cases ev:toV v with
 |none=>exact Nat.zero_le _
 |some a=>
  cases ew:toV w with
  |none=>exact Nat.zero_le _
  |some b=>
   obtain⟨x,y,z⟩:=z1L ev hv
   obtain⟨x',y',z'⟩:=z1L ew hw
   have m1:=K.sz_mul a.x b.x
   have m2:=K.sz_mul a.y b.y
   have m3:=K.sz_mul a.z b.z
   have m4:=K.sz_add (a.x*b.x) (a.y*b.y)
   have m5:=K.sz_add (a.x*b.x+a.y*b.y) (a.z*b.z)
   show(a.x*b.x+a.y*b.y+a.z*b.z).sz≤_
   omega
theorem zjr{m:VN}{n:Nat}(hm:m.raw n=true){x:Int×Int}(hx: -10000≤x.2∧x.2≤10000):(z6B m x).raw (3*n+11)=true:=
 RN.raw_mono (zah (z6r (z87 hx)) (zdJ hm (z9q x.1))) (by omega)
noncomputable def z8p:RN→List RN→RN
 |s,[]=>s
 |s,x::l=>z8p (z2S s (zb7 x x)) l
noncomputable def z6C(l:List (Int×Int))(m:VN):RN×Int:=if(z44 l m).2=0 then(z8p (oN 0) (z44 l m).1,0)else(.zero,(z44 l m).2)
theorem zfl (n : Nat) (hn : n ≤ 30000) {R : Goal} (hR0 : J0 R.n [0, 1] = true) (xs : List RN) (hx : ∀ k (hk : k < xs.length), xs[k].raw n = true) (hl : xs.length ≤ 12) (d : Nat) : ∀ (k : Nat) (s : RN), k + d = xs.length → s.raw (k * (2 * n + 2) + 1) = true → R.c (.tup [(z8p s (xs.drop k)).c, j6 0]) →
    Ok P 69 (loopHead P 69 0) ⟨J3 35 [(4,.ptr 0 0),(8,.ptr 1 0),(22,.cv (nmV xs)),(23,.cv (j6 xs.length)),(24,.cv (j6 k))],[some (own RN.zero.l),some (own s.l)]⟩ R:=by
 induction d with
 |zero=>
  intro k s hk _ hR
  rw[List.drop_eq_nil_of_le (by omega)]at hR
  exact zj2 xs s .zero k (decide_eq_false (by omega)) hR
 |succ d ih=>
  intro k s hk hs hR
  have hlt:k<xs.length:=by omega
  rw[List.drop_eq_getElem_cons hlt]at hR
  have hm:k*(2*n+2)≤11*(2*n+2):=Nat.mul_le_mul_right _ (by omega)
  have x1:=hx k hlt
  have q:=zan x1 x1
  refine zi4 xs s xs[k] k (decide_eq_true (by omega)) (RN.raw_mono x1 (by omega)) (RN.raw_mono x1 (by omega)) (RN.raw_mono hs (by omega)) (RN.raw_mono q (by omega)) (by omega) (z1m zhj hlt) hR0 ?_
  rw[w64 (by omega)]
  refine ih (k+1) _ (by omega) (RN.raw_mono (z9T hs q) ?_) hR
  rw[Nat.add_mul];omega
theorem z9F{l:List (Int×Int)}{m:VN}{n:Nat}(hm:m.raw n=true): ∀k (hk:k<(z44 l m).1.length),(z44 l m).1[k].raw (3*n+11)=true:=by
 cases g:z5Y l
 · have e:z44 l m=([],1):=by unfold z44;rw[g];rfl
   intro k hk
   rw[e]at hk
   exact absurd hk (by simp)
 cases g2:m.ok
 · have e:z44 l m=([],1):=by unfold z44;rw[g,g2];rfl
   intro k hk
   rw[e]at hk
   exact absurd hk (by simp)
 · have e:z44 l m=(l.map (z6B m),0):=by unfold z44;rw[g,g2];rfl
   rw[e]
   intro k hk
   have hk':k<l.length:=by simpa using hk
   have:(l.map (z6B m))[k]=z6B m l[k]:=List.getElem_map _
   show(l.map (z6B m))[k].raw _=true
   rw[this]
   exact zjr hm ((z7R g).2 k hk')
theorem zae(l:List (Int×Int))(m:VN):(z44 l m).1.length≤l.length:=by
 unfold z44
 split
 · simp
 · simp
theorem z9K(l:List (Int×Int))(m:VN)(hl:l.length≤12)(hm:m.raw 8000=true):PCall P 69 [rdV l,m.c] (.tup [(z6C l m).1.c,j6 (z6C l m).2]):=by
 have hm':=VN.raw_mono hm (show 8000≤10000 by decide)
 unfold z6C
 by_cases h:(z44 l m).2=0
 · rw[if_pos h]
   refine X6 (zop l m (bne_self_iff h) (by omega) hm' (by decide) ?_)
   exact zfl (3*8000+11) (by decide) rfl _ (z9F hm) (Nat.le_trans (zae l m) hl) (z44 l m).1.length 0 (oN 0) (by omega) (z6r (by decide+kernel)) rfl
 · rw[if_neg h]
   exact zlR l m (bne_iff_ne.2 h) (by omega) hm'
 where bne_self_iff {a:Int} (h:a=0):(a != 0)=false:=by rw[h];rfl
end Go.Fw
open Go
namespace Go.Fw
set_option maxRecDepth 100000
def v3L(a b c:VN):List CV:=vnL a++(vnL b++vnL c)
def v3M(a b c:VN):List MV:=own (v3L a b c)
end Go.Fw
open Go IntKind
namespace Go.Fw
set_option maxRecDepth 100000
theorem znZ(a b c v:VN)(k:RN)(s8_0:VN.raw 1000000 v=true)(s8_1:RN.raw 1000000 k=true)(s9_0:VN.raw 1000000 a=true)(s9_1:VN.raw 1000000 (J8 v k)=true)(o4:BlksCv (List.take 1 [some (v3M (z0t a (J8 v k)) b c),some (vnM v),some (own (RN.l k)),none,none])):z1Z P 140 [some (v3M a b c)] [.ptr 0 0,.agg (vnM v),.agg (own k.l)] (.tup []) (List.take 1 [some (v3M (z0t a (J8 v k)) b c),some (vnM v),some (own (RN.l k)),none,none]):=
 zaz (ors:=[(8,.r (z5D (J8 v k).x (J8 v k).y (J8 v k).z)),(9,.r (z5D (z0t a (J8 v k)).x (z0t a (J8 v k)).y (z0t a (J8 v k)).z)),(12,.a)]) (by kernel_rfl) (.cons (z4Z (v) (k) s8_0 s8_1) (.cons (za7 (a) (J8 v k) s9_0 s9_1) (.cons (lq 30 90) (.cons (lq 1 5) (.cons o4 .nil)))))
theorem zoP(a b c v:VN)(k:RN)(s8_0:VN.raw 1000000 v=true)(s8_1:RN.raw 1000000 k=true)(s9_0:VN.raw 1000000 b=true)(s9_1:VN.raw 1000000 (J8 v k)=true)(o4:BlksCv (List.take 1 [some (v3M a (z0t b (J8 v k)) c),some (vnM v),some (own (RN.l k)),none,none])):z1Z P 140 [some (v3M a b c)] [.ptr 0 30,.agg (vnM v),.agg (own k.l)] (.tup []) (List.take 1 [some (v3M a (z0t b (J8 v k)) c),some (vnM v),some (own (RN.l k)),none,none]):=
 zaz (ors:=[(8,.r (z5D (J8 v k).x (J8 v k).y (J8 v k).z)),(9,.r (z5D (z0t b (J8 v k)).x (z0t b (J8 v k)).y (z0t b (J8 v k)).z)),(12,.a)]) (by kernel_rfl) (.cons (z4Z (v) (k) s8_0 s8_1) (.cons (za7 (b) (J8 v k) s9_0 s9_1) (.cons (lq 60 90) (.cons (lq 1 5) (.cons o4 .nil)))))
theorem zkZ(a b c v:VN)(k:RN)(s8_0:VN.raw 1000000 v=true)(s8_1:RN.raw 1000000 k=true)(s9_0:VN.raw 1000000 c=true)(s9_1:VN.raw 1000000 (J8 v k)=true)(o4:BlksCv (List.take 1 [some (v3M a b (z0t c (J8 v k))),some (vnM v),some (own (RN.l k)),none,none])):z1Z P 140 [some (v3M a b c)] [.ptr 0 60,.agg (vnM v),.agg (own k.l)] (.tup []) (List.take 1 [some (v3M a b (z0t c (J8 v k))),some (vnM v),some (own (RN.l k)),none,none]):=
 zaz (ors:=[(8,.r (z5D (J8 v k).x (J8 v k).y (J8 v k).z)),(9,.r (z5D (z0t c (J8 v k)).x (z0t c (J8 v k)).y (z0t c (J8 v k)).z)),(12,.a)]) (by kernel_rfl) (.cons (z4Z (v) (k) s8_0 s8_1) (.cons (za7 (c) (J8 v k) s9_0 s9_1) (.cons (lq 90 90) (.cons (lq 1 5) (.cons o4 .nil)))))
theorem znn(a v:VN)(k:RN)(s8_0:VN.raw 1000000 v=true)(s8_1:RN.raw 1000000 k=true)(s9_0:VN.raw 1000000 a=true)(s9_1:VN.raw 1000000 (J8 v k)=true)(o4:BlksCv (List.take 1 [some (vnM (z0t a (J8 v k))),some (vnM v),some (own (RN.l k)),none,none])):z1Z P 140 [some (vnM a)] [.ptr 0 0,.agg (vnM v),.cv k.c] (.tup []) (List.take 1 [some (vnM (z0t a (J8 v k))),some (vnM v),some (own (RN.l k)),none,none]):=
 zaz (ors:=[(8,.r (z5D (J8 v k).x (J8 v k).y (J8 v k).z)),(9,.r (z5D (z0t a (J8 v k)).x (z0t a (J8 v k)).y (z0t a (J8 v k)).z)),(12,.a)]) (by kernel_rfl) (.cons (z4Z (v) (k) s8_0 s8_1) (.cons (za7 (a) (J8 v k) s9_0 s9_1) (.cons (lq 30 30) (.cons (lq 1 5) (.cons o4 .nil)))))
end Go.Fw
open Go
namespace Go.Fw
set_option maxRecDepth 100000
theorem z4P{x:List CV}{l:List Blk}:BlksCv (List.take 1 (some (own x)::l)):=by
 intro b hb
 simp only[List.take_succ_cons,List.take_zero,List.mem_singleton]at hb
 subst hb
 intro cells hc
 cases hc
 exact CvL.map_cv _
section
variable{n:Nat}{v:VN}{k:RN}
theorem zoG(a b c v:VN)(k:RN)(ha:a.raw 1000000=true)(hv:v.raw 100000=true)(hk:k.raw 100000=true):z1Z P 140 [some (v3M a b c)] [.ptr 0 0,.agg (vnM v),.agg (own k.l)] (.tup []) [some (v3M (z0t a (J8 v k)) b c)]:=
 znZ a b c v k (VN.raw_mono hv (by decide)) (RN.raw_mono hk (by decide)) ha (VN.raw_mono (z2T hv hk) (by decide)) z4P
theorem zmM(a b c v:VN)(k:RN)(ha:b.raw 1000000=true)(hv:v.raw 100000=true)(hk:k.raw 100000=true):z1Z P 140 [some (v3M a b c)] [.ptr 0 30,.agg (vnM v),.agg (own k.l)] (.tup []) [some (v3M a (z0t b (J8 v k)) c)]:=
 zoP a b c v k (VN.raw_mono hv (by decide)) (RN.raw_mono hk (by decide)) ha (VN.raw_mono (z2T hv hk) (by decide)) z4P
theorem zlr(a b c v:VN)(k:RN)(ha:c.raw 1000000=true)(hv:v.raw 100000=true)(hk:k.raw 100000=true):z1Z P 140 [some (v3M a b c)] [.ptr 0 60,.agg (vnM v),.agg (own k.l)] (.tup []) [some (v3M a b (z0t c (J8 v k)))]:=
 zkZ a b c v k (VN.raw_mono hv (by decide)) (RN.raw_mono hk (by decide)) ha (VN.raw_mono (z2T hv hk) (by decide)) z4P
theorem zli(a v:VN)(k:RN)(ha:a.raw 1000000=true)(hv:v.raw 100000=true)(hk:k.raw 100000=true):z1Z P 140 [some (vnM a)] [.ptr 0 0,.agg (vnM v),.cv k.c] (.tup []) [some (vnM (z0t a (J8 v k)))]:=
 znn a v k (VN.raw_mono hv (by decide)) (RN.raw_mono hk (by decide)) ha (VN.raw_mono (z2T hv hk) (by decide)) z4P
end
end Go.Fw
open Go
namespace Go.Fw
set_option maxRecDepth 100000
theorem zdl(u v w:VN)(hu:u.raw 1000=true)(hv:v.raw 1000=true)(hw:w.raw 1000=true):PCall P 145 [.lst 3 (v3L u v w)] (W1 u v w).c:=zly u v w hu hv hw
end Go.Fw
open Go IntKind
namespace Go.Fw
set_option maxRecDepth 100000
theorem zmy(l:List (Int×Int))(a b c d:VN)(k:Int)(h:decide (k<(↑l.length:Int))=false)(hs:(z8L (W1 a b c)==0)=true)(s4_0:VN.raw 1000 a=true)(s4_1:VN.raw 1000 b=true)(s4_2:VN.raw 1000 c=true)(s8_0:RN.raw 1000000 (W1 a b c)=true)(o3:(v3M a b c)=(v3M a b c)){R:Goal}(hR:R.c (.tup [z47,.lit (.int .i64 20)])):Ok P 60 (loopHead P 60 0) ⟨J3 96 [(2,.ptr 0 0),(5,.ptr 1 0),(6,.ptr 2 0),(7,.cv (CV.lit (Value.func (Fn.func 140) #[] #[]))),(27,.cv (rdV l)),(28,.cv (j6 (↑l.length:Int))),(29,.cv (j6 k))],[some (vnM VN.zero),some (v3M a b c),some (vnM d)]⟩ R:=
 okT (.b 2 h (.c (lq 90 90) (.c (zdl (a) (b) (c) s4_0 s4_1 s4_2) (.c o3 (.c (lq 10 10) (.c (zcg (W1 a b c) s8_0) (.o 4 (.k (RN.c (W1 a b c)) [(v3L a b c)]) (.o 8 (.r (.lit (.int .i64 (z8L (W1 a b c))))) (.b 10 hs (.c (lq 30 30) .nil)))))))))) (by kernel_rfl) hR
theorem zkT(l:List (Int×Int))(a b c d:VN)(k:Int)(h:decide (k<(↑l.length:Int))=false)(hs:(z8L (W1 a b c)==0)=false)(e1:((z1R (W1 d b c) (W1 a b c)).snd != 0)=false)(e2:((z1R (W1 a d c) (W1 a b c)).snd != 0)=false)(e3:((z1R (W1 a b d) (W1 a b c)).snd != 0)=false)(s4_0:VN.raw 1000 a=true)(s4_1:VN.raw 1000 b=true)(s4_2:VN.raw 1000 c=true)(s8_0:RN.raw 1000000 (W1 a b c)=true)(s26_0:VN.raw 1000 d=true)(s26_1:VN.raw 1000 b=true)(s26_2:VN.raw 1000 c=true)(s28_0:RN.raw 1000000 (W1 d b c)=true)(s28_1:RN.raw 1000000 (W1 a b c)=true)(s57_0:VN.raw 1000 a=true)(s57_1:VN.raw 1000 d=true)(s57_2:VN.raw 1000 c=true)(s59_0:RN.raw 1000000 (W1 a d c)=true)(s59_1:RN.raw 1000000 (W1 a b c)=true)(s88_0:VN.raw 1000 a=true)(s88_1:VN.raw 1000 b=true)(s88_2:VN.raw 1000 d=true)(s90_0:RN.raw 1000000 (W1 a b d)=true)(s90_1:RN.raw 1000000 (W1 a b c)=true)(o3:(v3M a b c)=(v3M a b c))(o12:(v3M d b c)=(v3M d b c))(o23:(v3M a d c)=(v3M a d c))(o34:(v3M a b d)=(v3M a b d)){R:Goal}(hR:R.c (.tup [z5D (z1R (W1 d b c) (W1 a b c)).fst (z1R (W1 a d c) (W1 a b c)).fst (z1R (W1 a b d) (W1 a b c)).fst,.lit (.int .i64 0)])):Ok P 60 (loopHead P 60 0) ⟨J3 96 [(2,.ptr 0 0),(5,.ptr 1 0),(6,.ptr 2 0),(7,.cv (CV.lit (Value.func (Fn.func 140) #[] #[]))),(27,.cv (rdV l)),(28,.cv (j6 (↑l.length:Int))),(29,.cv (j6 k))],[some (vnM VN.zero),some (v3M a b c),some (vnM d)]⟩ R:=
 okT (.c h (.c (lq 90 90) (.c (zdl (a) (b) (c) s4_0 s4_1 s4_2) (.c o3 (.c (lq 10 10) (.c (zcg (W1 a b c) s8_0) (.c hs (.c (lq 90 90) (.c (bq 0 3) (.c (lq 30 90) (.c (lq 90 90) (.c (zdl (d) (b) (c) s26_0 s26_1 s26_2) (.c o12 (.c (ze6 (W1 d b c) (W1 a b c) s28_0 s28_1) (.c (lq 10 10) (.c e1 (.c (bq 0 3) (.c (lq 10 30) (.c (lq 90 90) (.c (bq 1 3) (.c (lq 60 90) (.c (lq 90 90) (.c (zdl (a) (d) (c) s57_0 s57_1 s57_2) (.c o23 (.c (ze6 (W1 a d c) (W1 a b c) s59_0 s59_1) (.c (lq 10 10) (.c e2 (.c (bq 1 3) (.c (lq 20 30) (.c (lq 90 90) (.c (bq 2 3) (.c (lq 90 90) (.c (lq 90 90) (.c (zdl (a) (b) (d) s88_0 s88_1 s88_2) (.c o34 (.c (ze6 (W1 a b d) (W1 a b c) s90_0 s90_1) (.c (lq 10 10) (.c e3 (.c (bq 2 3) (.c (lq 30 30) (.c (bq 0 3) (.c (bq 1 3) (.c (bq 2 3) (.c (lq 30 30) (.o 2 (.b false) (.o 4 (.k (RN.c (W1 a b c)) [(v3L a b c)]) (.o 8 (.r (.lit (.int .i64 (z8L (W1 a b c))))) (.o 10 (.b false) (.o 26 (.k (RN.c (W1 d b c)) [(v3L d b c)]) (.o 28 (.r (.tup [RN.c (z1R (W1 d b c) (W1 a b c)).fst,.lit (.int .i64 (z1R (W1 d b c) (W1 a b c)).2)])) (.o 37 (.b false) (.o 57 (.k (RN.c (W1 a d c)) [(v3L a d c)]) (.o 59 (.r (.tup [RN.c (z1R (W1 a d c) (W1 a b c)).fst,.lit (.int .i64 (z1R (W1 a d c) (W1 a b c)).2)])) (.o 68 (.b false) (.o 88 (.k (RN.c (W1 a b d)) [(v3L a b d)]) (.o 90 (.r (.tup [RN.c (z1R (W1 a b d) (W1 a b c)).fst,.lit (.int .i64 (z1R (W1 a b d) (W1 a b c)).2)])) (.o 99 (.b false) .nil))))))))))))))))))))))))))))))))))))))))))))))))))))))))) (by kernel_rfl) hR
end Go.Fw
open Go
namespace Go.Fw
set_option maxRecDepth 100000
theorem zq9:oV 0 0 0=kV 0 0 0:=by
 have e: ∀v:VN,v=⟨v.x,v.y,v.z⟩:=fun _=>rfl
 rw[e (oV 0 0 0),zpT,zpY,zpN,zft];rfl
end Go.Fw
open Go
namespace Go.Fw
set_option maxRecDepth 100000
theorem z9h{x k:K}(hk:K.sgn k=1):K.sgn (x*k)=K.sgn x:=by rw[K.sgn_mul,hk,Int.mul_one]
theorem z8a{x k:K}(h:x≠0)(hk:K.sgn k=1):x*k≠0:=fun e=>h (K.sgn_zero.1 (by rw[←z9h hk,e];exact K.sgn_zero.2 rfl))
end Go.Fw
open Go
namespace Go.Fw
set_option maxRecDepth 100000
theorem zcM(a b c a' b' c':K):z3s (kV a b c) (kV a' b' c')=kV (b*c'-c*b') (c*a'-a*c') (a*b'-b*a'):=by
 unfold z3s kV
 rw[z9f,z9f,z1y,z1y,z1y];rfl
theorem zku(a1 a2 a3 b1 b2 b3 c1 c2 c3:K):W1 (kV a1 a2 a3) (kV b1 b2 b3) (kV c1 c2 c3)=kN (a1*(b2*c3-b3*c2)+a2*(b3*c1-b1*c3)+a3*(b1*c2-b2*c1)):=by
 unfold W1
 rw[zcM,zcF]
theorem zmf(x:K):x-x=0:=(show ∀ρ:Nat→K,ρ 0-ρ 0=0 from fun ρ=>CR.ring ρ rfl) (CR.vr [x])
end Go.Fw
open Go
namespace Go.Fw
set_option maxRecDepth 100000
noncomputable def kv(v:V3):VN:=kV v.x v.y v.z
noncomputable def z36(i:Int):V3:=⟨K.ofInt 1,z6Q i,zaF i⟩
theorem z7T(i:Int):X8 i=kv (z36 i):=by unfold X8 kv z36 kV;rw[zft]
theorem zaA(v w:V3):z0t (kv v) (kv w)=kv (v.add w):=zia _ _ _ _ _ _
theorem z4R(v:V3)(k:K):J8 (kv v) (kN k)=kv (v.scale k):=zdt _ _ _ _
def z7o(a b c:V3):K:=a.x*(b.y*c.z-b.z*c.y)+a.y*(b.z*c.x-b.x*c.z)+a.z*(b.x*c.y-b.y*c.x)
theorem z4A(a b c:V3):W1 (kv a) (kv b) (kv c)=kN (z7o a b c):=zku _ _ _ _ _ _ _ _ _
def sz3(v:V3)(n:Nat):Prop:=v.x.sz≤n∧v.y.sz≤n∧v.z.sz≤n
theorem z0J{v:V3}{n m:Nat}(h:sz3 v n)(hm:n≤m):sz3 v m:=⟨Nat.le_trans h.1 hm,Nat.le_trans h.2.1 hm,Nat.le_trans h.2.2 hm⟩
theorem zd0{v:V3}{n:Nat}(h:sz3 v n):(kv v).raw n=true:=z07.2 ⟨z5b h.1,z5b h.2.1,z5b h.2.2⟩
theorem z6P{v w:V3}{a b:Nat}(hv:sz3 v a)(hw:sz3 w b):sz3 (v.add w) (a+b+1):=by
 obtain⟨x,y,z⟩:=hv
 obtain⟨x',y',z'⟩:=hw
 have h1:=K.sz_add v.x w.x
 have h2:=K.sz_add v.y w.y
 have h3:=K.sz_add v.z w.z
 exact⟨Nat.le_trans h1 (by omega),Nat.le_trans h2 (by omega),Nat.le_trans h3 (by omega)⟩
theorem z3P{v:V3}{k:K}{a b:Nat}(hv:sz3 v a)(hk:k.sz≤b):sz3 (v.scale k) (a+b+1):=by
 obtain⟨x,y,z⟩:=hv
 have h1:=K.sz_mul v.x k
 have h2:=K.sz_mul v.y k
 have h3:=K.sz_mul v.z k
 exact⟨Nat.le_trans h1 (by omega),Nat.le_trans h2 (by omega),Nat.le_trans h3 (by omega)⟩
theorem zoS:(K.ofInt 1).sz≤1:=of_decide_eq_true (by kernel_rfl)
theorem z5B(i:Int):sz3 (z36 i) 1:=⟨zoS,zgF i,zh7 i⟩
theorem z7L{a b c:V3}{n:Nat}(ha:sz3 a n)(hb:sz3 b n)(hc:sz3 c n):(z7o a b c).sz≤15*n+14:=by
 obtain⟨a1,a2,a3⟩:=ha
 obtain⟨b1,b2,b3⟩:=hb
 obtain⟨c1,c2,c3⟩:=hc
 have min: ∀{p q r s:K},p.sz≤n→q.sz≤n→r.sz≤n→s.sz≤n→(p*q-r*s).sz≤4*n+3:=fun {p q r s} h1 h2 h3 h4=>by
  have m1:=K.sz_mul p q
  have m2:=K.sz_mul r s
  have m3:=K.sz_sub (p*q) (r*s)
  omega
 have t: ∀{p q:K},p.sz≤n→q.sz≤4*n+3→(p*q).sz≤5*n+4:=fun {p q} h1 h2=>by
  have m1:=K.sz_mul p q
  omega
 have t1:=t a1 (min b2 c3 b3 c2)
 have t2:=t a2 (min b3 c1 b1 c3)
 have t3:=t a3 (min b1 c2 b2 c1)
 unfold z7o
 have s1:=K.sz_add (a.x*(b.y*c.z-b.z*c.y)) (a.y*(b.z*c.x-b.x*c.z))
 have s2:=K.sz_add (a.x*(b.y*c.z-b.z*c.y)+a.y*(b.z*c.x-b.x*c.z)) (a.z*(b.x*c.y-b.y*c.x))
 omega
structure S4 where
 a:V3
 b:V3
 c:V3
 d:V3
noncomputable def S4.step(s:S4)(x:Int×Int):S4:=⟨s.a.add ((z36 x.1).scale (z36 x.1).x),s.b.add ((z36 x.1).scale (z36 x.1).y),s.c.add ((z36 x.1).scale (z36 x.1).z),s.d.add ((z36 x.1).scale (K.ofInt x.2))⟩
def S4.zero:S4:=⟨⟨0,0,0⟩,⟨0,0,0⟩,⟨0,0,0⟩,⟨0,0,0⟩⟩
noncomputable def z0g(l:List (Int×Int)):S4:=l.foldl S4.step .zero
theorem z83{l:List (Int×Int)}{k:Nat}(hk:k<l.length):z0g (l.take (k+1))=(z0g (l.take k)).step l[k]:=by
 unfold z0g
 rw[List.take_add_one,List.getElem?_eq_getElem hk,List.foldl_append]
 rfl
theorem z95{l:List (Int×Int)}(h:z5Y l=true): ∀k,k≤l.length→(sz3 (z0g (l.take k)).a (4*k+1)∧sz3 (z0g (l.take k)).b (4*k+1)∧sz3 (z0g (l.take k)).c (4*k+1))∧sz3 (z0g (l.take k)).d (5*k+1)
 |0,_=>by
  have z:(0:K).sz≤1:=of_decide_eq_true (by kernel_rfl)
  exact⟨⟨⟨z,z,z⟩,⟨z,z,z⟩,⟨z,z,z⟩⟩,⟨z,z,z⟩⟩
 |k+1,hk=>by
  obtain⟨⟨h1,h2,h3⟩,h4⟩:=z95 h k (by omega)
  have hb:=(z7R h).2 k (by omega)
  obtain⟨r1,r2,r3⟩:=z5B l[k].1
  rw[z83 (by omega)]
  exact⟨⟨z0J (z6P h1 (z3P (z5B _) r1)) (by omega),z0J (z6P h2 (z3P (z5B _) r2)) (by omega),z0J (z6P h3 (z3P (z5B _) r3)) (by omega)⟩,
   z0J (z6P h4 (z3P (z5B _) (z87 hb))) (by omega)⟩
theorem znR(v:V3)(i:Int):z0t (kv v) (J8 (X8 i) (X8 i).x)=kv (v.add ((z36 i).scale (z36 i).x)):=by
 rw[z7T,←zaA,←z4R];rfl
theorem znT(v:V3)(i:Int):z0t (kv v) (J8 (X8 i) (X8 i).y)=kv (v.add ((z36 i).scale (z36 i).y)):=by
 rw[z7T,←zaA,←z4R];rfl
theorem zmz(v:V3)(i:Int):z0t (kv v) (J8 (X8 i) (X8 i).z)=kv (v.add ((z36 i).scale (z36 i).z)):=by
 rw[z7T,←zaA,←z4R];rfl
theorem zlO(v:V3)(i o:Int):z0t (kv v) (J8 (X8 i) (oN o))=kv (v.add ((z36 i).scale (K.ofInt o))):=by
 rw[z7T,←zaA,←z4R,zft]
theorem z55{x y:List CV}:BlksCv [some (own x),some (own y)]:=by
 intro b hb
 simp only[List.mem_cons,List.not_mem_nil,or_false]at hb
 rcases hb with rfl|rfl<;>(intro cells hc;cases hc;exact CvL.map_cv _)
end Go.Fw
open Go IntKind
namespace Go.Fw
set_option maxRecDepth 100000
theorem zol(l:List (Int×Int))(g:z5Y l=true)(s3_0:l.length<2^30)(s6_0 s6_1 s6_2:(-9223372036854775808:Int)≤0∧(0:Int)≤9223372036854775807){R:CV→Prop}(hR:Ok P 60 (loopHead P 60 0) ⟨J3 96 [(2,.ptr 0 0),(5,.ptr (0+1) 0),(6,.ptr (0+1+1) 0),(7,.cv (CV.lit (Value.func (Fn.func 140) {toList:=[]} {toList:=[]}))),(27,.cv (.lst l.length (flat rdL l))),(28,.cv (.lit (.int .i64 (↑l.length:Int)))),(29,.cv (.lit (.int .i64 0)))],[some (vnM (VN.zero)),some (v3M (oV (0:Int) (0:Int) (0:Int)) (oV (0:Int) (0:Int) (0:Int)) (oV (0:Int) (0:Int) (0:Int))),some (vnM (oV (0:Int) (0:Int) (0:Int)))]⟩ (.of R)):W6 P 60 [rdV l] R:=
 Y4 (keep:=[2,5,6,7,27,28,29]) (σ:=[0,4,5]) (.r 3 ((z5E (l) s3_0).eqB g) (.r 6 (zpj ((0:Int)) ((0:Int)) ((0:Int)) s6_0 s6_1 s6_2) (.c (lq 30 30) (.c (lq 90 90) (.c (lq 30 30) (.o 22 .stop .nil)))))) (by kernel_rfl) rfl hR (.cons (CvL.map_cv _) (.cons (CvL.map_cv _) (.cons (CvL.map_cv _) .nil)))
theorem ziQ(l:List (Int×Int))(g:z5Y l=false)(s3_0:l.length<2^30):PCall P 60 [rdV l] (.tup [z47,.lit (.int .i64 1)]):=
 j5 (.r 3 ((z5E (l) s3_0).eqB g) (.c (lq 30 30) .nil)) (by kernel_rfl)
theorem zhG(l:List (Int×Int))(a b c d:VN)(k mi mo:Int)(h:decide (k<(↑l.length:Int))=true)(s17_0:VN.raw 1000000 a=true)(s17_1:VN.raw 100000 (X8 mi)=true)(s17_2:RN.raw 100000 (X8 mi).x=true)(s23_0:VN.raw 1000000 b=true)(s23_1:VN.raw 100000 (X8 mi)=true)(s23_2:RN.raw 100000 (X8 mi).y=true)(s29_0:VN.raw 1000000 c=true)(s29_1:VN.raw 100000 (X8 mi)=true)(s29_2:RN.raw 100000 (X8 mi).z=true)(s34_0:(-9223372036854775808:Int)≤mo∧mo≤9223372036854775807)(s35_0:VN.raw 1000000 d=true)(s35_1:VN.raw 100000 (X8 mi)=true)(s35_2:RN.raw 100000 (oN mo)=true)(o1:(0:Int)≤k∧k<(↑l.length:Int))(o2:List.take 2 (List.drop (k.toNat*2) (flat rdL l))=[.lit (.int .i64 mi),.lit (.int .i64 mo)])(o9:BlksCv [some (v3M a b c),some (v3M (z0t a (J8 (X8 mi) (X8 mi).x)) b c)])(o12:BlksCv [some (v3M (z0t a (J8 (X8 mi) (X8 mi).x)) b c),some (v3M (z0t a (J8 (X8 mi) (X8 mi).x)) (z0t b (J8 (X8 mi) (X8 mi).y)) c)])(o15:BlksCv [some (v3M (z0t a (J8 (X8 mi) (X8 mi).x)) (z0t b (J8 (X8 mi) (X8 mi).y)) c),some (v3M (z0t a (J8 (X8 mi) (X8 mi).x)) (z0t b (J8 (X8 mi) (X8 mi).y)) (z0t c (J8 (X8 mi) (X8 mi).z)))])(o18:BlksCv [some (vnM d),some (vnM (z0t d (J8 (X8 mi) (oN mo))))]){R:Goal}(hn:J0 R.n [0,1,2]=true)(hR:Ok P 60 (loopHead P 60 0) ⟨J3 96 [(2,.ptr 0 0),(5,.ptr (0+1) 0),(6,.ptr (0+1+1) 0),(7,.cv (CV.lit (Value.func (Fn.func 140) {toList:=[]} {toList:=[]}))),(27,.cv (.lst l.length (flat rdL l))),(28,.cv (.lit (.int .i64 (↑l.length:Int)))),(29,.cv (.lit (.int .i64 (i64.wrap (k+1)))))],[some (vnM (VN.zero)),some (v3M (z0t a (J8 (X8 mi) (X8 mi).x)) (z0t b (J8 (X8 mi) (X8 mi).y)) (z0t c (J8 (X8 mi) (X8 mi).z))),some (vnM (z0t d (J8 (X8 mi) (oN mo))))]⟩ R):Ok P 60 (loopHead P 60 0) ⟨J3 96 [(2,.ptr 0 0),(5,.ptr 1 0),(6,.ptr 2 0),(7,.cv (CV.lit (Value.func (Fn.func 140) #[] #[]))),(27,.cv (rdV l)),(28,.cv (j6 (↑l.length:Int))),(29,.cv (j6 k))],[some (vnM VN.zero),some (v3M a b c),some (vnM d)]⟩ R:=
 z0D (keep:=[2,5,6,7,27,28,29]) (σ:=[0,1,2]) (.b 2 h (.c o1 (.c o2 (.c (eqn 2) (.c (lq 2 2) (.c (zee (mi)) (.c (lq 30 30) (.c (bq 0 3) (.c (zoG (a) (b) (c) (X8 mi) ((X8 mi).x) s17_0 s17_1 s17_2) (.c o9 (.c (bq 1 3) (.c (zmM (z0t a (J8 (X8 mi) (X8 mi).x)) (b) (c) (X8 mi) ((X8 mi).y) s23_0 s23_1 s23_2) (.c o12 (.c (bq 2 3) (.c (zlr (z0t a (J8 (X8 mi) (X8 mi).x)) (z0t b (J8 (X8 mi) (X8 mi).y)) (c) (X8 mi) ((X8 mi).z) s29_0 s29_1 s29_2) (.c o15 (.c (zbX (mo) s34_0) (.c (zli (d) (X8 mi) (oN mo) s35_0 s35_1 s35_2) (.c o18 (.o 4 (.r (.agg [.lit (.int .i64 mi),.lit (.int .i64 mo)])) (.o 9 (.r (z5D (X8 mi).x (X8 mi).y (X8 mi).z)) (.o 17 (.m [1] (.tup []) [some (v3M (z0t a (J8 (X8 mi) (X8 mi).x)) b c)]) (.o 23 (.m [1] (.tup []) [some (v3M (z0t a (J8 (X8 mi) (X8 mi).x)) (z0t b (J8 (X8 mi) (X8 mi).y)) c)]) (.o 29 (.m [1] (.tup []) [some (v3M (z0t a (J8 (X8 mi) (X8 mi).x)) (z0t b (J8 (X8 mi) (X8 mi).y)) (z0t c (J8 (X8 mi) (X8 mi).z)))]) (.o 34 (.r (RN.c (oN mo))) (.o 35 (.m [2] (.tup []) [some (vnM (z0t d (J8 (X8 mi) (oN mo))))]) (.o 38 .stop .nil))))))))))))))))))))))))))) (by kernel_rfl) rfl hn hR (.cons (CvL.map_cv _) (.cons (CvL.map_cv _) (.cons (CvL.map_cv _) .nil)))
end Go.Fw
