/- A part of the proof that the law returns true for every input: an executor for the model's code, and what functions of the program compute. -/
import Derived.Test.YtcafjpldfnegiaaGreatDoorB11
import Derived.Test.YtcafjpldfnegiaaGreatDoorB15
import Derived.Test.YtcafjpldfnegiaaGreatDoorB35
import Derived.Test.YtcafjpldfnegiaaGreatDoorB40
import Derived.Test.YtcafjpldfnegiaaGreatDoorB41
import Derived.Test.YtcafjpldfnegiaaGreatDoorB42
import Derived.Test.YtcafjpldfnegiaaGreatDoorB43
import Derived.KernelRfl
open Go
namespace Go.Fw
set_option maxRecDepth 100000
theorem z3X{P:Program}{f:FuncId}{args:List CV}{c:CV}(h:PCall P f args (.tup [.lit (.slice none 0 0),c])):PCall P f args (.tup [.lst 0 [],c]):=by
 intro Im w vs him hrep
 refine(h Im w vs him hrep).mono ?_
 rintro e w' ⟨y,v,Im',rfl,rfl,hv,h1,h2,h3,h4⟩
 refine⟨y,_,Im',rfl,rfl,?_,h1,h2,h3,h4⟩
 unfold CV.rep at hv ⊢
 obtain⟨ys,h5,h6⟩:=hv
 refine⟨ys,h5,?_⟩
 unfold CV.repL at h6 ⊢
 obtain⟨y0,ys0,h7,h8,h9⟩:=h6
 refine⟨y0,ys0,h7,?_,h9⟩
 unfold CV.rep at h8 ⊢
 exact⟨none,0,h8,Nat.le_refl _,.inl ⟨rfl,rfl⟩⟩
noncomputable def z5Y(m:VN)(x:Int×Int):RN:=zae (oN x.2) (z4M m (W8 x.1))
noncomputable def zcN(l:List (Int×Int))(m:VN):List RN×Int:=if z5W l&&m.ok then(l.map (z5Y m),0)else([],1)
theorem z67{l:List (Int×Int)}(h:z5W l=true):l.length≤48∧ ∀k (hk:k<l.length),-10000≤l[k].2∧l[k].2≤10000:=by
 unfold z5W at h
 simp only[Bool.and_eq_true,decide_eq_true_eq,List.all_eq_true]at h
 exact⟨h.1,fun k hk=>h.2 _ (List.getElem_mem hk)⟩
theorem z7Z{n:Int}(h: -10000≤n∧n≤10000):(K.ofInt n).sz≤2:=K.sz_int n (by decide) (by omega)
theorem zeg(m:VN)(l:List (Int×Int)):flat RN.l (l.map (z5Y m))=flat (fun x=>(z5Y m x).l) l:=by
 induction l with
 |nil=>rfl
 |cons x l ih=>rw[List.map_cons,z1E,z1E,ih]
theorem zgZ(a b:List CV):CvL (own a++own b):=by rw[show own a++own b=own (a++b)from(zcF a b).symm];exact CvL.map_cv _
theorem zlI(l:List (Int×Int))(m:VN)(g:z5W l=true)(g2:m.ok=true)(hm:m.raw 10000=true):PCall P 62 [rdV l,m.c] (.tup [nmV (l.map (z5Y m)),j6 0]):=by
 have h6:=VN.raw_mono hm (show 10000≤1000000 by decide)
 obtain⟨hl,hb⟩:=z67 g
 have hr: ∀i,(W8 i).raw 10000=true:=fun i=>VN.raw_mono (z6C i) (by decide)
 have hd: ∀i,(z4M m (W8 i)).raw 1000000=true:=fun i=>RN.raw_mono (zdb hm (hr i)) (by decide)
 cases l with
 |nil=>
  refine z3X (zgv [] m g g2 (by decide) h6 (R := (· = _)) (zhu [] m 0 0 0 rfl rfl))
 |cons x t=>
  generalize hx:x::t=l at*
  have hne:l≠[]:=by rw[←hx];exact List.cons_ne_nil _ _
  refine zgv l m g g2 (by omega) h6 (R := (· = _)) ?_
  refine z9I (s:=10) l (fun x=>(z5Y m x).l) (fun _=>rfl) (fun k o=>Ok P 62 (loopHead P 62 0) (match o with
   |none=>⟨J2 37 [(3,.ptr 0 0),(6,.cv (.lit (.slice none 0 0))),(17,.cv (rdV l)),(18,.cv (j6 l.length)),(19,.cv (j6 k))],[some (vnM m)]⟩
   | some (c, out) => ⟨J2 37 [(3, .ptr 0 0), (6, .sl 1 0 c 10), (17, .cv (rdV l)), (18, .cv (j6 l.length)), (19, .cv (j6 k))], [some (vnM m), some (own out)]⟩) (.of (· = .tup [nmV (l.map (z5Y m)), j6 0]))) ?_ ?_ hne ?_
  · intro k hk h
    have b:=hb k hk
    refine zh7 l m k l[k].1 l[k].2 (decide_eq_true (by omega)) (by omega) hm (hr _) (za9 (Nat.le_trans (z7Z b) (by decide))) (hd _) (by omega) (z0W z15 hk) rfl ?_
    rw[w64 (by omega)]
    exact h
  · intro k hk c out hc ho h
    have b:=hb k hk
    refine zjc l m k l[k].1 l[k].2 c out (decide_eq_true (by omega)) (by omega) hm (hr _) (za9 (Nat.le_trans (z7Z b) (by decide))) (hd _) (by omega) (z0W z15 hk) (by omega) (by omega) (by simp[own,ho]) ?_ ?_ rfl ?_
    · simp[zbb,MV.one,own,RN.l]
    · exact zgZ _ _
    · rw[w64 (by omega),show ∀a b:List CV,own a++own b=own (a++b)from fun a b=>(zcF a b).symm]
      exact h
  · refine zit l m l.length 0 0 l.length (flat (fun x=>(z5Y m x).l) l) (decide_eq_false (by omega)) ?_ ?_
    · rw[List.drop_zero,List.take_of_length_le (by simp[own,z22 (f:=fun x=>(z5Y m x).l) (s:=10) (fun _=>rfl)])];rfl
    · show CV.tup _=CV.tup _
      unfold nmV
      rw[zeg,List.length_map]
theorem zl6(l:List (Int×Int))(m:VN)(hl:l.length<2^30)(hm:m.raw 10000=true):PCall P 62 [rdV l,m.c] (.tup [nmV (zcN l m).1,j6 (zcN l m).2]):=by
 unfold zcN
 cases g:z5W l
 · exact z3X (zgD l m g hl)
 cases g2:m.ok
 · exact z3X (zhr l m g g2 hl (VN.raw_mono hm (by decide)))
 · exact zlI l m g g2 hm
end Go.Fw
open Go IntKind
namespace Go.Fw
set_option maxRecDepth 100000
theorem znd(u v w:VN)(s10_0:VN.raw 1000 u=true)(s10_1:VN.raw 1000 v=true)(s10_2:VN.raw 1000 w=true):PCall P 145 [.lst 3 (vnL u++(vnL v++vnL w))] (RN.c (Y9 u v w)):=
 j5 (.c (bq 0 3) (.c (bq 1 3) (.c (bq 2 3) (.r 10 (zmy (u) (v) (w) s10_0 s10_1 s10_2) (.c (lq 10 10) .nil))))) (by kernel_rfl)
end Go.Fw
open Go
namespace Go.Fw
set_option maxRecDepth 100000
theorem zeX{x y:RN}{a b:Nat}(hx:x.raw a=true)(hy:y.raw b=true):(zae x y).raw (a+b+1)=true:=by
 have h1:=z32 hx
 have h2:=z32 hy
 have h3:=zjI (toO x) (toO y)
 exact z2z (by omega)
theorem zcz{v w:VN}{n m:Nat}(hv:v.raw n=true)(hw:w.raw m=true):(z4M v w).raw (3*(n+m+1)+2)=true:=by
 refine z2z ?_
 cases ev:toV v with
 |none=>exact Nat.zero_le _
 |some a=>
  cases ew:toV w with
  |none=>exact Nat.zero_le _
  |some b=>
   obtain⟨x,y,z⟩:=z0Q ev hv
   obtain⟨x',y',z'⟩:=z0Q ew hw
   have m1:=K.sz_mul a.x b.x
   have m2:=K.sz_mul a.y b.y
   have m3:=K.sz_mul a.z b.z
   have m4:=K.sz_add (a.x*b.x) (a.y*b.y)
   have m5:=K.sz_add (a.x*b.x+a.y*b.y) (a.z*b.z)
   show(a.x*b.x+a.y*b.y+a.z*b.z).sz≤_
   omega
theorem zgL{m:VN}{n:Nat}(hm:m.raw n=true){x:Int×Int}(hx: -10000≤x.2∧x.2≤10000):(z5Y m x).raw (3*n+11)=true:=
 RN.raw_mono (zeX (za9 (z7Z hx)) (zcz hm (z6C x.1))) (by omega)
end Go.Fw
open Go
namespace Go.Fw
set_option maxRecDepth 100000
def v3L(a b c:VN):List CV:=vnL a++(vnL b++vnL c)
def v3M(a b c:VN):List MV:=own (v3L a b c)
end Go.Fw
open Go IntKind
namespace Go.Fw
set_option maxRecDepth 100000
theorem zlk(a b c v:VN)(k:RN)(s8_0:VN.raw 1000000 v=true)(s8_1:RN.raw 1000000 k=true)(s9_0:VN.raw 1000000 a=true)(s9_1:VN.raw 1000000 (J6 v k)=true)(o4:BlksCv (List.take 1 [some (v3M (z0h a (J6 v k)) b c),some (vnM v),some (own (RN.l k)),none,none])):z20 P 140 [some (v3M a b c)] [.ptr 0 0,.agg (vnM v),.agg (own k.l)] (.tup []) (List.take 1 [some (v3M (z0h a (J6 v k)) b c),some (vnM v),some (own (RN.l k)),none,none]):=
 z9K (ors:=[(8,.r (z4B (J6 v k).x (J6 v k).y (J6 v k).z)),(9,.r (z4B (z0h a (J6 v k)).x (z0h a (J6 v k)).y (z0h a (J6 v k)).z)),(12,.a)]) (by kernel_rfl) (.cons (z4U (v) (k) s8_0 s8_1) (.cons (z9A (a) (J6 v k) s9_0 s9_1) (.cons (lq 30 90) (.cons (lq 1 5) (.cons o4 .nil)))))
theorem zmf(a b c v:VN)(k:RN)(s8_0:VN.raw 1000000 v=true)(s8_1:RN.raw 1000000 k=true)(s9_0:VN.raw 1000000 b=true)(s9_1:VN.raw 1000000 (J6 v k)=true)(o4:BlksCv (List.take 1 [some (v3M a (z0h b (J6 v k)) c),some (vnM v),some (own (RN.l k)),none,none])):z20 P 140 [some (v3M a b c)] [.ptr 0 30,.agg (vnM v),.agg (own k.l)] (.tup []) (List.take 1 [some (v3M a (z0h b (J6 v k)) c),some (vnM v),some (own (RN.l k)),none,none]):=
 z9K (ors:=[(8,.r (z4B (J6 v k).x (J6 v k).y (J6 v k).z)),(9,.r (z4B (z0h b (J6 v k)).x (z0h b (J6 v k)).y (z0h b (J6 v k)).z)),(12,.a)]) (by kernel_rfl) (.cons (z4U (v) (k) s8_0 s8_1) (.cons (z9A (b) (J6 v k) s9_0 s9_1) (.cons (lq 60 90) (.cons (lq 1 5) (.cons o4 .nil)))))
theorem znv(a b c v:VN)(k:RN)(s8_0:VN.raw 1000000 v=true)(s8_1:RN.raw 1000000 k=true)(s9_0:VN.raw 1000000 c=true)(s9_1:VN.raw 1000000 (J6 v k)=true)(o4:BlksCv (List.take 1 [some (v3M a b (z0h c (J6 v k))),some (vnM v),some (own (RN.l k)),none,none])):z20 P 140 [some (v3M a b c)] [.ptr 0 60,.agg (vnM v),.agg (own k.l)] (.tup []) (List.take 1 [some (v3M a b (z0h c (J6 v k))),some (vnM v),some (own (RN.l k)),none,none]):=
 z9K (ors:=[(8,.r (z4B (J6 v k).x (J6 v k).y (J6 v k).z)),(9,.r (z4B (z0h c (J6 v k)).x (z0h c (J6 v k)).y (z0h c (J6 v k)).z)),(12,.a)]) (by kernel_rfl) (.cons (z4U (v) (k) s8_0 s8_1) (.cons (z9A (c) (J6 v k) s9_0 s9_1) (.cons (lq 90 90) (.cons (lq 1 5) (.cons o4 .nil)))))
theorem zmd(a v:VN)(k:RN)(s8_0:VN.raw 1000000 v=true)(s8_1:RN.raw 1000000 k=true)(s9_0:VN.raw 1000000 a=true)(s9_1:VN.raw 1000000 (J6 v k)=true)(o4:BlksCv (List.take 1 [some (vnM (z0h a (J6 v k))),some (vnM v),some (own (RN.l k)),none,none])):z20 P 140 [some (vnM a)] [.ptr 0 0,.agg (vnM v),.cv k.c] (.tup []) (List.take 1 [some (vnM (z0h a (J6 v k))),some (vnM v),some (own (RN.l k)),none,none]):=
 z9K (ors:=[(8,.r (z4B (J6 v k).x (J6 v k).y (J6 v k).z)),(9,.r (z4B (z0h a (J6 v k)).x (z0h a (J6 v k)).y (z0h a (J6 v k)).z)),(12,.a)]) (by kernel_rfl) (.cons (z4U (v) (k) s8_0 s8_1) (.cons (z9A (a) (J6 v k) s9_0 s9_1) (.cons (lq 30 30) (.cons (lq 1 5) (.cons o4 .nil)))))
end Go.Fw
open Go
namespace Go.Fw
set_option maxRecDepth 100000
theorem z4J{x:List CV}{l:List Blk}:BlksCv (List.take 1 (some (own x)::l)):=by
 intro b hb
 simp only[List.take_succ_cons,List.take_zero,List.mem_singleton]at hb
 subst hb
 intro cells hc
 cases hc
 exact CvL.map_cv _
section
variable{n:Nat}{v:VN}{k:RN}
theorem zlU(a b c v:VN)(k:RN)(ha:a.raw 1000000=true)(hv:v.raw 100000=true)(hk:k.raw 100000=true):z20 P 140 [some (v3M a b c)] [.ptr 0 0,.agg (vnM v),.agg (own k.l)] (.tup []) [some (v3M (z0h a (J6 v k)) b c)]:=
 zlk a b c v k (VN.raw_mono hv (by decide)) (RN.raw_mono hk (by decide)) ha (VN.raw_mono (z2O hv hk) (by decide)) z4J
theorem znb(a b c v:VN)(k:RN)(ha:b.raw 1000000=true)(hv:v.raw 100000=true)(hk:k.raw 100000=true):z20 P 140 [some (v3M a b c)] [.ptr 0 30,.agg (vnM v),.agg (own k.l)] (.tup []) [some (v3M a (z0h b (J6 v k)) c)]:=
 zmf a b c v k (VN.raw_mono hv (by decide)) (RN.raw_mono hk (by decide)) ha (VN.raw_mono (z2O hv hk) (by decide)) z4J
theorem znx(a b c v:VN)(k:RN)(ha:c.raw 1000000=true)(hv:v.raw 100000=true)(hk:k.raw 100000=true):z20 P 140 [some (v3M a b c)] [.ptr 0 60,.agg (vnM v),.agg (own k.l)] (.tup []) [some (v3M a b (z0h c (J6 v k)))]:=
 znv a b c v k (VN.raw_mono hv (by decide)) (RN.raw_mono hk (by decide)) ha (VN.raw_mono (z2O hv hk) (by decide)) z4J
theorem zkU(a v:VN)(k:RN)(ha:a.raw 1000000=true)(hv:v.raw 100000=true)(hk:k.raw 100000=true):z20 P 140 [some (vnM a)] [.ptr 0 0,.agg (vnM v),.cv k.c] (.tup []) [some (vnM (z0h a (J6 v k)))]:=
 zmd a v k (VN.raw_mono hv (by decide)) (RN.raw_mono hk (by decide)) ha (VN.raw_mono (z2O hv hk) (by decide)) z4J
end
end Go.Fw
open Go
namespace Go.Fw
set_option maxRecDepth 100000
theorem zco(u v w:VN)(hu:u.raw 1000=true)(hv:v.raw 1000=true)(hw:w.raw 1000=true):PCall P 145 [.lst 3 (v3L u v w)] (Y9 u v w).c:=znd u v w hu hv hw
end Go.Fw
open Go IntKind
namespace Go.Fw
set_option maxRecDepth 100000
theorem zkJ(l:List (Int×Int))(a b c d:VN)(k:Int)(h:decide (k<(↑l.length:Int))=false)(hs:(ze6 (Y9 a b c)==0)=true)(s4_0:VN.raw 1000 a=true)(s4_1:VN.raw 1000 b=true)(s4_2:VN.raw 1000 c=true)(s8_0:RN.raw 1000000 (Y9 a b c)=true)(o3:(v3M a b c)=(v3M a b c)){R:Goal}(hR:R.c (.tup [z1t,.lit (.int .i64 20)])):Ok P 60 (loopHead P 60 0) ⟨J2 96 [(2,.ptr 0 0),(5,.ptr 1 0),(6,.ptr 2 0),(7,.cv (CV.lit (Value.func (Fn.func 140) #[] #[]))),(27,.cv (rdV l)),(28,.cv (j6 (↑l.length:Int))),(29,.cv (j6 k))],[some (vnM VN.zero),some (v3M a b c),some (vnM d)]⟩ R:=
 okT (.b 2 h (.c (lq 90 90) (.c (zco (a) (b) (c) s4_0 s4_1 s4_2) (.c o3 (.c (lq 10 10) (.c (zcx (Y9 a b c) s8_0) (.o 4 (.k (RN.c (Y9 a b c)) [(v3L a b c)]) (.o 8 (.r (.lit (.int .i64 (ze6 (Y9 a b c))))) (.b 10 hs (.c (lq 30 30) .nil)))))))))) (by kernel_rfl) hR
theorem zlR(l:List (Int×Int))(a b c d:VN)(k:Int)(h:decide (k<(↑l.length:Int))=false)(hs:(ze6 (Y9 a b c)==0)=false)(e1:((z1I (Y9 d b c) (Y9 a b c)).snd != 0)=false)(e2:((z1I (Y9 a d c) (Y9 a b c)).snd != 0)=false)(e3:((z1I (Y9 a b d) (Y9 a b c)).snd != 0)=false)(s4_0:VN.raw 1000 a=true)(s4_1:VN.raw 1000 b=true)(s4_2:VN.raw 1000 c=true)(s8_0:RN.raw 1000000 (Y9 a b c)=true)(s26_0:VN.raw 1000 d=true)(s26_1:VN.raw 1000 b=true)(s26_2:VN.raw 1000 c=true)(s28_0:RN.raw 1000000 (Y9 d b c)=true)(s28_1:RN.raw 1000000 (Y9 a b c)=true)(s57_0:VN.raw 1000 a=true)(s57_1:VN.raw 1000 d=true)(s57_2:VN.raw 1000 c=true)(s59_0:RN.raw 1000000 (Y9 a d c)=true)(s59_1:RN.raw 1000000 (Y9 a b c)=true)(s88_0:VN.raw 1000 a=true)(s88_1:VN.raw 1000 b=true)(s88_2:VN.raw 1000 d=true)(s90_0:RN.raw 1000000 (Y9 a b d)=true)(s90_1:RN.raw 1000000 (Y9 a b c)=true)(o3:(v3M a b c)=(v3M a b c))(o12:(v3M d b c)=(v3M d b c))(o23:(v3M a d c)=(v3M a d c))(o34:(v3M a b d)=(v3M a b d)){R:Goal}(hR:R.c (.tup [z4B (z1I (Y9 d b c) (Y9 a b c)).fst (z1I (Y9 a d c) (Y9 a b c)).fst (z1I (Y9 a b d) (Y9 a b c)).fst,.lit (.int .i64 0)])):Ok P 60 (loopHead P 60 0) ⟨J2 96 [(2,.ptr 0 0),(5,.ptr 1 0),(6,.ptr 2 0),(7,.cv (CV.lit (Value.func (Fn.func 140) #[] #[]))),(27,.cv (rdV l)),(28,.cv (j6 (↑l.length:Int))),(29,.cv (j6 k))],[some (vnM VN.zero),some (v3M a b c),some (vnM d)]⟩ R:=
 okT (.c h (.c (lq 90 90) (.c (zco (a) (b) (c) s4_0 s4_1 s4_2) (.c o3 (.c (lq 10 10) (.c (zcx (Y9 a b c) s8_0) (.c hs (.c (lq 90 90) (.c (bq 0 3) (.c (lq 30 90) (.c (lq 90 90) (.c (zco (d) (b) (c) s26_0 s26_1 s26_2) (.c o12 (.c (zcb (Y9 d b c) (Y9 a b c) s28_0 s28_1) (.c (lq 10 10) (.c e1 (.c (bq 0 3) (.c (lq 10 30) (.c (lq 90 90) (.c (bq 1 3) (.c (lq 60 90) (.c (lq 90 90) (.c (zco (a) (d) (c) s57_0 s57_1 s57_2) (.c o23 (.c (zcb (Y9 a d c) (Y9 a b c) s59_0 s59_1) (.c (lq 10 10) (.c e2 (.c (bq 1 3) (.c (lq 20 30) (.c (lq 90 90) (.c (bq 2 3) (.c (lq 90 90) (.c (lq 90 90) (.c (zco (a) (b) (d) s88_0 s88_1 s88_2) (.c o34 (.c (zcb (Y9 a b d) (Y9 a b c) s90_0 s90_1) (.c (lq 10 10) (.c e3 (.c (bq 2 3) (.c (lq 30 30) (.c (bq 0 3) (.c (bq 1 3) (.c (bq 2 3) (.c (lq 30 30) (.o 2 (.b false) (.o 4 (.k (RN.c (Y9 a b c)) [(v3L a b c)]) (.o 8 (.r (.lit (.int .i64 (ze6 (Y9 a b c))))) (.o 10 (.b false) (.o 26 (.k (RN.c (Y9 d b c)) [(v3L d b c)]) (.o 28 (.r (.tup [RN.c (z1I (Y9 d b c) (Y9 a b c)).fst,.lit (.int .i64 (z1I (Y9 d b c) (Y9 a b c)).2)])) (.o 37 (.b false) (.o 57 (.k (RN.c (Y9 a d c)) [(v3L a d c)]) (.o 59 (.r (.tup [RN.c (z1I (Y9 a d c) (Y9 a b c)).fst,.lit (.int .i64 (z1I (Y9 a d c) (Y9 a b c)).2)])) (.o 68 (.b false) (.o 88 (.k (RN.c (Y9 a b d)) [(v3L a b d)]) (.o 90 (.r (.tup [RN.c (z1I (Y9 a b d) (Y9 a b c)).fst,.lit (.int .i64 (z1I (Y9 a b d) (Y9 a b c)).2)])) (.o 99 (.b false) .nil))))))))))))))))))))))))))))))))))))))))))))))))))))))))) (by kernel_rfl) hR
end Go.Fw
open Go
namespace Go.Fw
set_option maxRecDepth 100000
theorem oV_0:oV 0 0 0=kV 0 0 0:=by
 have e: ∀v:VN,v=⟨v.x,v.y,v.z⟩:=fun _=>rfl
 rw[e (oV 0 0 0),zp5,zp3,zp7,zgz];rfl
end Go.Fw
open Go
namespace Go.Fw
set_option maxRecDepth 100000
theorem z8X{x k:K}(hk:K.sgn k=1):K.sgn (x*k)=K.sgn x:=by rw[K.sgn_mul,hk,Int.mul_one]
theorem z81{x k:K}(h:x≠0)(hk:K.sgn k=1):x*k≠0:=fun e=>h (K.sgn_zero.1 (by rw[←z8X hk,e];exact K.sgn_zero.2 rfl))
end Go.Fw
open Go
namespace Go.Fw
set_option maxRecDepth 100000
theorem zds(a b c a' b' c':K):z3K (kV a b c) (kV a' b' c')=kV (b*c'-c*b') (c*a'-a*c') (a*b'-b*a'):=by
 unfold z3K kV
 rw[z9e,z9e,z1K,z1K,z1K];rfl
theorem zgP(a1 a2 a3 b1 b2 b3 c1 c2 c3:K):Y9 (kV a1 a2 a3) (kV b1 b2 b3) (kV c1 c2 c3)=kN (a1*(b2*c3-b3*c2)+a2*(b3*c1-b1*c3)+a3*(b1*c2-b2*c1)):=by
 unfold Y9
 rw[zds,zcv]
theorem znQ(x:K):x-x=0:=(show ∀ρ:Nat→K,ρ 0-ρ 0=0 from fun ρ=>CR.ring ρ rfl) (CR.vr [x])
end Go.Fw
open Go
namespace Go.Fw
set_option maxRecDepth 100000
noncomputable def kv(v:V3):VN:=kV v.x v.y v.z
noncomputable def z5o(i:Int):V3:=⟨K.ofInt 1,z4D i,z7B i⟩
theorem z5f(i:Int):W8 i=kv (z5o i):=by unfold W8 kv z5o kV;rw[zgz]
theorem z8s(v w:V3):z0h (kv v) (kv w)=kv (v.add w):=zja _ _ _ _ _ _
theorem z2B(v:V3)(k:K):J6 (kv v) (kN k)=kv (v.scale k):=zbf _ _ _ _
def z7u(a b c:V3):K:=a.x*(b.y*c.z-b.z*c.y)+a.y*(b.z*c.x-b.x*c.z)+a.z*(b.x*c.y-b.y*c.x)
theorem z4x(a b c:V3):Y9 (kv a) (kv b) (kv c)=kN (z7u a b c):=zgP _ _ _ _ _ _ _ _ _
def sz3(v:V3)(n:Nat):Prop:=v.x.sz≤n∧v.y.sz≤n∧v.z.sz≤n
theorem z08{v:V3}{n m:Nat}(h:sz3 v n)(hm:n≤m):sz3 v m:=⟨Nat.le_trans h.1 hm,Nat.le_trans h.2.1 hm,Nat.le_trans h.2.2 hm⟩
theorem z6e{v:V3}{n:Nat}(h:sz3 v n):(kv v).raw n=true:=z0n.2 ⟨z4k h.1,z4k h.2.1,z4k h.2.2⟩
theorem z5q{v w:V3}{a b:Nat}(hv:sz3 v a)(hw:sz3 w b):sz3 (v.add w) (a+b+1):=by
 obtain⟨x,y,z⟩:=hv
 obtain⟨x',y',z'⟩:=hw
 have h1:=K.sz_add v.x w.x
 have h2:=K.sz_add v.y w.y
 have h3:=K.sz_add v.z w.z
 exact⟨Nat.le_trans h1 (by omega),Nat.le_trans h2 (by omega),Nat.le_trans h3 (by omega)⟩
theorem z1G{v:V3}{k:K}{a b:Nat}(hv:sz3 v a)(hk:k.sz≤b):sz3 (v.scale k) (a+b+1):=by
 obtain⟨x,y,z⟩:=hv
 have h1:=K.sz_mul v.x k
 have h2:=K.sz_mul v.y k
 have h3:=K.sz_mul v.z k
 exact⟨Nat.le_trans h1 (by omega),Nat.le_trans h2 (by omega),Nat.le_trans h3 (by omega)⟩
theorem zkO:(K.ofInt 1).sz≤1:=of_decide_eq_true (by kernel_rfl)
theorem z3g(i:Int):sz3 (z5o i) 1:=⟨zkO,zgn i,zgb i⟩
theorem z7R{a b c:V3}{n:Nat}(ha:sz3 a n)(hb:sz3 b n)(hc:sz3 c n):(z7u a b c).sz≤15*n+14:=by
 obtain⟨a1,a2,a3⟩:=ha
 obtain⟨b1,b2,b3⟩:=hb
 obtain⟨c1,c2,c3⟩:=hc
 have min: ∀{p q r s:K},p.sz≤n→q.sz≤n→r.sz≤n→s.sz≤n→(p*q-r*s).sz≤4*n+3:=fun {p q r s} h1 h2 h3 h4=>by
  have m1:=K.sz_mul p q
  have m2:=K.sz_mul r s
  have m3:=K.sz_sub (p*q) (r*s)
  omega
 have t: ∀{p q:K},p.sz≤n→q.sz≤4*n+3→(p*q).sz≤5*n+4:=fun {p q} h1 h2=>by
  have m1:=K.sz_mul p q
  omega
 have t1:=t a1 (min b2 c3 b3 c2)
 have t2:=t a2 (min b3 c1 b1 c3)
 have t3:=t a3 (min b1 c2 b2 c1)
 unfold z7u
 have s1:=K.sz_add (a.x*(b.y*c.z-b.z*c.y)) (a.y*(b.z*c.x-b.x*c.z))
 have s2:=K.sz_add (a.x*(b.y*c.z-b.z*c.y)+a.y*(b.z*c.x-b.x*c.z)) (a.z*(b.x*c.y-b.y*c.x))
 omega
structure S4 where
 a:V3
 b:V3
 c:V3
 d:V3
noncomputable def S4.step(s:S4)(x:Int×Int):S4:=⟨s.a.add ((z5o x.1).scale (z5o x.1).x),s.b.add ((z5o x.1).scale (z5o x.1).y),s.c.add ((z5o x.1).scale (z5o x.1).z),s.d.add ((z5o x.1).scale (K.ofInt x.2))⟩
def S4.zero:S4:=⟨⟨0,0,0⟩,⟨0,0,0⟩,⟨0,0,0⟩,⟨0,0,0⟩⟩
noncomputable def z0i(l:List (Int×Int)):S4:=l.foldl S4.step .zero
theorem z7F{l:List (Int×Int)}{k:Nat}(hk:k<l.length):z0i (l.take (k+1))=(z0i (l.take k)).step l[k]:=by
 unfold z0i
 rw[List.take_add_one,List.getElem?_eq_getElem hk,List.foldl_append]
 rfl
theorem z90{l:List (Int×Int)}(h:z5W l=true): ∀k,k≤l.length→(sz3 (z0i (l.take k)).a (4*k+1)∧sz3 (z0i (l.take k)).b (4*k+1)∧sz3 (z0i (l.take k)).c (4*k+1))∧sz3 (z0i (l.take k)).d (5*k+1)
 |0,_=>by
  have z:(0:K).sz≤1:=of_decide_eq_true (by kernel_rfl)
  exact⟨⟨⟨z,z,z⟩,⟨z,z,z⟩,⟨z,z,z⟩⟩,⟨z,z,z⟩⟩
 |k+1,hk=>by
  obtain⟨⟨h1,h2,h3⟩,h4⟩:=z90 h k (by omega)
  have hb:=(z67 h).2 k (by omega)
  obtain⟨r1,r2,r3⟩:=z3g l[k].1
  rw[z7F (by omega)]
  exact⟨⟨z08 (z5q h1 (z1G (z3g _) r1)) (by omega),z08 (z5q h2 (z1G (z3g _) r2)) (by omega),z08 (z5q h3 (z1G (z3g _) r3)) (by omega)⟩,
   z08 (z5q h4 (z1G (z3g _) (z7Z hb))) (by omega)⟩
theorem zlp(v:V3)(i:Int):z0h (kv v) (J6 (W8 i) (W8 i).x)=kv (v.add ((z5o i).scale (z5o i).x)):=by
 rw[z5f,←z8s,←z2B];rfl
theorem zlw(v:V3)(i:Int):z0h (kv v) (J6 (W8 i) (W8 i).y)=kv (v.add ((z5o i).scale (z5o i).y)):=by
 rw[z5f,←z8s,←z2B];rfl
theorem znH(v:V3)(i:Int):z0h (kv v) (J6 (W8 i) (W8 i).z)=kv (v.add ((z5o i).scale (z5o i).z)):=by
 rw[z5f,←z8s,←z2B];rfl
theorem zkH(v:V3)(i o:Int):z0h (kv v) (J6 (W8 i) (oN o))=kv (v.add ((z5o i).scale (K.ofInt o))):=by
 rw[z5f,←z8s,←z2B,zgz]
theorem z4V{x y:List CV}:BlksCv [some (own x),some (own y)]:=by
 intro b hb
 simp only[List.mem_cons,List.not_mem_nil,or_false]at hb
 rcases hb with rfl|rfl<;>(intro cells hc;cases hc;exact CvL.map_cv _)
end Go.Fw
open Go IntKind
namespace Go.Fw
set_option maxRecDepth 100000
theorem zmE(l:List (Int×Int))(g:z5W l=true)(s3_0:l.length<2^30)(s6_0 s6_1 s6_2:(-9223372036854775808:Int)≤0∧(0:Int)≤9223372036854775807){R:CV→Prop}(hR:Ok P 60 (loopHead P 60 0) ⟨J2 96 [(2,.ptr 0 0),(5,.ptr (0+1) 0),(6,.ptr (0+1+1) 0),(7,.cv (CV.lit (Value.func (Fn.func 140) {toList:=[]} {toList:=[]}))),(27,.cv (.lst l.length (flat rdL l))),(28,.cv (.lit (.int .i64 (↑l.length:Int)))),(29,.cv (.lit (.int .i64 0)))],[some (vnM (VN.zero)),some (v3M (oV (0:Int) (0:Int) (0:Int)) (oV (0:Int) (0:Int) (0:Int)) (oV (0:Int) (0:Int) (0:Int))),some (vnM (oV (0:Int) (0:Int) (0:Int)))]⟩ (.of R)):W5 P 60 [rdV l] R:=
 Y3 (keep:=[2,5,6,7,27,28,29]) (σ:=[0,4,5]) (.r 3 ((z5b (l) s3_0).eqB g) (.r 6 (zoQ ((0:Int)) ((0:Int)) ((0:Int)) s6_0 s6_1 s6_2) (.c (lq 30 30) (.c (lq 90 90) (.c (lq 30 30) (.o 22 .stop .nil)))))) (by kernel_rfl) rfl hR (.cons (CvL.map_cv _) (.cons (CvL.map_cv _) (.cons (CvL.map_cv _) .nil)))
theorem zhZ(l:List (Int×Int))(g:z5W l=false)(s3_0:l.length<2^30):PCall P 60 [rdV l] (.tup [z1t,.lit (.int .i64 1)]):=
 j5 (.r 3 ((z5b (l) s3_0).eqB g) (.c (lq 30 30) .nil)) (by kernel_rfl)
theorem ziq(l:List (Int×Int))(a b c d:VN)(k mi mo:Int)(h:decide (k<(↑l.length:Int))=true)(s17_0:VN.raw 1000000 a=true)(s17_1:VN.raw 100000 (W8 mi)=true)(s17_2:RN.raw 100000 (W8 mi).x=true)(s23_0:VN.raw 1000000 b=true)(s23_1:VN.raw 100000 (W8 mi)=true)(s23_2:RN.raw 100000 (W8 mi).y=true)(s29_0:VN.raw 1000000 c=true)(s29_1:VN.raw 100000 (W8 mi)=true)(s29_2:RN.raw 100000 (W8 mi).z=true)(s34_0:(-9223372036854775808:Int)≤mo∧mo≤9223372036854775807)(s35_0:VN.raw 1000000 d=true)(s35_1:VN.raw 100000 (W8 mi)=true)(s35_2:RN.raw 100000 (oN mo)=true)(o1:(0:Int)≤k∧k<(↑l.length:Int))(o2:List.take 2 (List.drop (k.toNat*2) (flat rdL l))=[.lit (.int .i64 mi),.lit (.int .i64 mo)])(o9:BlksCv [some (v3M a b c),some (v3M (z0h a (J6 (W8 mi) (W8 mi).x)) b c)])(o12:BlksCv [some (v3M (z0h a (J6 (W8 mi) (W8 mi).x)) b c),some (v3M (z0h a (J6 (W8 mi) (W8 mi).x)) (z0h b (J6 (W8 mi) (W8 mi).y)) c)])(o15:BlksCv [some (v3M (z0h a (J6 (W8 mi) (W8 mi).x)) (z0h b (J6 (W8 mi) (W8 mi).y)) c),some (v3M (z0h a (J6 (W8 mi) (W8 mi).x)) (z0h b (J6 (W8 mi) (W8 mi).y)) (z0h c (J6 (W8 mi) (W8 mi).z)))])(o18:BlksCv [some (vnM d),some (vnM (z0h d (J6 (W8 mi) (oN mo))))]){R:Goal}(hn:J0 R.n [0,1,2]=true)(hR:Ok P 60 (loopHead P 60 0) ⟨J2 96 [(2,.ptr 0 0),(5,.ptr (0+1) 0),(6,.ptr (0+1+1) 0),(7,.cv (CV.lit (Value.func (Fn.func 140) {toList:=[]} {toList:=[]}))),(27,.cv (.lst l.length (flat rdL l))),(28,.cv (.lit (.int .i64 (↑l.length:Int)))),(29,.cv (.lit (.int .i64 (i64.wrap (k+1)))))],[some (vnM (VN.zero)),some (v3M (z0h a (J6 (W8 mi) (W8 mi).x)) (z0h b (J6 (W8 mi) (W8 mi).y)) (z0h c (J6 (W8 mi) (W8 mi).z))),some (vnM (z0h d (J6 (W8 mi) (oN mo))))]⟩ R):Ok P 60 (loopHead P 60 0) ⟨J2 96 [(2,.ptr 0 0),(5,.ptr 1 0),(6,.ptr 2 0),(7,.cv (CV.lit (Value.func (Fn.func 140) #[] #[]))),(27,.cv (rdV l)),(28,.cv (j6 (↑l.length:Int))),(29,.cv (j6 k))],[some (vnM VN.zero),some (v3M a b c),some (vnM d)]⟩ R:=
 z0x (keep:=[2,5,6,7,27,28,29]) (σ:=[0,1,2]) (.b 2 h (.c o1 (.c o2 (.c (eqn 2) (.c (lq 2 2) (.c (zd8 (mi)) (.c (lq 30 30) (.c (bq 0 3) (.c (zlU (a) (b) (c) (W8 mi) ((W8 mi).x) s17_0 s17_1 s17_2) (.c o9 (.c (bq 1 3) (.c (znb (z0h a (J6 (W8 mi) (W8 mi).x)) (b) (c) (W8 mi) ((W8 mi).y) s23_0 s23_1 s23_2) (.c o12 (.c (bq 2 3) (.c (znx (z0h a (J6 (W8 mi) (W8 mi).x)) (z0h b (J6 (W8 mi) (W8 mi).y)) (c) (W8 mi) ((W8 mi).z) s29_0 s29_1 s29_2) (.c o15 (.c (zfZ (mo) s34_0) (.c (zkU (d) (W8 mi) (oN mo) s35_0 s35_1 s35_2) (.c o18 (.o 4 (.r (.agg [.lit (.int .i64 mi),.lit (.int .i64 mo)])) (.o 9 (.r (z4B (W8 mi).x (W8 mi).y (W8 mi).z)) (.o 17 (.m [1] (.tup []) [some (v3M (z0h a (J6 (W8 mi) (W8 mi).x)) b c)]) (.o 23 (.m [1] (.tup []) [some (v3M (z0h a (J6 (W8 mi) (W8 mi).x)) (z0h b (J6 (W8 mi) (W8 mi).y)) c)]) (.o 29 (.m [1] (.tup []) [some (v3M (z0h a (J6 (W8 mi) (W8 mi).x)) (z0h b (J6 (W8 mi) (W8 mi).y)) (z0h c (J6 (W8 mi) (W8 mi).z)))]) (.o 34 (.r (RN.c (oN mo))) (.o 35 (.m [2] (.tup []) [some (vnM (z0h d (J6 (W8 mi) (oN mo))))]) (.o 38 .stop .nil))))))))))))))))))))))))))) (by kernel_rfl) rfl hn hR (.cons (CvL.map_cv _) (.cons (CvL.map_cv _) (.cons (CvL.map_cv _) .nil)))
end Go.Fw
open Go
namespace Go.Fw
set_option maxRecDepth 100000
noncomputable def zib(l:List (Int×Int))(k:Nat)(s:S4):St:=⟨J2 96 [(2,.ptr 0 0),(5,.ptr 1 0),(6,.ptr 2 0),(7,.cv (.lit (.func (.func 140) #[] #[]))),(27,.cv (rdV l)),(28,.cv (j6 l.length)),(29,.cv (j6 k))],[some (vnM VN.zero),some (v3M (kv s.a) (kv s.b) (kv s.c)),some (vnM (kv s.d))]⟩
theorem zeR{R:Goal}(hn:J0 R.n [0,1,2]=true)(l:List (Int×Int))(g:z5W l=true)(hR:Ok P 60 (loopHead P 60 0) (zib l l.length (z0i l)) R):Ok P 60 (loopHead P 60 0) (zib l 0 .zero) R:=by
 have hl:=(z67 g).1
 have key:=z6S (fun k=>Ok P 60 (loopHead P 60 0) (zib l k (z0i (l.take k))) R) l.length ?_ ?_
 · exact key
 · intro k hk h
   obtain⟨⟨h1,h2,h3⟩,h4⟩:=z90 g k (by omega)
   have hb:=(z67 g).2 k hk
   have up: ∀{v:V3} {n:Nat},sz3 v n→n≤1000000→(kv v).raw 1000000=true:=fun hv hn=>z6e (z08 hv hn)
   have rr:(W8 l[k].1).raw 100000=true:=VN.raw_mono (z6C _) (by decide)
   obtain⟨rx,ry,rz⟩:=z0n.1 rr
   refine ziq l _ _ _ _ k l[k].1 l[k].2 (decide_eq_true (by omega)) (up h1 (by omega)) rr rx (up h2 (by omega)) rr ry (up h3 (by omega)) rr rz (by omega) (up h4 (by omega)) rr (za9 (Nat.le_trans (z7Z hb) (by decide))) (by omega) (z0W z15 hk) z4V z4V z4V z4V hn ?_
   rw[zlp,zlw,znH,zkH,w64 (by omega)]
   rw[z7F hk]at h
   exact h
 · rw[List.take_length];exact hR
noncomputable def z68(l:List (Int×Int)):V3:=⟨K.div (z7u (z0i l).d (z0i l).b (z0i l).c) (z7u (z0i l).a (z0i l).b (z0i l).c),K.div (z7u (z0i l).a (z0i l).d (z0i l).c) (z7u (z0i l).a (z0i l).b (z0i l).c),K.div (z7u (z0i l).a (z0i l).b (z0i l).d) (z7u (z0i l).a (z0i l).b (z0i l).c)⟩
noncomputable def z0T(l:List (Int×Int)):VN×Int:=if z5W l then(if K.sgn (z7u (z0i l).a (z0i l).b (z0i l).c)=0 then(.zero,20)else(kv (z68 l),0))else(.zero,1)
theorem zoN{x y:K}(h:K.sgn y≠0):((z1I (kN x) (kN y)).2 != 0)=false:=by
 unfold z1I
 rw[z29,z29]
 dsimp only
 rw[if_neg h];rfl
theorem z9P{l:List (Int×Int)}(h:z5W l=true)(hl:l.length≤12):(sz3 (z0i l).a 61∧sz3 (z0i l).b 61∧sz3 (z0i l).c 61)∧sz3 (z0i l).d 61:=by
 obtain⟨⟨h1,h2,h3⟩,h4⟩:=z90 h l.length (Nat.le_refl _)
 rw[List.take_length]at h1 h2 h3 h4
 exact⟨⟨z08 h1 (by omega),z08 h2 (by omega),z08 h3 (by omega)⟩,z08 h4 (by omega)⟩
theorem zlM{l:List (Int×Int)}(h:z5W l=true)(hl:l.length≤12):sz3 (z68 l) 8000:=by
 obtain⟨⟨h1,h2,h3⟩,h4⟩:=z9P h hl
 have d:=z7R h1 h2 h3
 have e: ∀{x:K},x.sz≤15*61+14→(K.div x (z7u (z0i l).a (z0i l).b (z0i l).c)).sz≤8000:=fun {x} hx=>Nat.le_trans (K.sz_div _ _) (by omega)
 exact⟨e (z7R h4 h2 h3),e (z7R h1 h4 h3),e (z7R h1 h2 h4)⟩
theorem zha(l:List (Int×Int))(hl:l.length≤12):PCall P 60 [rdV l] (.tup [(z0T l).1.c,j6 (z0T l).2]):=by
 unfold z0T
 cases g:z5W l
 · exact zhZ l g (by omega)
 rw[if_pos rfl]
 obtain⟨⟨h1,h2,h3⟩,h4⟩:=z9P g hl
 have t: ∀{v:V3},sz3 v 61→(kv v).raw 1000=true:=fun hv=>z6e (z08 hv (by decide))
 have ed:ze6 (Y9 (kv (z0i l).a) (kv (z0i l).b) (kv (z0i l).c))=K.sgn (z7u (z0i l).a (z0i l).b (z0i l).c):=by rw[z4x,zlb]
 have dr: ∀{a b c:V3},sz3 a 61→sz3 b 61→sz3 c 61→(Y9 (kv a) (kv b) (kv c)).raw 1000000=true:=fun ha hb hc=>by
  rw[z4x]
  exact z4k (Nat.le_trans (z7R ha hb hc) (by decide))
 refine X5 (zmE l g (by omega) (by decide) (by decide) (by decide) ?_)
 rw[oV_0]
 refine zeR rfl l g ?_
 by_cases hs:K.sgn (z7u (z0i l).a (z0i l).b (z0i l).c)=0
 · rw[if_pos hs]
   exact zkJ l _ _ _ _ l.length (decide_eq_false (by omega)) (beq_iff_eq.2 (ed.trans hs)) (t h1) (t h2) (t h3) (dr h1 h2 h3) rfl rfl
 · rw[if_neg hs]
   have ne: ∀x y z:V3,((z1I (Y9 (kv x) (kv y) (kv z)) (Y9 (kv (z0i l).a) (kv (z0i l).b) (kv (z0i l).c))).2 != 0)=false:=fun x y z=>by
    rw[z4x,z4x]
    exact zoN hs
   refine zlR l _ _ _ _ l.length (decide_eq_false (by omega)) (zpE (by rw[ed];exact hs)) (ne _ _ _) (ne _ _ _) (ne _ _ _) (t h1) (t h2) (t h3) (dr h1 h2 h3) (t h4) (t h2) (t h3) (dr h4 h2 h3) (dr h1 h2 h3) (t h1) (t h4) (t h3) (dr h1 h4 h3) (dr h1 h2 h3) (t h1) (t h2) (t h4) (dr h1 h2 h4) (dr h1 h2 h3) rfl rfl rfl rfl ?_
   rw[z4x,z4x,z4x,z4x,zbg _ _ hs,zbg _ _ hs,zbg _ _ hs]
   rfl
theorem zkQ:z0T [(0,7),(6,5),(12,3),(18,5)]=(oV 5 2 0,0):=by
 unfold z0T
 rw[if_pos (by decide),if_neg (by decide+kernel)]
 have e:z68 [(0,7),(6,5),(12,3),(18,5)]=⟨K.ofInt 5,K.ofInt 2,K.ofInt 0⟩:=by kernel_rfl
 rw[e]
 have o: ∀v:VN,v=⟨v.x,v.y,v.z⟩:=fun _=>rfl
 rw[o (oV 5 2 0),zp5,zp3,zp7,zgz,zgz,zgz];rfl
theorem Fit4:PCall P 60 [.lst 4 [j6 0,j6 7,j6 6,j6 5,j6 12,j6 3,j6 18,j6 5]] (.tup [(oV 5 2 0).c,j6 0]):=by
 have h:=zha [(0,7),(6,5),(12,3),(18,5)] (by decide)
 rw[zkQ]at h
 exact h
end Go.Fw
open Go
namespace Go.Fw
set_option maxRecDepth 100000
theorem zhT(_q:(rnB (oV (5:Int) (2:Int) (0:Int)).x (oV (5:Int) (2:Int) (0:Int)).x&&(rnB (oV (5:Int) (2:Int) (0:Int)).y (oV (5:Int) (2:Int) (0:Int)).y&&(rnB (oV (5:Int) (2:Int) (0:Int)).z (oV (5:Int) (2:Int) (0:Int)).z&&true)))=true)(s17_0:(-9223372036854775808:Int)≤(5:Int)∧(5:Int)≤(9223372036854775807:Int))(s17_1:(-9223372036854775808:Int)≤(2:Int)∧(2:Int)≤(9223372036854775807:Int))(s17_2:(-9223372036854775808:Int)≤(0:Int)∧(0:Int)≤(9223372036854775807:Int)):PCall P (59:FuncId) [] (CV.lit (Value.bool (rnB (oV (5:Int) (2:Int) (0:Int)).x (oV (5:Int) (2:Int) (0:Int)).x&&(rnB (oV (5:Int) (2:Int) (0:Int)).y (oV (5:Int) (2:Int) (0:Int)).y&&(rnB (oV (5:Int) (2:Int) (0:Int)).z (oV (5:Int) (2:Int) (0:Int)).z&&true))))):=
 j5 (.c (Go.Fw.Fit4) (.c (show [MV.cv (CV.lit (Value.int IntKind.i64 (0:Int))),MV.cv (CV.lit (Value.int IntKind.i64 (7:Int))),MV.cv (CV.lit (Value.int IntKind.i64 (6:Int))),MV.cv (CV.lit (Value.int IntKind.i64 (5:Int))),MV.cv (CV.lit (Value.int IntKind.i64 (12:Int))),MV.cv (CV.lit (Value.int IntKind.i64 (3:Int))),MV.cv (CV.lit (Value.int IntKind.i64 (18:Int))),MV.cv (CV.lit (Value.int IntKind.i64 (5:Int)))]=[MV.cv (CV.lit (Value.int IntKind.i64 (0:Int))),MV.cv (CV.lit (Value.int IntKind.i64 (7:Int))),MV.cv (CV.lit (Value.int IntKind.i64 (6:Int))),MV.cv (CV.lit (Value.int IntKind.i64 (5:Int))),MV.cv (CV.lit (Value.int IntKind.i64 (12:Int))),MV.cv (CV.lit (Value.int IntKind.i64 (3:Int))),MV.cv (CV.lit (Value.int IntKind.i64 (18:Int))),MV.cv (CV.lit (Value.int IntKind.i64 (5:Int)))]from rfl) (.c (show 30≤30 from(by decide)) (.c (Go.Fw.V4Of_r ((5:Int)) ((2:Int)) ((0:Int)) s17_0 s17_1 s17_2) (.o 6 (Or.k (CV.tup [z4B (oV (5:Int) (2:Int) (0:Int)).x (oV (5:Int) (2:Int) (0:Int)).y (oV (5:Int) (2:Int) (0:Int)).z,CV.lit (Value.int IntKind.i64 (0:Int))]) [[CV.lit (Value.int IntKind.i64 (0:Int)),CV.lit (Value.int IntKind.i64 (7:Int)),CV.lit (Value.int IntKind.i64 (6:Int)),CV.lit (Value.int IntKind.i64 (5:Int)),CV.lit (Value.int IntKind.i64 (12:Int)),CV.lit (Value.int IntKind.i64 (3:Int)),CV.lit (Value.int IntKind.i64 (18:Int)),CV.lit (Value.int IntKind.i64 (5:Int))]]) (.o 17 (Or.r (z4B (oV (5:Int) (2:Int) (0:Int)).x (oV (5:Int) (2:Int) (0:Int)).y (oV (5:Int) (2:Int) (0:Int)).z)) .nil)))))) (by kernel_rfl)
end Go.Fw
open Go
namespace Go.Fw
set_option maxRecDepth 100000
theorem z7a(x:RN):rnB x x=true:=zk5.2 rfl
end Go.Fw
open Go
namespace Go.Fw
set_option maxRecDepth 100000
theorem z7j(v:VN):(rnB v.x v.x&&(rnB v.y v.y&&(rnB v.z v.z&&true)))=true:=by
 rw[z7a,z7a,z7a];rfl
theorem z7q:PCall P 59 [] (.lit (.bool true)):=(zhT (z7j _) (by decide) (by decide) (by decide)).eqB (z7j _)
end Go.Fw
open Go IntKind
namespace Go.Fw
set_option maxRecDepth 100000
theorem zkA(l:List (Int×Int))(g:decide ((↑l.length:Int)>12)=true):PCall P 11 [rdV l] (.lit (.bool true)):=
 j5 (.r 1 (z7q) (.b 8 g (.r 9 (z7q) .nil))) (by kernel_rfl)
theorem zkV(l:List (Int×Int))(g:decide ((↑l.length:Int)>12)=false)(e:((z0T l).snd != 0)=true)(s10_0:l.length<2^30)(s11_0:l.length≤12):PCall P 11 [rdV l] (.lit (.bool ((z0T l).fst.x.b0==false&&((z0T l).fst.x.s0=={data:= #[]}&&true)&&((z0T l).fst.x.b1==false&&((z0T l).fst.x.s1=={data:= #[]}&&true)&&((z0T l).fst.x.b2==false&&((z0T l).fst.x.s2=={data:= #[]}&&true)&&((z0T l).fst.x.b3==false&&((z0T l).fst.x.s3=={data:= #[]}&&true)&&true)))&&((z0T l).fst.x.b4==false&&((z0T l).fst.x.s4=={data:= #[]}&&true)&&true)&&((z0T l).fst.y.b0==false&&((z0T l).fst.y.s0=={data:= #[]}&&true)&&((z0T l).fst.y.b1==false&&((z0T l).fst.y.s1=={data:= #[]}&&true)&&((z0T l).fst.y.b2==false&&((z0T l).fst.y.s2=={data:= #[]}&&true)&&((z0T l).fst.y.b3==false&&((z0T l).fst.y.s3=={data:= #[]}&&true)&&true)))&&((z0T l).fst.y.b4==false&&((z0T l).fst.y.s4=={data:= #[]}&&true)&&true)&&((z0T l).fst.z.b0==false&&((z0T l).fst.z.s0=={data:= #[]}&&true)&&((z0T l).fst.z.b1==false&&((z0T l).fst.z.s1=={data:= #[]}&&true)&&((z0T l).fst.z.b2==false&&((z0T l).fst.z.s2=={data:= #[]}&&true)&&((z0T l).fst.z.b3==false&&((z0T l).fst.z.s3=={data:= #[]}&&true)&&true)))&&((z0T l).fst.z.b4==false&&((z0T l).fst.z.s4=={data:= #[]}&&true)&&true)&&true))))):=
 j5 (.r 1 (z7q) (.c g (.o 8 (.b false) (.r 10 (zig (l) s10_0) (.r 11 (zha (l) s11_0) (.c (lq 30 30) (.c e (.o 20 (.b true) .nil)))))))) (by kernel_rfl)
theorem znT(l:List (Int×Int))(g:decide ((↑l.length:Int)>12)=false)(e:((z0T l).snd != 0)=false)(f:((zcN l (z0T l).fst).snd != 0)=false)(h1:((↑(zcN l (z0T l).fst).1.length:Int) != (↑l.length:Int))=false)(s10_0:l.length<2^30)(s11_0:l.length≤12)(s22_0 s24_0:l.length<2^30)(s24_1:VN.raw 10000 (z0T l).fst=true)(s40_0 s40_1 s40_2:(-9223372036854775808:Int)≤0∧(0:Int)≤9223372036854775807){R:CV→Prop}(hR:Ok P 11 (loopHead P 11 0) ⟨J2 76 [(0,.cv (.lst l.length (flat rdL l))),(7,.ptr 0 0),(47,.cv (.lst (zcN l (z0T l).fst).1.length (flat RN.l (zcN l (z0T l).fst).1))),(48,.cv (.lit (.int .i64 (↑(zcN l (z0T l).fst).1.length:Int)))),(49,.cv (.lit (.int .i64 0)))],[some (vnM (oV (0:Int) (0:Int) (0:Int)))]⟩ (.of R)):W5 P 11 [rdV l] R:=
 Y3 (keep:=[0,7,47,48,49]) (σ:=[7]) (.r 1 (z7q) (.c g (.o 8 (.b false) (.r 10 (zig (l) s10_0) (.r 11 (zha (l) s11_0) (.c (lq 30 30) (.c e (.o 20 (.b false) (.r 22 (zig (l) s22_0) (.r 24 (zl6 (l) ((z0T l).fst) s24_0 s24_1) (.c f (.c h1 (.o 32 (.b false) (.o 39 (.b false) (.r 40 (V4Of_r ((0:Int)) ((0:Int)) ((0:Int)) s40_0 s40_1 s40_2) (.c (lq 30 30) (.o 46 .stop .nil))))))))))))))))) (by kernel_rfl) rfl hR (.cons (CvL.map_cv _) .nil)
end Go.Fw
open Go
namespace Go.Fw
set_option maxRecDepth 100000
theorem zjD(i:Int)(k:RN)(hk:k.raw 1000000=true):PCall P 65 [z4B (oN 1) (kN (z4D i)) (kN (z7B i)),k.c] (J6 (W8 i) k).c:=zbC (W8 i) k (VN.raw_mono (z6C i) (by decide)) hk
end Go.Fw
