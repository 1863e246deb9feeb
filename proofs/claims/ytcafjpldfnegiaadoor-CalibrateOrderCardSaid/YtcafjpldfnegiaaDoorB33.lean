/- A part of the proof that the law returns true for every input: an executor for the model's code, and what functions of the program compute. -/
import Derived.Test.YtcafjpldfnegiaaDoorB11
import Derived.Test.YtcafjpldfnegiaaDoorB15
import Derived.Test.YtcafjpldfnegiaaDoorB31
import Derived.Test.YtcafjpldfnegiaaDoorB32
import Derived.KernelRfl
open Go IntKind
namespace Go.Fw
set_option maxRecDepth 100000
theorem zgZ(l:List (Int×Int))(hl:l.length<2^30)(hne:l≠[]):z50 P 6 [rdV l] (.sl 0 0 l.length 2) (flat rdL l):=by
 refine zca l.length (flat rdL l) (Q:=fun a b=>a= .sl 0 0 l.length 2∧b=flat rdL l) ?_
 refine zbb (s:=2) l rdL z0b (fun k o=>Ok P 6 (loopHead P 6 0) (match o with
  |none=>⟨J6 18 [(3,.cv (.lit (.slice none 0 0))),(6,.cv (.lst l.length (flat rdL l))),(7,.cv (J1 l.length)),(8,.cv (J1 k))],[]⟩
  |some (c,out)=>⟨J6 18 [(3,.sl 0 0 c 2),(6,.cv (.lst l.length (flat rdL l))),(7,.cv (J1 l.length)),(8,.cv (J1 k))],[some (own out)]⟩) (.fresh (z3F fun a b=>a= .sl 0 0 l.length 2∧b=flat rdL l))) ?_ ?_ hne ?_
 · intro k hk h
   refine zdu l.length (flat rdL l) k l[k].1 l[k].2 (decide_eq_true (by omega)) (by omega) (z2m z0b hk) rfl ?_
   rw[w64 (by omega)]
   exact h
 · intro k hk c out hc ho h
   refine zcb l.length c (flat rdL l) out k l[k].1 l[k].2 (decide_eq_true (by omega)) (by omega) (z2m z0b hk) (by omega) (by omega) (by simp[own,ho]) ?_ ?_ rfl ?_
   · simp[zdi,MV.one]
   · rw[show own out++[MV.cv (J1 l[k].1),MV.cv (J1 l[k].2)]=own (out++rdL l[k]) by simp[own,rdL]];exact CvL.map_cv _
   · rw[w64 (by omega)]
     simpa[own,rdL]using h
 · exact zdg l.length l.length (flat rdL l) (flat rdL l) l.length 0 0 (decide_eq_false (by omega)) ⟨rfl,rfl⟩ ⟨_,rfl,rfl,rfl⟩
theorem zed : PCall P 6 [.lst 0 []] (.lit (.slice none 0 0)) := zeE 0 [] (R := (· = _)) (zcy 0 [] 0 0 0 rfl rfl)
theorem V3.add_swap(a b c:V3):(a.add b).add c=(a.add c).add b:=by
 have h: ∀x y z:K,x+y+z=x+z+y:=fun x y z=>(show ∀ρ:Nat→K,ρ 0+ρ 1+ρ 2=ρ 0+ρ 2+ρ 1 from fun ρ=>CR.ring ρ rfl) (CR.vr [x,y,z])
 unfold V3.add
 dsimp only
 rw[h,h a.y,h a.z]
theorem S4.swap(s:S4)(x y:Int×Int):(s.step x).step y=(s.step y).step x:=by
 unfold S4.step
 dsimp only
 rw[V3.add_swap,V3.add_swap s.b,V3.add_swap s.c,V3.add_swap s.d]
theorem z6T(l:List (Int×Int))(x:Int×Int): ∀s:S4,l.foldl S4.step (s.step x)=(l.foldl S4.step s).step x:=by
 induction l with
 |nil=>intro s;rfl
 |cons y l ih=>intro s;rw[List.foldl_cons,List.foldl_cons,S4.swap,ih]
theorem z8C(l m:List (Int×Int)):z0c (l++m)=z0c (m++l):=by
 unfold z0c
 generalize S4.zero=s
 induction l generalizing s with
 |nil=>rw[List.append_nil,List.nil_append]
 |cons x l ih=>rw[List.cons_append,List.foldl_cons,ih,z6T,List.foldl_append,List.foldl_append,List.foldl_cons,z6T]
theorem z8L(l m:List (Int×Int)):z73 (l++m)=z73 (m++l):=by
 unfold z73
 rw[List.length_append,List.length_append,List.all_append,List.all_append,Bool.and_comm (List.all l _),Nat.add_comm]
theorem z8v(l m:List (Int×Int)):U5 (l++m)=U5 (m++l):=by
 unfold U5 zgQ
 rw[z8C,z8L]
open Classical in
noncomputable def z0t(es:List CV):List (Int×Int):=if h: ∃l:List (Int×Int),flat rdL l=es then h.choose else []
theorem z6X: ∀l m:List (Int×Int),flat rdL l=flat rdL m→l=m
 | [],[],_=>rfl
 | [],y::m,h=>by simp[flat,rdL]at h
 |x::l,[],h=>by simp[flat,rdL]at h
 |x::l,y::m,h=>by
  rw[z0I,z0I]at h
  simp only[rdL,List.cons_append,List.nil_append,List.cons.injEq,CV.lit.injEq,Value.int.injEq,true_and]at h
  rw[z6X l m h.2.2]
  exact congrArg (· :: m) (Prod.ext h.1 h.2.1)
theorem z1j(l:List (Int×Int)):z0t (flat rdL l)=l:=by
 have h: ∃m:List (Int×Int),flat rdL m=flat rdL l:=⟨l,rfl⟩
 unfold z0t
 rw[dif_pos h]
 exact z6X _ _ h.choose_spec
def IsR(n:Nat)(es:List CV):Prop:= ∃l:List (Int×Int),n=l.length∧es=flat rdL l∧l.length≤12
theorem z9k(n:Nat)(es:List CV)(h:IsR n es)(hn:n≠0):z50 P 6 [.lst n es] (.sl 0 0 n 2) es:=by
 obtain⟨l,rfl,rfl,hl⟩:=h
 exact zgZ l (by omega) (fun e=>hn (by rw[e];rfl))
def zhb(n:Nat)(es:List CV):Prop:=n=0∧es=[]
theorem zh1(a:Int)(xs:List CV)(h:zhb (a-0).toNat (List.take ((a-0).toNat*2) (List.drop 0 xs))):PCall P 6 [.lst (a-0).toNat (List.take ((a-0).toNat*2) (List.drop 0 xs))] (.lit (.slice none 0 0)):=by
 obtain⟨h0,h⟩:=h
 rw[h,h0];exact zed
theorem zb8(n:Nat)(es:List CV)(h:IsR n es):PCall P 5 [.lst n es] (.tup [(U5 (z0t es)).1.c,J1 (U5 (z0t es)).2]):=by
 obtain⟨l,rfl,rfl,hl⟩:=h
 rw[z1j]
 exact zev l hl
theorem zfl(l:List (Int×Int))(n:Int)(g:decide ((↑l.length:Int)>(12:Int))=true):PCall P (3:FuncId) [rdV l,CV.lit (Value.int u8 n)] (CV.lit (Value.bool true)):=
 z4t (ors:=[(1,Or.r (CV.lit (Value.bool true))),(8,Or.b true),(14,Or.r (CV.lit (Value.bool true)))]) (by kernel_rfl) (.cons z2A (.cons g (.cons z2A .nil)))
theorem zfC(l:List (Int×Int))(n:Int)(g:decide ((↑l.length:Int)>(12:Int))=false)(g2:((↑l.length:Int)==(0:Int))=true):PCall P (3:FuncId) [rdV l,CV.lit (Value.int u8 n)] (CV.lit (Value.bool true)):=
 z4t (ors:=[(1,Or.r (CV.lit (Value.bool true))),(8,Or.b false),(13,Or.b true),(14,Or.r (CV.lit (Value.bool true)))]) (by kernel_rfl) (.cons z2A (.cons g (.cons g2 (.cons z2A .nil))))
theorem zfv(l:List (Int×Int))(n:Int)(g:decide ((↑l.length:Int)>(12:Int))=false)(g2:((↑l.length:Int)==(0:Int))=false)(q:IsR ((i64.wrap n).tmod (↑l.length:Int)-(0:Int)).toNat (List.take (((i64.wrap n).tmod (↑l.length:Int)-(0:Int)).toNat*2) (List.drop 0 (flat rdL l))))(h1:(rnB (U5 (z0t (flat rdL l))).fst.x (U5 (z0t (List.take (((↑l.length:Int)-(i64.wrap n).tmod (↑l.length:Int)).toNat*2) (List.drop (((i64.wrap n).tmod (↑l.length:Int)).toNat*2) (flat rdL l))++List.take (((i64.wrap n).tmod (↑l.length:Int)-(0:Int)).toNat*2) (List.drop 0 (List.take (((i64.wrap n).tmod (↑l.length:Int)-(0:Int)).toNat*2) (List.drop 0 (flat rdL l))))))).fst.x&&(rnB (U5 (z0t (flat rdL l))).fst.y (U5 (z0t (List.take (((↑l.length:Int)-(i64.wrap n).tmod (↑l.length:Int)).toNat*2) (List.drop (((i64.wrap n).tmod (↑l.length:Int)).toNat*2) (flat rdL l))++List.take (((i64.wrap n).tmod (↑l.length:Int)-(0:Int)).toNat*2) (List.drop 0 (List.take (((i64.wrap n).tmod (↑l.length:Int)-(0:Int)).toNat*2) (List.drop 0 (flat rdL l))))))).fst.y&&(rnB (U5 (z0t (flat rdL l))).fst.z (U5 (z0t (List.take (((↑l.length:Int)-(i64.wrap n).tmod (↑l.length:Int)).toNat*2) (List.drop (((i64.wrap n).tmod (↑l.length:Int)).toNat*2) (flat rdL l))++List.take (((i64.wrap n).tmod (↑l.length:Int)-(0:Int)).toNat*2) (List.drop 0 (List.take (((i64.wrap n).tmod (↑l.length:Int)-(0:Int)).toNat*2) (List.drop 0 (flat rdL l))))))).fst.z&&true)))=true)(a:IsR l.length (flat rdL l))(c:l.length≠0)(d:IsR l.length (flat rdL l))(e:IsR ((↑l.length:Int)-(i64.wrap n).tmod (↑l.length:Int)).toNat (List.take (((↑l.length:Int)-(i64.wrap n).tmod (↑l.length:Int)).toNat*2) (List.drop (((i64.wrap n).tmod (↑l.length:Int)).toNat*2) (flat rdL l))))(i:((↑l.length:Int)-(i64.wrap n).tmod (↑l.length:Int)).toNat≠0)(j:((i64.wrap n).tmod (↑l.length:Int)-(0:Int)).toNat≠0)(m:IsR (((↑l.length:Int)-(i64.wrap n).tmod (↑l.length:Int)).toNat+((i64.wrap n).tmod (↑l.length:Int)-(0:Int)).toNat) (List.take (((↑l.length:Int)-(i64.wrap n).tmod (↑l.length:Int)).toNat*2) (List.drop (((i64.wrap n).tmod (↑l.length:Int)).toNat*2) (flat rdL l))++List.take (((i64.wrap n).tmod (↑l.length:Int)-(0:Int)).toNat*2) (List.drop 0 (List.take (((i64.wrap n).tmod (↑l.length:Int)-(0:Int)).toNat*2) (List.drop 0 (flat rdL l))))))(o3:(↑l.length:Int)≠(0:Int))(o6:List.take (l.length*2) (List.drop 0 (own (flat rdL l)))=List.map MV.cv (flat rdL l))(o8:(0:Int)≤(i64.wrap n).tmod (↑l.length:Int)∧(i64.wrap n).tmod (↑l.length:Int)≤(↑l.length:Int)∧(↑l.length:Int)≤(↑l.length:Int))(o9:(flat rdL l).length=l.length*2)(o11:(0:Int)≤(0:Int)∧(0:Int)≤(i64.wrap n).tmod (↑l.length:Int)∧(i64.wrap n).tmod (↑l.length:Int)≤(↑l.length:Int))(o12:(flat rdL l).length=l.length*2)(o14:(((↑l.length:Int)-(i64.wrap n).tmod (↑l.length:Int)).toNat+((i64.wrap n).tmod (↑l.length:Int)-(0:Int)).toNat)*16≤1099511627776)(o15:((↑l.length:Int)-(i64.wrap n).tmod (↑l.length:Int)).toNat+((i64.wrap n).tmod (↑l.length:Int)-(0:Int)).toNat≤1099511627776)(o16:(own (List.take (((↑l.length:Int)-(i64.wrap n).tmod (↑l.length:Int)).toNat*2) (List.drop (((i64.wrap n).tmod (↑l.length:Int)).toNat*2) (flat rdL l)))).length=((↑l.length:Int)-(i64.wrap n).tmod (↑l.length:Int)).toNat*2)(o17:zdi (List.take (((i64.wrap n).tmod (↑l.length:Int)-(0:Int)).toNat*2) (List.drop 0 (own (List.take (((i64.wrap n).tmod (↑l.length:Int)-(0:Int)).toNat*2) (List.drop 0 (flat rdL l)))))))(o18:(List.take (((i64.wrap n).tmod (↑l.length:Int)-(0:Int)).toNat*2) (List.drop 0 (own (List.take (((i64.wrap n).tmod (↑l.length:Int)-(0:Int)).toNat*2) (List.drop 0 (flat rdL l)))))).length=((i64.wrap n).tmod (↑l.length:Int)-(0:Int)).toNat*2)(o20:List.take ((((↑l.length:Int)-(i64.wrap n).tmod (↑l.length:Int)).toNat+((i64.wrap n).tmod (↑l.length:Int)-(0:Int)).toNat)*2) (List.drop 0 (own (List.take (((↑l.length:Int)-(i64.wrap n).tmod (↑l.length:Int)).toNat*2) (List.drop (((i64.wrap n).tmod (↑l.length:Int)).toNat*2) (flat rdL l)))++List.take (((i64.wrap n).tmod (↑l.length:Int)-(0:Int)).toNat*2) (List.drop 0 (own (List.take (((i64.wrap n).tmod (↑l.length:Int)-(0:Int)).toNat*2) (List.drop 0 (flat rdL l)))))))=List.map MV.cv (List.take (((↑l.length:Int)-(i64.wrap n).tmod (↑l.length:Int)).toNat*2) (List.drop (((i64.wrap n).tmod (↑l.length:Int)).toNat*2) (flat rdL l))++List.take (((i64.wrap n).tmod (↑l.length:Int)-(0:Int)).toNat*2) (List.drop 0 (List.take (((i64.wrap n).tmod (↑l.length:Int)-(0:Int)).toNat*2) (List.drop 0 (flat rdL l)))))):PCall P (3:FuncId) [rdV l,CV.lit (Value.int u8 n)] (CV.lit (Value.bool ((U5 (z0t (flat rdL l))).2==(U5 (z0t (List.take (((↑l.length:Int)-(i64.wrap n).tmod (↑l.length:Int)).toNat*2) (List.drop (((i64.wrap n).tmod (↑l.length:Int)).toNat*2) (flat rdL l))++List.take (((i64.wrap n).tmod (↑l.length:Int)-(0:Int)).toNat*2) (List.drop 0 (List.take (((i64.wrap n).tmod (↑l.length:Int)-(0:Int)).toNat*2) (List.drop 0 (flat rdL l))))))).2))):=
 z4t (ors:=[(1,Or.r (CV.lit (Value.bool true))),(8,Or.b false),(13,Or.b false),(21,Or.f (MV.sl 0 0 l.length 2) (flat rdL l)),(22,Or.k (CV.tup [z3g (U5 (z0t (flat rdL l))).fst.x (U5 (z0t (flat rdL l))).fst.y (U5 (z0t (flat rdL l))).fst.z,CV.lit (Value.int i64 (U5 (z0t (flat rdL l))).2)]) [flat rdL l]),(32,Or.f (MV.sl 0 0 ((↑l.length:Int)-(i64.wrap n).tmod (↑l.length:Int)).toNat 2) (List.take (((↑l.length:Int)-(i64.wrap n).tmod (↑l.length:Int)).toNat*2) (List.drop (((i64.wrap n).tmod (↑l.length:Int)).toNat*2) (flat rdL l)))),(36,Or.f (MV.sl 0 0 ((i64.wrap n).tmod (↑l.length:Int)-(0:Int)).toNat 2) (List.take (((i64.wrap n).tmod (↑l.length:Int)-(0:Int)).toNat*2) (List.drop 0 (flat rdL l)))),(38,Or.k (CV.tup [z3g (U5 (z0t (List.take (((↑l.length:Int)-(i64.wrap n).tmod (↑l.length:Int)).toNat*2) (List.drop (((i64.wrap n).tmod (↑l.length:Int)).toNat*2) (flat rdL l))++List.take (((i64.wrap n).tmod (↑l.length:Int)-(0:Int)).toNat*2) (List.drop 0 (List.take (((i64.wrap n).tmod (↑l.length:Int)-(0:Int)).toNat*2) (List.drop 0 (flat rdL l))))))).fst.x (U5 (z0t (List.take (((↑l.length:Int)-(i64.wrap n).tmod (↑l.length:Int)).toNat*2) (List.drop (((i64.wrap n).tmod (↑l.length:Int)).toNat*2) (flat rdL l))++List.take (((i64.wrap n).tmod (↑l.length:Int)-(0:Int)).toNat*2) (List.drop 0 (List.take (((i64.wrap n).tmod (↑l.length:Int)-(0:Int)).toNat*2) (List.drop 0 (flat rdL l))))))).fst.y (U5 (z0t (List.take (((↑l.length:Int)-(i64.wrap n).tmod (↑l.length:Int)).toNat*2) (List.drop (((i64.wrap n).tmod (↑l.length:Int)).toNat*2) (flat rdL l))++List.take (((i64.wrap n).tmod (↑l.length:Int)-(0:Int)).toNat*2) (List.drop 0 (List.take (((i64.wrap n).tmod (↑l.length:Int)-(0:Int)).toNat*2) (List.drop 0 (flat rdL l))))))).fst.z,CV.lit (Value.int i64 (U5 (z0t (List.take (((↑l.length:Int)-(i64.wrap n).tmod (↑l.length:Int)).toNat*2) (List.drop (((i64.wrap n).tmod (↑l.length:Int)).toNat*2) (flat rdL l))++List.take (((i64.wrap n).tmod (↑l.length:Int)-(0:Int)).toNat*2) (List.drop 0 (List.take (((i64.wrap n).tmod (↑l.length:Int)-(0:Int)).toNat*2) (List.drop 0 (flat rdL l))))))).2)]) [List.take (((↑l.length:Int)-(i64.wrap n).tmod (↑l.length:Int)).toNat*2) (List.drop (((i64.wrap n).tmod (↑l.length:Int)).toNat*2) (flat rdL l))++List.take (((i64.wrap n).tmod (↑l.length:Int)-(0:Int)).toNat*2) (List.drop 0 (List.take (((i64.wrap n).tmod (↑l.length:Int)-(0:Int)).toNat*2) (List.drop 0 (flat rdL l))))]),(48,Or.b true)]) (by kernel_rfl) (.cons z2A (.cons g (.cons g2 (.cons o3 (.cons (z9k l.length (flat rdL l) a c) (.cons (zb8 l.length (flat rdL l) d) (.cons o6 (.cons (show 30≤30 from(by decide)) (.cons o8 (.cons o9 (.cons (z9k (((↑l.length:Int)-(i64.wrap n).tmod (↑l.length:Int)).toNat) (List.take (((↑l.length:Int)-(i64.wrap n).tmod (↑l.length:Int)).toNat*2) (List.drop (((i64.wrap n).tmod (↑l.length:Int)).toNat*2) (flat rdL l))) e i) (.cons o11 (.cons o12 (.cons (z9k (((i64.wrap n).tmod (↑l.length:Int)-(0:Int)).toNat) (List.take (((i64.wrap n).tmod (↑l.length:Int)-(0:Int)).toNat*2) (List.drop 0 (flat rdL l))) q j) (.cons o14 (.cons o15 (.cons o16 (.cons o17 (.cons o18 (.cons (zb8 (((↑l.length:Int)-(i64.wrap n).tmod (↑l.length:Int)).toNat+((i64.wrap n).tmod (↑l.length:Int)-(0:Int)).toNat) (List.take (((↑l.length:Int)-(i64.wrap n).tmod (↑l.length:Int)).toNat*2) (List.drop (((i64.wrap n).tmod (↑l.length:Int)).toNat*2) (flat rdL l))++List.take (((i64.wrap n).tmod (↑l.length:Int)-(0:Int)).toNat*2) (List.drop 0 (List.take (((i64.wrap n).tmod (↑l.length:Int)-(0:Int)).toNat*2) (List.drop 0 (flat rdL l))))) m) (.cons o20 (.cons (show 30≤30 from(by decide)) (.cons h1 .nil)))))))))))))))))))))))
theorem zfw(l:List (Int×Int))(n:Int)(g:decide ((↑l.length:Int)>(12:Int))=false)(g2:((↑l.length:Int)==(0:Int))=false)(q:zhb ((i64.wrap n).tmod (↑l.length:Int)-(0:Int)).toNat (List.take (((i64.wrap n).tmod (↑l.length:Int)-(0:Int)).toNat*2) (List.drop 0 (flat rdL l))))(h1:(rnB (U5 (z0t (flat rdL l))).fst.x (U5 (z0t (List.take (((↑l.length:Int)-(i64.wrap n).tmod (↑l.length:Int)).toNat*2) (List.drop (((i64.wrap n).tmod (↑l.length:Int)).toNat*2) (flat rdL l))))).fst.x&&(rnB (U5 (z0t (flat rdL l))).fst.y (U5 (z0t (List.take (((↑l.length:Int)-(i64.wrap n).tmod (↑l.length:Int)).toNat*2) (List.drop (((i64.wrap n).tmod (↑l.length:Int)).toNat*2) (flat rdL l))))).fst.y&&(rnB (U5 (z0t (flat rdL l))).fst.z (U5 (z0t (List.take (((↑l.length:Int)-(i64.wrap n).tmod (↑l.length:Int)).toNat*2) (List.drop (((i64.wrap n).tmod (↑l.length:Int)).toNat*2) (flat rdL l))))).fst.z&&true)))=true)(a:IsR l.length (flat rdL l))(c:l.length≠0)(d:IsR l.length (flat rdL l))(e:IsR ((↑l.length:Int)-(i64.wrap n).tmod (↑l.length:Int)).toNat (List.take (((↑l.length:Int)-(i64.wrap n).tmod (↑l.length:Int)).toNat*2) (List.drop (((i64.wrap n).tmod (↑l.length:Int)).toNat*2) (flat rdL l))))(i:((↑l.length:Int)-(i64.wrap n).tmod (↑l.length:Int)).toNat≠0)(j:IsR ((↑l.length:Int)-(i64.wrap n).tmod (↑l.length:Int)).toNat (List.take (((↑l.length:Int)-(i64.wrap n).tmod (↑l.length:Int)).toNat*2) (List.drop (((i64.wrap n).tmod (↑l.length:Int)).toNat*2) (flat rdL l))))(o3:(↑l.length:Int)≠(0:Int))(o6:List.take (l.length*2) (List.drop 0 (own (flat rdL l)))=List.map MV.cv (flat rdL l))(o8:(0:Int)≤(i64.wrap n).tmod (↑l.length:Int)∧(i64.wrap n).tmod (↑l.length:Int)≤(↑l.length:Int)∧(↑l.length:Int)≤(↑l.length:Int))(o9:(flat rdL l).length=l.length*2)(o11:(0:Int)≤(0:Int)∧(0:Int)≤(i64.wrap n).tmod (↑l.length:Int)∧(i64.wrap n).tmod (↑l.length:Int)≤(↑l.length:Int))(o12:(flat rdL l).length=l.length*2)(o15:List.take (((↑l.length:Int)-(i64.wrap n).tmod (↑l.length:Int)).toNat*2) (List.drop 0 (own (List.take (((↑l.length:Int)-(i64.wrap n).tmod (↑l.length:Int)).toNat*2) (List.drop (((i64.wrap n).tmod (↑l.length:Int)).toNat*2) (flat rdL l)))))=List.map MV.cv (List.take (((↑l.length:Int)-(i64.wrap n).tmod (↑l.length:Int)).toNat*2) (List.drop (((i64.wrap n).tmod (↑l.length:Int)).toNat*2) (flat rdL l)))):PCall P (3:FuncId) [rdV l,CV.lit (Value.int u8 n)] (CV.lit (Value.bool ((U5 (z0t (flat rdL l))).2==(U5 (z0t (List.take (((↑l.length:Int)-(i64.wrap n).tmod (↑l.length:Int)).toNat*2) (List.drop (((i64.wrap n).tmod (↑l.length:Int)).toNat*2) (flat rdL l))))).2))):=
 z4t (ors:=[(1,Or.r (CV.lit (Value.bool true))),(8,Or.b false),(13,Or.b false),(21,Or.f (MV.sl 0 0 l.length 2) (flat rdL l)),(22,Or.k (CV.tup [z3g (U5 (z0t (flat rdL l))).fst.x (U5 (z0t (flat rdL l))).fst.y (U5 (z0t (flat rdL l))).fst.z,CV.lit (Value.int i64 (U5 (z0t (flat rdL l))).2)]) [flat rdL l]),(32,Or.f (MV.sl 0 0 ((↑l.length:Int)-(i64.wrap n).tmod (↑l.length:Int)).toNat 2) (List.take (((↑l.length:Int)-(i64.wrap n).tmod (↑l.length:Int)).toNat*2) (List.drop (((i64.wrap n).tmod (↑l.length:Int)).toNat*2) (flat rdL l)))),(36,Or.r (CV.lit (Value.slice none 0 0))),(38,Or.k (CV.tup [z3g (U5 (z0t (List.take (((↑l.length:Int)-(i64.wrap n).tmod (↑l.length:Int)).toNat*2) (List.drop (((i64.wrap n).tmod (↑l.length:Int)).toNat*2) (flat rdL l))))).fst.x (U5 (z0t (List.take (((↑l.length:Int)-(i64.wrap n).tmod (↑l.length:Int)).toNat*2) (List.drop (((i64.wrap n).tmod (↑l.length:Int)).toNat*2) (flat rdL l))))).fst.y (U5 (z0t (List.take (((↑l.length:Int)-(i64.wrap n).tmod (↑l.length:Int)).toNat*2) (List.drop (((i64.wrap n).tmod (↑l.length:Int)).toNat*2) (flat rdL l))))).fst.z,CV.lit (Value.int i64 (U5 (z0t (List.take (((↑l.length:Int)-(i64.wrap n).tmod (↑l.length:Int)).toNat*2) (List.drop (((i64.wrap n).tmod (↑l.length:Int)).toNat*2) (flat rdL l))))).2)]) [List.take (((↑l.length:Int)-(i64.wrap n).tmod (↑l.length:Int)).toNat*2) (List.drop (((i64.wrap n).tmod (↑l.length:Int)).toNat*2) (flat rdL l))]),(48,Or.b true)]) (by kernel_rfl) (.cons z2A (.cons g (.cons g2 (.cons o3 (.cons (z9k l.length (flat rdL l) a c) (.cons (zb8 l.length (flat rdL l) d) (.cons o6 (.cons (show 30≤30 from(by decide)) (.cons o8 (.cons o9 (.cons (z9k (((↑l.length:Int)-(i64.wrap n).tmod (↑l.length:Int)).toNat) (List.take (((↑l.length:Int)-(i64.wrap n).tmod (↑l.length:Int)).toNat*2) (List.drop (((i64.wrap n).tmod (↑l.length:Int)).toNat*2) (flat rdL l))) e i) (.cons o11 (.cons o12 (.cons (zh1 ((i64.wrap n).tmod (↑l.length:Int)) (flat rdL l) q) (.cons (zb8 (((↑l.length:Int)-(i64.wrap n).tmod (↑l.length:Int)).toNat) (List.take (((↑l.length:Int)-(i64.wrap n).tmod (↑l.length:Int)).toNat*2) (List.drop (((i64.wrap n).tmod (↑l.length:Int)).toNat*2) (flat rdL l))) j) (.cons o15 (.cons (show 30≤30 from(by decide)) (.cons h1 .nil))))))))))))))))))
theorem isR{l:List (Int×Int)}(h:l.length≤12):IsR l.length (flat rdL l):=⟨l,rfl,rfl,h⟩
theorem z7q(l:List (Int×Int))(n:Int)(hw:(Lit.int .u8 n).wf=true):PCall P 3 [rdV l,.lit (.int .u8 n)] (.lit (.bool true)):=by
 have hn:0≤n∧n≤255:=by
  unfold Lit.wf at hw
  rw[Bool.and_eq_true]at hw
  have h1:=of_decide_eq_true hw.1
  have h2:=of_decide_eq_true hw.2
  rw[show IntKind.min .u8=0 by decide]at h1
  rw[show IntKind.max .u8=255 by decide]at h2
  exact⟨h1,h2⟩
 cases g:decide ((l.length:Int)>12)
 case true=>exact zfl l n g
 have hl:l.length≤12:=by have:=of_decide_eq_false g;omega
 cases g2:((l.length:Int)==0)
 case true=>exact zfC l n g g2
 have h0:l.length≠0:=fun e=>by rw[e]at g2;exact absurd g2 (by decide)
 obtain⟨k,hk,hT⟩: ∃k:Nat,k<l.length∧(i64.wrap n).tmod (l.length:Int)=(k:Int):=by
  rw[w64 (by omega),Int.tmod_eq_emod_of_nonneg hn.1]
  have a:=Int.emod_nonneg n (show(l.length:Int)≠0 by omega)
  have b:=Int.emod_lt_of_pos n (show(0:Int)<l.length by omega)
  exact⟨(n%(l.length:Int)).toNat,by omega,by omega⟩
 have e1:((l.length:Int)-(k:Int)).toNat=l.length-k:=by omega
 have e2:((k:Int)-0).toNat=k:=by omega
 have fl:(flat rdL l).length=l.length*2:=U8 z0b l
 have fA:(flat rdL (l.drop k)).length=(l.length-k)*2:=by rw[U8 z0b,List.length_drop]
 have fB:(flat rdL (l.take k)).length=k*2:=by rw[U8 z0b,List.length_take,Nat.min_eq_left (by omega)]
 have eA:List.take ((l.length-k)*2) (List.drop (k*2) (flat rdL l))=flat rdL (l.drop k):=by
  rw[z5s z0b,List.take_of_length_le (by rw[fA];exact Nat.le_refl _)]
 have eB:List.take (k*2) (flat rdL l)=flat rdL (l.take k):=by
  have e:flat rdL l=flat rdL (l.take k)++flat rdL (l.drop k):=by rw[←z3a,List.take_append_drop]
  rw[e,List.take_append_of_le_length (by rw[fB];exact Nat.le_refl _),List.take_of_length_le (by rw[fB];exact Nat.le_refl _)]
 have self: ∀m:List (Int×Int),m.length=l.length→U5 m=U5 l→(rnB (U5 (z0t (flat rdL l))).fst.x (U5 (z0t (flat rdL m))).fst.x&&(rnB (U5 (z0t (flat rdL l))).fst.y (U5 (z0t (flat rdL m))).fst.y&&(rnB (U5 (z0t (flat rdL l))).fst.z (U5 (z0t (flat rdL m))).fst.z&&true)))=true:=fun m _ e=>by
  rw[z1j,z1j,e]
  exact z57 _
 have end_: ∀m:List (Int×Int),U5 m=U5 l→((U5 (z0t (flat rdL l))).2==(U5 (z0t (flat rdL m))).2)=true:=fun m e=>by
  rw[z1j,z1j,e,beq_self_eq_true]
 by_cases hk0:k=0
 · subst hk0
   have key:=zfw l n g g2
   simp only[hT,e1,e2,Int.toNat_natCast,List.drop_zero,Nat.sub_zero,Nat.zero_mul,List.take_zero]at key
   have ef:List.take (l.length*2) (flat rdL l)=flat rdL l:=List.take_of_length_le (by rw[fl];exact Nat.le_refl _)
   rw[ef]at key
   exact(key ⟨rfl,rfl⟩ (self l rfl rfl) (isR hl) h0 (isR hl) (isR hl) h0 (isR hl) (by omega) take_all' (by omega) fl (by omega) fl take_all').eqB (end_ l rfl)
 · have key:=zfv l n g g2
   simp only[hT,e1,e2,Int.toNat_natCast,List.drop_zero]at key
   have eB2:List.take (k*2) (flat rdL (l.take k))=flat rdL (l.take k):=List.take_of_length_le (by rw[fB];exact Nat.le_refl _)
   have oB:List.take (k*2) (own (flat rdL (l.take k)))=own (flat rdL (l.take k)):=List.take_of_length_le (by rw[own,List.length_map,fB];exact Nat.le_refl _)
   have lA:(l.drop k).length=l.length-k:=List.length_drop ..
   have lB:(l.take k).length=k:=by rw[List.length_take,Nat.min_eq_left (by omega)]
   have lAB:l.length-k+k=(l.drop k++l.take k).length:=by rw[List.length_append,lA,lB]
   have sw:U5 (l.drop k++l.take k)=U5 l:=by rw[z8v,List.take_append_drop]
   rw[eA,eB,eB2,oB]at key
   rw[←z3a]at key
   have rA:IsR (l.length-k) (flat rdL (l.drop k)):=by rw[←lA];exact isR (by omega)
   have rB:IsR k (flat rdL (l.take k)):=by
    have:=isR (l:=l.take k) (by omega)
    rwa[lB]at this
   have rAB:IsR (l.length-k+k) (flat rdL (l.drop k++l.take k)):=by rw[lAB];exact isR (by omega)
   refine(key rB (self (l.drop k++l.take k) (by omega) sw) (isR hl) h0 (isR hl) rA (by omega) hk0 rAB (by omega) take_all' (by omega) fl (by omega) fl (by omega) (by omega) (by rw[own,List.length_map,fA]) ?_ (by rw[own,List.length_map,fB]) ?_).eqB (end_ _ sw)
   · intro m hm
     rw[own,List.mem_map]at hm
     obtain⟨c,hc,rfl⟩:=hm
     obtain⟨x,_,hx⟩:=List.mem_flatMap.1 hc
     simp only[rdL,List.mem_cons,List.not_mem_nil,or_false]at hx
     rcases hx with rfl|rfl<;>rfl
   · have e:own (flat rdL (l.drop k))++own (flat rdL (l.take k))=own (flat rdL (l.drop k++l.take k)):=by rw[z3a,own,own,own,List.map_append]
     rw[e,lAB]
     exact take_all'
 where
  take_all' {m:List (Int×Int)}:List.take (m.length*2) (own (flat rdL m))=List.map MV.cv (flat rdL m):=List.take_of_length_le (by rw[own,List.length_map,U8 z0b];exact Nat.le_refl _)
open Go.Proofs Go.Proofs.YtcafjpldfnegiaaDoor
open Go.ChangeShapes Go.WideShapes Go.ChangeAt Go.RowKit
theorem zb4 {H : Type} {enc : TypeId × Value → H} (W : World) (base : Nat) (args : Array Value) (ds gs : List (DataW H)) (before : List MemPlace)
    (hval: ∀(j:Nat) t v,Tryd.f3.params[j]?=some t→args[j]?=some v→Value.okWide Tryd.prog W .any base t v)
    (hW:DataW.Whole enc Tryd.prog Tryd.f3.params.toList Rows.calibrateOrderSpec.vars false W args.toList ds gs before):
    Calls Tryd.prog 3 args W fun e W'=>e= .returned (.bool true)∧Below W.heap.size W W':=by
 obtain⟨p,q,hA,hV,_,_,_⟩:=hW
 rw[Tryd.params3]at hA hval
 obtain⟨v0,vs0,d0,ds0,p0,q0,ha0,hd0,_,h0,r0⟩:=trodAll_cons hA
 obtain⟨v1,vs1,d1,ds1,p1,q1,ha1,hd1,_,h1,r1⟩:=trodAll_cons r0
 obtain⟨hz,hzd,_⟩:=trodAll_nil r1
 subst hz ha1
 obtain rfl:args= #[v0,v1]:=by cases args;simp_all
 obtain⟨l0,Im,him,rp0⟩:=zbd Tryd.underlying22 (by kernel_rfl) (by kernel_rfl) (okWide_slice Tryd.underlying22 (hval 0 22 v0 rfl rfl)) h0
 obtain⟨n1,rfl,_,_,hw1⟩:=open_int Tryd.underlying5 (hval 1 5 v1 rfl rfl) h1
 exact z8Y Im him (z7q l0 n1 hw1) ⟨_,_,rfl,rp0,⟨_,_,rfl,rfl,rfl⟩⟩
end Go.Fw
