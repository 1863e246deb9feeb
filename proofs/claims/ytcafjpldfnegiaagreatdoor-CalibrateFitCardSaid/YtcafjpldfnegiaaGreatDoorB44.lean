/- A part of the proof that the law returns true for every input: an executor for the model's code, and what functions of the program compute. -/
import Derived.Test.YtcafjpldfnegiaaGreatDoorB11
import Derived.Test.YtcafjpldfnegiaaGreatDoorB15
import Derived.Test.YtcafjpldfnegiaaGreatDoorB35
import Derived.Test.YtcafjpldfnegiaaGreatDoorB40
import Derived.Test.YtcafjpldfnegiaaGreatDoorB41
import Derived.Test.YtcafjpldfnegiaaGreatDoorB42
import Derived.Test.YtcafjpldfnegiaaGreatDoorB43
import Derived.KernelRfl
open Go
namespace Go.Fw
set_option maxRecDepth 100000
theorem z4v(S:Nat→Prop)(n:Nat)(hs: ∀k,k<n→S (k+1)→S k)(he:S n):S 0:=by
 have h: ∀d k,k+d=n→S k:=by
  intro d
  induction d with
  |zero=>
   intro k hk
   obtain rfl:k=n:=by omega
   exact he
  |succ d ih=>
   intro k hk
   exact hs k (by omega) (ih (k+1) (by omega))
 exact h n 0 (by omega)
def flat{α:Type}(f:α→List CV)(l:List α):List CV:=l.flatMap f
section
variable{α:Type}{f:α→List CV}{s:Nat}
theorem z12(x:α)(l:List α):flat f (x::l)=f x++flat f l:=by simp[flat]
theorem zgT(a b:List α):flat f (a++b)=flat f a++flat f b:=by simp[flat]
theorem z0h(hf: ∀x,(f x).length=s)(l:List α):(flat f l).length=l.length*s:=by
 induction l with
 |nil=>simp[flat]
 |cons x l ih=>rw[z12,List.length_append,hf,ih,List.length_cons,Nat.add_mul,Nat.one_mul,Nat.add_comm]
theorem zcj(hf: ∀x,(f x).length=s)(l:List α)(k:Nat):(flat f l).drop (k*s)=flat f (l.drop k):=by
 induction l generalizing k with
 |nil=>simp[flat]
 |cons x l ih=>
  cases k with
  |zero=>rw[Nat.zero_mul];rfl
  |succ k=>
   have e:List.drop s (f x++flat f l)=flat f l:=by rw[←hf x,List.drop_left]
   rw[z12,Nat.succ_mul,Nat.add_comm,←List.drop_drop,e,ih]
   rfl
theorem U3(hf: ∀x,(f x).length=s){l:List α}{k:Nat}(hk:k<l.length):List.take s (List.drop (k*s) (flat f l))=f l[k]:=by
 rw[zcj hf,List.drop_eq_getElem_cons hk,z12,List.take_append_of_le_length (by rw[hf];exact Nat.le_refl _),List.take_of_length_le (by rw[hf];exact Nat.le_refl _)]
theorem zdB{l:List α}{k:Nat}(hk:k<l.length):flat f (l.take (k+1))=flat f (l.take k)++f l[k]:=by
 rw[List.take_add_one,List.getElem?_eq_getElem hk,zgT]
 simp[flat]
theorem z9l(hf: ∀x,(f x).length=s){l:List α}{k j:Nat}(hk:k<l.length)(hj:j<s):(flat f l)[k*s+j]?=(f l[k])[j]?:=by
 have h:=U3 hf hk
 have e:(List.take s (List.drop (k*s) (flat f l)))[j]?=(flat f l)[k*s+j]?:=by
  rw[List.getElem?_take_of_lt hj,List.getElem?_drop]
 rw[←e,h]
end
def rdL(x:Int×Int):List CV:=[j5 x.1,j5 x.2]
theorem z03(x:Int×Int):(rdL x).length=2:=rfl
def rdV(l:List (Int×Int)):CV:= .lst l.length (flat rdL l)
theorem z7V(x:RN):x.l.length=10:=rfl
def nmV(l:List RN):CV:= .lst l.length (flat RN.l l)
theorem z9d{P:Program}{f:FuncId}{args:List CV}(h:PCall P f args (.lit (.slice none 0 0))):PCall P f args (.lst 0 []):=by
 intro Im w vs him hrep
 refine(h Im w vs him hrep).mono ?_
 rintro e w' ⟨y,v,Im',rfl,rfl,hv,h1,h2,h3,h4⟩
 refine⟨y,_,Im',rfl,rfl,?_,h1,h2,h3,h4⟩
 unfold CV.rep at hv ⊢
 exact⟨none,0,hv,Nat.le_refl _,.inl ⟨rfl,rfl⟩⟩
theorem z32 {α : Type} {s : Nat} (l : List α) (g : α → List CV) (hg : ∀ x, (g x).length = s) (S : Nat → Option (Nat × List CV) → Prop)
    (h0: ∀k (hk:k<l.length),S (k+1) (some (1,g l[k]))→S k none)
    (h1: ∀k (hk:k<l.length) c out,c≤k→out.length=c*s→S (k+1) (some (c+1,out++g l[k]))→S k (some (c,out)))
    (hl:l≠[]) (he:S l.length (some (l.length,flat g l))):S 0 none:=by
 have hp:=List.length_pos_iff.2 hl
 have key:=z4v (fun k=>if k=0 then S 0 none else S k (some (k,flat g (l.take k)))) l.length ?_ ?_
 · simpa using key
 · intro k hk h
   rw[if_neg (by omega),zdB hk]at h
   by_cases hk0:k=0
   · subst hk0
     rw[if_pos rfl]
     exact h0 0 hp h
   · rw[if_neg hk0]
     exact h1 k hk k _ (Nat.le_refl _) (by rw[z0h hg,List.length_take,Nat.min_eq_left (by omega)]) h
 · rw[if_neg (by omega),List.take_length]
   exact he
end Go.Fw
open Go
namespace Go.Fw
set_option maxRecDepth 100000
theorem zbX(l:List (Int×Int))(hl:l.length<2^30):PCall P 61 [rdV l] (rdV l):=by
 cases l with
 | nil => exact z9d (zhm 0 [] (R := (· = _)) (zkv 0 [] 0 0 0 rfl rfl))
 |cons x t=>
  generalize hx:x::t=l at*
  have hne:l≠[]:=by rw[←hx];exact List.cons_ne_nil _ _
  refine zhm l.length (flat rdL l) (R := (· = _)) ?_
  refine z32 (s:=2) l rdL z03 (fun k o=>Ok P 61 (loopHead P 61 0) (match o with
   |none=>⟨J1 18 [(3,.cv (.lit (.slice none 0 0))),(6,.cv (.lst l.length (flat rdL l))),(7,.cv (j5 l.length)),(8,.cv (j5 k))],[]⟩
   | some (c, out) => ⟨J1 18 [(3, .sl 0 0 c 2), (6, .cv (.lst l.length (flat rdL l))), (7, .cv (j5 l.length)), (8, .cv (j5 k))], [some (own out)]⟩) (.of (· = rdV l))) ?_ ?_ hne ?_
  · intro k hk h
    refine zjS l.length (flat rdL l) k l[k].1 l[k].2 (decide_eq_true (by omega)) (by omega) (U3 z03 hk) rfl ?_
    rw[w64 (by omega)]
    exact h
  · intro k hk c out hc ho h
    refine zkN l.length c (flat rdL l) out k l[k].1 l[k].2 (decide_eq_true (by omega)) (by omega) (U3 z03 hk) (by omega) (by omega) (by simp[own,ho]) ?_ ?_ rfl ?_
    · simp[z6T,MV.one]
    · rw[show own out++[MV.cv (j5 l[k].1),MV.cv (j5 l[k].2)]=own (out++rdL l[k]) by simp[own,rdL]];exact CvL.map_cv _
    · rw[w64 (by omega)]
      simpa[own,rdL]using h
  · refine zlS l.length l.length (flat rdL l) (flat rdL l) l.length 0 0 (decide_eq_false (by omega)) ?_ rfl
    rw[List.drop_zero,List.take_of_length_le (by simp[own,z0h z03])];rfl
theorem zaD(l:List (Int×Int))(hl:l.length<2^30):PCall P 88 [rdV l] (rdV l):=by
 cases l with
 | nil => exact z9d (zhE 0 [] (R := (· = _)) (ziC 0 [] 0 0 0 rfl rfl))
 |cons x t=>
  generalize hx:x::t=l at*
  have hne:l≠[]:=by rw[←hx];exact List.cons_ne_nil _ _
  refine zhE l.length (flat rdL l) (R := (· = _)) ?_
  refine z32 (s:=2) l rdL z03 (fun k o=>Ok P 88 (loopHead P 88 0) (match o with
   |none=>⟨J1 18 [(3,.cv (.lit (.slice none 0 0))),(6,.cv (.lst l.length (flat rdL l))),(7,.cv (j5 l.length)),(8,.cv (j5 k))],[]⟩
   | some (c, out) => ⟨J1 18 [(3, .sl 0 0 c 2), (6, .cv (.lst l.length (flat rdL l))), (7, .cv (j5 l.length)), (8, .cv (j5 k))], [some (own out)]⟩) (.of (· = rdV l))) ?_ ?_ hne ?_
  · intro k hk h
    refine zjM l.length (flat rdL l) k l[k].1 l[k].2 (decide_eq_true (by omega)) (by omega) (U3 z03 hk) rfl ?_
    rw[w64 (by omega)]
    exact h
  · intro k hk c out hc ho h
    refine zkK l.length c (flat rdL l) out k l[k].1 l[k].2 (decide_eq_true (by omega)) (by omega) (U3 z03 hk) (by omega) (by omega) (by simp[own,ho]) ?_ ?_ rfl ?_
    · simp[z6T,MV.one]
    · rw[show own out++[MV.cv (j5 l[k].1),MV.cv (j5 l[k].2)]=own (out++rdL l[k]) by simp[own,rdL]];exact CvL.map_cv _
    · rw[w64 (by omega)]
      simpa[own,rdL]using h
  · refine zkX l.length l.length (flat rdL l) (flat rdL l) l.length 0 0 (decide_eq_false (by omega)) ?_ rfl
    rw[List.drop_zero,List.take_of_length_le (by simp[own,z0h z03])];rfl
def z0H(l:List (Int×Int)):Bool:=decide (l.length≤48)&&l.all fun x=>decide (-10000≤x.2∧x.2≤10000)
theorem z1L{l:List (Int×Int)}{k:Nat}(hk:k<l.length):(flat rdL l)[(k:Int).toNat*2+1]?=some (j5 l[k].2):=by
 rw[Int.toNat_natCast,z9l z03 hk (by decide)];rfl
theorem zgh{l:List (Int×Int)}{p:Int×Int→Bool}{k:Nat}(hk:k<l.length):(l.drop k).all p=(p l[k]&&(l.drop (k+1)).all p):=by
 rw[List.drop_eq_getElem_cons hk,List.all_cons]
def rdP(x:Int×Int):Bool:=decide (-10000≤x.2∧x.2≤10000)
theorem z2r(l:List (Int×Int))(hl:l.length<2^30):PCall P 118 [rdV l] (.lit (.bool (z0H l))):=by
 refine zqx l.length (flat rdL l) (R := (· = _)) ?_
 have key:=z4v (fun k=> ∀R:Goal,j8 R.n []=true→R.c (.lit (.bool (decide (l.length≤48)&&(l.drop k).all rdP)))→Ok P 118 (loopHead P 118 0) ⟨J1 27 [(0,.cv (.lst l.length (flat rdL l))),(3,.cv (j5 k))],[]⟩ R) l.length ?_ ?_
 · exact key _ rfl (by show CV.lit _=CV.lit _;rfl)
 · intro k hk ih R hn hR
   rw[zgh hk]at hR
   have b:(0:Int)≤(k:Int)∧(k:Int)<(l.length:Int):=by omega
   have i1:=decide_eq_true b.2
   by_cases h1:l[k].2< -10000
   · refine zkC l.length (flat rdL l) k l[k].1 l[k].2 i1 (decide_eq_true h1) b (z1L hk) ?_
     rw[show rdP l[k]=false from decide_eq_false (by omega),Bool.false_and,Bool.and_false]at hR
     exact hR
   · by_cases h2:l[k].2>10000
     · refine zlM l.length (flat rdL l) k l[k].1 l[k].2 i1 (decide_eq_false h1) (decide_eq_true h2) b (z1L hk) b (z1L hk) ?_
       rw[show rdP l[k]=false from decide_eq_false (by omega),Bool.false_and,Bool.and_false]at hR
       exact hR
     · refine zkJ l.length (flat rdL l) k l[k].1 l[k].2 i1 (decide_eq_false h1) (decide_eq_false h2) b (z1L hk) b (z1L hk) hn ?_
       rw[show rdP l[k]=true from decide_eq_true (by omega),Bool.true_and]at hR
       rw[w64 (by omega)]
       exact ih R hn hR
 · intro R hn hR
   refine zjk l.length (flat rdL l) l.length 0 0 (decide_eq_false (by omega)) ?_
   rw[List.drop_length,List.all_nil,Bool.and_true]at hR
   have e:decide ((l.length:Int)≤48)=decide (l.length≤48):=by rw[decide_eq_decide];omega
   rw[e];exact hR
theorem zq6(i o:Int):PCall P 182 [.agg [j5 i,j5 o]] (.lit (.bool (!rdP (i,o)))):=by
 by_cases h1:o< -10000
 · rw[show rdP (i,o)=false from decide_eq_false (by simp only;omega)]
   exact zpf i o (decide_eq_true h1)
 · refine(zos i o (decide_eq_false h1)).eq ?_
   congr 2
   by_cases h2:o>10000
   · rw[decide_eq_true h2,show rdP (i,o)=false from decide_eq_false (by simp only;omega)];rfl
   · rw[decide_eq_false h2,show rdP (i,o)=true from decide_eq_true (by simp only;omega)];rfl
def ixF:List (Int×Int)→Nat→Int
 | [],_=> -1
 |x::l,k=>if rdP x then ixF l (k+1)else k
theorem zdA: ∀(l:List (Int×Int)) (k:Nat),decide (ixF l k≥0)=!l.all rdP
 | [],_=>rfl
 |x::l,k=>by
  unfold ixF
  rw[List.all_cons]
  cases h:rdP x
  · rw[if_neg (by decide)]
    exact decide_eq_true (by omega)
  · rw[if_pos rfl,Bool.true_and];exact zdA l (k+1)
end Go.Fw
open Go IntKind
namespace Go.Fw
set_option maxRecDepth 100000
theorem zjY(n:Nat)(es:List CV)(k mi mo:Int)(h1:decide (k<(n:Int))=true)(h2:(!rdP (mi,mo))=true)(o1:(0:Int)≤k∧k<(n:Int))(o2:List.take 2 (List.drop (k.toNat*2) es)=[.lit (.int .i64 mi),.lit (.int .i64 mo)]){R:Goal}(hR:R.c (.lit (.int .i64 k))):Ok P 230 (loopHead P 230 0) ⟨J1 19 [(0,.cv (.lst n es)),(1,.cv (CV.lit (Value.func (Fn.func 182) #[] #[]))),(7,.cv (j5 (n:Int))),(8,.cv (j5 k))],[]⟩ R:=
 okT (.b 2 h1 (.c o1 (.c o2 (.c (eqn 2) (.c ((zq6 (mi) (mo)).eqB h2) (.o 9 (.r (.agg [.lit (.int .i64 mi),.lit (.int .i64 mo)])) (.o 10 (.r (.lit (.bool true))) .nil))))))) (by kernel_rfl) hR
theorem zlf(n:Nat)(es:List CV)(k mi mo:Int)(h1:decide (k<(n:Int))=true)(h2:(!rdP (mi,mo))=false)(o1:(0:Int)≤k∧k<(n:Int))(o2:List.take 2 (List.drop (k.toNat*2) es)=[.lit (.int .i64 mi),.lit (.int .i64 mo)]){R:Goal}(hn:j8 R.n []=true)(hR:Ok P 230 (loopHead P 230 0) ⟨J1 19 [(0,.cv (.lst n es)),(1,.cv (CV.lit (Value.func (Fn.func 182) {toList:=[]} {toList:=[]}))),(7,.cv (.lit (.int .i64 (n:Int)))),(8,.cv (.lit (.int .i64 (i64.wrap (k+1)))))],[]⟩ R):Ok P 230 (loopHead P 230 0) ⟨J1 19 [(0,.cv (.lst n es)),(1,.cv (CV.lit (Value.func (Fn.func 182) #[] #[]))),(7,.cv (j5 (n:Int))),(8,.cv (j5 k))],[]⟩ R:=
 z0n (keep:=[0,1,7,8]) (σ:=[]) (.b 2 h1 (.c o1 (.c o2 (.c (eqn 2) (.c ((zq6 (mi) (mo)).eqB h2) (.o 9 (.r (.agg [.lit (.int .i64 mi),.lit (.int .i64 mo)])) (.o 10 (.r (.lit (.bool false))) (.o 14 .stop .nil)))))))) (by kernel_rfl) rfl hn hR .nil
theorem zjJ(n:Nat)(es:List CV)(k _mi _mo:Int)(h1:decide (k<(n:Int))=false){R:Goal}(hR:R.c (.lit (.int .i64 (-1:Int)))):Ok P 230 (loopHead P 230 0) ⟨J1 19 [(0,.cv (.lst n es)),(1,.cv (CV.lit (Value.func (Fn.func 182) #[] #[]))),(7,.cv (j5 (n:Int))),(8,.cv (j5 k))],[]⟩ R:=
 okT (.b 2 h1 .nil) (by kernel_rfl) hR
end Go.Fw
open Go
namespace Go.Fw
set_option maxRecDepth 100000
theorem zry(l:List (Int×Int))(hl:l.length<2^30):PCall P 230 [rdV l,.lit (.func (.func 182) #[] #[])] (j5 (ixF l 0)):=by
 refine zpK l.length (flat rdL l) (R := (· = _)) ?_
 have key:=z4v (fun k=> ∀R:Goal,j8 R.n []=true→R.c (j5 (ixF (l.drop k) k))→Ok P 230 (loopHead P 230 0) ⟨J1 19 [(0,.cv (.lst l.length (flat rdL l))),(1,.cv (.lit (.func (.func 182) #[] #[]))),(7,.cv (j5 l.length)),(8,.cv (j5 k))],[]⟩ R) l.length ?_ ?_
 · exact key _ rfl rfl
 · intro k hk ih R hn hR
   have b:(0:Int)≤(k:Int)∧(k:Int)<(l.length:Int):=by omega
   have i1:=decide_eq_true b.2
   rw[List.drop_eq_getElem_cons hk]at hR
   unfold ixF at hR
   cases h:rdP l[k]
   · rw[h,if_neg (by decide)]at hR
     exact zjY l.length (flat rdL l) k l[k].1 l[k].2 i1 (by rw[show(l[k].1,l[k].2)=l[k]from rfl,h];rfl) b (U3 z03 hk) hR
   · rw[h,if_pos rfl]at hR
     refine zlf l.length (flat rdL l) k l[k].1 l[k].2 i1 (by rw[show(l[k].1,l[k].2)=l[k]from rfl,h];rfl) b (U3 z03 hk) hn ?_
     rw[w64 (by omega)]
     exact ih R hn hR
 · intro R hn hR
   rw[List.drop_length]at hR
   exact zjJ l.length (flat rdL l) l.length 0 0 (decide_eq_false (by omega)) hR
end Go.Fw
open Go IntKind
namespace Go.Fw
set_option maxRecDepth 100000
theorem zpa(l:List (Int×Int))(s3_0:l.length<2^30):PCall P 181 [rdV l,CV.lit (Value.func (Fn.func 182) #[] #[])] (.lit (.bool (decide (ixF l 0≥0)))):=
 j3 (.r 3 (zry (l) s3_0) .nil) (by kernel_rfl)
theorem zmz(i:Int)(s1_0:(-9223372036854775808:Int)≤1∧(1:Int)≤9223372036854775807):PCall P 143 [j5 i] (z39 (oN (1:Int)) (kN (z5v i)) (kN (z9m i))):=
 j3 (.r 1 (zgn ((1:Int)) s1_0) (.r 3 (zr6 (i)) (.r 5 (zr9 (i)) (.c (lq 30 30) .nil)))) (by kernel_rfl)
end Go.Fw
open Go
namespace Go.Fw
set_option maxRecDepth 100000
theorem z6P{v w:VN}{n:Nat}(hv:v.raw n=true)(hw:w.raw n=true):(z1A v w).raw (n+n+n+n+3)=true:=by
 refine z82 ?_
 cases ev:toV v with
 |none=>exact Nat.zero_le _
 |some a=>
  cases ew:toV w with
  |none=>exact Nat.zero_le _
  |some b=>
   obtain⟨x,y,z⟩:=z0u ev hv
   obtain⟨x',y',z'⟩:=z0u ew hw
   have key: ∀c d e f:K,c.sz≤n→d.sz≤n→e.sz≤n→f.sz≤n→(c*d-e*f).sz≤n+n+n+n+3:=by
    intro c d e f h1 h2 h3 h4
    have m1:=K.sz_mul c d
    have m2:=K.sz_mul e f
    have m3:=K.sz_sub (c*d) (e*f)
    omega
   have k1:=key a.y b.z a.z b.y y z' z y'
   have k2:=key a.z b.x a.x b.z z x' x z'
   have k3:=key a.x b.y a.y b.x x y' y x'
   show max (a.y*b.z-a.z*b.y).sz (max (a.z*b.x-a.x*b.z).sz (a.x*b.y-a.y*b.x).sz)≤_
   omega
end Go.Fw
open Go
namespace Go.Fw
set_option maxRecDepth 100000
theorem z4W(a b:Int)(h:Two a b):PCall P 128 [J7 a,J7 b] (J7 (a*b)):=by
 obtain⟨n,hn,ha,hb⟩:=h
 exact Y5 a b (ha.sml (by omega)) (hb.sml (by omega)) (ha.sm2 hb (by omega))
theorem z9X(k:Nat)(b:Int)(h:Two k b):PCall P 128 [.agg [.lit (.bool false),.lit (.string (bytesOf k))],J7 b] (J7 (k*b)):=by
 have:=z4W k b h
 unfold J7 at this ⊢
 rw[show decide ((k:Int)<0)=false from decide_eq_false (by omega)]at this
 exact this
theorem zom(a b:Int)(h:Two a b):PCall P 127 [J7 a,J7 b] (J7 (a+b)):=by
 obtain⟨n,hn,ha,hb⟩:=h
 exact z0z a b (ha.sml (by omega)) (hb.sml (by omega)) (ha.sma hb (by omega))
theorem zfk(a b:Int):(if a<b then(-1:Int)else if a=b then 0 else 1)=(a-b).sign:=by
 rcases Int.lt_trichotomy a b with h|h|h
 · rw[if_pos h,Int.sign_eq_neg_one_of_neg (by omega)]
 · rw[if_neg (by omega),if_pos h,h,Int.sub_self];rfl
 · rw[if_neg (by omega),if_neg (by omega),Int.sign_eq_one_of_pos (by omega)]
theorem zpL(a b:Int)(h:Two a b):PCall P 213 [J7 a,J7 b] (j5 (a-b).sign):=by
 obtain⟨n,hn,ha,hb⟩:=h
 rw[←zfk]
 exact zcK a b (ha.sml (by omega)) (hb.sml (by omega))
end Go.Fw
open Go IntKind
namespace Go.Fw
set_option maxRecDepth 100000
theorem zj0(a b:Int)(h1:(a.sign==b.sign)=true):PCall P 151 [J7 a,J7 b] (.lit (.int .i64 a.sign)):=
 j3 (.r 4 (Z7 (a)) (.r 6 (Z7 (b)) (.b 12 h1 .nil))) (by kernel_rfl)
theorem zm5(a b:Int)(h1:(a.sign==b.sign)=false)(h2:(b.sign==0)=true):PCall P 151 [J7 a,J7 b] (.lit (.int .i64 a.sign)):=
 j3 (.r 4 (Z7 (a)) (.r 6 (Z7 (b)) (.b 12 h1 (.b 16 h2 .nil)))) (by kernel_rfl)
theorem zls(a b:Int)(h1:(a.sign==b.sign)=false)(h2:(b.sign==0)=false)(h3:(a.sign==0)=true):PCall P 151 [J7 a,J7 b] (.lit (.int .i64 b.sign)):=
 j3 (.r 4 (Z7 (a)) (.r 6 (Z7 (b)) (.b 12 h1 (.b 16 h2 (.b 19 h3 .nil))))) (by kernel_rfl)
theorem zl8(a b:Int)(h1:(a.sign==b.sign)=false)(h2:(b.sign==0)=false)(h3:(a.sign==0)=false)(s23_0:Two a a)(s24_0:(-9223372036854775808:Int)≤2∧(2:Int)≤9223372036854775807)(s27_0:Two b b)(s28_0:Two (2:Int) (b*b))(s29_0:Two (a*a) ((2:Int)*(b*b))):PCall P 151 [J7 a,J7 b] (.lit (.int .i64 (i64.wrap (a.sign*(a*a-2*(b*b)).sign)))):=
 j3 (.r 4 (Z7 (a)) (.r 6 (Z7 (b)) (.b 12 h1 (.b 16 h2 (.b 19 h3 (.r 23 (z4W (a) (a) s23_0) (.r 24 (Y9 ((2:Int)) s24_0) (.r 27 (z4W (b) (b) s27_0) (.r 28 (z9X (2) (b*b) s28_0) (.r 29 (zpL (a*a) ((2:Int)*(b*b)) s29_0) .nil)))))))))) (by kernel_rfl)
theorem zk1(a b:Int)(s15_0:Two a (-b)):PCall P 152 [J7 a,J7 b] (.agg [.lit (.bool (decide (a+ -b<0))),.lit (.string (bytesOf (a+ -b).natAbs))]):=
 j3 (.r 4 (J4 (a)) (.r 8 (J4 (b)) (.r 14 (X8 (b)) (.r 15 (zom (a) (-b) s15_0) (.c (lq 2 2) .nil))))) (by kernel_rfl)
end Go.Fw
open Go
namespace Go.Fw
set_option maxRecDepth 100000
theorem z4g(a b:Int)(h:z5w a b):PCall P 151 [J7 a,J7 b] (j5 (sg2 a b)):=by
 obtain⟨n,hn,ha,hb⟩:=h
 unfold sg2 z5a
 by_cases h1:a.sign=b.sign
 · rw[if_pos (.inl h1)]
   exact zj0 a b (by simp[h1])
 · by_cases h2:b.sign=0
   · rw[if_pos (.inr h2)]
     exact zm5 a b (beq_false_of_ne h1) (by simp[h2])
   · rw[if_neg (by rintro(h|h)<;>contradiction)]
     by_cases h3:a.sign=0
     · rw[if_pos h3]
       exact zls a b (beq_false_of_ne h1) (beq_false_of_ne h2) (by simp[h3])
     · rw[if_neg h3]
       have:=zl8 a b (beq_false_of_ne h1) (beq_false_of_ne h2) (beq_false_of_ne h3) ⟨n,by omega,ha,ha⟩ (by decide) ⟨n,by omega,hb,hb⟩ ⟨n+n+1,by omega,(show By 1 2 by unfold By;decide).mono (by omega),(hb.mul hb).mono (by omega)⟩ ⟨n+n+1,by omega,(ha.mul ha).mono (by omega),(hb.mul hb).two⟩
       have s1:=z3n a
       have s2:=z3n (a*a-2*(b*b))
       have hw:IntKind.i64.wrap (a.sign*(a*a-2*(b*b)).sign)=a.sign*(a*a-2*(b*b)).sign:=by
        generalize (a*a-2*(b*b)).sign=t at*
        have:a.sign= -1∨a.sign=1:=by omega
        rcases this with h|h<;>rw[h]<;>exact w64 (by omega)
       rw[hw]at this
       exact this
theorem zhc(a b:Int)(h:Two a b):PCall P 152 [J7 a,J7 b] (J7 (a-b)):=by
 obtain⟨n,hn,ha,hb⟩:=h
 have:=zk1 a b ⟨n,hn,ha,hb.neg⟩
 rw[←Int.sub_eq_add_neg]at this
 exact this
theorem zaN(a b:Int)(h:Two a b):PCall P 130 [c4C a b 0 0,c4C a b 0 0] (c4C (a*a+2*(b*b)) (2*(a*b)) 0 0):=by
 obtain⟨n,hn,ha,hb⟩:=h
 have z:By n 0:=by unfold By;exact Nat.pow_pos (by decide)
 have:=z3W a b 0 0 a b 0 0 ⟨n,hn,⟨ha,hb,z,z⟩,ha,hb,z,z⟩
 rw[show a*a+2*b*b+3*0*0+6*0*0=a*a+2*(b*b) by grind,show a*b+b*a+3*0*0+3*0*0=2*(a*b) by grind,show a*0+0*a+2*b*0+2*0*b=0 by grind,show a*0+0*a+b*0+0*b=0 by grind]at this
 exact this
end Go.Fw
open Go IntKind
namespace Go.Fw
set_option maxRecDepth 100000
theorem zmN(x:K)(h1:(sg2 x.c0 x.c1==sg2 x.c2 x.c3)=true)(s3_0:x.sz≤1000000)(s12_0:z5w x.c0 x.c1)(s19_0:z5w x.c2 x.c3):PCall P 71 [Q1 x] (.lit (.int .i64 (sg2 x.c0 x.c1))):=
 j3 (.r 3 (z0x (x) s3_0) (.c (bq 0 4) (.c (bq 1 4) (.r 12 (z4g (x.c0) (x.c1) s12_0) (.c (bq 2 4) (.c (bq 3 4) (.r 19 (z4g (x.c2) (x.c3) s19_0) (.b 25 h1 .nil)))))))) (by kernel_rfl)
theorem zmR(x:K)(h1:(sg2 x.c0 x.c1==sg2 x.c2 x.c3)=false)(h2:(sg2 x.c2 x.c3==0)=true)(s3_0:x.sz≤1000000)(s12_0:z5w x.c0 x.c1)(s19_0:z5w x.c2 x.c3):PCall P 71 [Q1 x] (.lit (.int .i64 (sg2 x.c0 x.c1))):=
 j3 (.r 3 (z0x (x) s3_0) (.c (bq 0 4) (.c (bq 1 4) (.r 12 (z4g (x.c0) (x.c1) s12_0) (.c (bq 2 4) (.c (bq 3 4) (.r 19 (z4g (x.c2) (x.c3) s19_0) (.b 25 h1 (.b 29 h2 .nil))))))))) (by kernel_rfl)
theorem zn9(x:K)(h1:(sg2 x.c0 x.c1==sg2 x.c2 x.c3)=false)(h2:(sg2 x.c2 x.c3==0)=false)(h3:(sg2 x.c0 x.c1==0)=true)(s3_0:x.sz≤1000000)(s12_0:z5w x.c0 x.c1)(s19_0:z5w x.c2 x.c3):PCall P 71 [Q1 x] (.lit (.int .i64 (sg2 x.c2 x.c3))):=
 j3 (.r 3 (z0x (x) s3_0) (.c (bq 0 4) (.c (bq 1 4) (.r 12 (z4g (x.c0) (x.c1) s12_0) (.c (bq 2 4) (.c (bq 3 4) (.r 19 (z4g (x.c2) (x.c3) s19_0) (.b 25 h1 (.b 29 h2 (.b 32 h3 .nil)))))))))) (by kernel_rfl)
theorem znI(x:K)(h1:(sg2 x.c0 x.c1==sg2 x.c2 x.c3)=false)(h2:(sg2 x.c2 x.c3==0)=false)(h3:(sg2 x.c0 x.c1==0)=false)(s3_0:x.sz≤1000000)(s12_0:z5w x.c0 x.c1)(s19_0:z5w x.c2 x.c3)(s47_0:Two x.c0 x.c1)(s64_0:Two x.c2 x.c3)(s67_0:(-9223372036854775808:Int)≤3∧(3:Int)≤9223372036854775807)(s76_0:Two (3:Int) (x.c2*x.c2+2*(x.c3*x.c3)))(s77_0:Two (x.c0*x.c0+2*(x.c1*x.c1)) ((3:Int)*(x.c2*x.c2+2*(x.c3*x.c3))))(s83_0:Two (3:Int) ((2:Int)*(x.c2*x.c3)))(s84_0:Two ((2:Int)*(x.c0*x.c1)) ((3:Int)*((2:Int)*(x.c2*x.c3))))(s85_0:z5w (x.c0*x.c0+2*(x.c1*x.c1)-3*(x.c2*x.c2+2*(x.c3*x.c3))) ((2:Int)*(x.c0*x.c1)-3*((2:Int)*(x.c2*x.c3)))):PCall P 71 [Q1 x] (.lit (.int .i64 (i64.wrap (sg2 x.c0 x.c1*sg2 (x.c0*x.c0+2*(x.c1*x.c1)-3*(x.c2*x.c2+2*(x.c3*x.c3))) ((2:Int)*(x.c0*x.c1)-3*((2:Int)*(x.c2*x.c3))))))):=
 j3 (.r 3 (z0x (x) s3_0) (.c (bq 0 4) (.c (bq 1 4) (.r 12 (z4g (x.c0) (x.c1) s12_0) (.c (bq 2 4) (.c (bq 3 4) (.r 19 (z4g (x.c2) (x.c3) s19_0) (.b 25 h1 (.b 29 h2 (.b 32 h3 (.c (bq 0 4) (.c (bq 1 4) (.c (bq 0 4) (.c (bq 1 4) (.r 47 (zaN (x.c0) (x.c1) s47_0) (.c (lq 8 8) (.c (bq 2 4) (.c (bq 3 4) (.c (bq 2 4) (.c (bq 3 4) (.r 64 (zaN (x.c2) (x.c3) s64_0) (.c (lq 8 8) (.r 67 (Y9 ((3:Int)) s67_0) (.c (lq 2 2) (.c (bq 0 4) (.c (bq 0 4) (.r 76 (z9X (3) (x.c2*x.c2+2*(x.c3*x.c3)) s76_0) (.r 77 (zhc (x.c0*x.c0+2*(x.c1*x.c1)) ((3:Int)*(x.c2*x.c2+2*(x.c3*x.c3))) s77_0) (.c (bq 1 4) (.c (bq 1 4) (.r 83 (z9X (3) ((2:Int)*(x.c2*x.c3)) s83_0) (.r 84 (zhc ((2:Int)*(x.c0*x.c1)) ((3:Int)*((2:Int)*(x.c2*x.c3))) s84_0) (.r 85 (z4g (x.c0*x.c0+2*(x.c1*x.c1)-3*(x.c2*x.c2+2*(x.c3*x.c3))) ((2:Int)*(x.c0*x.c1)-3*((2:Int)*(x.c2*x.c3))) s85_0) .nil))))))))))))))))))))))))))))))))) (by kernel_rfl)
theorem zjm(x:RN)(g:x.ok=false)(s3_0:RN.raw 1000000 x=true):PCall P 71 [x.c] (.lit (.int .i64 0)):=
 j3 (.r 3 ((z0l (x) s3_0).eqB g) .nil) (by kernel_rfl)
end Go.Fw
open Go
namespace Go.Fw
set_option maxRecDepth 100000
theorem z9A(x:K)(hx:x.sz≤1000000):PCall P 71 [Q1 x] (j5 (K.sgn x)):=by
 obtain⟨x0,x1,x2,x3,_⟩:=By.of_sz hx
 have t01:z5w x.c0 x.c1:=⟨_,by decide,x0,x1⟩
 have t23:z5w x.c2 x.c3:=⟨_,by decide,x2,x3⟩
 have b1:=zax x.c0 x.c1
 rw[←zdN]
 unfold zqK
 by_cases h1:sg2 x.c0 x.c1=sg2 x.c2 x.c3
 · rw[z2V (c':=0) (.inl h1)]
   unfold z5a
   rw[if_pos (.inl h1)]
   exact zmN x (by simp[h1]) hx t01 t23
 · by_cases h2:sg2 x.c2 x.c3=0
   · unfold z5a
     rw[if_pos (.inr h2)]
     exact zmR x (beq_false_of_ne h1) (by simp[h2]) hx t01 t23
   · by_cases h3:sg2 x.c0 x.c1=0
     · unfold z5a
       rw[if_neg (fun h=>h.elim h1 h2),if_pos h3]
       exact zn9 x (beq_false_of_ne h1) (beq_false_of_ne h2) (by simp[h3]) hx t01 t23
     · unfold z5a
       rw[if_neg (fun h=>h.elim h1 h2),if_neg h3]
       obtain⟨N,hN,e⟩: ∃N,N=1000000∧x.sz≤N:=⟨_,rfl,hx⟩
       obtain⟨y0,y1,y2,y3,_⟩:=By.of_sz e
       have k3: ∀{n:Nat},1≤n→By n 3:=fun h=>(show By 1 3 by unfold By;decide).mono h
       have u1:=((y0.mul y0).mono (Nat.le_succ _)).add (y1.mul y1).two
       have u2:=((y2.mul y2).mono (Nat.le_succ _)).add (y3.mul y3).two
       have u3:=u2.k (k:=3) (by decide)
       have v1:=(y0.mul y1).two
       have v2:=(y2.mul y3).two
       have v3:=v2.k (k:=3) (by decide)
       have w1:=(u1.mono (Nat.le_succ _)).sub u3
       have w2:=(v1.mono (Nat.le_succ _)).sub v3
       have h:=znI x (beq_false_of_ne h1) (beq_false_of_ne h2) (beq_false_of_ne h3) hx t01 t23 ⟨N,by omega,y0,y1⟩ ⟨N,by omega,y2,y3⟩ (by decide) ⟨_,by omega,k3 (by omega),u2⟩ ⟨_,by omega,u1.mono (Nat.le_succ _),u3⟩
        ⟨_,by omega,k3 (by omega),v2⟩ ⟨_,by omega,v1.mono (Nat.le_succ _),v3⟩ ⟨_,by omega,w1,w2.mono (by omega)⟩
       rw[show(1:Int)*(x.c0*x.c0)+2*(x.c1*x.c1)-(3*(x.c2*x.c2)+6*(x.c3*x.c3))=x.c0*x.c0+2*(x.c1*x.c1)-3*(x.c2*x.c2+2*(x.c3*x.c3)) by grind,
        show 2*(x.c0*x.c1)-6*(x.c2*x.c3)=2*(x.c0*x.c1)-3*(2*(x.c2*x.c3)) by grind]
       have s2:=zax (x.c0*x.c0+2*(x.c1*x.c1)-3*(x.c2*x.c2+2*(x.c3*x.c3))) (2*(x.c0*x.c1)-3*(2*(x.c2*x.c3)))
       generalize sg2 (x.c0*x.c0+2*(x.c1*x.c1)-3*(x.c2*x.c2+2*(x.c3*x.c3))) (2*(x.c0*x.c1)-3*(2*(x.c2*x.c3)))=t at*
       have hw:IntKind.i64.wrap (sg2 x.c0 x.c1*t)=sg2 x.c0 x.c1*t:=by
        have:sg2 x.c0 x.c1= -1∨sg2 x.c0 x.c1=1:=by omega
        rcases this with h|h<;>rw[h]<;>exact w64 (by omega)
       rw[hw]at h
       exact h
theorem z5K(x:RN)(hx:x.raw 1000000=true):PCall P 71 [x.c] (j5 (z50 x)):=by
 unfold z50
 cases ex:toO x with
 |none=>exact zjm x (z0f ex) hx
 |some k=>
  have a:=z1a ex hx
  rw[zbB (z19 ex).2]
  exact z9A k a
end Go.Fw
open Go IntKind
namespace Go.Fw
set_option maxRecDepth 100000
theorem zoT(x y:RN)(s5_0:RN.raw 1000000 x=true)(s5_1:RN.raw 1000000 y=true)(s6_0:RN.raw 1000000 (z3j x y)=true):PCall P 167 [x.c,y.c] (.lit (.int .i64 (z50 (z3j x y)))):=
 j3 (.r 5 (zd5 (x) (y) s5_0 s5_1) (.r 6 (z6y (z3j x y) s6_0) .nil)) (by kernel_rfl)
end Go.Fw
open Go
namespace Go.Fw
set_option maxRecDepth 100000
noncomputable def z9n(x y:RN):Int:=z50 (z3j x y)
theorem zhM(x y:RN)(hx:x.raw 100000=true)(hy:y.raw 100000=true):PCall P 167 [x.c,y.c] (j5 (z9n x y)):=
 zoT x y (RN.raw_mono hx (by decide)) (RN.raw_mono hy (by decide)) (RN.raw_mono (zdY hx hy) (by decide))
end Go.Fw
open Go
namespace Go.Fw
set_option maxRecDepth 100000
noncomputable def kV(a b c:K):VN:=⟨kN a,kN b,kN c⟩
theorem zcW(a b c a' b' c':K):z38 (kV a b c) (kV a' b' c')=kN (a*a'+b*b'+c*c'):=by
 unfold z38 kV
 rw[z9p,z9p,z1Q];rfl
theorem ziY(a b c a' b' c':K):z05 (kV a b c) (kV a' b' c')=kV (a+a') (b+b') (c+c'):=by
 unfold z05 kV
 rw[z9p,z9p,z1Q,z1Q,z1Q];rfl
theorem zcZ(a b c k:K):J2 (kV a b c) (kN k)=kV (a*k) (b*k) (c*k):=zfx a b c k
end Go.Fw
open Go
namespace Go.Fw
set_option maxRecDepth 100000
theorem z28{v:VN}{k:RN}{n:Nat}(hv:v.raw n=true)(hk:k.raw n=true):(J2 v k).raw (n+n+1)=true:=by
 refine z82 ?_
 have hk':=z1K hk
 cases ev:toV v with
 |none=>exact Nat.zero_le _
 |some a=>
  cases ew:toO k with
  |none=>exact Nat.zero_le _
  |some b=>
   rw[ew]at hk'
   have hk':b.sz≤n:=hk'
   obtain⟨x,y,z⟩:=z0u ev hv
   have m1:=K.sz_mul a.x b
   have m2:=K.sz_mul a.y b
   have m3:=K.sz_mul a.z b
   show max (a.x*b).sz (max (a.y*b).sz (a.z*b).sz)≤n+n+1
   omega
theorem zcY{v w:VN}{n:Nat}(hv:v.raw n=true)(hw:w.raw n=true):(z38 v w).raw (6*n+5)=true:=by
 refine z1O ?_
 cases ev:toV v with
 |none=>exact Nat.zero_le _
 |some a=>
  cases ew:toV w with
  |none=>exact Nat.zero_le _
  |some b=>
   obtain⟨x,y,z⟩:=z0u ev hv
   obtain⟨x',y',z'⟩:=z0u ew hw
   have m1:=K.sz_mul a.x b.x
   have m2:=K.sz_mul a.y b.y
   have m3:=K.sz_mul a.z b.z
   have m4:=K.sz_add (a.x*b.x) (a.y*b.y)
   have m5:=K.sz_add (a.x*b.x+a.y*b.y) (a.z*b.z)
   show(a.x*b.x+a.y*b.y+a.z*b.z).sz≤6*n+5
   omega
end Go.Fw
open Go
namespace Go.Fw
set_option maxRecDepth 100000
theorem zcq(v w:VN)(hv:v.raw 10000=true)(hw:w.raw 10000=true):PCall P 149 [v.c,w.c] (z38 v w).c:=by
 have hm:(z5g v w).raw 100000=true:=by
  refine z82 ?_
  cases ev:toV v with
  |none=>exact Nat.zero_le _
  |some a=>
   cases ew:toV w with
   |none=>exact Nat.zero_le _
   |some b=>
    obtain⟨x,y,z⟩:=z0u ev hv
    obtain⟨x',y',z'⟩:=z0u ew hw
    have m1:=K.sz_mul a.x b.x
    have m2:=K.sz_mul a.y b.y
    have m3:=K.sz_mul a.z b.z
    show max (a.x*b.x).sz (max (a.y*b.y).sz (a.z*b.z).sz)≤100000
    omega
 obtain⟨h1,h2,h3⟩:=z0s.1 hm
 have h:=zkx v w (VN.raw_mono hv (by decide)) (VN.raw_mono hw (by decide)) (RN.raw_mono h1 (by decide)) (RN.raw_mono h2 (by decide)) (RN.raw_mono (ziL h1 h2) (by decide)) (RN.raw_mono h3 (by decide))
 rwa[zbD]at h
end Go.Fw
open Go IntKind
namespace Go.Fw
set_option maxRecDepth 100000
theorem zpT(u v w:VN)(s7_0:VN.raw 1000 v=true)(s7_1:VN.raw 1000 w=true)(s8_0:VN.raw 10000 u=true)(s8_1:VN.raw 10000 (z1A v w)=true):PCall P 175 [u.c,v.c,w.c] (RN.c (z38 u (z1A v w))):=
 j3 (.r 7 (zgq (v) (w) s7_0 s7_1) (.r 8 (zcq (u) (z1A v w) s8_0 s8_1) (.c (lq 10 10) .nil))) (by kernel_rfl)
theorem zmY(u v w:VN)(g1:u.ok=true)(g2:v.ok=true)(g3:w.ok=true)(s5_0:VN.raw 1000000 u=true)(s9_0:VN.raw 1000000 v=true)(s14_0:VN.raw 1000000 w=true)(s21_0:VN.raw 1000 v=true)(s21_1:VN.raw 1000 w=true)(s22_0:VN.raw 1000 u=true)(s22_1:VN.raw 1000 (z1A v w)=true):PCall P 100 [u.c,v.c,w.c] (RN.c (z38 u (z1A v w))):=
 j3 (.r 5 ((z2x (u) s5_0).eqB g1) (.r 9 ((z2x (v) s9_0).eqB g2) (.r 14 ((z2x (w) s14_0).eqB g3) (.r 21 (zdE (v) (w) s21_0 s21_1) (.r 22 (zhQ (u) (z1A v w) s22_0 s22_1) (.c (lq 10 10) .nil)))))) (by kernel_rfl)
end Go.Fw
open Go
namespace Go.Fw
set_option maxRecDepth 100000
noncomputable def Z8(u v w:VN):RN:=z38 u (z1A v w)
theorem zpO(u v w:VN)(hu:u.raw 1000=true)(hv:v.raw 1000=true)(hw:w.raw 1000=true):PCall P 175 [u.c,v.c,w.c] (Z8 u v w).c:=
 zpT u v w hv hw (VN.raw_mono hu (by decide)) (VN.raw_mono (z6P hv hw) (by decide))
theorem z8U(u v w:VN)(g1:u.ok=true)(g2:v.ok=true)(g3:w.ok=true)(hu:u.raw 200=true)(hv:v.raw 200=true)(hw:w.raw 200=true):PCall P 100 [u.c,v.c,w.c] (Z8 u v w).c:=by
 have m: ∀{x:VN},x.raw 200=true→x.raw 1000000=true:=fun h=>VN.raw_mono h (by decide)
 have n: ∀{x:VN},x.raw 200=true→x.raw 1000=true:=fun h=>VN.raw_mono h (by decide)
 exact zmY u v w g1 g2 g3 (m hu) (m hv) (m hw) (n hv) (n hw) (n hu) (VN.raw_mono (z6P hv hw) (by decide))
end Go.Fw
open Go
namespace Go.Fw
set_option maxRecDepth 100000
theorem zfT(a b c d:Int)(h: ∃n,1≤n∧n≤500000000∧By4 n a b c d):PCall P 130 [.agg [.lit (.bool false),.lit (.string (bytesOf 1)),.lit (.bool false),.lit (.string ⟨#[]⟩),.lit (.bool false),.lit (.string ⟨#[]⟩),.lit (.bool false),.lit (.string ⟨#[]⟩)],c4C a b c d] (c4C a b c d):=by
 obtain⟨n,h1,hn,hb⟩:=h
 have z:By n 0:=by unfold By;exact Nat.pow_pos (by decide)
 have o:By n 1:=(show By 1 1 by unfold By;decide).mono h1
 have:=z3W 1 0 0 0 a b c d ⟨n,hn,⟨o,z,z,z⟩,hb⟩
 rw[show 1*a+2*0*b+3*0*c+6*0*d=a by omega,show 1*b+0*a+3*0*d+3*0*c=b by omega,show 1*c+0*a+2*0*d+2*0*b=c by omega,show 1*d+0*a+0*c+0*b=d by omega]at this
 exact this
structure Q4 where
 a:Int
 b:Int
 c:Int
 d:Int
namespace Q4
def mul(x y:Q4):Q4:=⟨x.a*y.a+2*x.b*y.b+3*x.c*y.c+6*x.d*y.d,x.a*y.b+x.b*y.a+3*x.c*y.d+3*x.d*y.c,x.a*y.c+x.c*y.a+2*x.b*y.d+2*x.d*y.b,x.a*y.d+x.d*y.a+x.b*y.c+x.c*y.b⟩
def Sm(n:Nat)(x:Q4):Prop:=By4 n x.a x.b x.c x.d
end Q4
noncomputable def Y4(x y:Q4):Q4:=Classical.choose (⟨Q4.mul x y,rfl⟩: ∃z,z=Q4.mul x y)
theorem z5X(x y:Q4):Y4 x y=Q4.mul x y:=Classical.choose_spec (⟨Q4.mul x y,rfl⟩: ∃z,z=Q4.mul x y)
theorem z80 (a0 a1 a2 a3 b0 b1 b2 b3 : Int) (hp : ∃ n, n ≤ 500000000 ∧ Q4.Sm n ⟨a0, a1, a2, a3⟩ ∧ Q4.Sm n ⟨b0, b1, b2, b3⟩) : PCall P 130 [c4C a0 a1 a2 a3, c4C b0 b1 b2 b3]
    (c4C (Y4 ⟨a0,a1,a2,a3⟩ ⟨b0,b1,b2,b3⟩).a (Y4 ⟨a0,a1,a2,a3⟩ ⟨b0,b1,b2,b3⟩).b (Y4 ⟨a0,a1,a2,a3⟩ ⟨b0,b1,b2,b3⟩).c (Y4 ⟨a0,a1,a2,a3⟩ ⟨b0,b1,b2,b3⟩).d):=by
 rw[z5X]
 exact z3W a0 a1 a2 a3 b0 b1 b2 b3 hp
theorem zh8 (A : Q4) (b0 b1 b2 b3 : Int) (hp : ∃ n, n ≤ 500000000 ∧ Q4.Sm n A ∧ Q4.Sm n ⟨b0, b1, b2, b3⟩) : PCall P 130 [c4C A.a A.b A.c A.d, c4C b0 b1 b2 b3]
    (c4C (Y4 A ⟨b0,b1,b2,b3⟩).a (Y4 A ⟨b0,b1,b2,b3⟩).b (Y4 A ⟨b0,b1,b2,b3⟩).c (Y4 A ⟨b0,b1,b2,b3⟩).d):=z80 A.a A.b A.c A.d b0 b1 b2 b3 hp
theorem zaJ (a0 a1 a2 a3 : Int) (B : Q4) (hp : ∃ n, n ≤ 500000000 ∧ Q4.Sm n ⟨a0, a1, a2, a3⟩ ∧ Q4.Sm n B) : PCall P 130 [c4C a0 a1 a2 a3, c4C B.a B.b B.c B.d]
    (c4C (Y4 ⟨a0,a1,a2,a3⟩ B).a (Y4 ⟨a0,a1,a2,a3⟩ B).b (Y4 ⟨a0,a1,a2,a3⟩ B).c (Y4 ⟨a0,a1,a2,a3⟩ B).d):=z80 a0 a1 a2 a3 B.a B.b B.c B.d hp
end Go.Fw
