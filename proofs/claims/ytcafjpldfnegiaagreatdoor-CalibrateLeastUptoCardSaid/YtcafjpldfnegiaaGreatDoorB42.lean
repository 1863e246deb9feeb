/- A part of the proof that the law returns true for every input: an executor for the model's code, and what functions of the program compute. -/
import Derived.Test.YtcafjpldfnegiaaGreatDoorB11
import Derived.Test.YtcafjpldfnegiaaGreatDoorB15
import Derived.Test.YtcafjpldfnegiaaGreatDoorB17
import Derived.Test.YtcafjpldfnegiaaGreatDoorB21
import Derived.Test.YtcafjpldfnegiaaGreatDoorB28
import Derived.Test.YtcafjpldfnegiaaGreatDoorB35
import Derived.Test.YtcafjpldfnegiaaGreatDoorB36
import Derived.Test.YtcafjpldfnegiaaGreatDoorB37
import Derived.Test.YtcafjpldfnegiaaGreatDoorB38
import Derived.Test.YtcafjpldfnegiaaGreatDoorB39
import Derived.Test.YtcafjpldfnegiaaGreatDoorB40
import Derived.Test.YtcafjpldfnegiaaGreatDoorB41
import Derived.KernelRfl
open Go IntKind
namespace Go.Fw
set_option maxRecDepth 100000
theorem zgX(n:Nat)(es:List CV){R:CV→Prop}(hR:Ok P 61 (loopHead P 61 0) ⟨J3 18 [(3,.cv (CV.lit (Value.slice none 0 0))),(6,.cv (.lst n es)),(7,.cv (.lit (.int .i64 (n:Int)))),(8,.cv (.lit (.int .i64 0)))],[]⟩ (.of R)):W6 P 61 [.lst n es] R:=
 Y4 (keep:=[3,6,7,8]) (σ:=[]) (.o 5 .stop .nil) (by kernel_rfl) rfl hR .nil
theorem zkf(n:Nat)(es:List CV)(k mi mo:Int)(h1:decide (k<(n:Int))=true)(o1:(0:Int)≤k∧k<(n:Int))(o2:List.take 2 (List.drop (k.toNat*2) es)=[.lit (.int .i64 mi),.lit (.int .i64 mo)]){R:Goal}(hn:J0 R.n [2]=true)(hR:Ok P 61 (loopHead P 61 0) ⟨J3 18 [(3,.sl 0 0 1 2),(6,.cv (.lst n es)),(7,.cv (.lit (.int .i64 (n:Int)))),(8,.cv (.lit (.int .i64 (i64.wrap (k+1)))))],[some [.cv (.lit (.int .i64 mi)),.cv (.lit (.int .i64 mo))]]⟩ R):Ok P 61 (loopHead P 61 0) ⟨J3 18 [(3,.cv (CV.lit (Value.slice none 0 0))),(6,.cv (.lst n es)),(7,.cv (j6 (n:Int))),(8,.cv (j6 k))],[]⟩ R:=
 z0D (keep:=[3,6,7,8]) (σ:=[2]) (.b 2 h1 (.c o1 (.c o2 (.c (eqn 2) (.c (lq 2 2) (.c (lq 16 1099511627776) (.c (lq 1 1099511627776) (.c (show 0<1 from by decide) (.c (eqn 2) (.o 4 (.r (.agg [.lit (.int .i64 mi),.lit (.int .i64 mo)])) (.o 14 .stop .nil))))))))))) (by kernel_rfl) rfl hn hR (.cons (by simp[CvL]) .nil)
theorem zjT(n:Nat)(es:List CV)(k _mi _mo:Int)(h1:decide (k<(n:Int))=false){R:Goal}(hR:R.c (CV.lit (Value.slice none 0 0))):Ok P 61 (loopHead P 61 0) ⟨J3 18 [(3,.cv (CV.lit (Value.slice none 0 0))),(6,.cv (.lst n es)),(7,.cv (j6 (n:Int))),(8,.cv (j6 k))],[]⟩ R:=
 okT (.b 2 h1 .nil) (by kernel_rfl) hR
theorem zkq(n c:Nat)(es out:List CV)(k mi mo:Int)(h1:decide (k<(n:Int))=true)(o1:(0:Int)≤k∧k<(n:Int))(o2:List.take 2 (List.drop (k.toNat*2) es)=[.lit (.int .i64 mi),.lit (.int .i64 mo)])(o5:(c+1)*16≤1099511627776)(o6:c+1≤1099511627776)(o7:(own out).length=c*2)(o8:zbI [.cv (.lit (.int .i64 mi)),.cv (.lit (.int .i64 mo))])(o10:CvL (own out++[.cv (.lit (.int .i64 mi)),.cv (.lit (.int .i64 mo))])){R:Goal}(hn:J0 R.n [3]=true)(hR:Ok P 61 (loopHead P 61 0) ⟨J3 18 [(3,.sl 0 0 (c+1) 2),(6,.cv (.lst n es)),(7,.cv (.lit (.int .i64 (n:Int)))),(8,.cv (.lit (.int .i64 (i64.wrap (k+1)))))],[some (own out++[.cv (.lit (.int .i64 mi)),.cv (.lit (.int .i64 mo))])]⟩ R):Ok P 61 (loopHead P 61 0) ⟨J3 18 [(3,.sl 0 0 c 2),(6,.cv (.lst n es)),(7,.cv (j6 (n:Int))),(8,.cv (j6 k))],[some (own out)]⟩ R:=
 z0D (keep:=[3,6,7,8]) (σ:=[3]) (.b 2 h1 (.c o1 (.c o2 (.c (eqn 2) (.c (lq 2 2) (.c o5 (.c o6 (.c o7 (.c o8 (.c (eqn 2) (.o 4 (.r (.agg [.lit (.int .i64 mi),.lit (.int .i64 mo)])) (.o 14 .stop .nil)))))))))))) (by kernel_rfl) rfl hn hR (.cons o10 .nil)
theorem zhF(n c:Nat)(es out:List CV)(k _mi _mo:Int)(h1:decide (k<(n:Int))=false)(o1:List.take (c*2) (List.drop 0 (own out))=List.map MV.cv out){R:Goal}(hR:R.c (.lst c out)):Ok P 61 (loopHead P 61 0) ⟨J3 18 [(3,.sl 0 0 c 2),(6,.cv (.lst n es)),(7,.cv (j6 (n:Int))),(8,.cv (j6 k))],[some (own out)]⟩ R:=
 okT (.b 2 h1 (.c o1 (.o 5 (.r (CV.lit undef) [out]) .nil))) (by kernel_rfl) hR
theorem zlW(i o:Int)(h1:decide (o<(-10000:Int))=true):PCall P 182 [.agg [j6 i,j6 o]] (.lit (.bool true)):=
 j5 (.b 5 h1 .nil) (by kernel_rfl)
theorem zmt(i o:Int)(h1:decide (o<(-10000:Int))=false):PCall P 182 [.agg [j6 i,j6 o]] (.lit (.bool (decide (o>10000)))):=
 j5 (.b 5 h1 .nil) (by kernel_rfl)
theorem zoI(n:Nat)(es:List CV){R:CV→Prop}(hR:Ok P 230 (loopHead P 230 0) ⟨J3 19 [(0,.cv (.lst n es)),(1,.cv (CV.lit (Value.func (Fn.func 182) {toList:=[]} {toList:=[]}))),(7,.cv (.lit (.int .i64 (n:Int)))),(8,.cv (.lit (.int .i64 0)))],[]⟩ (.of R)):W6 P 230 [.lst n es,CV.lit (Value.func (Fn.func 182) #[] #[])] R:=
 Y4 (keep:=[0,1,7,8]) (σ:=[]) (.o 4 .stop .nil) (by kernel_rfl) rfl hR .nil
end Go.Fw
open Go
namespace Go.Fw
set_option maxRecDepth 100000
theorem z8V(S:Nat→Prop)(n:Nat)(hs: ∀k,k<n→S (k+1)→S k)(he:S n):S 0:=by
 have h: ∀d k,k+d=n→S k:=by
  intro d
  induction d with
  |zero=>
   intro k hk
   obtain rfl:k=n:=by omega
   exact he
  |succ d ih=>
   intro k hk
   exact hs k (by omega) (ih (k+1) (by omega))
 exact h n 0 (by omega)
def flat{α:Type}(f:α→List CV)(l:List α):List CV:=l.flatMap f
section
variable{α:Type}{f:α→List CV}{s:Nat}
theorem z1T(x:α)(l:List α):flat f (x::l)=f x++flat f l:=by simp[flat]
theorem zgf(a b:List α):flat f (a++b)=flat f a++flat f b:=by simp[flat]
theorem z27(hf: ∀x,(f x).length=s)(l:List α):(flat f l).length=l.length*s:=by
 induction l with
 |nil=>simp[flat]
 |cons x l ih=>rw[z1T,List.length_append,hf,ih,List.length_cons,Nat.add_mul,Nat.one_mul,Nat.add_comm]
theorem zdx(hf: ∀x,(f x).length=s)(l:List α)(k:Nat):(flat f l).drop (k*s)=flat f (l.drop k):=by
 induction l generalizing k with
 |nil=>simp[flat]
 |cons x l ih=>
  cases k with
  |zero=>rw[Nat.zero_mul];rfl
  |succ k=>
   have e:List.drop s (f x++flat f l)=flat f l:=by rw[←hf x,List.drop_left]
   rw[z1T,Nat.succ_mul,Nat.add_comm,←List.drop_drop,e,ih]
   rfl
theorem z1m(hf: ∀x,(f x).length=s){l:List α}{k:Nat}(hk:k<l.length):List.take s (List.drop (k*s) (flat f l))=f l[k]:=by
 rw[zdx hf,List.drop_eq_getElem_cons hk,z1T,List.take_append_of_le_length (by rw[hf];exact Nat.le_refl _),List.take_of_length_le (by rw[hf];exact Nat.le_refl _)]
theorem zbY{l:List α}{k:Nat}(hk:k<l.length):flat f (l.take (k+1))=flat f (l.take k)++f l[k]:=by
 rw[List.take_add_one,List.getElem?_eq_getElem hk,zgf]
 simp[flat]
end
def rdL(x:Int×Int):List CV:=[j6 x.1,j6 x.2]
theorem z1C(x:Int×Int):(rdL x).length=2:=rfl
def rdV(l:List (Int×Int)):CV:= .lst l.length (flat rdL l)
theorem zhj(x:RN):x.l.length=10:=rfl
def nmV(l:List RN):CV:= .lst l.length (flat RN.l l)
theorem zef{P:Program}{f:FuncId}{args:List CV}(h:PCall P f args (.lit (.slice none 0 0))):PCall P f args (.lst 0 []):=by
 intro Im w vs him hrep
 refine(h Im w vs him hrep).mono ?_
 rintro e w' ⟨y,v,Im',rfl,rfl,hv,h1,h2,h3,h4⟩
 refine⟨y,_,Im',rfl,rfl,?_,h1,h2,h3,h4⟩
 unfold CV.rep at hv ⊢
 exact⟨none,0,hv,Nat.le_refl _,.inl ⟨rfl,rfl⟩⟩
theorem zau {α : Type} {s : Nat} (l : List α) (g : α → List CV) (hg : ∀ x, (g x).length = s) (S : Nat → Option (Nat × List CV) → Prop)
    (h0: ∀k (hk:k<l.length),S (k+1) (some (1,g l[k]))→S k none)
    (h1: ∀k (hk:k<l.length) c out,c≤k→out.length=c*s→S (k+1) (some (c+1,out++g l[k]))→S k (some (c,out)))
    (hl:l≠[]) (he:S l.length (some (l.length,flat g l))):S 0 none:=by
 have hp:=List.length_pos_iff.2 hl
 have key:=z8V (fun k=>if k=0 then S 0 none else S k (some (k,flat g (l.take k)))) l.length ?_ ?_
 · simpa using key
 · intro k hk h
   rw[if_neg (by omega),zbY hk]at h
   by_cases hk0:k=0
   · subst hk0
     rw[if_pos rfl]
     exact h0 0 hp h
   · rw[if_neg hk0]
     exact h1 k hk k _ (Nat.le_refl _) (by rw[z27 hg,List.length_take,Nat.min_eq_left (by omega)]) h
 · rw[if_neg (by omega),List.take_length]
   exact he
end Go.Fw
open Go
namespace Go.Fw
set_option maxRecDepth 100000
theorem zd5(l:List (Int×Int))(hl:l.length<2^30):PCall P 61 [rdV l] (rdV l):=by
 cases l with
 | nil => exact zef (zgX 0 [] (R := (· = _)) (zjT 0 [] 0 0 0 rfl rfl))
 |cons x t=>
  generalize hx:x::t=l at*
  have hne:l≠[]:=by rw[←hx];exact List.cons_ne_nil _ _
  refine zgX l.length (flat rdL l) (R := (· = _)) ?_
  refine zau (s:=2) l rdL z1C (fun k o=>Ok P 61 (loopHead P 61 0) (match o with
   |none=>⟨J3 18 [(3,.cv (.lit (.slice none 0 0))),(6,.cv (.lst l.length (flat rdL l))),(7,.cv (j6 l.length)),(8,.cv (j6 k))],[]⟩
   | some (c, out) => ⟨J3 18 [(3, .sl 0 0 c 2), (6, .cv (.lst l.length (flat rdL l))), (7, .cv (j6 l.length)), (8, .cv (j6 k))], [some (own out)]⟩) (.of (· = rdV l))) ?_ ?_ hne ?_
  · intro k hk h
    refine zkf l.length (flat rdL l) k l[k].1 l[k].2 (decide_eq_true (by omega)) (by omega) (z1m z1C hk) rfl ?_
    rw[w64 (by omega)]
    exact h
  · intro k hk c out hc ho h
    refine zkq l.length c (flat rdL l) out k l[k].1 l[k].2 (decide_eq_true (by omega)) (by omega) (z1m z1C hk) (by omega) (by omega) (by simp[own,ho]) ?_ ?_ rfl ?_
    · simp[zbI,MV.one]
    · rw[show own out++[MV.cv (j6 l[k].1),MV.cv (j6 l[k].2)]=own (out++rdL l[k]) by simp[own,rdL]];exact CvL.map_cv _
    · rw[w64 (by omega)]
      simpa[own,rdL]using h
  · refine zhF l.length l.length (flat rdL l) (flat rdL l) l.length 0 0 (decide_eq_false (by omega)) ?_ rfl
    rw[List.drop_zero,List.take_of_length_le (by simp[own,z27 z1C])];rfl
def z5Y(l:List (Int×Int)):Bool:=decide (l.length≤48)&&l.all fun x=>decide (-10000≤x.2∧x.2≤10000)
def rdP(x:Int×Int):Bool:=decide (-10000≤x.2∧x.2≤10000)
theorem zns(i o:Int):PCall P 182 [.agg [j6 i,j6 o]] (.lit (.bool (!rdP (i,o)))):=by
 by_cases h1:o< -10000
 · rw[show rdP (i,o)=false from decide_eq_false (by simp only;omega)]
   exact zlW i o (decide_eq_true h1)
 · refine(zmt i o (decide_eq_false h1)).eq ?_
   congr 2
   by_cases h2:o>10000
   · rw[decide_eq_true h2,show rdP (i,o)=false from decide_eq_false (by simp only;omega)];rfl
   · rw[decide_eq_false h2,show rdP (i,o)=true from decide_eq_true (by simp only;omega)];rfl
def ixF:List (Int×Int)→Nat→Int
 | [],_=> -1
 |x::l,k=>if rdP x then ixF l (k+1)else k
theorem zcT: ∀(l:List (Int×Int)) (k:Nat),decide (ixF l k≥0)=!l.all rdP
 | [],_=>rfl
 |x::l,k=>by
  unfold ixF
  rw[List.all_cons]
  cases h:rdP x
  · rw[if_neg (by decide)]
    exact decide_eq_true (by omega)
  · rw[if_pos rfl,Bool.true_and];exact zcT l (k+1)
end Go.Fw
open Go IntKind
namespace Go.Fw
set_option maxRecDepth 100000
theorem zhv(n:Nat)(es:List CV)(k mi mo:Int)(h1:decide (k<(n:Int))=true)(h2:(!rdP (mi,mo))=true)(o1:(0:Int)≤k∧k<(n:Int))(o2:List.take 2 (List.drop (k.toNat*2) es)=[.lit (.int .i64 mi),.lit (.int .i64 mo)]){R:Goal}(hR:R.c (.lit (.int .i64 k))):Ok P 230 (loopHead P 230 0) ⟨J3 19 [(0,.cv (.lst n es)),(1,.cv (CV.lit (Value.func (Fn.func 182) #[] #[]))),(7,.cv (j6 (n:Int))),(8,.cv (j6 k))],[]⟩ R:=
 okT (.b 2 h1 (.c o1 (.c o2 (.c (eqn 2) (.c ((zns (mi) (mo)).eqB h2) (.o 9 (.r (.agg [.lit (.int .i64 mi),.lit (.int .i64 mo)])) (.o 10 (.r (.lit (.bool true))) .nil))))))) (by kernel_rfl) hR
theorem zjx(n:Nat)(es:List CV)(k mi mo:Int)(h1:decide (k<(n:Int))=true)(h2:(!rdP (mi,mo))=false)(o1:(0:Int)≤k∧k<(n:Int))(o2:List.take 2 (List.drop (k.toNat*2) es)=[.lit (.int .i64 mi),.lit (.int .i64 mo)]){R:Goal}(hn:J0 R.n []=true)(hR:Ok P 230 (loopHead P 230 0) ⟨J3 19 [(0,.cv (.lst n es)),(1,.cv (CV.lit (Value.func (Fn.func 182) {toList:=[]} {toList:=[]}))),(7,.cv (.lit (.int .i64 (n:Int)))),(8,.cv (.lit (.int .i64 (i64.wrap (k+1)))))],[]⟩ R):Ok P 230 (loopHead P 230 0) ⟨J3 19 [(0,.cv (.lst n es)),(1,.cv (CV.lit (Value.func (Fn.func 182) #[] #[]))),(7,.cv (j6 (n:Int))),(8,.cv (j6 k))],[]⟩ R:=
 z0D (keep:=[0,1,7,8]) (σ:=[]) (.b 2 h1 (.c o1 (.c o2 (.c (eqn 2) (.c ((zns (mi) (mo)).eqB h2) (.o 9 (.r (.agg [.lit (.int .i64 mi),.lit (.int .i64 mo)])) (.o 10 (.r (.lit (.bool false))) (.o 14 .stop .nil)))))))) (by kernel_rfl) rfl hn hR .nil
theorem zkD(n:Nat)(es:List CV)(k _mi _mo:Int)(h1:decide (k<(n:Int))=false){R:Goal}(hR:R.c (.lit (.int .i64 (-1:Int)))):Ok P 230 (loopHead P 230 0) ⟨J3 19 [(0,.cv (.lst n es)),(1,.cv (CV.lit (Value.func (Fn.func 182) #[] #[]))),(7,.cv (j6 (n:Int))),(8,.cv (j6 k))],[]⟩ R:=
 okT (.b 2 h1 .nil) (by kernel_rfl) hR
end Go.Fw
open Go
namespace Go.Fw
set_option maxRecDepth 100000
theorem zpn(l:List (Int×Int))(hl:l.length<2^30):PCall P 230 [rdV l,.lit (.func (.func 182) #[] #[])] (j6 (ixF l 0)):=by
 refine zoI l.length (flat rdL l) (R := (· = _)) ?_
 have key:=z8V (fun k=> ∀R:Goal,J0 R.n []=true→R.c (j6 (ixF (l.drop k) k))→Ok P 230 (loopHead P 230 0) ⟨J3 19 [(0,.cv (.lst l.length (flat rdL l))),(1,.cv (.lit (.func (.func 182) #[] #[]))),(7,.cv (j6 l.length)),(8,.cv (j6 k))],[]⟩ R) l.length ?_ ?_
 · exact key _ rfl rfl
 · intro k hk ih R hn hR
   have b:(0:Int)≤(k:Int)∧(k:Int)<(l.length:Int):=by omega
   have i1:=decide_eq_true b.2
   rw[List.drop_eq_getElem_cons hk]at hR
   unfold ixF at hR
   cases h:rdP l[k]
   · rw[h,if_neg (by decide)]at hR
     exact zhv l.length (flat rdL l) k l[k].1 l[k].2 i1 (by rw[show(l[k].1,l[k].2)=l[k]from rfl,h];rfl) b (z1m z1C hk) hR
   · rw[h,if_pos rfl]at hR
     refine zjx l.length (flat rdL l) k l[k].1 l[k].2 i1 (by rw[show(l[k].1,l[k].2)=l[k]from rfl,h];rfl) b (z1m z1C hk) hn ?_
     rw[w64 (by omega)]
     exact ih R hn hR
 · intro R hn hR
   rw[List.drop_length]at hR
   exact zkD l.length (flat rdL l) l.length 0 0 (decide_eq_false (by omega)) hR
end Go.Fw
open Go IntKind
namespace Go.Fw
set_option maxRecDepth 100000
theorem znK(l:List (Int×Int))(s3_0:l.length<2^30):PCall P 181 [rdV l,CV.lit (Value.func (Fn.func 182) #[] #[])] (.lit (.bool (decide (ixF l 0≥0)))):=
 j5 (.r 3 (zpn (l) s3_0) .nil) (by kernel_rfl)
theorem znV(i:Int)(s1_0:(-9223372036854775808:Int)≤1∧(1:Int)≤9223372036854775807):PCall P 143 [j6 i] (z5D (oN (1:Int)) (kN (z6Q i)) (kN (zaF i))):=
 j5 (.r 1 (zbX ((1:Int)) s1_0) (.r 3 (zpq (i)) (.r 5 (zps (i)) (.c (lq 30 30) .nil)))) (by kernel_rfl)
end Go.Fw
open Go
namespace Go.Fw
set_option maxRecDepth 100000
theorem zb4{v w:VN}{n:Nat}(hv:v.raw n=true)(hw:w.raw n=true):(z3s v w).raw (n+n+n+n+3)=true:=by
 refine z74 ?_
 cases ev:toV v with
 |none=>exact Nat.zero_le _
 |some a=>
  cases ew:toV w with
  |none=>exact Nat.zero_le _
  |some b=>
   obtain⟨x,y,z⟩:=z1L ev hv
   obtain⟨x',y',z'⟩:=z1L ew hw
   have key: ∀c d e f:K,c.sz≤n→d.sz≤n→e.sz≤n→f.sz≤n→(c*d-e*f).sz≤n+n+n+n+3:=by
    intro c d e f h1 h2 h3 h4
    have m1:=K.sz_mul c d
    have m2:=K.sz_mul e f
    have m3:=K.sz_sub (c*d) (e*f)
    omega
   have k1:=key a.y b.z a.z b.y y z' z y'
   have k2:=key a.z b.x a.x b.z z x' x z'
   have k3:=key a.x b.y a.y b.x x y' y x'
   show max (a.y*b.z-a.z*b.y).sz (max (a.z*b.x-a.x*b.z).sz (a.x*b.y-a.y*b.x).sz)≤_
   omega
end Go.Fw
open Go
namespace Go.Fw
set_option maxRecDepth 100000
theorem zec(a b:Int)(h:Two a b):PCall P 128 [J6 a,J6 b] (J6 (a*b)):=by
 obtain⟨n,hn,ha,hb⟩:=h
 exact Y3 a b (ha.sml (by omega)) (hb.sml (by omega)) (ha.sm2 hb (by omega))
theorem z8O(k:Nat)(b:Int)(h:Two k b):PCall P 128 [.agg [.lit (.bool false),.lit (.string (bytesOf k))],J6 b] (J6 (k*b)):=by
 have:=zec k b h
 unfold J6 at this ⊢
 rw[show decide ((k:Int)<0)=false from decide_eq_false (by omega)]at this
 exact this
theorem zn6(a b:Int)(h:Two a b):PCall P 127 [J6 a,J6 b] (J6 (a+b)):=by
 obtain⟨n,hn,ha,hb⟩:=h
 exact z0m a b (ha.sml (by omega)) (hb.sml (by omega)) (ha.sma hb (by omega))
theorem zgr(a b:Int):(if a<b then(-1:Int)else if a=b then 0 else 1)=(a-b).sign:=by
 rcases Int.lt_trichotomy a b with h|h|h
 · rw[if_pos h,Int.sign_eq_neg_one_of_neg (by omega)]
 · rw[if_neg (by omega),if_pos h,h,Int.sub_self];rfl
 · rw[if_neg (by omega),if_neg (by omega),Int.sign_eq_one_of_pos (by omega)]
theorem znp(a b:Int)(h:Two a b):PCall P 213 [J6 a,J6 b] (j6 (a-b).sign):=by
 obtain⟨n,hn,ha,hb⟩:=h
 rw[←zgr]
 exact z8z a b (ha.sml (by omega)) (hb.sml (by omega))
end Go.Fw
open Go IntKind
namespace Go.Fw
set_option maxRecDepth 100000
theorem zig(a b:Int)(h1:(a.sign==b.sign)=true):PCall P 151 [J6 a,J6 b] (.lit (.int .i64 a.sign)):=
 j5 (.r 4 (Z3 (a)) (.r 6 (Z3 (b)) (.b 12 h1 .nil))) (by kernel_rfl)
theorem zkn(a b:Int)(h1:(a.sign==b.sign)=false)(h2:(b.sign==0)=true):PCall P 151 [J6 a,J6 b] (.lit (.int .i64 a.sign)):=
 j5 (.r 4 (Z3 (a)) (.r 6 (Z3 (b)) (.b 12 h1 (.b 16 h2 .nil)))) (by kernel_rfl)
theorem zjn(a b:Int)(h1:(a.sign==b.sign)=false)(h2:(b.sign==0)=false)(h3:(a.sign==0)=true):PCall P 151 [J6 a,J6 b] (.lit (.int .i64 b.sign)):=
 j5 (.r 4 (Z3 (a)) (.r 6 (Z3 (b)) (.b 12 h1 (.b 16 h2 (.b 19 h3 .nil))))) (by kernel_rfl)
theorem zkb(a b:Int)(h1:(a.sign==b.sign)=false)(h2:(b.sign==0)=false)(h3:(a.sign==0)=false)(s23_0:Two a a)(s24_0:(-9223372036854775808:Int)≤2∧(2:Int)≤9223372036854775807)(s27_0:Two b b)(s28_0:Two (2:Int) (b*b))(s29_0:Two (a*a) ((2:Int)*(b*b))):PCall P 151 [J6 a,J6 b] (.lit (.int .i64 (i64.wrap (a.sign*(a*a-2*(b*b)).sign)))):=
 j5 (.r 4 (Z3 (a)) (.r 6 (Z3 (b)) (.b 12 h1 (.b 16 h2 (.b 19 h3 (.r 23 (zec (a) (a) s23_0) (.r 24 (Y1 ((2:Int)) s24_0) (.r 27 (zec (b) (b) s27_0) (.r 28 (z8O (2) (b*b) s28_0) (.r 29 (znp (a*a) ((2:Int)*(b*b)) s29_0) .nil)))))))))) (by kernel_rfl)
theorem zjz(a b:Int)(s15_0:Two a (-b)):PCall P 152 [J6 a,J6 b] (.agg [.lit (.bool (decide (a+ -b<0))),.lit (.string (bytesOf (a+ -b).natAbs))]):=
 j5 (.r 4 (J5 (a)) (.r 8 (J5 (b)) (.r 14 (z1S (b)) (.r 15 (zn6 (a) (-b) s15_0) (.c (lq 2 2) .nil))))) (by kernel_rfl)
end Go.Fw
open Go
namespace Go.Fw
set_option maxRecDepth 100000
theorem z3D(a b:Int)(h:z57 a b):PCall P 151 [J6 a,J6 b] (j6 (sg2 a b)):=by
 obtain⟨n,hn,ha,hb⟩:=h
 unfold sg2 z4J
 by_cases h1:a.sign=b.sign
 · rw[if_pos (.inl h1)]
   exact zig a b (by simp[h1])
 · by_cases h2:b.sign=0
   · rw[if_pos (.inr h2)]
     exact zkn a b (beq_false_of_ne h1) (by simp[h2])
   · rw[if_neg (by rintro(h|h)<;>contradiction)]
     by_cases h3:a.sign=0
     · rw[if_pos h3]
       exact zjn a b (beq_false_of_ne h1) (beq_false_of_ne h2) (by simp[h3])
     · rw[if_neg h3]
       have:=zkb a b (beq_false_of_ne h1) (beq_false_of_ne h2) (beq_false_of_ne h3) ⟨n,by omega,ha,ha⟩ (by decide) ⟨n,by omega,hb,hb⟩ ⟨n+n+1,by omega,(show By 1 2 by unfold By;decide).mono (by omega),(hb.mul hb).mono (by omega)⟩ ⟨n+n+1,by omega,(ha.mul ha).mono (by omega),(hb.mul hb).two⟩
       have s1:=z37 a
       have s2:=z37 (a*a-2*(b*b))
       have hw:IntKind.i64.wrap (a.sign*(a*a-2*(b*b)).sign)=a.sign*(a*a-2*(b*b)).sign:=by
        generalize (a*a-2*(b*b)).sign=t at*
        have:a.sign= -1∨a.sign=1:=by omega
        rcases this with h|h<;>rw[h]<;>exact w64 (by omega)
       rw[hw]at this
       exact this
theorem zhb(a b:Int)(h:Two a b):PCall P 152 [J6 a,J6 b] (J6 (a-b)):=by
 obtain⟨n,hn,ha,hb⟩:=h
 have:=zjz a b ⟨n,hn,ha,hb.neg⟩
 rw[←Int.sub_eq_add_neg]at this
 exact this
theorem za2(a b:Int)(h:Two a b):PCall P 130 [c4C a b 0 0,c4C a b 0 0] (c4C (a*a+2*(b*b)) (2*(a*b)) 0 0):=by
 obtain⟨n,hn,ha,hb⟩:=h
 have z:By n 0:=by unfold By;exact Nat.pow_pos (by decide)
 have:=zeT a b 0 0 a b 0 0 ⟨n,hn,⟨ha,hb,z,z⟩,ha,hb,z,z⟩
 rw[show a*a+2*b*b+3*0*0+6*0*0=a*a+2*(b*b) by grind,show a*b+b*a+3*0*0+3*0*0=2*(a*b) by grind,show a*0+0*a+2*b*0+2*0*b=0 by grind,show a*0+0*a+b*0+0*b=0 by grind]at this
 exact this
end Go.Fw
open Go IntKind
namespace Go.Fw
set_option maxRecDepth 100000
theorem zo8(x:K)(h1:(sg2 x.c0 x.c1==sg2 x.c2 x.c3)=true)(s3_0:x.sz≤1000000)(s12_0:z57 x.c0 x.c1)(s19_0:z57 x.c2 x.c3):PCall P 71 [Z9 x] (.lit (.int .i64 (sg2 x.c0 x.c1))):=
 j5 (.r 3 (z3A (x) s3_0) (.c (bq 0 4) (.c (bq 1 4) (.r 12 (z3D (x.c0) (x.c1) s12_0) (.c (bq 2 4) (.c (bq 3 4) (.r 19 (z3D (x.c2) (x.c3) s19_0) (.b 25 h1 .nil)))))))) (by kernel_rfl)
theorem zlo(x:K)(h1:(sg2 x.c0 x.c1==sg2 x.c2 x.c3)=false)(h2:(sg2 x.c2 x.c3==0)=true)(s3_0:x.sz≤1000000)(s12_0:z57 x.c0 x.c1)(s19_0:z57 x.c2 x.c3):PCall P 71 [Z9 x] (.lit (.int .i64 (sg2 x.c0 x.c1))):=
 j5 (.r 3 (z3A (x) s3_0) (.c (bq 0 4) (.c (bq 1 4) (.r 12 (z3D (x.c0) (x.c1) s12_0) (.c (bq 2 4) (.c (bq 3 4) (.r 19 (z3D (x.c2) (x.c3) s19_0) (.b 25 h1 (.b 29 h2 .nil))))))))) (by kernel_rfl)
theorem zlt(x:K)(h1:(sg2 x.c0 x.c1==sg2 x.c2 x.c3)=false)(h2:(sg2 x.c2 x.c3==0)=false)(h3:(sg2 x.c0 x.c1==0)=true)(s3_0:x.sz≤1000000)(s12_0:z57 x.c0 x.c1)(s19_0:z57 x.c2 x.c3):PCall P 71 [Z9 x] (.lit (.int .i64 (sg2 x.c2 x.c3))):=
 j5 (.r 3 (z3A (x) s3_0) (.c (bq 0 4) (.c (bq 1 4) (.r 12 (z3D (x.c0) (x.c1) s12_0) (.c (bq 2 4) (.c (bq 3 4) (.r 19 (z3D (x.c2) (x.c3) s19_0) (.b 25 h1 (.b 29 h2 (.b 32 h3 .nil)))))))))) (by kernel_rfl)
theorem zn4(x:K)(h1:(sg2 x.c0 x.c1==sg2 x.c2 x.c3)=false)(h2:(sg2 x.c2 x.c3==0)=false)(h3:(sg2 x.c0 x.c1==0)=false)(s3_0:x.sz≤1000000)(s12_0:z57 x.c0 x.c1)(s19_0:z57 x.c2 x.c3)(s47_0:Two x.c0 x.c1)(s64_0:Two x.c2 x.c3)(s67_0:(-9223372036854775808:Int)≤3∧(3:Int)≤9223372036854775807)(s76_0:Two (3:Int) (x.c2*x.c2+2*(x.c3*x.c3)))(s77_0:Two (x.c0*x.c0+2*(x.c1*x.c1)) ((3:Int)*(x.c2*x.c2+2*(x.c3*x.c3))))(s83_0:Two (3:Int) ((2:Int)*(x.c2*x.c3)))(s84_0:Two ((2:Int)*(x.c0*x.c1)) ((3:Int)*((2:Int)*(x.c2*x.c3))))(s85_0:z57 (x.c0*x.c0+2*(x.c1*x.c1)-3*(x.c2*x.c2+2*(x.c3*x.c3))) ((2:Int)*(x.c0*x.c1)-3*((2:Int)*(x.c2*x.c3)))):PCall P 71 [Z9 x] (.lit (.int .i64 (i64.wrap (sg2 x.c0 x.c1*sg2 (x.c0*x.c0+2*(x.c1*x.c1)-3*(x.c2*x.c2+2*(x.c3*x.c3))) ((2:Int)*(x.c0*x.c1)-3*((2:Int)*(x.c2*x.c3))))))):=
 j5 (.r 3 (z3A (x) s3_0) (.c (bq 0 4) (.c (bq 1 4) (.r 12 (z3D (x.c0) (x.c1) s12_0) (.c (bq 2 4) (.c (bq 3 4) (.r 19 (z3D (x.c2) (x.c3) s19_0) (.b 25 h1 (.b 29 h2 (.b 32 h3 (.c (bq 0 4) (.c (bq 1 4) (.c (bq 0 4) (.c (bq 1 4) (.r 47 (za2 (x.c0) (x.c1) s47_0) (.c (lq 8 8) (.c (bq 2 4) (.c (bq 3 4) (.c (bq 2 4) (.c (bq 3 4) (.r 64 (za2 (x.c2) (x.c3) s64_0) (.c (lq 8 8) (.r 67 (Y1 ((3:Int)) s67_0) (.c (lq 2 2) (.c (bq 0 4) (.c (bq 0 4) (.r 76 (z8O (3) (x.c2*x.c2+2*(x.c3*x.c3)) s76_0) (.r 77 (zhb (x.c0*x.c0+2*(x.c1*x.c1)) ((3:Int)*(x.c2*x.c2+2*(x.c3*x.c3))) s77_0) (.c (bq 1 4) (.c (bq 1 4) (.r 83 (z8O (3) ((2:Int)*(x.c2*x.c3)) s83_0) (.r 84 (zhb ((2:Int)*(x.c0*x.c1)) ((3:Int)*((2:Int)*(x.c2*x.c3))) s84_0) (.r 85 (z3D (x.c0*x.c0+2*(x.c1*x.c1)-3*(x.c2*x.c2+2*(x.c3*x.c3))) ((2:Int)*(x.c0*x.c1)-3*((2:Int)*(x.c2*x.c3))) s85_0) .nil))))))))))))))))))))))))))))))))) (by kernel_rfl)
theorem zjl(x:RN)(g:x.ok=false)(s3_0:RN.raw 1000000 x=true):PCall P 71 [x.c] (.lit (.int .i64 0)):=
 j5 (.r 3 ((z2X (x) s3_0).eqB g) .nil) (by kernel_rfl)
end Go.Fw
open Go
namespace Go.Fw
set_option maxRecDepth 100000
theorem zkK(x:K)(hx:x.sz≤1000000):PCall P 71 [Z9 x] (j6 (K.sgn x)):=by
 obtain⟨x0,x1,x2,x3,_⟩:=By.of_sz hx
 have t01:z57 x.c0 x.c1:=⟨_,by decide,x0,x1⟩
 have t23:z57 x.c2 x.c3:=⟨_,by decide,x2,x3⟩
 have b1:=z9A x.c0 x.c1
 rw[←zcv]
 unfold zoY
 by_cases h1:sg2 x.c0 x.c1=sg2 x.c2 x.c3
 · rw[z2Q (c':=0) (.inl h1)]
   unfold z4J
   rw[if_pos (.inl h1)]
   exact zo8 x (by simp[h1]) hx t01 t23
 · by_cases h2:sg2 x.c2 x.c3=0
   · unfold z4J
     rw[if_pos (.inr h2)]
     exact zlo x (beq_false_of_ne h1) (by simp[h2]) hx t01 t23
   · by_cases h3:sg2 x.c0 x.c1=0
     · unfold z4J
       rw[if_neg (fun h=>h.elim h1 h2),if_pos h3]
       exact zlt x (beq_false_of_ne h1) (beq_false_of_ne h2) (by simp[h3]) hx t01 t23
     · unfold z4J
       rw[if_neg (fun h=>h.elim h1 h2),if_neg h3]
       obtain⟨N,hN,e⟩: ∃N,N=1000000∧x.sz≤N:=⟨_,rfl,hx⟩
       obtain⟨y0,y1,y2,y3,_⟩:=By.of_sz e
       have k3: ∀{n:Nat},1≤n→By n 3:=fun h=>(show By 1 3 by unfold By;decide).mono h
       have u1:=((y0.mul y0).mono (Nat.le_succ _)).add (y1.mul y1).two
       have u2:=((y2.mul y2).mono (Nat.le_succ _)).add (y3.mul y3).two
       have u3:=u2.k (k:=3) (by decide)
       have v1:=(y0.mul y1).two
       have v2:=(y2.mul y3).two
       have v3:=v2.k (k:=3) (by decide)
       have w1:=(u1.mono (Nat.le_succ _)).sub u3
       have w2:=(v1.mono (Nat.le_succ _)).sub v3
       have h:=zn4 x (beq_false_of_ne h1) (beq_false_of_ne h2) (beq_false_of_ne h3) hx t01 t23 ⟨N,by omega,y0,y1⟩ ⟨N,by omega,y2,y3⟩ (by decide) ⟨_,by omega,k3 (by omega),u2⟩ ⟨_,by omega,u1.mono (Nat.le_succ _),u3⟩
        ⟨_,by omega,k3 (by omega),v2⟩ ⟨_,by omega,v1.mono (Nat.le_succ _),v3⟩ ⟨_,by omega,w1,w2.mono (by omega)⟩
       rw[show(1:Int)*(x.c0*x.c0)+2*(x.c1*x.c1)-(3*(x.c2*x.c2)+6*(x.c3*x.c3))=x.c0*x.c0+2*(x.c1*x.c1)-3*(x.c2*x.c2+2*(x.c3*x.c3)) by grind,
        show 2*(x.c0*x.c1)-6*(x.c2*x.c3)=2*(x.c0*x.c1)-3*(2*(x.c2*x.c3)) by grind]
       have s2:=z9A (x.c0*x.c0+2*(x.c1*x.c1)-3*(x.c2*x.c2+2*(x.c3*x.c3))) (2*(x.c0*x.c1)-3*(2*(x.c2*x.c3)))
       generalize sg2 (x.c0*x.c0+2*(x.c1*x.c1)-3*(x.c2*x.c2+2*(x.c3*x.c3))) (2*(x.c0*x.c1)-3*(2*(x.c2*x.c3)))=t at*
       have hw:IntKind.i64.wrap (sg2 x.c0 x.c1*t)=sg2 x.c0 x.c1*t:=by
        have:sg2 x.c0 x.c1= -1∨sg2 x.c0 x.c1=1:=by omega
        rcases this with h|h<;>rw[h]<;>exact w64 (by omega)
       rw[hw]at h
       exact h
theorem zbJ(x:RN)(hx:x.raw 1000000=true):PCall P 71 [x.c] (j6 (z8L x)):=by
 unfold z8L
 cases ex:toO x with
 |none=>exact zjl x (z0d ex) hx
 |some k=>
  have a:=z1d ex hx
  rw[zbH (z0Z ex).2]
  exact zkK k a
end Go.Fw
open Go
namespace Go.Fw
set_option maxRecDepth 100000
noncomputable def zoq(x y:RN):Int:=z8L (z4U x y)
end Go.Fw
open Go
namespace Go.Fw
set_option maxRecDepth 100000
theorem RN.l_inj{x y:RN}(h:x.l=y.l):x=y:=by
 obtain⟨b0,s0,b1,s1,b2,s2,b3,s3,b4,s4⟩:=x
 obtain⟨c0,t0,c1,t1,c2,t2,c3,t3,c4,t4⟩:=y
 unfold RN.l at h
 simp only[List.cons.injEq,and_true,X3,CV.lit.injEq,Value.bool.injEq,Value.string.injEq]at h
 obtain⟨rfl,h0,rfl,h1,rfl,h2,rfl,h3,rfl,h4⟩:=h
 subst h0 h1 h2 h3 h4
 rfl
theorem ziD{x:RN}(h:x.ok=true): ∃k,x=kN k:=by
 obtain⟨k,_,e⟩:=zgB h
 refine⟨k,RN.l_inj ?_⟩
 rw[e,z1y,RN.ofK_l]
noncomputable def kV(a b c:K):VN:=⟨kN a,kN b,kN c⟩
theorem zpf{v:VN}(h:v.ok=true): ∃a b c,v=kV a b c:=by
 obtain⟨x,y,z⟩:=v
 have h:ok3 x y z=true:=h
 unfold ok3 at h
 simp only[Bool.and_eq_true]at h
 obtain⟨h1,h2,h3⟩:=h
 obtain⟨a,rfl⟩:=ziD h1
 obtain⟨b,rfl⟩:=ziD h2
 obtain⟨c,rfl⟩:=ziD h3
 exact⟨a,b,c,rfl⟩
theorem zcF(a b c a' b' c':K):z50 (kV a b c) (kV a' b' c')=kN (a*a'+b*b'+c*c'):=by
 unfold z50 kV
 rw[z9f,z9f,z1y];rfl
theorem zia(a b c a' b' c':K):z0t (kV a b c) (kV a' b' c')=kV (a+a') (b+b') (c+c'):=by
 unfold z0t kV
 rw[z9f,z9f,z1y,z1y,z1y];rfl
theorem zdt(a b c k:K):J8 (kV a b c) (kN k)=kV (a*k) (b*k) (c*k):=zfA a b c k
theorem znN(a b:K):zoq (kN a) (kN b)=K.sgn (a-b):=by unfold zoq;rw[zgG,zcb]
end Go.Fw
open Go
namespace Go.Fw
set_option maxRecDepth 100000
theorem z2T{v:VN}{k:RN}{n:Nat}(hv:v.raw n=true)(hk:k.raw n=true):(J8 v k).raw (n+n+1)=true:=by
 refine z74 ?_
 have hk':=z15 hk
 cases ev:toV v with
 |none=>exact Nat.zero_le _
 |some a=>
  cases ew:toO k with
  |none=>exact Nat.zero_le _
  |some b=>
   rw[ew]at hk'
   have hk':b.sz≤n:=hk'
   obtain⟨x,y,z⟩:=z1L ev hv
   have m1:=K.sz_mul a.x b
   have m2:=K.sz_mul a.y b
   have m3:=K.sz_mul a.z b
   show max (a.x*b).sz (max (a.y*b).sz (a.z*b).sz)≤n+n+1
   omega
theorem zd9{v w:VN}{n:Nat}(hv:v.raw n=true)(hw:w.raw n=true):(z50 v w).raw (6*n+5)=true:=by
 refine z0U ?_
 cases ev:toV v with
 |none=>exact Nat.zero_le _
 |some a=>
  cases ew:toV w with
  |none=>exact Nat.zero_le _
  |some b=>
   obtain⟨x,y,z⟩:=z1L ev hv
   obtain⟨x',y',z'⟩:=z1L ew hw
   have m1:=K.sz_mul a.x b.x
   have m2:=K.sz_mul a.y b.y
   have m3:=K.sz_mul a.z b.z
   have m4:=K.sz_add (a.x*b.x) (a.y*b.y)
   have m5:=K.sz_add (a.x*b.x+a.y*b.y) (a.z*b.z)
   show(a.x*b.x+a.y*b.y+a.z*b.z).sz≤6*n+5
   omega
end Go.Fw
open Go
namespace Go.Fw
set_option maxRecDepth 100000
theorem zbL(v w:VN)(hv:v.raw 10000=true)(hw:w.raw 10000=true):PCall P 149 [v.c,w.c] (z50 v w).c:=by
 have hm:(z4K v w).raw 100000=true:=by
  refine z74 ?_
  cases ev:toV v with
  |none=>exact Nat.zero_le _
  |some a=>
   cases ew:toV w with
   |none=>exact Nat.zero_le _
   |some b=>
    obtain⟨x,y,z⟩:=z1L ev hv
    obtain⟨x',y',z'⟩:=z1L ew hw
    have m1:=K.sz_mul a.x b.x
    have m2:=K.sz_mul a.y b.y
    have m3:=K.sz_mul a.z b.z
    show max (a.x*b.x).sz (max (a.y*b.y).sz (a.z*b.z).sz)≤100000
    omega
 obtain⟨h1,h2,h3⟩:=z07.1 hm
 have h:=zjj v w (VN.raw_mono hv (by decide)) (VN.raw_mono hw (by decide)) (RN.raw_mono h1 (by decide)) (RN.raw_mono h2 (by decide)) (RN.raw_mono (zjw h1 h2) (by decide)) (RN.raw_mono h3 (by decide))
 rwa[zbv]at h
end Go.Fw
open Go IntKind
namespace Go.Fw
set_option maxRecDepth 100000
theorem zo9(u v w:VN)(s7_0:VN.raw 1000 v=true)(s7_1:VN.raw 1000 w=true)(s8_0:VN.raw 10000 u=true)(s8_1:VN.raw 10000 (z3s v w)=true):PCall P 175 [u.c,v.c,w.c] (RN.c (z50 u (z3s v w))):=
 j5 (.r 7 (zgv (v) (w) s7_0 s7_1) (.r 8 (zbL (u) (z3s v w) s8_0 s8_1) (.c (lq 10 10) .nil))) (by kernel_rfl)
end Go.Fw
open Go
namespace Go.Fw
set_option maxRecDepth 100000
noncomputable def W1(u v w:VN):RN:=z50 u (z3s v w)
theorem zl5(u v w:VN)(hu:u.raw 1000=true)(hv:v.raw 1000=true)(hw:w.raw 1000=true):PCall P 175 [u.c,v.c,w.c] (W1 u v w).c:=
 zo9 u v w hv hw (VN.raw_mono hu (by decide)) (VN.raw_mono (zb4 hv hw) (by decide))
end Go.Fw
open Go
namespace Go.Fw
set_option maxRecDepth 100000
structure Q4 where
 a:Int
 b:Int
 c:Int
 d:Int
namespace Q4
def mul(x y:Q4):Q4:=⟨x.a*y.a+2*x.b*y.b+3*x.c*y.c+6*x.d*y.d,x.a*y.b+x.b*y.a+3*x.c*y.d+3*x.d*y.c,x.a*y.c+x.c*y.a+2*x.b*y.d+2*x.d*y.b,x.a*y.d+x.d*y.a+x.b*y.c+x.c*y.b⟩
def Sm(n:Nat)(x:Q4):Prop:=By4 n x.a x.b x.c x.d
end Q4
end Go.Fw
open Go
namespace Go.Fw
set_option maxRecDepth 100000
theorem Q4.Sm.mono{n m:Nat}{x:Q4}(h:Q4.Sm n x)(k:n≤m):Q4.Sm m x:=⟨h.1.mono k,h.2.1.mono k,h.2.2.1.mono k,h.2.2.2.mono k⟩
theorem Q4.Sm.mul{n m:Nat}{x y:Q4}(h:Q4.Sm n x)(k:Q4.Sm m y):Q4.Sm (n+m+4) (Q4.mul x y):=by
 obtain⟨h0,h1,h2,h3⟩:=h
 obtain⟨k0,k1,k2,k3⟩:=k
 have p: ∀{a b:Int},By n a→By m b→By (n+m+1) (a*b):=fun u v=>(u.mul v).mono (by omega)
 have q: ∀{a b:Int} (f:Int),-100≤f∧f≤100→By n a→By m b→By (n+m+1) (f*a*b):=fun f hf u v=>by
  have:=(u.mul v).k hf
  rwa[←Int.mul_assoc]at this
 have s: ∀{a b c d:Int},By (n+m+1) a→By (n+m+1) b→By (n+m+1) c→By (n+m+1) d→By (n+m+4) (a+b+c+d):=fun a b c d=>
  ((a.add b).add (c.mono (by omega))).add (d.mono (by omega))
 exact⟨s (p h0 k0) (q 2 (by decide) h1 k1) (q 3 (by decide) h2 k2) (q 6 (by decide) h3 k3),s (p h0 k1) (p h1 k0) (q 3 (by decide) h2 k3) (q 3 (by decide) h3 k2),
  s (p h0 k2) (p h2 k0) (q 2 (by decide) h1 k3) (q 2 (by decide) h3 k1),s (p h0 k3) (p h3 k0) (p h1 k2) (p h2 k1)⟩
end Go.Fw
open Go IntKind
namespace Go.Fw
set_option maxRecDepth 100000
theorem zkY(x y:RN)(h1:(x.ok)=true)(h2:(y.ok)=true)(s4_0:RN.raw 1000000 x=true)(s8_0:RN.raw 1000000 y=true)(s14_0:RN.raw 1000000 x=true)(s14_1:RN.raw 1000000 y=true)(s15_0:RN.raw 1000000 (z4U x y)=true):PCall P 70 [x.c,y.c] (.lit (.int .i64 (z8L (z4U x y)))):=
 j5 (.r 4 ((z2X (x) s4_0).eqB h1) (.r 8 ((z2X (y) s8_0).eqB h2) (.r 14 (zmj (x) (y) s14_0 s14_1) (.r 15 (zbJ (z4U x y) s15_0) .nil)))) (by kernel_rfl)
theorem zlc(x y:RN)(h1:(x.ok)=true)(h2:(y.ok)=false)(s4_0:RN.raw 1000000 x=true)(s8_0:RN.raw 1000000 y=true):PCall P 70 [x.c,y.c] (.lit (.int .i64 0)):=
 j5 (.r 4 ((z2X (x) s4_0).eqB h1) (.r 8 ((z2X (y) s8_0).eqB h2) .nil)) (by kernel_rfl)
theorem zl0(x y:RN)(h1:(x.ok)=false)(s4_0:RN.raw 1000000 x=true):PCall P 70 [x.c,y.c] (.lit (.int .i64 0)):=
 j5 (.r 4 ((z2X (x) s4_0).eqB h1) .nil) (by kernel_rfl)
end Go.Fw
open Go
namespace Go.Fw
set_option maxRecDepth 100000
theorem z7B:z8L .zero=0:=by unfold z8L;rw[z3M]
theorem z9J{x y:RN}(h:x.ok=false∨y.ok=false):z4U x y= .zero:=by
 unfold z4U
 rcases h with h|h
 · rw[z7f h];rfl
 · rw[z7f h];cases toO x<;>rfl
end Go.Fw
open Go
namespace Go.Fw
set_option maxRecDepth 100000
def zq4(z:Int):Int×Bool:=if-9223372036854775808≤z∧z<9223372036854775808 then(z,true)else(0,false)
theorem i64_in{z:Int}(h: -9223372036854775808≤z∧z<9223372036854775808):zq4 z=(z,true):=if_pos h
end Go.Fw
open Go
namespace Go.Fw
set_option maxRecDepth 100000
theorem zkM(i:Int){n:Nat}(h:1≤n):(kN (z6Q i)).raw n=true:=z5b (Nat.le_trans (zgF i) h)
theorem zhM(i:Int){n:Nat}(h:1≤n):(kN (zaF i)).raw n=true:=z5b (Nat.le_trans (zh7 i) h)
end Go.Fw
open Go
namespace Go.Fw
set_option maxRecDepth 100000
theorem zqo{a b:Int}(h:a≠b):(a==b)=false:=by
 cases e:a==b
 · rfl
 · exact absurd (beq_iff_eq.1 e) h
end Go.Fw
open Go
namespace Go.Fw
set_option maxRecDepth 100000
theorem zoW(l:List (Int×Int))(hl:l.length<2^30):PCall P 181 [rdV l,.lit (.func (.func 182) #[] #[])] (.lit (.bool (!l.all rdP))):=
 (znK l hl).eq (by rw[zcT])
noncomputable def X8(i:Int):VN:=⟨oN 1,kN (z6Q i),kN (zaF i)⟩
theorem zee(i:Int):PCall P 143 [j6 i] (X8 i).c:=znV i (by decide)
def vnL(v:VN):List CV:=v.x.l++(v.y.l++v.z.l)
def vnM(v:VN):List MV:=own (vnL v)
end Go.Fw
open Go IntKind
namespace Go.Fw
set_option maxRecDepth 100000
theorem znI(l:List (Int×Int))(h1:decide ((↑l.length:Int)≤48)=true)(h2:(!l.all rdP)=true)(s6_0:l.length<2^30):PCall P 117 [rdV l] (.lit (.bool false)):=
 j5 (.b 4 h1 (.r 6 ((zoW (l) s6_0).eqB h2) .nil)) (by kernel_rfl)
theorem znG(l:List (Int×Int))(h1:decide ((↑l.length:Int)≤48)=true)(h2:(!l.all rdP)=false)(s6_0:l.length<2^30):PCall P 117 [rdV l] (.lit (.bool true)):=
 j5 (.b 4 h1 (.r 6 ((zoW (l) s6_0).eqB h2) .nil)) (by kernel_rfl)
theorem zmG(l:List (Int×Int))(h1:decide ((↑l.length:Int)≤48)=false):PCall P 117 [rdV l] (.lit (.bool false)):=
 j5 (.b 4 h1 .nil) (by kernel_rfl)
end Go.Fw
open Go
namespace Go.Fw
set_option maxRecDepth 100000
theorem z5E(l:List (Int×Int))(hl:l.length<2^30):PCall P 117 [rdV l] (.lit (.bool (z5Y l))):=by
 have e:decide ((l.length:Int)≤48)=decide (l.length≤48):=by rw[decide_eq_decide];omega
 unfold z5Y
 rw[←e]
 cases h1:decide ((l.length:Int)≤48)
 · exact zmG l h1
 · cases h2:l.all rdP
   · exact(znI l h1 (by rw[h2];rfl) hl).eq (by rw[show(l.all fun x=>decide (-10000≤x.2∧x.2≤10000))=false from h2];rfl)
   · exact(znG l h1 (by rw[h2];rfl) hl).eq (by rw[show(l.all fun x=>decide (-10000≤x.2∧x.2≤10000))=true from h2];rfl)
theorem z9q(i:Int):(X8 i).raw 1=true:=z07.2 ⟨zhY,zkM i (by decide),zhM i (by decide)⟩
end Go.Fw
