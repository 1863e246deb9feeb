/- A part of the proof that the law returns true for every input: an executor for the model's code, and what functions of the program compute. -/
import Derived.Test.YtcafjpldfnegiaaGreatDoorB10
import Derived.Test.YtcafjpldfnegiaaGreatDoorB11
import Derived.Test.YtcafjpldfnegiaaGreatDoorB15
import Derived.Test.YtcafjpldfnegiaaGreatDoorB17
import Derived.Test.YtcafjpldfnegiaaGreatDoorB21
import Derived.Test.YtcafjpldfnegiaaGreatDoorB28
import Derived.Test.YtcafjpldfnegiaaGreatDoorB35
import Derived.Test.YtcafjpldfnegiaaGreatDoorB36
import Derived.Test.YtcafjpldfnegiaaGreatDoorB39
import Derived.Test.YtcafjpldfnegiaaGreatDoorB40
import Derived.Test.YtcafjpldfnegiaaGreatDoorB41
import Derived.Test.YtcafjpldfnegiaaGreatDoorB42
import Derived.KernelRfl
import Derived.OrdersIn
import Derived.RangeFuncCalls
open Go
namespace Go.Fw
set_option maxRecDepth 100000
theorem z9A(v w:VN)(hv:v.raw 1000000=true)(hw:w.raw 1000000=true):PCall P 141 [v.c,w.c] (z0h v w).c:=zgA v w hv hw
theorem zaC(v:VN)(k:RN):z4A v ⟨k,k,k⟩=J6 v k:=by
 unfold z4A J6
 cases ev:toV v with
 |none=>rfl
 |some a=>
  have e:toV ⟨k,k,k⟩=(toO k).map fun c=>⟨c,c,c⟩:=by
   unfold toV
   cases ek:toO k<;>rfl
  rw[e]
  cases ek:toO k<;>rfl
theorem z4U(v:VN)(k:RN)(hv:v.raw 1000000=true)(hk:k.raw 1000000=true):PCall P 142 [v.c,k.c] (J6 v k).c:=by
 rw[←zaC]
 exact zid v k hv hk
theorem zba(v w:VN):z66 (z66 (z4A v w).x (z4A v w).y) (z4A v w).z=z4M v w:=by
 unfold z4M z4A
 cases ev:toV v with
 |none=>show z66 (z66 .zero .zero) .zero= .zero;unfold z66;rw[z4R];rfl
 |some a=>
  cases ew:toV w with
  |none=>show z66 (z66 .zero .zero) .zero= .zero;unfold z66;rw[z4R];rfl
  |some b=>
   show z66 (z66 (.ofK (a.x*b.x)) (.ofK (a.y*b.y))) (.ofK (a.z*b.z))= .ofK (a.x*b.x+a.y*b.y+a.z*b.z)
   unfold z66
   simp only[z6P,z79]
   rfl
theorem zeP(v w:VN)(hv:v.raw 1000=true)(hw:w.raw 1000=true):PCall P 170 [v.c,w.c] (z3K v w).c:=by
 have hv':=VN.raw_mono hv (show 1000≤1000000 by decide)
 have hw':=VN.raw_mono hw (show 1000≤1000000 by decide)
 unfold z3K
 cases ev:toV v with
 |none=>exact zny v w (z1W ev) hv'
 |some a=>
  cases ew:toV w with
  |none=>exact zm7 v w (z7O ev) (z1W ew) hv' hw'
  |some b=>
   obtain⟨x,y,z⟩:=z0Q ev hv
   obtain⟨x',y',z'⟩:=z0Q ew hw
   rw[z9j ev,z9j ew]
   refine zkD _ _ _ _ _ _ ?_ ?_ ?_ ?_ ?_ ?_ ?_ ?_ ?_ ?_ ?_ ?_ ?_ ?_ ?_ ?_ ?_ ?_<;>omega
noncomputable def zV(v:VN):Bool:=rnB v.x (oV 0 0 0).x&&(rnB v.y (oV 0 0 0).y&&(rnB v.z (oV 0 0 0).z&&true))
end Go.Fw
open Go
namespace Go.Fw
set_option maxRecDepth 100000
def plR(x y z d:RN):CV:= .agg (x.l++(y.l++(z.l++d.l)))
structure PN where
 n:VN
 d:RN
def PN.c(p:PN):CV:=plR p.n.x p.n.y p.n.z p.d
def PN.zero:PN:=⟨.zero,.zero⟩
def PN.raw(k:Nat)(p:PN):Bool:=p.n.raw k&&p.d.raw k
theorem PN.raw_iff{k:Nat}{p:PN}:p.raw k=true↔p.n.raw k=true∧p.d.raw k=true:=by unfold PN.raw;simp
theorem V4Of_r (a b c : Int) (ha : -9223372036854775808 ≤ a ∧ a ≤ 9223372036854775807) (hb : -9223372036854775808 ≤ b ∧ b ≤ 9223372036854775807) (hc : -9223372036854775808 ≤ c ∧ c ≤ 9223372036854775807) :
    PCall P 63 [j6 a,j6 b,j6 c] (oV a b c).c:=by rw[zcS];exact zhA a b c ha hb hc
end Go.Fw
open Go
namespace Go.Fw
set_option maxRecDepth 100000
theorem sgn_zero{x:K}:K.sgn x=0↔x=0:=Sg.zero x
noncomputable def z1I(x y:RN):RN×Int:=match toO x,toO y with
 |some a,some b=>if K.sgn b=0 then(.zero,10)else(.ofK (K.div a b),0)
 |_,_=>(.zero,1)
theorem zcb(x y:RN)(hx:x.raw 1000000=true)(hy:y.raw 1000000=true):PCall P 147 [x.c,y.c] (.tup [(z1I x y).1.c,j6 (z1I x y).2]):=by
 unfold z1I
 cases ex:toO x with
 |none=>exact zhn x y (z1i ex) hx
 |some k=>
  cases ey:toO y with
  |none=>exact zhl x y (z2h ex).1 (z1i ey) hx hy
  |some l=>
   have a:=z30 ex hx
   have b:=z30 ey hy
   rw[zkc (z2h ex).2,zkc (z2h ey).2]
   dsimp only
   by_cases h0:K.sgn l=0
   · rw[if_pos h0,sgn_zero.1 h0]
     exact znc k (by simp only[Smk];omega)
   · rw[if_neg h0]
     exact zge k l (fun h=>h0 (sgn_zero.2 h)) (by omega)
end Go.Fw
open Go
namespace Go.Fw
set_option maxRecDepth 100000
noncomputable def PN.ok(p:PN):Bool:=p.n.ok&&(!zV p.n&&p.d.ok)
noncomputable def oN(n:Int):RN:=ofO (toO (ofO (some (K.ofInt n))))
theorem z97(n:Int):oN n= .ofK (K.ofInt n):=by unfold oN;rw[z79];rfl
theorem zfZ(n:Int)(h: -9223372036854775808≤n∧n≤9223372036854775807):PCall P 144 [j6 n] (oN n).c:=by rw[z97];exact z0l n h
end Go.Fw
open Go IntKind
namespace Go.Fw
set_option maxRecDepth 100000
theorem zkr(x y:RN)(s5_0:RN.raw 1000000 y=true)(s6_0:RN.raw 1000000 x=true)(s6_1:RN.raw 1000000 (zgt y)=true):PCall P 135 [x.c,y.c] (RN.c (z66 x (zgt y))):=
 j5 (.r 5 (zmr (y) s5_0) (.r 6 (zbi (x) (zgt y) s6_0 s6_1) (.c (lq 10 10) .nil))) (by kernel_rfl)
end Go.Fw
open Go
namespace Go.Fw
set_option maxRecDepth 100000
noncomputable def kN(x:K):RN:=ofO (toO (ofO (some x)))
theorem z1K(x:K):kN x= .ofK x:=by unfold kN;rw[z79];rfl
theorem zoO(i:Int):PCall P 33 [j6 i] (kN (z4D i)).c:=by rw[z1K];exact z8x i
theorem zoW(i:Int):PCall P 35 [j6 i] (kN (z7B i)).c:=by rw[z1K];exact zdE i
theorem z29(x:K):toO (kN x)=some x:=by rw[z1K];exact z6P x
theorem zkE(x y:K):zae (kN x) (kN y)=kN (x-y):=by unfold zae;rw[z29,z29,z1K];rfl
theorem zlb(x:K):ze6 (kN x)=K.sgn x:=by unfold ze6;rw[z29]
theorem zgz(n:Int):oN n=kN (K.ofInt n):=by rw[z97,z1K]
theorem zbg(x y:K)(h:K.sgn y≠0):(z1I (kN x) (kN y)).1=kN (K.div x y):=by
 unfold z1I
 rw[z29,z29]
 dsimp only
 rw[if_neg h,z1K]
end Go.Fw
open Go
namespace Go.Fw
set_option maxRecDepth 100000
theorem zgr(x y:RN)(hx:x.raw 1000000=true)(hy:y.raw 1000000=true):PCall P 135 [x.c,y.c] (zae x y).c:=by
 have h:=zkr x y hy hx (ziM hy)
 have e:z66 x (zgt y)=zae x y:=by unfold z66 zae;rw[zep,zoV]
 rw[e]at h
 exact h
end Go.Fw
open Go
namespace Go.Fw
set_option maxRecDepth 100000
theorem z4k{x:K}{n:Nat}(h:x.sz≤n):(kN x).raw n=true:=by rw[z1K];exact RN.ofK_raw x h
theorem za9{z:Int}{n:Nat}(h:(K.ofInt z).sz≤n):(oN z).raw n=true:=by rw[zgz];exact z4k h
end Go.Fw
open Go
namespace Go.Fw
set_option maxRecDepth 100000
theorem zp5(a b c:Int):(oV a b c).x=oN a:=by rw[zcS,z97];rfl
theorem zp3(a b c:Int):(oV a b c).y=oN b:=by rw[zcS,z97];rfl
theorem zp7(a b c:Int):(oV a b c).z=oN c:=by rw[zcS,z97];rfl
theorem zie(x:K):(kN x).ok=true:=by rw[z1K];exact RN.ofK_ok x
theorem PN.raw_mono{p:PN}{n m:Nat}(h:p.raw n=true)(hm:n≤m):p.raw m=true:=by
 obtain⟨a,b⟩:=PN.raw_iff.1 h
 exact PN.raw_iff.2 ⟨VN.raw_mono a hm,RN.raw_mono b hm⟩
end Go.Fw
open Go Go.RowKit
namespace Go.Fw
set_option maxRecDepth 100000
def PN.a(p:PN):Array Value:=p.n.x.a++(p.n.y.a++(p.n.z.a++p.d.a))
end Go.Fw
open Go Go.RowKit
namespace Go.Fw
set_option maxRecDepth 100000
theorem zjQ:(oN 1).raw 1=true:=by rw[z97];kernel_rfl
end Go.Fw
open Go
namespace Go.Fw
set_option maxRecDepth 100000
theorem z9e(x y z:K):toV ⟨kN x,kN y,kN z⟩=some ⟨x,y,z⟩:=by
 unfold toV
 rw[z29,z29,z29]
theorem zed(x y z k:K):J6 ⟨kN x,kN y,kN z⟩ (kN k)=⟨kN (x*k),kN (y*k),kN (z*k)⟩:=by
 unfold J6
 rw[z9e,z29,z1K,z1K,z1K]
 rfl
theorem zoL(n:Int)(h: -9223372036854775808≤n∧n≤9223372036854775807):PCall P 40 [j6 n] (oN n).c:=by rw[z97];exact z3x n h
end Go.Fw
open Go IntKind
namespace Go.Fw
set_option maxRecDepth 100000
theorem zga(n:Nat)(es:List CV){R:CV→Prop}(hR:Ok P 61 (loopHead P 61 0) ⟨J2 18 [(3,.cv (CV.lit (Value.slice none 0 0))),(6,.cv (.lst n es)),(7,.cv (.lit (.int .i64 (n:Int)))),(8,.cv (.lit (.int .i64 0)))],[]⟩ (.of R)):W5 P 61 [.lst n es] R:=
 Y3 (keep:=[3,6,7,8]) (σ:=[]) (.o 5 .stop .nil) (by kernel_rfl) rfl hR .nil
theorem zj2(n:Nat)(es:List CV)(k mi mo:Int)(h1:decide (k<(n:Int))=true)(o1:(0:Int)≤k∧k<(n:Int))(o2:List.take 2 (List.drop (k.toNat*2) es)=[.lit (.int .i64 mi),.lit (.int .i64 mo)]){R:Goal}(hn:J0 R.n [2]=true)(hR:Ok P 61 (loopHead P 61 0) ⟨J2 18 [(3,.sl 0 0 1 2),(6,.cv (.lst n es)),(7,.cv (.lit (.int .i64 (n:Int)))),(8,.cv (.lit (.int .i64 (i64.wrap (k+1)))))],[some [.cv (.lit (.int .i64 mi)),.cv (.lit (.int .i64 mo))]]⟩ R):Ok P 61 (loopHead P 61 0) ⟨J2 18 [(3,.cv (CV.lit (Value.slice none 0 0))),(6,.cv (.lst n es)),(7,.cv (j6 (n:Int))),(8,.cv (j6 k))],[]⟩ R:=
 z0x (keep:=[3,6,7,8]) (σ:=[2]) (.b 2 h1 (.c o1 (.c o2 (.c (eqn 2) (.c (lq 2 2) (.c (lq 16 1099511627776) (.c (lq 1 1099511627776) (.c (show 0<1 from by decide) (.c (eqn 2) (.o 4 (.r (.agg [.lit (.int .i64 mi),.lit (.int .i64 mo)])) (.o 14 .stop .nil))))))))))) (by kernel_rfl) rfl hn hR (.cons (by simp[CvL]) .nil)
theorem zgY(n:Nat)(es:List CV)(k _mi _mo:Int)(h1:decide (k<(n:Int))=false){R:Goal}(hR:R.c (CV.lit (Value.slice none 0 0))):Ok P 61 (loopHead P 61 0) ⟨J2 18 [(3,.cv (CV.lit (Value.slice none 0 0))),(6,.cv (.lst n es)),(7,.cv (j6 (n:Int))),(8,.cv (j6 k))],[]⟩ R:=
 okT (.b 2 h1 .nil) (by kernel_rfl) hR
theorem ziC(n c:Nat)(es out:List CV)(k mi mo:Int)(h1:decide (k<(n:Int))=true)(o1:(0:Int)≤k∧k<(n:Int))(o2:List.take 2 (List.drop (k.toNat*2) es)=[.lit (.int .i64 mi),.lit (.int .i64 mo)])(o5:(c+1)*16≤1099511627776)(o6:c+1≤1099511627776)(o7:(own out).length=c*2)(o8:zbb [.cv (.lit (.int .i64 mi)),.cv (.lit (.int .i64 mo))])(o10:CvL (own out++[.cv (.lit (.int .i64 mi)),.cv (.lit (.int .i64 mo))])){R:Goal}(hn:J0 R.n [3]=true)(hR:Ok P 61 (loopHead P 61 0) ⟨J2 18 [(3,.sl 0 0 (c+1) 2),(6,.cv (.lst n es)),(7,.cv (.lit (.int .i64 (n:Int)))),(8,.cv (.lit (.int .i64 (i64.wrap (k+1)))))],[some (own out++[.cv (.lit (.int .i64 mi)),.cv (.lit (.int .i64 mo))])]⟩ R):Ok P 61 (loopHead P 61 0) ⟨J2 18 [(3,.sl 0 0 c 2),(6,.cv (.lst n es)),(7,.cv (j6 (n:Int))),(8,.cv (j6 k))],[some (own out)]⟩ R:=
 z0x (keep:=[3,6,7,8]) (σ:=[3]) (.b 2 h1 (.c o1 (.c o2 (.c (eqn 2) (.c (lq 2 2) (.c o5 (.c o6 (.c o7 (.c o8 (.c (eqn 2) (.o 4 (.r (.agg [.lit (.int .i64 mi),.lit (.int .i64 mo)])) (.o 14 .stop .nil)))))))))))) (by kernel_rfl) rfl hn hR (.cons o10 .nil)
theorem zhz(n c:Nat)(es out:List CV)(k _mi _mo:Int)(h1:decide (k<(n:Int))=false)(o1:List.take (c*2) (List.drop 0 (own out))=List.map MV.cv out){R:Goal}(hR:R.c (.lst c out)):Ok P 61 (loopHead P 61 0) ⟨J2 18 [(3,.sl 0 0 c 2),(6,.cv (.lst n es)),(7,.cv (j6 (n:Int))),(8,.cv (j6 k))],[some (own out)]⟩ R:=
 okT (.b 2 h1 (.c o1 (.o 5 (.r (CV.lit undef) [out]) .nil))) (by kernel_rfl) hR
theorem zlJ(i o:Int)(h1:decide (o<(-10000:Int))=true):PCall P 182 [.agg [j6 i,j6 o]] (.lit (.bool true)):=
 j5 (.b 5 h1 .nil) (by kernel_rfl)
theorem zmj(i o:Int)(h1:decide (o<(-10000:Int))=false):PCall P 182 [.agg [j6 i,j6 o]] (.lit (.bool (decide (o>10000)))):=
 j5 (.b 5 h1 .nil) (by kernel_rfl)
theorem zne(n:Nat)(es:List CV){R:CV→Prop}(hR:Ok P 230 (loopHead P 230 0) ⟨J2 19 [(0,.cv (.lst n es)),(1,.cv (CV.lit (Value.func (Fn.func 182) {toList:=[]} {toList:=[]}))),(7,.cv (.lit (.int .i64 (n:Int)))),(8,.cv (.lit (.int .i64 0)))],[]⟩ (.of R)):W5 P 230 [.lst n es,CV.lit (Value.func (Fn.func 182) #[] #[])] R:=
 Y3 (keep:=[0,1,7,8]) (σ:=[]) (.o 4 .stop .nil) (by kernel_rfl) rfl hR .nil
end Go.Fw
open Go
namespace Go.Fw
set_option maxRecDepth 100000
theorem z6S(S:Nat→Prop)(n:Nat)(hs: ∀k,k<n→S (k+1)→S k)(he:S n):S 0:=by
 have h: ∀d k,k+d=n→S k:=by
  intro d
  induction d with
  |zero=>
   intro k hk
   obtain rfl:k=n:=by omega
   exact he
  |succ d ih=>
   intro k hk
   exact hs k (by omega) (ih (k+1) (by omega))
 exact h n 0 (by omega)
def flat{α:Type}(f:α→List CV)(l:List α):List CV:=l.flatMap f
section
variable{α:Type}{f:α→List CV}{s:Nat}
theorem z1E(x:α)(l:List α):flat f (x::l)=f x++flat f l:=by simp[flat]
theorem zeV(a b:List α):flat f (a++b)=flat f a++flat f b:=by simp[flat]
theorem z22(hf: ∀x,(f x).length=s)(l:List α):(flat f l).length=l.length*s:=by
 induction l with
 |nil=>simp[flat]
 |cons x l ih=>rw[z1E,List.length_append,hf,ih,List.length_cons,Nat.add_mul,Nat.one_mul,Nat.add_comm]
theorem zcD(hf: ∀x,(f x).length=s)(l:List α)(k:Nat):(flat f l).drop (k*s)=flat f (l.drop k):=by
 induction l generalizing k with
 |nil=>simp[flat]
 |cons x l ih=>
  cases k with
  |zero=>rw[Nat.zero_mul];rfl
  |succ k=>
   have e:List.drop s (f x++flat f l)=flat f l:=by rw[←hf x,List.drop_left]
   rw[z1E,Nat.succ_mul,Nat.add_comm,←List.drop_drop,e,ih]
   rfl
theorem z0W(hf: ∀x,(f x).length=s){l:List α}{k:Nat}(hk:k<l.length):List.take s (List.drop (k*s) (flat f l))=f l[k]:=by
 rw[zcD hf,List.drop_eq_getElem_cons hk,z1E,List.take_append_of_le_length (by rw[hf];exact Nat.le_refl _),List.take_of_length_le (by rw[hf];exact Nat.le_refl _)]
theorem zda{l:List α}{k:Nat}(hk:k<l.length):flat f (l.take (k+1))=flat f (l.take k)++f l[k]:=by
 rw[List.take_add_one,List.getElem?_eq_getElem hk,zeV]
 simp[flat]
theorem zd3(hf: ∀x,(f x).length=s){l:List α}{k j:Nat}(hk:k<l.length)(hj:j<s):(flat f l)[k*s+j]?=(f l[k])[j]?:=by
 have h:=z0W hf hk
 have e:(List.take s (List.drop (k*s) (flat f l)))[j]?=(flat f l)[k*s+j]?:=by
  rw[List.getElem?_take_of_lt hj,List.getElem?_drop]
 rw[←e,h]
end
def rdL(x:Int×Int):List CV:=[j6 x.1,j6 x.2]
theorem z15(x:Int×Int):(rdL x).length=2:=rfl
def rdV(l:List (Int×Int)):CV:= .lst l.length (flat rdL l)
theorem zhF(x:RN):x.l.length=10:=rfl
def nmV(l:List RN):CV:= .lst l.length (flat RN.l l)
theorem zdM{P:Program}{f:FuncId}{args:List CV}(h:PCall P f args (.lit (.slice none 0 0))):PCall P f args (.lst 0 []):=by
 intro Im w vs him hrep
 refine(h Im w vs him hrep).mono ?_
 rintro e w' ⟨y,v,Im',rfl,rfl,hv,h1,h2,h3,h4⟩
 refine⟨y,_,Im',rfl,rfl,?_,h1,h2,h3,h4⟩
 unfold CV.rep at hv ⊢
 exact⟨none,0,hv,Nat.le_refl _,.inl ⟨rfl,rfl⟩⟩
theorem z9I {α : Type} {s : Nat} (l : List α) (g : α → List CV) (hg : ∀ x, (g x).length = s) (S : Nat → Option (Nat × List CV) → Prop)
    (h0: ∀k (hk:k<l.length),S (k+1) (some (1,g l[k]))→S k none)
    (h1: ∀k (hk:k<l.length) c out,c≤k→out.length=c*s→S (k+1) (some (c+1,out++g l[k]))→S k (some (c,out)))
    (hl:l≠[]) (he:S l.length (some (l.length,flat g l))):S 0 none:=by
 have hp:=List.length_pos_iff.2 hl
 have key:=z6S (fun k=>if k=0 then S 0 none else S k (some (k,flat g (l.take k)))) l.length ?_ ?_
 · simpa using key
 · intro k hk h
   rw[if_neg (by omega),zda hk]at h
   by_cases hk0:k=0
   · subst hk0
     rw[if_pos rfl]
     exact h0 0 hp h
   · rw[if_neg hk0]
     exact h1 k hk k _ (Nat.le_refl _) (by rw[z22 hg,List.length_take,Nat.min_eq_left (by omega)]) h
 · rw[if_neg (by omega),List.take_length]
   exact he
end Go.Fw
open Go
namespace Go.Fw
set_option maxRecDepth 100000
theorem zig(l:List (Int×Int))(hl:l.length<2^30):PCall P 61 [rdV l] (rdV l):=by
 cases l with
 | nil => exact zdM (zga 0 [] (R := (· = _)) (zgY 0 [] 0 0 0 rfl rfl))
 |cons x t=>
  generalize hx:x::t=l at*
  have hne:l≠[]:=by rw[←hx];exact List.cons_ne_nil _ _
  refine zga l.length (flat rdL l) (R := (· = _)) ?_
  refine z9I (s:=2) l rdL z15 (fun k o=>Ok P 61 (loopHead P 61 0) (match o with
   |none=>⟨J2 18 [(3,.cv (.lit (.slice none 0 0))),(6,.cv (.lst l.length (flat rdL l))),(7,.cv (j6 l.length)),(8,.cv (j6 k))],[]⟩
   | some (c, out) => ⟨J2 18 [(3, .sl 0 0 c 2), (6, .cv (.lst l.length (flat rdL l))), (7, .cv (j6 l.length)), (8, .cv (j6 k))], [some (own out)]⟩) (.of (· = rdV l))) ?_ ?_ hne ?_
  · intro k hk h
    refine zj2 l.length (flat rdL l) k l[k].1 l[k].2 (decide_eq_true (by omega)) (by omega) (z0W z15 hk) rfl ?_
    rw[w64 (by omega)]
    exact h
  · intro k hk c out hc ho h
    refine ziC l.length c (flat rdL l) out k l[k].1 l[k].2 (decide_eq_true (by omega)) (by omega) (z0W z15 hk) (by omega) (by omega) (by simp[own,ho]) ?_ ?_ rfl ?_
    · simp[zbb,MV.one]
    · rw[show own out++[MV.cv (j6 l[k].1),MV.cv (j6 l[k].2)]=own (out++rdL l[k]) by simp[own,rdL]];exact CvL.map_cv _
    · rw[w64 (by omega)]
      simpa[own,rdL]using h
  · refine zhz l.length l.length (flat rdL l) (flat rdL l) l.length 0 0 (decide_eq_false (by omega)) ?_ rfl
    rw[List.drop_zero,List.take_of_length_le (by simp[own,z22 z15])];rfl
def z5W(l:List (Int×Int)):Bool:=decide (l.length≤48)&&l.all fun x=>decide (-10000≤x.2∧x.2≤10000)
def rdP(x:Int×Int):Bool:=decide (-10000≤x.2∧x.2≤10000)
theorem zkz(i o:Int):PCall P 182 [.agg [j6 i,j6 o]] (.lit (.bool (!rdP (i,o)))):=by
 by_cases h1:o< -10000
 · rw[show rdP (i,o)=false from decide_eq_false (by simp only;omega)]
   exact zlJ i o (decide_eq_true h1)
 · refine(zmj i o (decide_eq_false h1)).eq ?_
   congr 2
   by_cases h2:o>10000
   · rw[decide_eq_true h2,show rdP (i,o)=false from decide_eq_false (by simp only;omega)];rfl
   · rw[decide_eq_false h2,show rdP (i,o)=true from decide_eq_true (by simp only;omega)];rfl
def ixF:List (Int×Int)→Nat→Int
 | [],_=> -1
 |x::l,k=>if rdP x then ixF l (k+1)else k
theorem zdm: ∀(l:List (Int×Int)) (k:Nat),decide (ixF l k≥0)=!l.all rdP
 | [],_=>rfl
 |x::l,k=>by
  unfold ixF
  rw[List.all_cons]
  cases h:rdP x
  · rw[if_neg (by decide)]
    exact decide_eq_true (by omega)
  · rw[if_pos rfl,Bool.true_and];exact zdm l (k+1)
end Go.Fw
open Go IntKind
namespace Go.Fw
set_option maxRecDepth 100000
theorem zjN(n:Nat)(es:List CV)(k mi mo:Int)(h1:decide (k<(n:Int))=true)(h2:(!rdP (mi,mo))=true)(o1:(0:Int)≤k∧k<(n:Int))(o2:List.take 2 (List.drop (k.toNat*2) es)=[.lit (.int .i64 mi),.lit (.int .i64 mo)]){R:Goal}(hR:R.c (.lit (.int .i64 k))):Ok P 230 (loopHead P 230 0) ⟨J2 19 [(0,.cv (.lst n es)),(1,.cv (CV.lit (Value.func (Fn.func 182) #[] #[]))),(7,.cv (j6 (n:Int))),(8,.cv (j6 k))],[]⟩ R:=
 okT (.b 2 h1 (.c o1 (.c o2 (.c (eqn 2) (.c ((zkz (mi) (mo)).eqB h2) (.o 9 (.r (.agg [.lit (.int .i64 mi),.lit (.int .i64 mo)])) (.o 10 (.r (.lit (.bool true))) .nil))))))) (by kernel_rfl) hR
theorem zh6(n:Nat)(es:List CV)(k mi mo:Int)(h1:decide (k<(n:Int))=true)(h2:(!rdP (mi,mo))=false)(o1:(0:Int)≤k∧k<(n:Int))(o2:List.take 2 (List.drop (k.toNat*2) es)=[.lit (.int .i64 mi),.lit (.int .i64 mo)]){R:Goal}(hn:J0 R.n []=true)(hR:Ok P 230 (loopHead P 230 0) ⟨J2 19 [(0,.cv (.lst n es)),(1,.cv (CV.lit (Value.func (Fn.func 182) {toList:=[]} {toList:=[]}))),(7,.cv (.lit (.int .i64 (n:Int)))),(8,.cv (.lit (.int .i64 (i64.wrap (k+1)))))],[]⟩ R):Ok P 230 (loopHead P 230 0) ⟨J2 19 [(0,.cv (.lst n es)),(1,.cv (CV.lit (Value.func (Fn.func 182) #[] #[]))),(7,.cv (j6 (n:Int))),(8,.cv (j6 k))],[]⟩ R:=
 z0x (keep:=[0,1,7,8]) (σ:=[]) (.b 2 h1 (.c o1 (.c o2 (.c (eqn 2) (.c ((zkz (mi) (mo)).eqB h2) (.o 9 (.r (.agg [.lit (.int .i64 mi),.lit (.int .i64 mo)])) (.o 10 (.r (.lit (.bool false))) (.o 14 .stop .nil)))))))) (by kernel_rfl) rfl hn hR .nil
theorem zjB(n:Nat)(es:List CV)(k _mi _mo:Int)(h1:decide (k<(n:Int))=false){R:Goal}(hR:R.c (.lit (.int .i64 (-1:Int)))):Ok P 230 (loopHead P 230 0) ⟨J2 19 [(0,.cv (.lst n es)),(1,.cv (CV.lit (Value.func (Fn.func 182) #[] #[]))),(7,.cv (j6 (n:Int))),(8,.cv (j6 k))],[]⟩ R:=
 okT (.b 2 h1 .nil) (by kernel_rfl) hR
end Go.Fw
open Go
namespace Go.Fw
set_option maxRecDepth 100000
theorem zoH(l:List (Int×Int))(hl:l.length<2^30):PCall P 230 [rdV l,.lit (.func (.func 182) #[] #[])] (j6 (ixF l 0)):=by
 refine zne l.length (flat rdL l) (R := (· = _)) ?_
 have key:=z6S (fun k=> ∀R:Goal,J0 R.n []=true→R.c (j6 (ixF (l.drop k) k))→Ok P 230 (loopHead P 230 0) ⟨J2 19 [(0,.cv (.lst l.length (flat rdL l))),(1,.cv (.lit (.func (.func 182) #[] #[]))),(7,.cv (j6 l.length)),(8,.cv (j6 k))],[]⟩ R) l.length ?_ ?_
 · exact key _ rfl rfl
 · intro k hk ih R hn hR
   have b:(0:Int)≤(k:Int)∧(k:Int)<(l.length:Int):=by omega
   have i1:=decide_eq_true b.2
   rw[List.drop_eq_getElem_cons hk]at hR
   unfold ixF at hR
   cases h:rdP l[k]
   · rw[h,if_neg (by decide)]at hR
     exact zjN l.length (flat rdL l) k l[k].1 l[k].2 i1 (by rw[show(l[k].1,l[k].2)=l[k]from rfl,h];rfl) b (z0W z15 hk) hR
   · rw[h,if_pos rfl]at hR
     refine zh6 l.length (flat rdL l) k l[k].1 l[k].2 i1 (by rw[show(l[k].1,l[k].2)=l[k]from rfl,h];rfl) b (z0W z15 hk) hn ?_
     rw[w64 (by omega)]
     exact ih R hn hR
 · intro R hn hR
   rw[List.drop_length]at hR
   exact zjB l.length (flat rdL l) l.length 0 0 (decide_eq_false (by omega)) hR
end Go.Fw
open Go IntKind
namespace Go.Fw
set_option maxRecDepth 100000
theorem zms(l:List (Int×Int))(s3_0:l.length<2^30):PCall P 181 [rdV l,CV.lit (Value.func (Fn.func 182) #[] #[])] (.lit (.bool (decide (ixF l 0≥0)))):=
 j5 (.r 3 (zoH (l) s3_0) .nil) (by kernel_rfl)
theorem znP(i:Int)(s1_0:(-9223372036854775808:Int)≤1∧(1:Int)≤9223372036854775807):PCall P 143 [j6 i] (z4B (oN (1:Int)) (kN (z4D i)) (kN (z7B i))):=
 j5 (.r 1 (zfZ ((1:Int)) s1_0) (.r 3 (zoO (i)) (.r 5 (zoW (i)) (.c (lq 30 30) .nil)))) (by kernel_rfl)
end Go.Fw
open Go IntKind
namespace Go.Fw
set_option maxRecDepth 100000
theorem znp(v:VN)(s3_0 s3_1 s3_2:(-9223372036854775808:Int)≤0∧(0:Int)≤9223372036854775807):PCall P 66 [v.c] (.lit (.bool (rnB v.x (oV (0:Int) (0:Int) (0:Int)).x&&(rnB v.y (oV (0:Int) (0:Int) (0:Int)).y&&(rnB v.z (oV (0:Int) (0:Int) (0:Int)).z&&true))))):=
 j5 (.r 3 (V4Of_r ((0:Int)) ((0:Int)) ((0:Int)) s3_0 s3_1 s3_2) .nil) (by kernel_rfl)
end Go.Fw
open Go
namespace Go.Fw
set_option maxRecDepth 100000
theorem zeE(v:VN):PCall P 66 [v.c] (.lit (.bool (zV v))):=znp v (by decide) (by decide) (by decide)
theorem zb5{v w:VN}{n:Nat}(hv:v.raw n=true)(hw:w.raw n=true):(z3K v w).raw (n+n+n+n+3)=true:=by
 refine z7b ?_
 cases ev:toV v with
 |none=>exact Nat.zero_le _
 |some a=>
  cases ew:toV w with
  |none=>exact Nat.zero_le _
  |some b=>
   obtain⟨x,y,z⟩:=z0Q ev hv
   obtain⟨x',y',z'⟩:=z0Q ew hw
   have key: ∀c d e f:K,c.sz≤n→d.sz≤n→e.sz≤n→f.sz≤n→(c*d-e*f).sz≤n+n+n+n+3:=by
    intro c d e f h1 h2 h3 h4
    have m1:=K.sz_mul c d
    have m2:=K.sz_mul e f
    have m3:=K.sz_sub (c*d) (e*f)
    omega
   have k1:=key a.y b.z a.z b.y y z' z y'
   have k2:=key a.z b.x a.x b.z z x' x z'
   have k3:=key a.x b.y a.y b.x x y' y x'
   show max (a.y*b.z-a.z*b.y).sz (max (a.z*b.x-a.x*b.z).sz (a.x*b.y-a.y*b.x).sz)≤_
   omega
end Go.Fw
open Go
namespace Go.Fw
set_option maxRecDepth 100000
noncomputable def kV(a b c:K):VN:=⟨kN a,kN b,kN c⟩
theorem zcv(a b c a' b' c':K):z4M (kV a b c) (kV a' b' c')=kN (a*a'+b*b'+c*c'):=by
 unfold z4M kV
 rw[z9e,z9e,z1K];rfl
theorem zja(a b c a' b' c':K):z0h (kV a b c) (kV a' b' c')=kV (a+a') (b+b') (c+c'):=by
 unfold z0h kV
 rw[z9e,z9e,z1K,z1K,z1K];rfl
theorem zbf(a b c k:K):J6 (kV a b c) (kN k)=kV (a*k) (b*k) (c*k):=zed a b c k
end Go.Fw
open Go
namespace Go.Fw
set_option maxRecDepth 100000
theorem z2O{v:VN}{k:RN}{n:Nat}(hv:v.raw n=true)(hk:k.raw n=true):(J6 v k).raw (n+n+1)=true:=by
 refine z7b ?_
 have hk':=z32 hk
 cases ev:toV v with
 |none=>exact Nat.zero_le _
 |some a=>
  cases ew:toO k with
  |none=>exact Nat.zero_le _
  |some b=>
   rw[ew]at hk'
   have hk':b.sz≤n:=hk'
   obtain⟨x,y,z⟩:=z0Q ev hv
   have m1:=K.sz_mul a.x b
   have m2:=K.sz_mul a.y b
   have m3:=K.sz_mul a.z b
   show max (a.x*b).sz (max (a.y*b).sz (a.z*b).sz)≤n+n+1
   omega
theorem zdb{v w:VN}{n:Nat}(hv:v.raw n=true)(hw:w.raw n=true):(z4M v w).raw (6*n+5)=true:=by
 refine z2z ?_
 cases ev:toV v with
 |none=>exact Nat.zero_le _
 |some a=>
  cases ew:toV w with
  |none=>exact Nat.zero_le _
  |some b=>
   obtain⟨x,y,z⟩:=z0Q ev hv
   obtain⟨x',y',z'⟩:=z0Q ew hw
   have m1:=K.sz_mul a.x b.x
   have m2:=K.sz_mul a.y b.y
   have m3:=K.sz_mul a.z b.z
   have m4:=K.sz_add (a.x*b.x) (a.y*b.y)
   have m5:=K.sz_add (a.x*b.x+a.y*b.y) (a.z*b.z)
   show(a.x*b.x+a.y*b.y+a.z*b.z).sz≤6*n+5
   omega
end Go.Fw
open Go
namespace Go.Fw
set_option maxRecDepth 100000
theorem zc4(v w:VN)(hv:v.raw 10000=true)(hw:w.raw 10000=true):PCall P 149 [v.c,w.c] (z4M v w).c:=by
 have hm:(z4A v w).raw 100000=true:=by
  refine z7b ?_
  cases ev:toV v with
  |none=>exact Nat.zero_le _
  |some a=>
   cases ew:toV w with
   |none=>exact Nat.zero_le _
   |some b=>
    obtain⟨x,y,z⟩:=z0Q ev hv
    obtain⟨x',y',z'⟩:=z0Q ew hw
    have m1:=K.sz_mul a.x b.x
    have m2:=K.sz_mul a.y b.y
    have m3:=K.sz_mul a.z b.z
    show max (a.x*b.x).sz (max (a.y*b.y).sz (a.z*b.z).sz)≤100000
    omega
 obtain⟨h1,h2,h3⟩:=z0n.1 hm
 have h:=zir v w (VN.raw_mono hv (by decide)) (VN.raw_mono hw (by decide)) (RN.raw_mono h1 (by decide)) (RN.raw_mono h2 (by decide)) (RN.raw_mono (zj1 h1 h2) (by decide)) (RN.raw_mono h3 (by decide))
 rwa[zba]at h
end Go.Fw
open Go IntKind
namespace Go.Fw
set_option maxRecDepth 100000
theorem zlF(u v w:VN)(s7_0:VN.raw 1000 v=true)(s7_1:VN.raw 1000 w=true)(s8_0:VN.raw 10000 u=true)(s8_1:VN.raw 10000 (z3K v w)=true):PCall P 175 [u.c,v.c,w.c] (RN.c (z4M u (z3K v w))):=
 j5 (.r 7 (zeP (v) (w) s7_0 s7_1) (.r 8 (zc4 (u) (z3K v w) s8_0 s8_1) (.c (lq 10 10) .nil))) (by kernel_rfl)
end Go.Fw
open Go
namespace Go.Fw
set_option maxRecDepth 100000
noncomputable def Y9(u v w:VN):RN:=z4M u (z3K v w)
theorem zmy(u v w:VN)(hu:u.raw 1000=true)(hv:v.raw 1000=true)(hw:w.raw 1000=true):PCall P 175 [u.c,v.c,w.c] (Y9 u v w).c:=
 zlF u v w hv hw (VN.raw_mono hu (by decide)) (VN.raw_mono (zb5 hv hw) (by decide))
end Go.Fw
open Go
namespace Go.Fw
set_option maxRecDepth 100000
structure Q4 where
 a:Int
 b:Int
 c:Int
 d:Int
namespace Q4
def mul(x y:Q4):Q4:=⟨x.a*y.a+2*x.b*y.b+3*x.c*y.c+6*x.d*y.d,x.a*y.b+x.b*y.a+3*x.c*y.d+3*x.d*y.c,x.a*y.c+x.c*y.a+2*x.b*y.d+2*x.d*y.b,x.a*y.d+x.d*y.a+x.b*y.c+x.c*y.b⟩
def Sm(n:Nat)(x:Q4):Prop:=By4 n x.a x.b x.c x.d
end Q4
end Go.Fw
open Go
namespace Go.Fw
set_option maxRecDepth 100000
theorem Q4.Sm.mono{n m:Nat}{x:Q4}(h:Q4.Sm n x)(k:n≤m):Q4.Sm m x:=⟨h.1.mono k,h.2.1.mono k,h.2.2.1.mono k,h.2.2.2.mono k⟩
theorem Q4.Sm.mul{n m:Nat}{x y:Q4}(h:Q4.Sm n x)(k:Q4.Sm m y):Q4.Sm (n+m+4) (Q4.mul x y):=by
 obtain⟨h0,h1,h2,h3⟩:=h
 obtain⟨k0,k1,k2,k3⟩:=k
 have p: ∀{a b:Int},By n a→By m b→By (n+m+1) (a*b):=fun u v=>(u.mul v).mono (by omega)
 have q: ∀{a b:Int} (f:Int),-100≤f∧f≤100→By n a→By m b→By (n+m+1) (f*a*b):=fun f hf u v=>by
  have:=(u.mul v).k hf
  rwa[←Int.mul_assoc]at this
 have s: ∀{a b c d:Int},By (n+m+1) a→By (n+m+1) b→By (n+m+1) c→By (n+m+1) d→By (n+m+4) (a+b+c+d):=fun a b c d=>
  ((a.add b).add (c.mono (by omega))).add (d.mono (by omega))
 exact⟨s (p h0 k0) (q 2 (by decide) h1 k1) (q 3 (by decide) h2 k2) (q 6 (by decide) h3 k3),s (p h0 k1) (p h1 k0) (q 3 (by decide) h2 k3) (q 3 (by decide) h3 k2),
  s (p h0 k2) (p h2 k0) (q 2 (by decide) h1 k3) (q 2 (by decide) h3 k1),s (p h0 k3) (p h3 k0) (p h1 k2) (p h2 k1)⟩
end Go.Fw
open Go
namespace Go.Fw
set_option maxRecDepth 100000
def zpD(z:Int):Int×Bool:=if-9223372036854775808≤z∧z<9223372036854775808 then(z,true)else(0,false)
theorem i64_in{z:Int}(h: -9223372036854775808≤z∧z<9223372036854775808):zpD z=(z,true):=if_pos h
end Go.Fw
open Go
namespace Go.Fw
set_option maxRecDepth 100000
theorem zik(i:Int){n:Nat}(h:1≤n):(kN (z4D i)).raw n=true:=z4k (Nat.le_trans (zgn i) h)
theorem zka(i:Int){n:Nat}(h:1≤n):(kN (z7B i)).raw n=true:=z4k (Nat.le_trans (zgb i) h)
end Go.Fw
open Go
namespace Go.Fw
set_option maxRecDepth 100000
theorem zpw{a b:Int}(h:a≠b):(a != b)=true:=bne_iff_ne.2 h
theorem zpn{a b:Int}(h:a=b):(a != b)=false:=by subst h;exact bne_self_eq_false _
theorem zpE{a b:Int}(h:a≠b):(a==b)=false:=by
 cases e:a==b
 · rfl
 · exact absurd (beq_iff_eq.1 e) h
end Go.Fw
open Go
namespace Go.Fw
set_option maxRecDepth 100000
theorem zos(i:Int):PCall P 34 [j6 i] (kN (z4D i)).c:=by rw[z1K];exact z7S i
theorem zou(i:Int):PCall P 36 [j6 i] (kN (z7B i)).c:=by rw[z1K];exact zcg i
end Go.Fw
open Go
namespace Go.Fw
set_option maxRecDepth 100000
theorem zks(l:List (Int×Int))(hl:l.length<2^30):PCall P 181 [rdV l,.lit (.func (.func 182) #[] #[])] (.lit (.bool (!l.all rdP))):=
 (zms l hl).eq (by rw[zdm])
noncomputable def W8(i:Int):VN:=⟨oN 1,kN (z4D i),kN (z7B i)⟩
theorem zd8(i:Int):PCall P 143 [j6 i] (W8 i).c:=znP i (by decide)
def vnL(v:VN):List CV:=v.x.l++(v.y.l++v.z.l)
def vnM(v:VN):List MV:=own (vnL v)
end Go.Fw
open Go IntKind
namespace Go.Fw
set_option maxRecDepth 100000
theorem zlX(l:List (Int×Int))(h1:decide ((↑l.length:Int)≤48)=true)(h2:(!l.all rdP)=true)(s6_0:l.length<2^30):PCall P 117 [rdV l] (.lit (.bool false)):=
 j5 (.b 4 h1 (.r 6 ((zks (l) s6_0).eqB h2) .nil)) (by kernel_rfl)
theorem zkR(l:List (Int×Int))(h1:decide ((↑l.length:Int)≤48)=true)(h2:(!l.all rdP)=false)(s6_0:l.length<2^30):PCall P 117 [rdV l] (.lit (.bool true)):=
 j5 (.b 4 h1 (.r 6 ((zks (l) s6_0).eqB h2) .nil)) (by kernel_rfl)
theorem zn2(l:List (Int×Int))(h1:decide ((↑l.length:Int)≤48)=false):PCall P 117 [rdV l] (.lit (.bool false)):=
 j5 (.b 4 h1 .nil) (by kernel_rfl)
end Go.Fw
open Go
namespace Go.Fw
set_option maxRecDepth 100000
theorem z5b(l:List (Int×Int))(hl:l.length<2^30):PCall P 117 [rdV l] (.lit (.bool (z5W l))):=by
 have e:decide ((l.length:Int)≤48)=decide (l.length≤48):=by rw[decide_eq_decide];omega
 unfold z5W
 rw[←e]
 cases h1:decide ((l.length:Int)≤48)
 · exact zn2 l h1
 · cases h2:l.all rdP
   · exact(zlX l h1 (by rw[h2];rfl) hl).eq (by rw[show(l.all fun x=>decide (-10000≤x.2∧x.2≤10000))=false from h2];rfl)
   · exact(zkR l h1 (by rw[h2];rfl) hl).eq (by rw[show(l.all fun x=>decide (-10000≤x.2∧x.2≤10000))=true from h2];rfl)
theorem z6C(i:Int):(W8 i).raw 1=true:=z0n.2 ⟨zjQ,zik i (by decide),zka i (by decide)⟩
end Go.Fw
open Go IntKind
namespace Go.Fw
set_option maxRecDepth 100000
theorem zgv(l:List (Int×Int))(m:VN)(g:z5W l=true)(g2:m.ok=true)(s4_0:l.length<2^30)(s8_0:VN.raw 1000000 m=true){R:CV→Prop}(hR:Ok P 62 (loopHead P 62 0) ⟨J2 37 [(3,.ptr 0 0),(6,.cv (CV.lit (Value.slice none 0 0))),(17,.cv (.lst l.length (flat rdL l))),(18,.cv (.lit (.int .i64 (↑l.length:Int)))),(19,.cv (.lit (.int .i64 0)))],[some (vnM m)]⟩ (.of R)):W5 P 62 [rdV l,m.c] R:=
 Y3 (keep:=[3,6,17,18,19]) (σ:=[0]) (.r 4 ((z5b (l) s4_0).eqB g) (.r 8 ((zfC (m) s8_0).eqB g2) (.o 16 .stop .nil))) (by kernel_rfl) rfl hR (.cons (CvL.map_cv _) .nil)
theorem zgD(l:List (Int×Int))(m:VN)(g:z5W l=false)(s4_0:l.length<2^30):PCall P 62 [rdV l,m.c] (.tup [CV.lit (Value.slice none 0 0),.lit (.int .i64 1)]):=
 j5 (.r 4 ((z5b (l) s4_0).eqB g) .nil) (by kernel_rfl)
theorem zhr(l:List (Int×Int))(m:VN)(g:z5W l=true)(g2:m.ok=false)(s4_0:l.length<2^30)(s8_0:VN.raw 1000000 m=true):PCall P 62 [rdV l,m.c] (.tup [CV.lit (Value.slice none 0 0),.lit (.int .i64 1)]):=
 j5 (.r 4 ((z5b (l) s4_0).eqB g) (.r 8 ((zfC (m) s8_0).eqB g2) .nil)) (by kernel_rfl)
theorem zh7(l:List (Int×Int))(m:VN)(k mi mo:Int)(h1:decide (k<(↑l.length:Int))=true)(s10_0:(-9223372036854775808:Int)≤mo∧mo≤9223372036854775807)(s15_0:VN.raw 10000 m=true)(s15_1:VN.raw 10000 (W8 mi)=true)(s16_0:RN.raw 1000000 (oN mo)=true)(s16_1:RN.raw 1000000 (z4M m (W8 mi))=true)(o1:(0:Int)≤k∧k<(↑l.length:Int))(o2:List.take 2 (List.drop (k.toNat*2) (flat rdL l))=[.lit (.int .i64 mi),.lit (.int .i64 mo)]){R:Goal}(hn:J0 R.n [0,7]=true)(hR:Ok P 62 (loopHead P 62 0) ⟨J2 37 [(3,.ptr 0 0),(6,.sl (0+1) 0 1 10),(17,.cv (.lst l.length (flat rdL l))),(18,.cv (.lit (.int .i64 (↑l.length:Int)))),(19,.cv (.lit (.int .i64 (i64.wrap (k+1)))))],[some (vnM m),some (own ((zae (oN mo) (z4M m (W8 mi)))).l)]⟩ R):Ok P 62 (loopHead P 62 0) ⟨J2 37 [(3,.ptr 0 0),(6,.cv (CV.lit (Value.slice none 0 0))),(17,.cv (rdV l)),(18,.cv (j6 (↑l.length:Int))),(19,.cv (j6 k))],[some (vnM m)]⟩ R:=
 z0x (keep:=[3,6,17,18,19]) (σ:=[0,7]) (.b 2 h1 (.c o1 (.c o2 (.c (eqn 2) (.c (lq 2 2) (.c (zfZ (mo) s10_0) (.c (zd8 (mi)) (.c (zc4 (m) (W8 mi) s15_0 s15_1) (.c (zgr (oN mo) (z4M m (W8 mi)) s16_0 s16_1) (.c (lq 120 1099511627776) (.c (lq 1 1099511627776) (.c (show 0<1 from by decide) (.c (eqn 10) (.o 4 (.r (.agg [.lit (.int .i64 mi),.lit (.int .i64 mo)])) (.o 10 (.r (RN.c (oN mo))) (.o 14 (.r (z4B (W8 mi).x (W8 mi).y (W8 mi).z)) (.o 15 (.r (RN.c (z4M m (W8 mi)))) (.o 16 (.r (RN.c (zae (oN mo) (z4M m (W8 mi))))) (.o 22 .stop .nil))))))))))))))))))) (by kernel_rfl) rfl hn hR (.cons (CvL.map_cv _) (.cons (CvL.map_cv _) .nil))
theorem zhu(l:List (Int×Int))(m:VN)(k _mi _mo:Int)(h1:decide (k<(↑l.length:Int))=false){R:Goal}(hR:R.c (.tup [CV.lit (Value.slice none 0 0),.lit (.int .i64 0)])):Ok P 62 (loopHead P 62 0) ⟨J2 37 [(3,.ptr 0 0),(6,.cv (CV.lit (Value.slice none 0 0))),(17,.cv (rdV l)),(18,.cv (j6 (↑l.length:Int))),(19,.cv (j6 k))],[some (vnM m)]⟩ R:=
 okT (.b 2 h1 .nil) (by kernel_rfl) hR
theorem zjc(l:List (Int×Int))(m:VN)(k mi mo:Int)(c:Nat)(out:List CV)(h1:decide (k<(↑l.length:Int))=true)(s10_0:(-9223372036854775808:Int)≤mo∧mo≤9223372036854775807)(s15_0:VN.raw 10000 m=true)(s15_1:VN.raw 10000 (W8 mi)=true)(s16_0:RN.raw 1000000 (oN mo)=true)(s16_1:RN.raw 1000000 (z4M m (W8 mi))=true)(o1:(0:Int)≤k∧k<(↑l.length:Int))(o2:List.take 2 (List.drop (k.toNat*2) (flat rdL l))=[.lit (.int .i64 mi),.lit (.int .i64 mo)])(o9:(c+1)*120≤1099511627776)(o10:c+1≤1099511627776)(o11:(own out).length=c*10)(o12:zbb (own ((zae (oN mo) (z4M m (W8 mi)))).l))(o15:CvL (own out++(own ((zae (oN mo) (z4M m (W8 mi)))).l))){R:Goal}(hn:J0 R.n [0,8]=true)(hR:Ok P 62 (loopHead P 62 0) ⟨J2 37 [(3,.ptr 0 0),(6,.sl (0+1) 0 (c+1) 10),(17,.cv (.lst l.length (flat rdL l))),(18,.cv (.lit (.int .i64 (↑l.length:Int)))),(19,.cv (.lit (.int .i64 (i64.wrap (k+1)))))],[some (vnM m),some (own out++(own ((zae (oN mo) (z4M m (W8 mi)))).l))]⟩ R):Ok P 62 (loopHead P 62 0) ⟨J2 37 [(3,.ptr 0 0),(6,.sl 1 0 c 10),(17,.cv (rdV l)),(18,.cv (j6 (↑l.length:Int))),(19,.cv (j6 k))],[some (vnM m),some (own out)]⟩ R:=
 z0x (keep:=[3,6,17,18,19]) (σ:=[0,8]) (.b 2 h1 (.c o1 (.c o2 (.c (eqn 2) (.c (lq 2 2) (.c (zfZ (mo) s10_0) (.c (zd8 (mi)) (.c (zc4 (m) (W8 mi) s15_0 s15_1) (.c (zgr (oN mo) (z4M m (W8 mi)) s16_0 s16_1) (.c o9 (.c o10 (.c o11 (.c o12 (.c (eqn 10) (.o 4 (.r (.agg [.lit (.int .i64 mi),.lit (.int .i64 mo)])) (.o 10 (.r (RN.c (oN mo))) (.o 14 (.r (z4B (W8 mi).x (W8 mi).y (W8 mi).z)) (.o 15 (.r (RN.c (z4M m (W8 mi)))) (.o 16 (.r (RN.c (zae (oN mo) (z4M m (W8 mi))))) (.o 22 .stop .nil)))))))))))))))))))) (by kernel_rfl) rfl hn hR (.cons (CvL.map_cv _) (.cons o15 .nil))
theorem zit(l:List (Int×Int))(m:VN)(k _mi _mo:Int)(c:Nat)(out:List CV)(h1:decide (k<(↑l.length:Int))=false)(o1:List.take (c*10) (List.drop 0 (own out))=List.map MV.cv out){R:Goal}(hR:R.c (.tup [.lst c out,.lit (.int .i64 0)])):Ok P 62 (loopHead P 62 0) ⟨J2 37 [(3,.ptr 0 0),(6,.sl 1 0 c 10),(17,.cv (rdV l)),(18,.cv (j6 (↑l.length:Int))),(19,.cv (j6 k))],[some (vnM m),some (own out)]⟩ R:=
 okT (.b 2 h1 (.c o1 (.o 6 (.r (CV.lit undef) [out]) .nil))) (by kernel_rfl) hR
end Go.Fw
