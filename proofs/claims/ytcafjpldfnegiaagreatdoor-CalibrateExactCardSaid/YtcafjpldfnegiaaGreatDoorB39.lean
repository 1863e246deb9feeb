/- A part of the proof that the law returns true for every input: an executor for the model's code, and what functions of the program compute. -/
import Derived.Test.YtcafjpldfnegiaaGreatDoorB10
import Derived.Test.YtcafjpldfnegiaaGreatDoorB11
import Derived.Test.YtcafjpldfnegiaaGreatDoorB15
import Derived.Test.YtcafjpldfnegiaaGreatDoorB28
import Derived.Test.YtcafjpldfnegiaaGreatDoorB35
import Derived.Test.YtcafjpldfnegiaaGreatDoorB36
import Derived.Test.YtcafjpldfnegiaaGreatDoorB37
import Derived.Test.YtcafjpldfnegiaaGreatDoorB38
import Derived.KernelRfl
import Derived.OrdersIn
import Derived.RangeFuncCalls
import Derived.Deep.Slices
open Go IntKind
namespace Go.Fw
set_option maxRecDepth 100000
abbrev opC(f:Nat):CV:= .agg [.lit (.func (.func f) #[] #[])]
def V3.pmul(a b:V3):V3:=⟨a.x*b.x,a.y*b.y,a.z*b.z⟩
noncomputable def z4g(v w:VN):VN:=ofV (o2 V3.pmul (toV v) (toV w))
noncomputable def oV(a b c:Int):VN:=ofV (toV (ofV (some ⟨K.ofInt a,K.ofInt b,K.ofInt c⟩)))
theorem zbS(a b c:Int):oV a b c=ofV (some ⟨K.ofInt a,K.ofInt b,K.ofInt c⟩):=by unfold oV;rw[zbe]
theorem zmH (f : Nat) (g : V3 → V3 → V3) (v w : VN) (hv : v.raw 1000000 = true) (hw : w.raw 1000000 = true)
    (h: ∀a b:V3,a.x.sz≤1000000→a.y.sz≤1000000→a.z.sz≤1000000→b.x.sz≤1000000→b.y.sz≤1000000→b.z.sz≤1000000→PCall P 205 [opC f,a.c,b.c] (g a b).c):
    PCall P 205 [opC f,v.c,w.c] (ofV (o2 g (toV v) (toV w))).c:=by
 cases ev:toV v with
 |none=>exact zlt f v w (z4A ev) hv
 |some a=>
  cases ew:toV w with
  |none=>exact zmM f v w (zb7 ev) (z4A ew) hv hw
  |some b=>
   obtain⟨x,y,z⟩:=z1w ev hv
   obtain⟨x',y',z'⟩:=z1w ew hw
   rw[zdT ev,zdT ew]
   exact h a b x y z x' y' z'
theorem znE(v w:VN)(hv:v.raw 1000000=true)(hw:w.raw 1000000=true):PCall P 205 [opC 137,v.c,w.c] (z0k v w).c:=
 zmH 137 V3.add v w hv hw fun a b x y z x' y' z'=>zkx _ _ _ _ _ _ x y z x' y' z' (by omega) (by omega) (by omega)
theorem zlI(v w:VN)(hv:v.raw 1000000=true)(hw:w.raw 1000000=true):PCall P 205 [opC 136,v.c,w.c] (z4g v w).c:=
 zmH 136 V3.pmul v w hv hw fun a b x y z x' y' z'=>zkJ _ _ _ _ _ _ x y z x' y' z' (by omega) (by omega) (by omega)
theorem zmX(v:VN)(k:RN)(hv:v.raw 1000000=true)(hk:k.raw 1000000=true):PCall P 205 [opC 136,v.c,z5d k k k] (z4g v ⟨k,k,k⟩).c:=
 zlI v ⟨k,k,k⟩ hv (z0c.2 ⟨hk,hk,hk⟩)
theorem znS (a b c : Int) (ha : -9223372036854775808 ≤ a ∧ a ≤ 9223372036854775807) (hb : -9223372036854775808 ≤ b ∧ b ≤ 9223372036854775807) (hc : -9223372036854775808 ≤ c ∧ c ≤ 9223372036854775807) :
    PCall P 139 [j7 a,j7 b,j7 c] (oV a b c).c:=by rw[zbS];exact zkP a b c ha hb hc
theorem zns(a b c d:K)(ha:a.sz≤100000)(hb:b.sz≤100000)(hc:c.sz≤100000)(hd:d.sz≤100000):PCall P 222 [Y6 a,Y6 b,Y6 c,Y6 d] (Y6 (a*d-b*c)):=by
 have m1:=K.sz_mul a d
 have m2:=K.sz_mul b c
 exact zjO a b c d (by omega) (by omega) (by omega)
theorem zix(v w:VN)(a:VN.raw 1000000 v=true)(d:VN.raw 1000000 w=true):PCall P 141 [v.c,w.c] (z5d (z0k v w).x (z0k v w).y (z0k v w).z):=
 j5 (.r 6 (znE v w a d) (.c (lq 30 30) .nil)) (by kernel_rfl)
theorem zjr(v w:VN)(a:VN.raw 1000000 v=true)(d:VN.raw 1000000 w=true)(e:RN.raw 1000000 (z4g v w).x=true)(f:RN.raw 1000000 (z4g v w).y=true)(g:RN.raw 1000000 (z3s (z4g v w).x (z4g v w).y)=true)(i:RN.raw 1000000 (z4g v w).z=true):PCall P 149 [v.c,w.c] (RN.c (z3s (z3s (z4g v w).x (z4g v w).y) (z4g v w).z)):=
 j5 (.r 6 (zlI v w a d) (.c (lq 30 30) (.r 13 (z9B ((z4g v w).x) ((z4g v w).y) e f) (.r 16 (z9B (z3s (z4g v w).x (z4g v w).y) ((z4g v w).z) g i) (.c (lq 10 10) .nil))))) (by kernel_rfl)
theorem zmu(x y z x' y' z':K)(a:x.sz≤1000000)(d:y.sz≤1000000)(e:z.sz≤1000000)(f:x'.sz≤1000000)(g:y'.sz≤1000000)(i:z'.sz≤1000000)(j:y.sz≤100000)(k:z.sz≤100000)(l:y'.sz≤100000)(m:z'.sz≤100000)(n:z.sz≤100000)(o:x.sz≤100000)(p:z'.sz≤100000)(q:x'.sz≤100000)(s:x.sz≤100000)(t:y.sz≤100000)(u:x'.sz≤100000)(v:y'.sz≤100000):PCall P 170 [z8y x y z,z8y x' y' z'] (z8y (y*z'-z*y') (z*x'-x*z') (x*y'-y*x')):=
 j5 (.r 4 (z9J x y z a d e) (.r 8 (z9J x' y' z' f g i) (.r 20 (zns y z y' z' j k l m) (.r 29 (zns z x z' x' n o p q) (.r 38 (zns x y x' y' s t u v) (.c (lq 30 30) .nil)))))) (by kernel_rfl)
theorem zgW(v:VN)(k:RN)(a:VN.raw 1000000 v=true)(d:RN.raw 1000000 k=true):PCall P 142 [v.c,k.c] (z5d (z4g v {x:=k,y:=k,z:=k}).x (z4g v {x:=k,y:=k,z:=k}).y (z4g v {x:=k,y:=k,z:=k}).z):=
 j5 (.r 9 (zmX v k a d) (.c (lq 30 30) .nil)) (by kernel_rfl)
theorem z9D(v w:VN)(hv:v.raw 1000000=true)(hw:w.raw 1000000=true):PCall P 141 [v.c,w.c] (z0k v w).c:=zix v w hv hw
theorem z9X(v:VN)(k:RN):z4g v ⟨k,k,k⟩=J6 v k:=by
 unfold z4g J6
 cases ev:toV v with
 |none=>rfl
 |some a=>
  have e:toV ⟨k,k,k⟩=(toO k).map fun c=>⟨c,c,c⟩:=by
   unfold toV
   cases ek:toO k<;>rfl
  rw[e]
  cases ek:toO k<;>rfl
theorem z4x(v:VN)(k:RN)(hv:v.raw 1000000=true)(hk:k.raw 1000000=true):PCall P 142 [v.c,k.c] (J6 v k).c:=by
 rw[←z9X]
 exact zgW v k hv hk
theorem zaq(v w:VN):z3s (z3s (z4g v w).x (z4g v w).y) (z4g v w).z=z4q v w:=by
 unfold z4q z4g
 cases ev:toV v with
 |none=>show z3s (z3s .zero .zero) .zero= .zero;unfold z3s;rw[z4B];rfl
 |some a=>
  cases ew:toV w with
  |none=>show z3s (z3s .zero .zero) .zero= .zero;unfold z3s;rw[z4B];rfl
  |some b=>
   show z3s (z3s (.ofK (a.x*b.x)) (.ofK (a.y*b.y))) (.ofK (a.z*b.z))= .ofK (a.x*b.x+a.y*b.y+a.z*b.z)
   unfold z3s
   simp only[z6g,z6k]
   rfl
theorem zfq(v w:VN)(hv:v.raw 1000=true)(hw:w.raw 1000=true):PCall P 170 [v.c,w.c] (z3n v w).c:=by
 have hv':=VN.raw_mono hv (show 1000≤1000000 by decide)
 have hw':=VN.raw_mono hw (show 1000≤1000000 by decide)
 unfold z3n
 cases ev:toV v with
 |none=>exact zlP v w (z4A ev) hv'
 |some a=>
  cases ew:toV w with
  |none=>exact zlB v w (zb7 ev) (z4A ew) hv' hw'
  |some b=>
   obtain⟨x,y,z⟩:=z1w ev hv
   obtain⟨x',y',z'⟩:=z1w ew hw
   rw[zdT ev,zdT ew]
   refine zmu _ _ _ _ _ _ ?_ ?_ ?_ ?_ ?_ ?_ ?_ ?_ ?_ ?_ ?_ ?_ ?_ ?_ ?_ ?_ ?_ ?_<;>omega
noncomputable def zV(v:VN):Bool:=rnB v.x (oV 0 0 0).x&&(rnB v.y (oV 0 0 0).y&&(rnB v.z (oV 0 0 0).z&&true))
def plR(x y z d:RN):CV:= .agg (x.l++(y.l++(z.l++d.l)))
structure PN where
 n:VN
 d:RN
def PN.c(p:PN):CV:=plR p.n.x p.n.y p.n.z p.d
def PN.zero:PN:=⟨.zero,.zero⟩
def PN.raw(k:Nat)(p:PN):Bool:=p.n.raw k&&p.d.raw k
theorem PN.raw_iff{k:Nat}{p:PN}:p.raw k=true↔p.n.raw k=true∧p.d.raw k=true:=by unfold PN.raw;simp
theorem zfL (a b c : Int) (ha : -9223372036854775808 ≤ a ∧ a ≤ 9223372036854775807) (hb : -9223372036854775808 ≤ b ∧ b ≤ 9223372036854775807) (hc : -9223372036854775808 ≤ c ∧ c ≤ 9223372036854775807) :
    PCall P 63 [j7 a,j7 b,j7 c] (oV a b c).c:=by rw[zbS];exact zgv a b c ha hb hc
theorem sgn_zero{x:K}:K.sgn x=0↔x=0:=Sg.zero x
noncomputable def z1q(x y:RN):RN×Int:=match toO x,toO y with
 |some a,some b=>if K.sgn b=0 then(.zero,10)else(.ofK (K.div a b),0)
 |_,_=>(.zero,1)
theorem zcs(x y:RN)(hx:x.raw 1000000=true)(hy:y.raw 1000000=true):PCall P 147 [x.c,y.c] (.tup [(z1q x y).1.c,j7 (z1q x y).2]):=by
 unfold z1q
 cases ex:toO x with
 |none=>exact zh5 x y (z0y ex) hx
 |some k=>
  cases ey:toO y with
  |none=>exact zi8 x y (z1z ex).1 (z0y ey) hx hy
  |some l=>
   have a:=z1Y ex hx
   have b:=z1Y ey hy
   rw[zf0 (z1z ex).2,zf0 (z1z ey).2]
   dsimp only
   by_cases h0:K.sgn l=0
   · rw[if_pos h0,sgn_zero.1 h0]
     exact zmJ k (by simp only[Smk];omega)
   · rw[if_neg h0]
     exact zfY k l (fun h=>h0 (sgn_zero.2 h)) (by omega)
noncomputable def PN.ok(p:PN):Bool:=p.n.ok&&(!zV p.n&&p.d.ok)
noncomputable def oN(n:Int):RN:=ofO (toO (ofO (some (K.ofInt n))))
theorem z9T(n:Int):oN n= .ofK (K.ofInt n):=by unfold oN;rw[z6k];rfl
theorem zdc(n:Int)(h: -9223372036854775808≤n∧n≤9223372036854775807):PCall P 144 [j7 n] (oN n).c:=by rw[z9T];exact z0d n h
theorem zmB(x y:RN)(a:RN.raw 1000000 y=true)(d:RN.raw 1000000 x=true)(e:RN.raw 1000000 (zfZ y)=true):PCall P 135 [x.c,y.c] (RN.c (z3s x (zfZ y))):=
 j5 (.r 5 (zmw y a) (.r 6 (z9B x (zfZ y) d e) (.c (lq 10 10) .nil))) (by kernel_rfl)
noncomputable def kN(x:K):RN:=ofO (toO (ofO (some x)))
theorem z1p(x:K):kN x= .ofK x:=by unfold kN;rw[z6k];rfl
theorem znO(i:Int):PCall P 33 [j7 i] (kN (z6y i)).c:=by rw[z1p];exact z7i i
theorem znL(i:Int):PCall P 35 [j7 i] (kN (zae i)).c:=by rw[z1p];exact zbB i
theorem z0X(x:K):toO (kN x)=some x:=by rw[z1p];exact z6g x
theorem zmy(x y:K):zaK (kN x) (kN y)=kN (x*y):=by unfold zaK;rw[z0X,z0X,z1p];rfl
theorem zjT(x y:K):z3s (kN x) (kN y)=kN (x+y):=by unfold z3s;rw[z0X,z0X,z1p];rfl
theorem zmA(x y:K):zag (kN x) (kN y)=kN (x-y):=by unfold zag;rw[z0X,z0X,z1p];rfl
theorem zga(x:K):z9e (kN x)=K.sgn x:=by unfold z9e;rw[z0X]
theorem z8R(n:Int):oN n=kN (K.ofInt n):=by rw[z9T,z1p]
theorem zc5(x y:K)(h:K.sgn y≠0):(z1q (kN x) (kN y)).1=kN (K.div x y):=by
 unfold z1q
 rw[z0X,z0X]
 dsimp only
 rw[if_neg h,z1p]
theorem zfW(x y:RN)(hx:x.raw 1000000=true)(hy:y.raw 1000000=true):PCall P 135 [x.c,y.c] (zag x y).c:=by
 have h:=zmB x y hy hx (zh0 hy)
 have e:z3s x (zfZ y)=zag x y:=by unfold z3s zag;rw[zdy,znH]
 rw[e]at h
 exact h
theorem z5l{x:K}{n:Nat}(h:x.sz≤n):(kN x).raw n=true:=by rw[z1p];exact RN.ofK_raw x h
theorem z3f{z:Int}{n:Nat}(h:(K.ofInt z).sz≤n):(oN z).raw n=true:=by rw[z8R];exact z5l h
theorem zoy:(K.ofInt 0).sz≤10:=of_decide_eq_true (by kernel_rfl)
theorem zn6(a b c:Int):(oV a b c).x=oN a:=by rw[zbS,z9T];rfl
theorem znb(a b c:Int):(oV a b c).y=oN b:=by rw[zbS,z9T];rfl
theorem znd(a b c:Int):(oV a b c).z=oN c:=by rw[zbS,z9T];rfl
theorem ziX(x:K):(kN x).ok=true:=by rw[z1p];exact RN.ofK_ok x
theorem PN.raw_mono{p:PN}{n m:Nat}(h:p.raw n=true)(hm:n≤m):p.raw m=true:=by
 obtain⟨a,b⟩:=PN.raw_iff.1 h
 exact PN.raw_iff.2 ⟨VN.raw_mono a hm,RN.raw_mono b hm⟩
open Go.RowKit
def PN.a(p:PN):Array Value:=p.n.x.a++(p.n.y.a++(p.n.z.a++p.d.a))
theorem zgV:(oN 1).raw 1=true:=by rw[z9T];kernel_rfl
theorem z89(x y z:K):toV ⟨kN x,kN y,kN z⟩=some ⟨x,y,z⟩:=by
 unfold toV
 rw[z0X,z0X,z0X]
theorem zes(x y z k:K):J6 ⟨kN x,kN y,kN z⟩ (kN k)=⟨kN (x*k),kN (y*k),kN (z*k)⟩:=by
 unfold J6
 rw[z89,z0X,z1p,z1p,z1p]
 rfl
theorem z86(S:Nat→Prop)(n:Nat)(hs: ∀k,k<n→S (k+1)→S k)(he:S n):S 0:=by
 have h: ∀d k,k+d=n→S k:=by
  intro d
  induction d with
  |zero=>
   intro k hk
   obtain rfl:k=n:=by omega
   exact he
  |succ d ih=>
   intro k hk
   exact hs k (by omega) (ih (k+1) (by omega))
 exact h n 0 (by omega)
def flat{α:Type}(f:α→List CV)(l:List α):List CV:=l.flatMap f
section
variable{α:Type}{f:α→List CV}{s:Nat}
theorem z0R(x:α)(l:List α):flat f (x::l)=f x++flat f l:=by simp[flat]
theorem zeu(a b:List α):flat f (a++b)=flat f a++flat f b:=by simp[flat]
theorem z2E(hf: ∀x,(f x).length=s)(l:List α):(flat f l).length=l.length*s:=by
 induction l with
 |nil=>simp[flat]
 |cons x l ih=>rw[z0R,List.length_append,hf,ih,List.length_cons,Nat.add_mul,Nat.one_mul,Nat.add_comm]
theorem zbu(hf: ∀x,(f x).length=s)(l:List α)(k:Nat):(flat f l).drop (k*s)=flat f (l.drop k):=by
 induction l generalizing k with
 |nil=>simp[flat]
 |cons x l ih=>
  cases k with
  |zero=>rw[Nat.zero_mul];rfl
  |succ k=>
   have e:List.drop s (f x++flat f l)=flat f l:=by rw[←hf x,List.drop_left]
   rw[z0R,Nat.succ_mul,Nat.add_comm,←List.drop_drop,e,ih]
   rfl
theorem z2p(hf: ∀x,(f x).length=s){l:List α}{k:Nat}(hk:k<l.length):List.take s (List.drop (k*s) (flat f l))=f l[k]:=by
 rw[zbu hf,List.drop_eq_getElem_cons hk,z0R,List.take_append_of_le_length (by rw[hf];exact Nat.le_refl _),List.take_of_length_le (by rw[hf];exact Nat.le_refl _)]
theorem zd4{l:List α}{k:Nat}(hk:k<l.length):flat f (l.take (k+1))=flat f (l.take k)++f l[k]:=by
 rw[List.take_add_one,List.getElem?_eq_getElem hk,zeu]
 simp[flat]
end
def rdL(x:Int×Int):List CV:=[j7 x.1,j7 x.2]
theorem z3Y(x:Int×Int):(rdL x).length=2:=rfl
def rdV(l:List (Int×Int)):CV:= .lst l.length (flat rdL l)
theorem zgO(x:RN):x.l.length=10:=rfl
def nmV(l:List RN):CV:= .lst l.length (flat RN.l l)
theorem z9A {α : Type} {s : Nat} (l : List α) (g : α → List CV) (hg : ∀ x, (g x).length = s) (S : Nat → Option (Nat × List CV) → Prop)
    (h0: ∀k (hk:k<l.length),S (k+1) (some (1,g l[k]))→S k none)
    (h1: ∀k (hk:k<l.length) c out,c≤k→out.length=c*s→S (k+1) (some (c+1,out++g l[k]))→S k (some (c,out)))
    (hl:l≠[]) (he:S l.length (some (l.length,flat g l))):S 0 none:=by
 have hp:=List.length_pos_iff.2 hl
 have key:=z86 (fun k=>if k=0 then S 0 none else S k (some (k,flat g (l.take k)))) l.length ?_ ?_
 · simpa using key
 · intro k hk h
   rw[if_neg (by omega),zd4 hk]at h
   by_cases hk0:k=0
   · subst hk0
     rw[if_pos rfl]
     exact h0 0 hp h
   · rw[if_neg hk0]
     exact h1 k hk k _ (Nat.le_refl _) (by rw[z2E hg,List.length_take,Nat.min_eq_left (by omega)]) h
 · rw[if_neg (by omega),List.take_length]
   exact he
open Go.Proofs Go.Proofs.YtcafjpldfnegiaaGreatDoor
open Go.ChangeShapes Go.WideShapes Go.ChangeAt Go.RowKit
theorem zaC{α:Type}[Inhabited α] {n:Nat}{q:Nat→α→Prop}(h: ∀i,i<n→ ∃x,q i x): ∃f:Nat→α,∀i,i<n→q i (f i):=
 ⟨fun i=>if hi:i<n then(h i hi).choose else default,fun i hi=>by simp only[dif_pos hi];exact(h i hi).choose_spec⟩
theorem z5X {w : World} {base : Nat} {a : Addr} {n : Nat} {cs : List Value} (h : w.cells? base a n = some cs) (hn : 0 < n) :
    a.spot=none∧ ∃c T fz,w.heap[a.block]?=some (.cells c T fz)∧(c.toList.drop a.off).take n=cs:=by
 obtain⟨_,hlen,hi⟩:=World.cells?_some h
 have h0:=hi 0 hn
 have e0:a.add 0=a:=rfl
 rw[e0]at h0
 unfold World.cell? at h0
 split at h0
 · rename_i c T fz hc
   split at h0
   · rw[List.getElem?_eq_getElem (by omega)]at h0;cases h0
   · rename_i hs
     have hspot:a.spot=none:=by cases e:a.spot with|none=>rfl|some s=>rw[e]at hs;exact absurd rfl hs
     refine⟨hspot,c,T,fz,hc,?_⟩
     refine List.ext_getElem? fun i=>?_
     by_cases hin:i<n
     · rw[List.getElem?_take_of_lt hin,List.getElem?_drop,←hi i hin]
       unfold World.cell? Addr.add
       by_cases hi0:i=0
       · subst hi0
         rw[if_pos rfl,hc]
         simp[hspot]
       · rw[if_neg hi0,hc]
         simp
     · rw[List.getElem?_eq_none (by rw[List.length_take];omega),List.getElem?_eq_none (by omega)]
 · rw[List.getElem?_eq_getElem (by omega)]at h0;cases h0
def zjs(b:Nat)(cs:List Value):Imm:=fun k=>if k=b then some cs else none
theorem z9q(Im:Imm): ∀l:List Value,CV.repL Im (l.map .lit) l
 | []=>by simp only[List.map_nil,CV.repL]
 |x::l=>by
  simp only[List.map_cons,CV.repL]
  exact⟨x,l,rfl,by simp only[CV.rep],z9q Im l⟩
theorem z8b(a:Addr)(n:Nat):(a.add n).block=a.block∧(a.add n).off=a.off+n:=by
 unfold Addr.add
 split
 · rename_i h;subst h;exact⟨rfl,rfl⟩
 · exact⟨rfl,rfl⟩
section
variable{H:Type}{enc:TypeId×Value→H}{W:World}{base:Nat}{sp:Nat→Bool}{hd:Bool}
end
theorem zbo {f : FuncId} {cs : List CV} {W : World} {args : Array Value} (Im : Imm) (him : ImOk Im W) (h : PCall P f cs (.lit (.bool true))) (ha : CV.repL Im cs args.toList) :
    Calls Tryz.prog f args W fun e W'=>e= .returned (.bool true)∧Below W.heap.size W W':=by
 refine(h Im W args him ha).mono ?_
 rintro e W' ⟨y,v,I',rfl,rfl,hv,_,_,hb,_⟩
 simp only[CV.rep]at hv
 subst hv
 exact⟨rfl,hb⟩
end Go.Fw
open Go Go.ChangeMaps
namespace Go.Fw
set_option maxRecDepth 100000
def zaj(s:Int)(ks:List Int):List Int:=if s∈ks then ks else ks++[s]
theorem z99(s k:Int):Instr.sameNow (.int .i64) (.int .i64 s) (.int .i64 k)=some (s==k):=by unfold Instr.sameNow;exact if_pos rfl
theorem zbm(s:Int): ∀(es:List MapEntry) (ks:List Int) (i:Nat),es.map (·.key)=ks.map (Value.int .i64)→s∈ks→ ∃j v,Instr.findNow (.int .i64) (.int .i64 s) es i=some (some (i+j,v))∧ks[j]?=some s
 | [],[],_,_,h=>by cases h
 |e::es,k::ks,i,h,hs=>by
  simp only[List.map_cons,List.cons.injEq]at h
  unfold Instr.findNow
  rw[h.1]
  rw[z99]
  cases hk:(s==k)
  · have hne:s≠k:=by simpa using hk
    obtain⟨j,v,h1,h2⟩:=zbm s es ks (i+1) h.2 (by simpa[hne]using hs)
    exact⟨j+1,v,by dsimp only;rw[h1,Nat.add_assoc,Nat.add_comm 1],by simpa using h2⟩
  · have:s=k:=by simpa using hk
    exact⟨0,e.val,rfl,by simp[this]⟩
theorem z9b(s:Int): ∀(es:List MapEntry) (ks:List Int) (i:Nat),es.map (·.key)=ks.map (Value.int .i64)→ ¬s∈ks→Instr.findNow (.int .i64) (.int .i64 s) es i=some none
 | [],_,_,_,_=>rfl
 |e::es,k::ks,i,h,hs=>by
  simp only[List.map_cons,List.cons.injEq]at h
  simp only[List.mem_cons,not_or]at hs
  unfold Instr.findNow
  rw[h.1]
  rw[z99,show(s==k)=false from by simpa using hs.1]
  exact z9b s es ks (i+1) h.2 hs.2
theorem zdJ {es : Array MapEntry} {ks : List Int} (h : es.toList.map (·.key) = ks.map (Value.int .i64)) {j : Nat} {s : Int} (hj : ks[j]? = some s) (val : Value) :
    (es.modify j fun e=>{e with key:= .int .i64 s,val:=val}).toList.map (·.key)=ks.map (Value.int .i64)∧(es[j]?).map (·.key)=some (.int .i64 s):=by
 have h0:(es.toList.map (·.key))[j]?=some (Value.int .i64 s):=by rw[h,List.getElem?_map,hj];rfl
 have h1:(es[j]?).map (·.key)=some (.int .i64 s):=by
  rw[List.getElem?_map,Array.getElem?_toList]at h0;exact h0
 refine⟨?_,h1⟩
 rw[←h]
 apply List.ext_getElem?
 intro i
 rw[List.getElem?_map,List.getElem?_map,Array.toList_modify,List.getElem?_modify]
 by_cases hi:j=i
 · subst hi
   rw[Array.getElem?_toList]
   cases e:es[j]? with
   |none=>simp
   |some x=>rw[e]at h1;simp at h1;simp[h1]
 · simp only[if_neg hi];cases es.toList[i]?<;>rfl
theorem zgH {P : Program} (w : World) (mty kt et : TypeId) (r clock : Nat) (s : Int) (val : Value) (es : Array MapEntry) (ks : List Int) (hm : P.underlying mty = some (.map kt et)) (hk : P.underlying kt = some (.int .i64)) (hb : w.heap[r]? = some (.map es clock))
    (he:es.toList.map (·.key)=ks.map (Value.int .i64)):
    ∃es' clock',(Instr.mapUpdate mty (.map (some r)) (.int .i64 s) val).run P w= .ok () {w with heap:=w.heap.setIfInBounds r (.map es' clock')}∧es'.toList.map (·.key)=(zaj s ks).map (Value.int .i64):=by
 have hI:MapKept.IsKey (.int .i64) (.int .i64 s):=by simp[MapKept.IsKey]
 have hc:(Instr.checkKey false 10000 kt (.int .i64 s)).run P w= .ok () w:=MapKept.run_checkKey (k:= .int .i64 s) hk hI false 9999
 unfold zaj
 by_cases hs:s∈ks
 · rw[if_pos hs]
   obtain⟨j,v,h1,h2⟩:=zbm s es.toList ks 0 he hs
   rw[Nat.zero_add]at h1
   obtain⟨k1,k2⟩:=zdJ he h2 val
   refine⟨_,clock,?_,k1⟩
   simp[Instr.mapUpdate,run_underlying hm,MapKept.run_getObj_map hb,hc,MapKept.run_findKey hk h1,k2,MapKept.run_keyThatStays hI,MapKept.run_setObj_map _ hb,Result.andThen]
 · rw[if_neg hs]
   exact⟨_,_,zaZ w mty kt et r clock s val es hm hk hb (z9b s es.toList ks 0 he hs),by simp[he]⟩
structure XM(bm:Nat)(ks:List Int)(w0:Start)(p:Pl)(w:World):Prop where
 m: ∃es clock,w.heap[bm]?=some (.map es clock)∧es.toList.map (·.key)=ks.map (Value.int .i64)
 pr: ∀i κ,p i≠some (bm,κ)
 own:w0.own bm
 ps: ∀i b κ,p i=some (b,κ)→w0.own b
theorem OkX.regionM {f : FuncId} {c : Code} {k : List Item} {s s' s'' : St} {R : Goal} {ors : Ors} {ob : List Prop} {bm : Nat} {ks : List Int} (keep σ : List Nat)
    (h:regM P c s ors=some (s',ob)) (hob:AllP ob) (hl:z1j s''.hp=true) (hσ:z05 σ=true) (hR:R.n=0) (hs:s''=s'.sel keep σ) (hb:AllP (CellsC s''.hp))
    (hk:OkX P f k s'' R (XM bm ks)):OkX P f (.code c::k) s R (XM bm ks):=by
 intro w0 I p a w b cs h1 h2 h3 h31 h32 h4 h5 h6
 obtain⟨a',w1,⟨I',p',q1,q2,q3,q4⟩,hst⟩:=z0r (P:=P) (b:=b) (k:=k) (cs:=cs) (show c.wp P (fun e a' w'=>e= .normal∧ ∃I' p',I.le I'∧SRel ⟨w,I,p⟩ s' I' p' a' w'∧z2u s' p'∧p.le p') a w from z3J h hob.mem (z7x h4) h5)
 have hown: ∀i x,(p'.at σ) i=some x→(⟨w,I,p⟩:Start).own x.1:=fun i x hx=>by
  simp only[Pl.at]at hx
  split at hx
  · rename_i j hj
    have hi:i<s''.hp.length:=by
     rw[hs];simp only[St.sel,List.length_map]
     rcases Nat.lt_or_ge i σ.length with g|g
     · exact g
     · rw[List.getElem?_eq_none g]at hj;cases hj
    obtain⟨c,hc⟩:=z11 _ i hl hi
    rw[hs]at hc
    simp only[St.sel,List.getElem?_map,hj,Option.map_some,Option.some.injEq,List.getD_eq_getElem?_getD]at hc
    have hc':s'.hp[j]?=some (some c):=by
     cases e:s'.hp[j]? with
     |none=>rw[e]at hc;cases hc
     |some o=>rw[e]at hc;exact congrArg some hc
    obtain⟨b,κ,_,_,g1,_,_,_,g5,_⟩:=q2.hp.live j c hc'
    rw[g1]at hx;cases hx;exact g5
  · cases hx
 have q5:=z9o h4 h6.ps q2
 subst hs
 obtain⟨es,clock,m1,m2⟩:=h6.m
 have hnb: ∀x,x<w.heap.size→(∀i κ,p i≠some (x,κ))→w1.heap[x]?=w.heap[x]?:=fun x hx hp=>q2.hp.below.block x (fun ho=>by
  rcases ho with ho|⟨i,κ,ho⟩
  · exact absurd ho (Nat.not_le.2 hx)
  · exact hp i κ ho)
 have hlt: ∀x (o:Obj),w.heap[x]?=some o→x<w.heap.size:=fun x o hx=>by
  rcases Nat.lt_or_ge x w.heap.size with g|g
  · exact g
  · rw[Array.getElem?_eq_none g]at hx;cases hx
 have hpr: ∀i κ,(p'.at σ) i≠some (bm,κ):=fun i κ hi=>by
  rcases hown i _ hi with g|⟨j,κ',g⟩
  · exact absurd (hlt _ _ m1) (Nat.not_lt.2 g)
  · exact h6.pr j κ' g
 obtain ⟨e, w', fr, k1, k2, k3⟩ := hk w0 I' (p'.at σ) a' w1 b cs h1 h2 (Imm.le_trans h3 q1) (fun i x hx => by rw [h32 i (by omega)] at hx; cases hx) h32 ⟨z30 _ _ _ q5.tm, q5.defers, q5.hp.sel hσ hb.mem⟩ (fun i hi => by
     simp only[St.sel,List.length_map]at hi
     simp[Pl.at,List.getElem?_eq_none_iff.2 hi])
  ⟨⟨es,clock,(hnb bm (hlt _ _ m1) h6.pr).trans m1,m2⟩,hpr,h6.own,fun i b κ hi=>z7d h4.hp.below h6.ps (hown i _ hi)⟩
 exact⟨e,w',fr,k1,.of_steps hst k2,k3⟩
theorem OkX.regSM {f : FuncId} {c : Code} {k : List Item} {s s' : St} {R : Goal} {ors : Ors} {ob : List Prop} {bm : Nat} {ks : List Int} (keep σ : List Nat)
    (h:zby keep σ (Fw.regM P c s ors)=some (s',ob)) (hσ:z05 σ=true) (hob:Ps ob) (hl:z1j s'.hp=true) (hR:R.n=0) (hk:OkX P f k s' R (XM bm ks)):OkX P f (.code c::k) s R (XM bm ks):=by
 obtain⟨s0,ob0,h0,rfl,rfl⟩:=z3W h
 exact OkX.regionM keep σ h0 hob.all.left hl hσ hR rfl hob.all.right hk
theorem HRel.mapSet {w0 : Start} {hp : List Blk} {I : Imm} {p : Pl} {w : World} (H : HRel w0 hp I p w) {r : Nat} {es : Array MapEntry} {clock : Nat} (hr : w.heap[r]? = some (.map es clock)) (ho : w0.own r) (hp' : ∀ i κ, p i ≠ some (r, κ)) (o : Obj) :
    HRel w0 hp I p {w with heap:=w.heap.setIfInBounds r o}:=by
 have h:=MapKept.heap_set (o':=o) hr
 refine⟨⟨H.below.os,H.below.tape,H.below.output,?_,fun k hk=>?_⟩,fun b cs hb=>?_,H.imf,fun i cells hi=>?_,H.inj⟩
 · have:=H.below.size;simp only[Array.size_setIfInBounds];exact this
 · exact(h.2 k (fun e=>hk (e ▸ ho))).trans (H.below.block k hk)
 · obtain⟨c',T,fz,g1,g2⟩:=H.im b cs hb
   refine⟨c',T,fz,?_,g2⟩
   exact(h.2 b (fun e=>by rw[e,hr]at g1;cases g1)).trans g1
 · obtain⟨b,κ,c',T,g1,g2,g3⟩:=H.live i cells hi
   exact⟨b,κ,c',T,g1,(h.2 b (fun e=>hp' i κ (e ▸ g1))).trans g2,g3⟩
noncomputable def z3l:Code:=match(Go.Proofs.Tryz.f14).body with|some c=>c|none=> .skip
noncomputable def xr5:Code:=z5i [true,true,true,true,false] z3l
noncomputable def xr10:Code:=z5i [true,true,true,true,true,false,true,true,true,true,true,false,true,true,true,false] z3l
noncomputable def xr14:Code:=z5i [true,true,true,true,true,true,true,false,false] z3l
theorem zl7 (a : Act) (w : World) (hz : a.tmps.size = 103) :
    xr5.wp P (fun e a' w'=>e= .normal∧a'.defers=a.defers∧(∃x,a'.tmps=((a.tmps.setIfInBounds 37 x).setIfInBounds 9 (.map (some w.heap.size))))∧w'=w.alloc (.map #[] 0)) a w:=by
 have hmm:=fun t w=>run_makeMap_plain (P:=P) w t
 unfold xr5 z3l
 unfold Go.Proofs.Tryz.f14
 dsimp only[z5i]
 go_wp2
 exact⟨_,rfl⟩
theorem ziB (a : Act) (w w1 : World) (bm : Nat) (k : Int) (hz : a.tmps.size = 103) (h9 : a.tmps[9]'(by omega) = .map (some bm)) (h12 : a.tmps[12]'(by omega) = .int .i64 k)
    (hrun:(Instr.mapUpdate 94 (.map (some bm)) (.int .i64 k) (.bool true)).run P w= .ok () w1):
    xr10.wp P (fun e a' w'=>e= .normal∧a'.defers=a.defers∧(∃x y,a'.tmps=((a.tmps.setIfInBounds 47 x).setIfInBounds 48 y))∧w'=w1) a w:=by
 unfold xr10 z3l
 unfold Go.Proofs.Tryz.f14
 dsimp only[z5i]
 go_wp2
 exact⟨_,_,rfl⟩
theorem zhH (a : Act) (w : World) (bm n : Nat) (hz : a.tmps.size = 103) (h9 : a.tmps[9]'(by omega) = .map (some bm))
    (hrun: ∀ty,(Builtin.len_ #[94] ty #[.map (some bm)]).run P w= .ok (.int .i64 n) w):
    xr14.wp P (fun e a' w'=>e= .normal∧a'.defers=a.defers∧(∃x y,a'.tmps=(((a.tmps.setIfInBounds 73 x).setIfInBounds 74 y).setIfInBounds 75 (.bool (decide ((n:Int)<3)))))∧w'=w) a w:=by
 unfold xr14 z3l
 unfold Go.Proofs.Tryz.f14
 dsimp only[z5i]
 go_wp2
 exact⟨_,_,rfl⟩
def zdh(bm:Nat):MV:= .cv (.lit (.map (some bm)))
theorem ziJ{P:Program}{w:World}{t k e:TypeId}{b:Nat}{es:Array MapEntry}{clock:Nat}(ht:P.underlying t=some (.map k e))(hb:w.heap[b]?=some (.map es clock))(ty:TypeId):(Builtin.len_ #[t] ty #[.map (some b)]).run P w= .ok (.int .i64 es.size) w:=by
 simp[Builtin.len_,run_underlying ht,MapKept.run_getObj_map hb,goInt,Result.andThen]
theorem zlO {R : Goal} {k : List Item} {tm : List MV} {hp : List Blk} (ht : tm.length = 103) (hl : z1j hp = true)
    (h: ∀bm,OkX P 14 k ⟨(tm.set 37 .unk).set 9 (zdh bm),hp⟩ R (XM bm [])):Ok P 14 (.code xr5::k) ⟨tm,hp⟩ R:=by
 intro w0 I p act w b cs h1 h2 h3 h31 h32 h4 h5
 obtain⟨hz,_⟩:=z1S h4.tm ht
 obtain⟨a',w1,⟨g1,⟨x,g2⟩,g3⟩,hst⟩:=z0r (P:=P) (b:=b) (k:=k) (cs:=cs) (zl7 act w hz)
 subst g3
 have hlv:=fun {i b κ:Nat}=>zbR h4 h5 hl (i:=i) (b:=b) (κ:=κ)
 obtain ⟨e, w', fr, k1, k2, k3⟩ := h w.heap.size w0 I p a' _ b cs h1 h2 h3 h31 h32 ⟨by
     rw[g2]
     simp only[Array.toList_setIfInBounds]
     exact MV.repL_set (MV.repL_set h4.tm 37 (z0h x)) 9 (z1O _),by rw[g1];exact h4.defers,h4.hp.allocO _⟩ h5
  ⟨⟨#[],0,heap_alloc_new w _,rfl⟩,fun i κ hi=>absurd (hlv hi).1 (by omega),.inl h4.hp.below.size,fun i b κ hi=>(hlv hi).2⟩
 exact⟨e,w',fr,k1,.of_steps hst k2,k3⟩
theorem zb8 {R : Goal} {k : List Item} {tm : List MV} {hp : List Blk} {bm : Nat} {ks : List Int} {s : Int} (ht : tm.length = 103) (h9 : tm[9]? = some (zdh bm)) (h12 : tm[12]? = some (.cv (j7 s)))
    (h:OkX P 14 k ⟨(tm.set 47 .unk).set 48 .unk,hp⟩ R (XM bm (zaj s ks))):OkX P 14 (.code xr10::k) ⟨tm,hp⟩ R (XM bm ks):=by
 intro w0 I p act w b cs h1 h2 h3 h31 h32 h4 h5 h6
 obtain⟨hz,hg⟩:=z1S h4.tm ht
 obtain⟨es,clock,m1,m2⟩:=h6.m
 obtain⟨es',clock',hr,hk⟩:=zgH (P:=P) w 94 3 4 bm clock s (.bool true) es ks Go.Proofs.Tryz.underlying94 Go.Proofs.Tryz.underlying3 m1 m2
 obtain⟨a',w1,⟨g1,⟨x,y,g2⟩,g3⟩,hst⟩:=z0r (P:=P) (b:=b) (k:=k) (cs:=cs) (ziB act w _ bm s hz (hg 9 _ (by omega) h9) (hg 12 _ (by omega) h12) hr)
 subst g3
 obtain ⟨e, w', fr, k1, k2, k3⟩ := h w0 I p a' _ b cs h1 h2 h3 h31 h32 ⟨by
     rw[g2]
     simp only[Array.toList_setIfInBounds]
     exact MV.repL_set (MV.repL_set h4.tm 47 (z0h x)) 48 (z0h y),by rw[g1];exact h4.defers,h4.hp.mapSet m1 h6.own h6.pr _⟩ h5
  ⟨⟨es',clock',(MapKept.heap_set (o':= .map es' clock') m1).1,hk⟩,h6.pr,h6.own,h6.ps⟩
 exact⟨e,w',fr,k1,.of_steps hst k2,k3⟩
theorem zbO {R : Goal} {k : List Item} {tm : List MV} {hp : List Blk} {bm : Nat} {ks : List Int} (ht : tm.length = 103) (h9 : tm[9]? = some (zdh bm))
    (h:Ok P 14 k ⟨((tm.set 73 .unk).set 74 .unk).set 75 (.cv (.lit (.bool (decide ((ks.length:Int)<3))))),hp⟩ R):OkX P 14 (.code xr14::k) ⟨tm,hp⟩ R (XM bm ks):=by
 intro w0 I p act w b cs h1 h2 h3 h31 h32 h4 h5 h6
 obtain⟨hz,hg⟩:=z1S h4.tm ht
 obtain⟨es,clock,m1,m2⟩:=h6.m
 have hn:es.size=ks.length:=by have:=congrArg List.length m2;simpa using this
 obtain⟨a',w1,⟨g1,⟨x,y,g2⟩,g3⟩,hst⟩:=z0r (P:=P) (b:=b) (k:=k) (cs:=cs) (zhH act w bm ks.length hz (hg 9 _ (by omega) h9) (fun ty=>by rw[ziJ Go.Proofs.Tryz.underlying94 m1,hn]))
 subst g3
 obtain ⟨e, w', fr, k1, k2, k3⟩ := h w0 I p a' _ b cs h1 h2 h3 h31 h32 ⟨by
     rw[g2]
     simp only[Array.toList_setIfInBounds]
     exact MV.repL_set (MV.repL_set (MV.repL_set h4.tm 73 (z0h x)) 74 (z0h y)) 75 (z1O _),by rw[g1];exact h4.defers,h4.hp⟩ h5
 exact⟨e,w',fr,k1,.of_steps hst k2,k3⟩
theorem zlu(i o:Int)(h1:decide (o<(-10000:Int))=true):PCall P 182 [.agg [j7 i,j7 o]] (.lit (.bool true)):=
 j5 (.b 5 h1 .nil) (by kernel_rfl)
theorem zlC(i o:Int)(h1:decide (o<(-10000:Int))=false):PCall P 182 [.agg [j7 i,j7 o]] (.lit (.bool (decide (o>10000)))):=
 j5 (.b 5 h1 .nil) (by kernel_rfl)
theorem zmD(n:Nat)(es:List CV){R:CV→Prop}(hR:Ok P 230 (loopHead P 230 0) ⟨J3 19 [(0,.cv (.lst n es)),(1,.cv (CV.lit (Value.func (Fn.func 182) {toList:=[]} {toList:=[]}))),(7,.cv (.lit (.int .i64 (n:Int)))),(8,.cv (.lit (.int .i64 0)))],[]⟩ (.of R)):W5 P 230 [.lst n es,CV.lit (Value.func (Fn.func 182) #[] #[])] R:=
 Y2 (keep:=[0,1,7,8]) (σ:=[]) (.o 4 .stop .nil) (by kernel_rfl) rfl hR .nil
def z4j(l:List (Int×Int)):Bool:=decide (l.length≤48)&&l.all fun x=>decide (-10000≤x.2∧x.2≤10000)
def rdP(x:Int×Int):Bool:=decide (-10000≤x.2∧x.2≤10000)
theorem zks(i o:Int):PCall P 182 [.agg [j7 i,j7 o]] (.lit (.bool (!rdP (i,o)))):=by
 by_cases h1:o< -10000
 · rw[show rdP (i,o)=false from decide_eq_false (by simp only;omega)]
   exact zlu i o (decide_eq_true h1)
 · refine(zlC i o (decide_eq_false h1)).eq ?_
   congr 2
   by_cases h2:o>10000
   · rw[decide_eq_true h2,show rdP (i,o)=false from decide_eq_false (by simp only;omega)];rfl
   · rw[decide_eq_false h2,show rdP (i,o)=true from decide_eq_true (by simp only;omega)];rfl
def ixF:List (Int×Int)→Nat→Int
 | [],_=> -1
 |x::l,k=>if rdP x then ixF l (k+1)else k
theorem zcz: ∀(l:List (Int×Int)) (k:Nat),decide (ixF l k≥0)=!l.all rdP
 | [],_=>rfl
 |x::l,k=>by
  unfold ixF
  rw[List.all_cons]
  cases h:rdP x
  · rw[if_neg (by decide)]
    exact decide_eq_true (by omega)
  · rw[if_pos rfl,Bool.true_and];exact zcz l (k+1)
theorem ziT(n:Nat)(es:List CV)(k mi mo:Int)(h1:decide (k<(n:Int))=true)(h2:(!rdP (mi,mo))=true)(o1:(0:Int)≤k∧k<(n:Int))(o2:List.take 2 (List.drop (k.toNat*2) es)=[.lit (.int .i64 mi),.lit (.int .i64 mo)]){R:Goal}(hR:R.c (.lit (.int .i64 k))):Ok P 230 (loopHead P 230 0) ⟨J3 19 [(0,.cv (.lst n es)),(1,.cv (CV.lit (Value.func (Fn.func 182) #[] #[]))),(7,.cv (j7 (n:Int))),(8,.cv (j7 k))],[]⟩ R:=
 okT (.b 2 h1 (.c o1 (.c o2 (.c (eqn 2) (.c ((zks mi mo).eqB h2) (.o 9 (.r (.agg [.lit (.int .i64 mi),.lit (.int .i64 mo)])) (.o 10 (.r (.lit (.bool true))) .nil))))))) (by kernel_rfl) hR
theorem zj5(n:Nat)(es:List CV)(k mi mo:Int)(h1:decide (k<(n:Int))=true)(h2:(!rdP (mi,mo))=false)(o1:(0:Int)≤k∧k<(n:Int))(o2:List.take 2 (List.drop (k.toNat*2) es)=[.lit (.int .i64 mi),.lit (.int .i64 mo)]){R:Goal}(hn:j9 R.n []=true)(hR:Ok P 230 (loopHead P 230 0) ⟨J3 19 [(0,.cv (.lst n es)),(1,.cv (CV.lit (Value.func (Fn.func 182) {toList:=[]} {toList:=[]}))),(7,.cv (.lit (.int .i64 (n:Int)))),(8,.cv (.lit (.int .i64 (i64.wrap (k+1)))))],[]⟩ R):Ok P 230 (loopHead P 230 0) ⟨J3 19 [(0,.cv (.lst n es)),(1,.cv (CV.lit (Value.func (Fn.func 182) #[] #[]))),(7,.cv (j7 (n:Int))),(8,.cv (j7 k))],[]⟩ R:=
 z16 (keep:=[0,1,7,8]) (σ:=[]) (.b 2 h1 (.c o1 (.c o2 (.c (eqn 2) (.c ((zks mi mo).eqB h2) (.o 9 (.r (.agg [.lit (.int .i64 mi),.lit (.int .i64 mo)])) (.o 10 (.r (.lit (.bool false))) (.o 14 .stop .nil)))))))) (by kernel_rfl) rfl hn hR .nil
theorem zht(n:Nat)(es:List CV)(k _mi _mo:Int)(h1:decide (k<(n:Int))=false){R:Goal}(hR:R.c (.lit (.int .i64 (-1:Int)))):Ok P 230 (loopHead P 230 0) ⟨J3 19 [(0,.cv (.lst n es)),(1,.cv (CV.lit (Value.func (Fn.func 182) #[] #[]))),(7,.cv (j7 (n:Int))),(8,.cv (j7 k))],[]⟩ R:=
 okT (.b 2 h1 .nil) (by kernel_rfl) hR
theorem znn(l:List (Int×Int))(hl:l.length<2^30):PCall P 230 [rdV l,.lit (.func (.func 182) #[] #[])] (j7 (ixF l 0)):=by
 refine zmD l.length (flat rdL l) (R := (· = _)) ?_
 have key:=z86 (fun k=> ∀R:Goal,j9 R.n []=true→R.c (j7 (ixF (l.drop k) k))→Ok P 230 (loopHead P 230 0) ⟨J3 19 [(0,.cv (.lst l.length (flat rdL l))),(1,.cv (.lit (.func (.func 182) #[] #[]))),(7,.cv (j7 l.length)),(8,.cv (j7 k))],[]⟩ R) l.length ?_ ?_
 · exact key _ rfl rfl
 · intro k hk ih R hn hR
   have b:(0:Int)≤(k:Int)∧(k:Int)<(l.length:Int):=by omega
   have i1:=decide_eq_true b.2
   rw[List.drop_eq_getElem_cons hk]at hR
   unfold ixF at hR
   cases h:rdP l[k]
   · rw[h,if_neg (by decide)]at hR
     exact ziT l.length (flat rdL l) k l[k].1 l[k].2 i1 (by rw[show(l[k].1,l[k].2)=l[k]from rfl,h];rfl) b (z2p z3Y hk) hR
   · rw[h,if_pos rfl]at hR
     refine zj5 l.length (flat rdL l) k l[k].1 l[k].2 i1 (by rw[show(l[k].1,l[k].2)=l[k]from rfl,h];rfl) b (z2p z3Y hk) hn ?_
     rw[w64 (by omega)]
     exact ih R hn hR
 · intro R hn hR
   rw[List.drop_length]at hR
   exact zht l.length (flat rdL l) l.length 0 0 (decide_eq_false (by omega)) hR
theorem zmP(l:List (Int×Int))(a:l.length<2^30):PCall P 181 [rdV l,CV.lit (Value.func (Fn.func 182) #[] #[])] (.lit (.bool (decide (ixF l 0≥0)))):=
 j5 (.r 3 (znn l a) .nil) (by kernel_rfl)
theorem zkE(i:Int)(a:(-9223372036854775808:Int)≤1∧(1:Int)≤9223372036854775807):PCall P 143 [j7 i] (z5d (oN (1:Int)) (kN (z6y i)) (kN (zae i))):=
 j5 (.r 1 (zdc (1:Int) a) (.r 3 (znO i) (.r 5 (znL i) (.c (lq 30 30) .nil)))) (by kernel_rfl)
end Go.Fw
