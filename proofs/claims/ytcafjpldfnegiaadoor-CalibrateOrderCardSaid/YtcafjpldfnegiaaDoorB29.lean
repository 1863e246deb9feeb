/- A part of the proof that the law returns true for every input: an executor for the model's code, and what functions of the program compute. -/
import Derived.Test.YtcafjpldfnegiaaDoorB11
import Derived.Test.YtcafjpldfnegiaaDoorB15
import Derived.Test.YtcafjpldfnegiaaDoorB26
import Derived.Test.YtcafjpldfnegiaaDoorB27
import Derived.Test.YtcafjpldfnegiaaDoorB28
import Derived.KernelRfl
open Go IntKind
open Go Go.ChangeMaps
namespace Go.Fw
set_option maxRecDepth 100000
def zgL:List Nat:=[0,1,2,3,4,10,11,21]
theorem ze7 {R : Goal} {k : List Item} {a n2 n3 n6 d key v : Int} {acc root : K} {r : Nat} {es : Array MapEntry} {seen : Array Nat} (hR : R.n = 0)
    (hv:v.natAbs<256) (hroot:PCall P 72 [J1 key] (Z1 root)) (hsr:root.sz≤1) (hs:acc.sz<10000)
    (h:OkX P 61 k ⟨tmN a n2 n3 n6 d .unk .unk (z6K r) .unk,hpN (acc+K.ofInt v*root)⟩ R (XI r es 3 seen)):
    OkX P 61 (.code zbF::k) ⟨tmN a n2 n3 n6 d (.cv (.lit (.int .i64 key))) (.cv (.lit (.int .i64 v))) (z6K r) (.cv (.lit (.bool true))),hpN acc⟩ R (XI r es 3 seen):=by
 have hsv:(K.ofInt v).sz≤1:=K.sz_int v (Nat.le_refl _) (by omega)
 have hsm:=K.sz_mul (K.ofInt v) root
 have c1:PCall P 14 [J1 v] (Z1 (K.ofInt v)):=X9 v (by omega)
 have c2:PCall P 23 [Z1 (K.ofInt v),Z1 root] (Z1 (K.ofInt v*root)):=z4K _ _ (by omega)
 have c3:PCall P 21 [Z1 acc,Z1 (K.ofInt v*root)] (Z1 (acc+K.ofInt v*root)):=z4w _ _ (by omega)
 have z1:CvL ZN:=CvL.map_cv (List.replicate 5 [CV.lit (.bool false),CV.lit (.string ⟨#[]⟩)]).flatten
 have z2:CvL (MV.cv (Z1 (acc+K.ofInt v*root))).cells:=CvL.map_cv _
 exact OkX.regS (ors:=[(2,.r (Z1 (K.ofInt v))),(4,.r (Z1 root)),(5,.r (Z1 (K.ofInt v*root))),(6,.r (Z1 (acc+K.ofInt v*root)))]) zgL [0,1]
  (by kernel_rfl) rfl (.cons c1 (.cons hroot (.cons c2 (.cons c3 (.cons (show 10≤10 by decide) (.cons z1 (.cons z2 .nil))))))) rfl rfl hR h
def z0a(n2 n3 n6:Int)(seen:Array Nat):K:=
 (if seen.contains 0 then K.ofInt 0 else K.ofInt n2*K.r2)+(if seen.contains 1 then K.ofInt 0 else K.ofInt n3*K.r3)+(if seen.contains 2 then K.ofInt 0 else K.ofInt n6*K.r6)
theorem z9x{n2 n3 n6:Int}{seen:Array Nat}(h:(leftOf (z0A n2 n3 n6) seen).size=0)(acc:K):acc+z0a n2 n3 n6 seen=acc:=by
 have:=all_seen _ _ h
 have h0:seen.contains 0=true:=this ⟨.int .i64 2,.int .i64 n2,0⟩ (by simp[z0A])
 have h1:seen.contains 1=true:=this ⟨.int .i64 3,.int .i64 n3,1⟩ (by simp[z0A])
 have h2:seen.contains 2=true:=this ⟨.int .i64 6,.int .i64 n6,2⟩ (by simp[z0A])
 unfold z0a
 rw[h0,h1,h2]
 exact(show ∀ρ:Nat→K,ρ 0+(CR.ofInt 0+CR.ofInt 0+CR.ofInt 0)=ρ 0 from fun ρ=>CR.ring ρ rfl) (CR.vr [acc])
theorem z3x {n2 n3 n6 : Int} {seen : Array Nat} {acc : K} :
    (seen.contains 0=false→acc+K.ofInt n2*K.r2+z0a n2 n3 n6 (seen.push 0)=acc+z0a n2 n3 n6 seen)∧
    (seen.contains 1=false→acc+K.ofInt n3*K.r3+z0a n2 n3 n6 (seen.push 1)=acc+z0a n2 n3 n6 seen)∧
    (seen.contains 2=false→acc+K.ofInt n6*K.r6+z0a n2 n3 n6 (seen.push 2)=acc+z0a n2 n3 n6 seen):=by
 unfold z0a
 simp only[contains_push]
 refine⟨fun h=>?_,fun h=>?_,fun h=>?_⟩
 · rw[h,show(1==0:Bool)=false from rfl,show(2==0:Bool)=false from rfl,show(0==0:Bool)=true from rfl,Bool.or_false,Bool.or_false,Bool.or_true]
   exact(show ∀ρ:Nat→K,ρ 0+ρ 1+(CR.ofInt 0+ρ 2+ρ 3)=ρ 0+(ρ 1+ρ 2+ρ 3)from fun ρ=>CR.ring ρ rfl) (CR.vr [acc,_,_,_])
 · rw[h,show(0==1:Bool)=false from rfl,show(2==1:Bool)=false from rfl,show(1==1:Bool)=true from rfl,Bool.or_false,Bool.or_false,Bool.or_true]
   exact(show ∀ρ:Nat→K,ρ 0+ρ 2+(ρ 1+CR.ofInt 0+ρ 3)=ρ 0+(ρ 1+ρ 2+ρ 3)from fun ρ=>CR.ring ρ rfl) (CR.vr [acc,_,_,_])
 · rw[h,show(0==2:Bool)=false from rfl,show(1==2:Bool)=false from rfl,show(2==2:Bool)=true from rfl,Bool.or_false,Bool.or_false,Bool.or_true]
   exact(show ∀ρ:Nat→K,ρ 0+ρ 3+(ρ 1+ρ 2+CR.ofInt 0)=ρ 0+(ρ 1+ρ 2+ρ 3)from fun ρ=>CR.ring ρ rfl) (CR.vr [acc,_,_,_])
theorem z7t {R : Goal} {k : List Item} {a n2 n3 n6 d : Int} {tot : K} (hR : R.n = 0) (h2 : n2.natAbs < 256) (h3 : n3.natAbs < 256) (h6 : n6.natAbs < 256)
    (hk:Ok P 61 k ⟨tmN a n2 n3 n6 d .unk .unk .unk .unk,hpN tot⟩ R): ∀(n:Nat) (seen:Array Nat) (acc:K) (r:Nat),(leftOf (z0A n2 n3 n6) seen).size=n→acc+z0a n2 n3 n6 seen=tot→acc.sz+10*n<1000→
     OkX P 61 (.code z1f:: .inLoop z1f:: .inBlock 0::k) ⟨tmN a n2 n3 n6 d .unk .unk (z6K r) .unk,hpN acc⟩ R (XI r (z0A n2 n3 n6) 3 seen):=by
 intro n
 induction n using Nat.strongRecOn with
 |ind n ih=>
 intro seen acc r hn ht hs
 show OkX P 61 (.code (.seq reg3 (.seq (.cond (.tmp 23) .skip (.exit 0)) (.block 1 (.seq reg4 zbF))))::_) _ _ _
 refine OkX.step ?_ (fun b a cs w=>step_seq)
 intro w0 I p act w b cs q1 q2 q3 q31 q32 q4 q5 q6
 obtain⟨bm,m1,m2,m3⟩:=q6.m
 have hst: ∀x∈(z0A n2 n3 n6).toList,x.born<3:=by simp[z0A]
 have hnd:((z0A n2 n3 n6).toList.map (·.born)).Nodup:=by simp[z0A]
 rcases run_next_at (P:=P) w 0 r bm 3 3 seen (z0A n2 n3 n6) 3 m2 m1 hst (Nat.le_refl _)with⟨h0,hrun⟩|⟨e,he,w1,hal,hrun⟩
 · obtain⟨a',hrel,hst⟩:=z8q (k:= .code (.seq (.cond (.tmp 23) .skip (.exit 0)) (.block 1 (.seq reg4 zbF))):: .inLoop z1f:: .inBlock 0::k) w0 I p act w q4 (fun ty=>hrun) b cs
   rw[←ht,z9x h0]at hk
   have z1:CvL ZN:=CvL.map_cv (List.replicate 5 [CV.lit (.bool false),CV.lit (.string ⟨#[]⟩)]).flatten
   have z2:CvL (MV.cv (Z1 acc)).cells:=CvL.map_cv _
   have hfin:Ok P 61 (.code (.seq (.cond (.tmp 23) .skip (.exit 0)) (.block 1 (.seq reg4 zbF))):: .inLoop z1f:: .inBlock 0::k) ⟨tmN a n2 n3 n6 d .unk .unk (z6K r) (.cv (.lit (.bool false))),hpN acc⟩ R:=by
    refine Ok.step ?_ (fun b a cs w=>step_seq)
    refine Ok.cond (t:=false) (d:=false) rfl rfl ?_
    refine Ok.step (todo':=k) ?_ (fun b a cs w=>step_exit (by rfl))
    exact Ok.sel [0,1,2,3,4,10,11] [0,1] rfl (by rw[hR];rfl) (show AllP [CvL ZN,CvL (MV.cv (Z1 acc)).cells]from⟨z1,z2⟩) hk
   obtain⟨e,w',fr,k1,k2,k3⟩:=hfin w0 I p a' w b cs q1 q2 q3 q31 q32 hrel q5
   exact⟨e,w',fr,k1,.of_steps hst k2,k3⟩
 · obtain ⟨a', w', hrel, hX, hst⟩ := z8G (_R := R) (k := .code (.seq (.cond (.tmp 23) .skip (.exit 0)) (.block 1 (.seq reg4 zbF))) :: .inLoop z1f :: .inBlock 0 :: k) w0 I p act w w1 q4 q6 hal (fun ty bm' g1 g2 => by
     rw[m2]at g2;cases g2;exact hrun) b cs
   have hem:=(mem_left he).1
   have hsh:=left_shrinks (z0A n2 n3 n6) seen e he
   have hns:=(mem_left he).2
   have step5 : ∀ {key v : Int} {root : K}, e.key = .int .i64 key → e.val = .int .i64 v → v.natAbs < 256 → PCall P 72 [J1 key] (Z1 root) → root.sz ≤ 1 → acc + K.ofInt v * root + z0a n2 n3 n6 (seen.push e.born) = tot →
       OkX P 61 (.code (.seq (.cond (.tmp 23) .skip (.exit 0)) (.block 1 (.seq reg4 zbF))):: .inLoop z1f:: .inBlock 0::k) ⟨tmN a n2 n3 n6 d .unk .unk (z6K r) (.cv (.lit (.bool true))),hpN acc⟩ R (XI r (z0A n2 n3 n6) 3 (seen.push e.born)):=by
    intro key v root hk1 hv1 hv2 hr1 hr2 hr3
    refine OkX.step ?_ (fun b a cs w=>step_seq)
    refine OkX.cond (t:=true) (d:=true) rfl rfl ?_
    refine OkX.step ?_ (fun b a cs w=>step_skip)
    refine OkX.step ?_ (fun b a cs w=>step_block)
    refine OkX.step ?_ (fun b a cs w=>step_seq)
    refine zce hem hnd ?_
    rw[hk1,hv1]
    refine ze7 hR hv2 hr1 hr2 (by omega) ?_
    refine OkX.step ?_ (fun b a cs w=>step_inBlock)
    refine OkX.step ?_ (fun b a cs w=>step_inLoop)
    have hsv:(K.ofInt v).sz≤1:=K.sz_int v (Nat.le_refl _) (by omega)
    have hsm:=K.sz_mul (K.ofInt v) root
    have hsa:=K.sz_add acc (K.ofInt v*root)
    exact ih _ (hn ▸ hsh) (seen.push e.born) _ r rfl hr3 (by omega)
   have hall:OkX P 61 (.code (.seq (.cond (.tmp 23) .skip (.exit 0)) (.block 1 (.seq reg4 zbF))):: .inLoop z1f:: .inBlock 0::k) ⟨tmN a n2 n3 n6 d .unk .unk (z6K r) (.cv (.lit (.bool true))),hpN acc⟩ R (XI r (z0A n2 n3 n6) 3 (seen.push e.born)):=by
    have hcase:e=⟨.int .i64 2,.int .i64 n2,0⟩∨e=⟨.int .i64 3,.int .i64 n3,1⟩∨e=⟨.int .i64 6,.int .i64 n6,2⟩:=by simpa[z0A]using hem
    rcases hcase with rfl|rfl|rfl
    · exact step5 rfl rfl h2 zcP (by decide) ((z3x.1 hns).trans ht)
    · exact step5 rfl rfl h3 zdt (by decide) ((z3x.2.1 hns).trans ht)
    · exact step5 rfl rfl h6 zdY (by decide) ((z3x.2.2 hns).trans ht)
   obtain⟨e,w',fr,k1,k2,k3⟩:=hall w0 I p a' w' b cs q1 q2 q3 q31 q32 hrel q5 hX
   exact⟨e,w',fr,k1,.of_steps hst k2,k3⟩
def zbz(a n2 n3 n6:Int):K:=K.ofInt a+(K.ofInt n2*K.r2+K.ofInt n3*K.r3+K.ofInt n6*K.r6)
theorem V4 (a n2 n3 n6 d : Int) (ha : a.natAbs < 256) (h2 : n2.natAbs < 256) (h3 : n3.natAbs < 256) (h6 : n6.natAbs < 256) (hd : d.natAbs < 256) (hd0 : K.ofInt d ≠ 0) :
    PCall P 61 [J1 a,J1 n2,J1 n3,J1 n6,J1 d] (Z1 (K.div (zbz a n2 n3 n6) (K.ofInt d))):=by
 have hsz: ∀v:Int,v.natAbs<256→(K.ofInt v).sz≤1:=fun v hv=>K.sz_int v (Nat.le_refl _) (by omega)
 have z1:CvL ZN:=CvL.map_cv (List.replicate 5 [CV.lit (.bool false),CV.lit (.string ⟨#[]⟩)]).flatten
 have z2:CvL (MV.cv (Z1 (K.ofInt a))).cells:=CvL.map_cv _
 have c1:PCall P 14 [J1 a] (Z1 (K.ofInt a)):=X9 a (by omega)
 have c2:PCall P 14 [J1 d] (Z1 (K.ofInt d)):=X9 d (by omega)
 have sm:=fun(v:Int) (w:K) (hv:v.natAbs<256) (hw:w.sz≤1)=>Nat.le_trans (K.sz_mul (K.ofInt v) w) (Nat.add_le_add_right (Nat.add_le_add (hsz v hv) hw) 1)
 have t2:=sm n2 K.r2 h2 (show K.r2.sz≤1 by decide)
 have t3:=sm n3 K.r3 h3 (show K.r3.sz≤1 by decide)
 have t6:=sm n6 K.r6 h6 (show K.r6.sz≤1 by decide)
 have u1:=K.sz_add (K.ofInt n2*K.r2) (K.ofInt n3*K.r3)
 have u2:=K.sz_add (K.ofInt n2*K.r2+K.ofInt n3*K.r3) (K.ofInt n6*K.r6)
 have u3:=K.sz_add (K.ofInt a) (K.ofInt n2*K.r2+K.ofInt n3*K.r3+K.ofInt n6*K.r6)
 have ua:=hsz a ha
 have ud:=hsz d hd
 have hs:(zbz a n2 n3 n6).sz≤100:=by unfold zbz;omega
 have c3:PCall P 17 [Z1 (zbz a n2 n3 n6),Z1 (K.ofInt d)] (.tup [Z1 (K.div (zbz a n2 n3 n6) (K.ofInt d)),J1 0]):=zbH _ _ hd0 (by omega)
 refine z1e (todo:=[.code U4]) (s:=⟨([J1 a,J1 n2,J1 n3,J1 n6,J1 d].map .cv)++List.replicate 37 undefM,[]⟩) (rs:=_) rfl ?_
 rw[z7z]
 refine Ok.step ?_ (fun b a cs w=>step_seq)
 refine Ok.regS (s':=⟨(([J1 a,J1 n2,J1 n3,J1 n6,J1 d].map MV.cv)++List.replicate 5 .unk++[.ptr 0 0]++List.replicate 31 .unk),[some ZN]⟩) (ors:=[]) [0,1,2,3,4,10] [0] (by kernel_rfl) rfl (.cons z1 .nil) rfl ?_
 refine Ok.step ?_ (fun b a cs w=>step_seq)
 refine Ok.regS (s':=⟨tmN a n2 n3 n6 d .unk .unk .unk .unk,hpN (K.ofInt a)⟩) (ors:=[(1,.r (Z1 (K.ofInt a)))]) [0,1,2,3,4,10,11] [0,2] (by kernel_rfl) rfl (.cons c1 (.cons (show 10≤10 by decide) (.cons z1 (.cons z2 .nil)))) rfl ?_
 refine Ok.step ?_ (fun b a cs w=>step_seq)
 refine Ok.step ?_ (fun b a cs w=>step_seq)
 refine zdW rfl (fun r=>?_)
 refine OkX.step ?_ (fun b a cs w=>step_block)
 refine OkX.step ?_ (fun b a cs w=>step_loop)
 refine z7t (tot:=zbz a n2 n3 n6) rfl h2 h3 h6 ?_ 3 #[] (K.ofInt a) r (by simp[leftOf,z0A]) (by simp[z0a,zbz]) (by omega)
 exact okR (ors:=[(2,.r (Z1 (K.ofInt d))),(3,.r (.tup [Z1 (K.div (zbz a n2 n3 n6) (K.ofInt d)),J1 0]))]) (by kernel_rfl) (.cons c2 (.cons c3 (.cons (show 10≤10 by decide) (.cons (show 10≤10 by decide) .nil)))) rfl
def z2M(i:Nat):K:=
 match i with
 |0=>⟨1,0,0,0,1,by decide,by decide⟩
 |1=>⟨0,1,0,1,4,by decide,by decide⟩
 |2=>⟨0,0,1,0,2,by decide,by decide⟩
 |3=>⟨0,1,0,0,2,by decide,by decide⟩
 |4=>⟨1,0,0,0,2,by decide,by decide⟩
 |5=>⟨0,-1,0,1,4,by decide,by decide⟩
 |_=>⟨0,0,0,0,1,by decide,by decide⟩
theorem kq(x y:K)(h0:x.c0=y.c0)(h1:x.c1=y.c1)(h2:x.c2=y.c2)(h3:x.c3=y.c3)(h4:x.d=y.d):Z1 x=Z1 y:=zbJ h0 h1 h2 h3 h4
theorem z6v {i a b c e d : Int} {v : CV} (h : PCall P 61 [J1 a, J1 b, J1 c, J1 e, J1 d] v) (hi : 0 ≤ i ∧ i < 7)
    (hrun:zar P 43 [J1 i] [(26,.r v)] false 100000= .ret v [35≤35,0≤i∧i<7,5≤5,(0:Int)≤0∧(0:Int)<5,(0:Int)≤1∧(1:Int)<5,(0:Int)≤2∧(2:Int)<5,(0:Int)≤3∧(3:Int)<5,(0:Int)≤4∧(4:Int)<5,PCall P 61 [J1 a,J1 b,J1 c,J1 e,J1 d] v,10≤10]):PCall P 43 [J1 i] v:=
 z4t hrun (.cons (by decide) (.cons hi (.cons (by decide) (.cons (by decide) (.cons (by decide) (.cons (by decide) (.cons (by decide) (.cons (by decide) (.cons h (.cons (by decide) .nil))))))))))
theorem z9g:PCall P 43 [J1 0] (Z1 (z2M 0)):=z6v ((V4 (1) (0) (0) (0) (1) (by decide) (by decide) (by decide) (by decide) (by decide) (by decide)).eq (kq _ (z2M 0) (by decide) (by decide) (by decide) (by decide) (by decide))) (by decide) (by kernel_rfl)
theorem z8U:PCall P 43 [J1 1] (Z1 (z2M 1)):=z6v ((V4 (0) (1) (0) (1) (4) (by decide) (by decide) (by decide) (by decide) (by decide) (by decide)).eq (kq _ (z2M 1) (by decide) (by decide) (by decide) (by decide) (by decide))) (by decide) (by kernel_rfl)
theorem z8N:PCall P 43 [J1 2] (Z1 (z2M 2)):=z6v ((V4 (0) (0) (1) (0) (2) (by decide) (by decide) (by decide) (by decide) (by decide) (by decide)).eq (kq _ (z2M 2) (by decide) (by decide) (by decide) (by decide) (by decide))) (by decide) (by kernel_rfl)
theorem z9l:PCall P 43 [J1 3] (Z1 (z2M 3)):=z6v ((V4 (0) (1) (0) (0) (2) (by decide) (by decide) (by decide) (by decide) (by decide) (by decide)).eq (kq _ (z2M 3) (by decide) (by decide) (by decide) (by decide) (by decide))) (by decide) (by kernel_rfl)
theorem z8b:PCall P 43 [J1 4] (Z1 (z2M 4)):=z6v ((V4 (1) (0) (0) (0) (2) (by decide) (by decide) (by decide) (by decide) (by decide) (by decide)).eq (kq _ (z2M 4) (by decide) (by decide) (by decide) (by decide) (by decide))) (by decide) (by kernel_rfl)
theorem z8P:PCall P 43 [J1 5] (Z1 (z2M 5)):=z6v ((V4 (0) (-1) (0) (1) (4) (by decide) (by decide) (by decide) (by decide) (by decide) (by decide)).eq (kq _ (z2M 5) (by decide) (by decide) (by decide) (by decide) (by decide))) (by decide) (by kernel_rfl)
theorem z9y:PCall P 43 [J1 6] (Z1 (z2M 6)):=z6v ((V4 (0) (0) (0) (0) (1) (by decide) (by decide) (by decide) (by decide) (by decide) (by decide)).eq (kq _ (z2M 6) (by decide) (by decide) (by decide) (by decide) (by decide))) (by decide) (by kernel_rfl)
theorem z0x(i:Int)(h:0≤i∧i<7):PCall P 43 [J1 i] (Z1 (z2M i.toNat)):=by
 have hc:i=0∨i=1∨i=2∨i=3∨i=4∨i=5∨i=6:=by omega
 rcases hc with rfl|rfl|rfl|rfl|rfl|rfl|rfl
 · exact z9g
 · exact z8U
 · exact z8N
 · exact z9l
 · exact z8b
 · exact z8P
 · exact z9y
theorem zcE(i:Int)(h1:decide (i.tmod 24<0)=true):PCall P 41 [J1 i] (.lit (.int .i64 (i64.wrap (i.tmod 24+24)))):=
 j3 (.c (nz 24) (.b 6 h1 .nil)) (by kernel_rfl)
theorem zeb(i:Int)(h1:decide (i.tmod 24<0)=false):PCall P 41 [J1 i] (.lit (.int .i64 (i.tmod 24))):=
 j3 (.c (nz 24) (.b 6 h1 .nil)) (by kernel_rfl)
theorem zfx(i:Int):(decide (i.tmod 24<0)=true→i64.wrap (i.tmod 24+24)=i%24)∧(decide (i.tmod 24<0)=false→i.tmod 24=i%24)∧(i64.wrap (i.tmod 24+24)).tmod 24=i%24:=by
 have e:=Int.mul_tdiv_add_tmod i 24
 have b1:=Int.tmod_lt_of_pos i (show(0:Int)<24 by decide)
 have b2:=Int.lt_tmod_of_pos i (show(0:Int)<24 by decide)
 generalize i.tmod 24=t at e b1 b2 ⊢
 generalize i.tdiv 24=q at e
 rw[w64 (by omega),Int.tmod_eq_emod_of_nonneg (by omega)]
 simp only[decide_eq_true_eq,decide_eq_false_iff_not]
 omega
theorem z16(i:Int):PCall P 41 [J1 i] (J1 (i%24)):=by
 cases h:decide (i.tmod 24<0)with
 |true=>exact(zcE i h).eq (congrArg (fun x=>J1 x) ((zfx i).1 h))
 |false=>exact(zeb i h).eq (congrArg (fun x=>J1 x) ((zfx i).2.1 h))
theorem zcj(i:Int)(h1:decide (i%24>12)=true)(h2:decide (i64.wrap ((24:Int)-i%24)>6)=true)(a:(0:Int)≤i64.wrap ((12:Int)-i64.wrap ((24:Int)-i%24))∧i64.wrap ((12:Int)-i64.wrap ((24:Int)-i%24))<7)(d:Smk (z2M (i64.wrap ((12:Int)-i64.wrap ((24:Int)-i%24))).toNat)):PCall P 24 [J1 i] (Z1 (-z2M (i64.wrap ((12:Int)-i64.wrap ((24:Int)-i%24))).toNat)):=
 j3 (.r 2 (z16 i) (.b 6 h1 (.b 12 h2 (.r 15 (z0x (i64.wrap ((12:Int)-i64.wrap ((24:Int)-i%24))) a) (.r 16 (z8T (z2M (i64.wrap ((12:Int)-i64.wrap ((24:Int)-i%24))).toNat) d) (.c (lq 10 10) .nil)))))) (by kernel_rfl)
theorem zdq(i:Int)(h1:decide (i%24>12)=true)(h2:decide (i64.wrap ((24:Int)-i%24)>6)=false)(a:(0:Int)≤i64.wrap ((24:Int)-i%24)∧i64.wrap ((24:Int)-i%24)<7):PCall P 24 [J1 i] (Z1 (z2M (i64.wrap ((24:Int)-i%24)).toNat)):=
 j3 (.r 2 (z16 i) (.b 6 h1 (.b 12 h2 (.r 14 (z0x (i64.wrap ((24:Int)-i%24)) a) (.c (lq 10 10) .nil))))) (by kernel_rfl)
theorem zch(i:Int)(h1:decide (i%24>12)=false)(h2:decide (i%24>6)=true)(a:(0:Int)≤i64.wrap ((12:Int)-i%24)∧i64.wrap ((12:Int)-i%24)<7)(d:Smk (z2M (i64.wrap ((12:Int)-i%24)).toNat)):PCall P 24 [J1 i] (Z1 (-z2M (i64.wrap ((12:Int)-i%24)).toNat)):=
 j3 (.r 2 (z16 i) (.b 6 h1 (.b 9 h2 (.r 12 (z0x (i64.wrap ((12:Int)-i%24)) a) (.r 13 (z8T (z2M (i64.wrap ((12:Int)-i%24)).toNat) d) (.c (lq 10 10) .nil)))))) (by kernel_rfl)
theorem zct(i:Int)(h1:decide (i%24>12)=false)(h2:decide (i%24>6)=false)(a:(0:Int)≤i%24∧i%24<7):PCall P 24 [J1 i] (Z1 (z2M (i%24).toNat)):=
 j3 (.r 2 (z16 i) (.b 6 h1 (.b 9 h2 (.r 11 (z0x (i%24) a) (.c (lq 10 10) .nil))))) (by kernel_rfl)
def z59(i:Int):K:=
 let j:=i%24
 let k:=if j>12 then 24-j else j
 if k>6 then-z2M (12-k).toNat else z2M k.toNat
def z7n(i:Int):K:=z59 (i%24-6)
theorem z9v(n:Nat):Smk (z2M n):=by
 match n with
 |0=>decide
 |1=>decide
 |2=>decide
 |3=>decide
 |4=>decide
 |5=>decide
 |_+6=>exact(by decide:Smk (z2M 6))
theorem z5v(i:Int):PCall P 24 [J1 i] (Z1 (z59 i)):=by
 have e1:i64.wrap (24-i%24)=24-i%24:=w64 (by omega)
 have e2:i64.wrap (12-i%24)=12-i%24:=w64 (by omega)
 have e3:i64.wrap (12-(24-i%24))=12-(24-i%24):=w64 (by omega)
 cases h1:decide (i%24>12)with
 |true=>
  have h1':=of_decide_eq_true h1
  cases h2:decide (24-i%24>6)with
  |true=>
   have h2':=of_decide_eq_true h2
   refine(zcj i h1 (by rw[e1];exact h2) (by rw[e1,e3];omega) (z9v _)).eq ?_
   rw[e1,e3];simp only[z59,if_pos h1',if_pos h2']
  |false=>
   have h2':=of_decide_eq_false h2
   refine(zdq i h1 (by rw[e1];exact h2) (by rw[e1];omega)).eq ?_
   rw[e1];simp only[z59,if_pos h1',if_neg h2']
 |false=>
  have h1':=of_decide_eq_false h1
  cases h2:decide (i%24>6)with
  |true=>
   have h2':=of_decide_eq_true h2
   refine(zch i h1 h2 (by rw[e2];omega) (z9v _)).eq ?_
   rw[e2];simp only[z59,if_neg h1',if_pos h2']
  |false=>
   have h2':=of_decide_eq_false h2
   refine(zct i h1 h2 (by omega)).eq ?_
   simp only[z59,if_neg h1',if_neg h2']
theorem zd6(i:Int):PCall P 25 [J1 i] (Z1 (z59 (i64.wrap (i%24-6)))):=
 j3 (.r 2 (z16 i) (.r 4 (z5v (i64.wrap (i%24-6))) (.c (lq 10 10) .nil))) (by kernel_rfl)
theorem z8n(i:Int):PCall P 25 [J1 i] (Z1 (z7n i)):=(zd6 i).eq (by rw[w64 (by omega)];rfl)
theorem Sm3.of{x:K}(h:x.c0.natAbs<256∧x.c1.natAbs<256∧x.c2.natAbs<256∧x.c3.natAbs<256∧x.d.natAbs<256):Sm3 x:=by
 intro i hi
 have k:(256:Nat)≤256^3:=by decide
 have:i=0∨i=1∨i=2∨i=3∨i=4:=by omega
 rcases this with rfl|rfl|rfl|rfl|rfl
 · exact Nat.lt_of_lt_of_le h.1 k
 · exact Nat.lt_of_lt_of_le h.2.1 k
 · exact Nat.lt_of_lt_of_le h.2.2.1 k
 · exact Nat.lt_of_lt_of_le h.2.2.2.1 k
 · exact Nat.lt_of_lt_of_le h.2.2.2.2 k
theorem CvL.own(l:List CV):CvL (own l):=CvL.map_cv l
def th(t:Nat→Bool)(p:Nat):MV:= .cv (.lit (.bool (t p)))
def zeg(x:K):Bool:=decide (x.c0.natAbs<256)&&decide (x.c1.natAbs<256)&&decide (x.c2.natAbs<256)&&decide (x.c3.natAbs<256)&&decide (x.d.natAbs<256)
theorem Sm3.b{x:K}(h:zeg x=true):Sm3 x:=by
 simp only[zeg,Bool.and_eq_true,decide_eq_true_eq]at h
 exact Sm3.of ⟨h.1.1.1.1,h.1.1.1.2,h.1.1.2,h.1.2,h.2⟩
theorem zaV(i:Int):z59 i=z59 (i%24):=by simp only[z59,Int.emod_emod_of_dvd i (Int.dvd_refl 24)]
theorem zbe(i:Int):z7n i=z7n (i%24):=by simp only[z7n,Int.emod_emod_of_dvd i (Int.dvd_refl 24)]
theorem zfy: ∀i:_root_.Fin 24,zeg (z59 i.val)=true∧zeg (z7n i.val)=true:=by decide+kernel
theorem zh9(i:Int): ∃a:_root_.Fin 24,i%24=(a.val:Int):=⟨⟨(i%24).toNat,by omega⟩,by simp only;omega⟩
theorem zf1{i:Int}{a:_root_.Fin 24}(h:i%24=(a.val:Int)):z59 i=z59 a.val:=by rw[zaV i,h]
theorem zgk{i:Int}{a:_root_.Fin 24}(h:i%24=(a.val:Int)):z7n i=z7n a.val:=by rw[zbe i,h]
def z7Y(x:K):List CV:=[.lit (.bool (decide (x.c0<0))),z08 (bytesOf x.c0.natAbs),.lit (.bool (decide (x.c1<0))),z08 (bytesOf x.c1.natAbs),.lit (.bool (decide (x.c2<0))),z08 (bytesOf x.c2.natAbs),.lit (.bool (decide (x.c3<0))),z08 (bytesOf x.c3.natAbs),.lit (.bool (decide (x.d<0))),z08 (bytesOf x.d.natAbs)]
def z6n(x y z:K):CV:= .agg (z7Y x++(z7Y y++z7Y z))
structure RN where
 b0:Bool
 s0:ByteArray
 b1:Bool
 s1:ByteArray
 b2:Bool
 s2:ByteArray
 b3:Bool
 s3:ByteArray
 b4:Bool
 s4:ByteArray
namespace RN
def l(x:RN):List CV:=[.lit (.bool x.b0),z08 x.s0,.lit (.bool x.b1),z08 x.s1,.lit (.bool x.b2),z08 x.s2,.lit (.bool x.b3),z08 x.s3,.lit (.bool x.b4),z08 x.s4]
def raw(n:Nat)(x:RN):Bool:=decide (x.s0.size≤n)&&decide (x.s1.size≤n)&&decide (x.s2.size≤n)&&decide (x.s3.size≤n)&&decide (x.s4.size≤n)
def ok(x:RN):Bool:=Q0 x.b0 x.s0&&Q0 x.b1 x.s1&&Q0 x.b2 x.s2&&Q0 x.b3 x.s3&&Q0 x.b4 x.s4&&decide (0<zOf x.b4 x.s4)&&decide (Z3 (zOf x.b0 x.s0) (zOf x.b1 x.s1) (zOf x.b2 x.s2) (zOf x.b3 x.s3) (zOf x.b4 x.s4)=1)
theorem l_n5 {x : RN} (h0 : Q0 x.b0 x.s0 = true) (h1 : Q0 x.b1 x.s1 = true) (h2 : Q0 x.b2 x.s2 = true) (h3 : Q0 x.b3 x.s3 = true) (h4 : Q0 x.b4 x.s4 = true) :
    CV.agg x.l=n5C (zOf x.b0 x.s0) (zOf x.b1 x.s1) (zOf x.b2 x.s2) (zOf x.b3 x.s3) (zOf x.b4 x.s4):=by
 obtain⟨a0,c0,d0⟩:=z0n h0
 obtain⟨a1,c1,d1⟩:=z0n h1
 obtain⟨a2,c2,d2⟩:=z0n h2
 obtain⟨a3,c3,d3⟩:=z0n h3
 obtain⟨a4,c4,d4⟩:=z0n h4
 have e0:=z3s h0
 have e1:=z3s h1
 have e2:=z3s h2
 have e3:=z3s h3
 have e4:=z3s h4
 unfold Q2 at e0 e1 e2 e3 e4
 simp only[CV.agg.injEq,List.cons.injEq,and_true]at e0 e1 e2 e3 e4
 unfold l
 rw[e0.1,e0.2,e1.1,e1.2,e2.1,e2.2,e3.1,e3.2,e4.1,e4.2]
 rfl
theorem ok_k{x:RN}(h:x.ok=true): ∃k:K,x.l=z7Y k:=by
 unfold ok at h
 simp only[Bool.and_eq_true,decide_eq_true_eq]at h
 obtain⟨⟨⟨⟨⟨⟨h0,h1⟩,h2⟩,h3⟩,h4⟩,h5⟩,h6⟩:=h
 have e:=l_n5 h0 h1 h2 h3 h4
 refine⟨⟨_,_,_,_,_,h5,h6⟩,?_⟩
 injection e
end RN
theorem Sml.str{s:ByteArray}(h:s.size≤1000000):Sml (Y5 s):=Sml.of_lt (Nat.lt_of_lt_of_le (z5x s) (Nat.pow_le_pow_right (by decide) h)) (by decide)
theorem z4p(z:Int):decide (z.sign>0)=decide (0<z):=by
 rw[decide_eq_decide];exact Int.sign_pos_iff
theorem z2o{b:Bool}{s:ByteArray}(hv:Q0 b s=true)(h:s.size≤1000000):SmlZ (zOf b s):=by
 show Sml (zOf b s).natAbs
 rw[(z0n hv).2.2];exact Sml.str h
theorem z75(x:RN)(hs:x.raw 1000000=true):PCall P 28 [.agg x.l] (.lit (.bool x.ok)):=by
 cases v0:Q0 x.b0 x.s0
 · refine(zew x.b0 x.b1 x.b2 x.b3 x.b4 x.s0 x.s1 x.s2 x.s3 x.s4 v0).eqB ?_
   simp[RN.ok,v0]
 cases v1:Q0 x.b1 x.s1
 · refine(zf3 x.b0 x.b1 x.b2 x.b3 x.b4 x.s0 x.s1 x.s2 x.s3 x.s4 v0 v1).eqB ?_
   simp[RN.ok,v1]
 cases v2:Q0 x.b2 x.s2
 · refine(zeC x.b0 x.b1 x.b2 x.b3 x.b4 x.s0 x.s1 x.s2 x.s3 x.s4 v0 v1 v2).eqB ?_
   simp[RN.ok,v2]
 cases v3:Q0 x.b3 x.s3
 · refine(zfN x.b0 x.b1 x.b2 x.b3 x.b4 x.s0 x.s1 x.s2 x.s3 x.s4 v0 v1 v2 v3).eqB ?_
   simp[RN.ok,v3]
 cases v4:Q0 x.b4 x.s4
 · refine(zfR x.b0 x.b1 x.b2 x.b3 x.b4 x.s0 x.s1 x.s2 x.s3 x.s4 v0 v1 v2 v3 v4).eqB ?_
   simp[RN.ok,v4]
 simp only[RN.raw,Bool.and_eq_true,decide_eq_true_eq]at hs
 obtain⟨⟨⟨⟨z0,z1⟩,z2⟩,z3⟩,z4⟩:=hs
 rw[RN.l_n5 v0 v1 v2 v3 v4]
 have hok:x.ok=(decide (0<zOf x.b4 x.s4)&&decide (Z3 (zOf x.b0 x.s0) (zOf x.b1 x.s1) (zOf x.b2 x.s2) (zOf x.b3 x.s3) (zOf x.b4 x.s4)=1)):=by
  simp only[RN.ok,v0,v1,v2,v3,v4,Bool.true_and]
 rw[hok]
 by_cases hp:0<zOf x.b4 x.s4
 · refine(z5E _ _ _ _ _ (by rw[z4p];exact decide_eq_true hp) (z2o v0 z0) (z2o v1 z1) (z2o v2 z2) (z2o v3 z3) (z2o v4 z4) (by decide)).eqB ?_
   rw[decide_eq_true hp,Bool.true_and]
   simp only[Int.natAbs_natCast,z23,Bool.and_true]
   rw[decide_eq_false (by omega)]
   rfl
 · refine(z9G _ _ _ _ _ (by rw[z4p];exact decide_eq_false hp)).eqB ?_
   rw[decide_eq_false hp,Bool.false_and]
def RN.c(x:RN):CV:=r5 x.b0 x.b1 x.b2 x.b3 x.b4 x.s0 x.s1 x.s2 x.s3 x.s4
def z3g(x y z:RN):CV:= .agg (x.l++(y.l++z.l))
theorem z3Y(x:RN)(hs:x.raw 1000000=true):PCall P 28 [x.c] (.lit (.bool x.ok)):=z75 x hs
theorem zck(x y:K)(a:Smk y)(d:x.sz+(-y).sz+2<1073741824):PCall P 74 [Z1 x,Z1 y] (Z1 (x+ -y)):=
 j3 (.r 5 (z8T y a) (.r 6 (z4w x (-y) d) (.c (lq 10 10) .nil))) (by kernel_rfl)
theorem zfc(x y:K)(h:x.sz+y.sz+2<1073741824):PCall P 74 [Z1 x,Z1 y] (Z1 (x-y)):=zck x y (by simp only[Smk];omega) (by rw[K.sz_neg];exact h)
theorem z7f{x:K}(h:zeg x=true):x.sz≤1:=by
 simp only[zeg,Bool.and_eq_true,decide_eq_true_eq]at h
 rw[K.sz_le]
 exact⟨h.1.1.1.1,h.1.1.1.2,h.1.1.2,h.1.2,h.2⟩
theorem zbP(i:Int):(z59 i).sz≤1:=by
 obtain⟨a,ha⟩:=zh9 i
 rw[zf1 ha];exact z7f (zfy a).1
theorem zbK(i:Int):(z7n i).sz≤1:=by
 obtain⟨a,ha⟩:=zh9 i
 rw[zgk ha];exact z7f (zfy a).2
def z1T:List CV:=[.lit (.bool false),z08 ⟨#[]⟩,.lit (.bool false),z08 ⟨#[]⟩,.lit (.bool false),z08 ⟨#[]⟩,.lit (.bool false),z08 ⟨#[]⟩,.lit (.bool false),z08 ⟨#[]⟩]
def z2N:CV:= .agg (z1T++(z1T++z1T))
def RN.ofK(x:K):RN:=⟨decide (x.c0<0),bytesOf x.c0.natAbs,decide (x.c1<0),bytesOf x.c1.natAbs,decide (x.c2<0),bytesOf x.c2.natAbs,decide (x.c3<0),bytesOf x.c3.natAbs,decide (x.d<0),bytesOf x.d.natAbs⟩
theorem RN.ofK_l(x:K):(RN.ofK x).l=z7Y x:=rfl
theorem RN.ofK_ok(x:K):(RN.ofK x).ok=true:=by
 unfold RN.ok RN.ofK
 simp only[z4B,zdl,Bool.true_and,Bool.and_eq_true,decide_eq_true_eq]
 exact⟨x.pos,x.cop⟩
theorem RN.ofK_raw(x:K){n:Nat}(h:x.sz≤n):(RN.ofK x).raw n=true:=by
 obtain⟨h0,h1,h2,h3,h4⟩:=K.sz_le.1 h
 unfold RN.raw RN.ofK
 simp only[Bool.and_eq_true,decide_eq_true_eq]
 exact⟨⟨⟨⟨z0o.2 h0,z0o.2 h1⟩,z0o.2 h2⟩,z0o.2 h3⟩,z0o.2 h4⟩
def Mil(a:Int):Prop:= ∃n,n≤1000000∧a.natAbs<256^n
theorem Mil.sml{a:Int}(h:Mil a):Sml a.natAbs:=by
 obtain⟨n,hn,h⟩:=h
 exact Sml.of_lt h (by omega)
theorem mul_lt_pow{a b n m:Nat}(ha:a<256^n)(hb:b<256^m):a*b<256^(n+m):=by
 rw[Nat.pow_add]
 exact Nat.mul_lt_mul'' ha hb
theorem z4I{a b n:Nat}(ha:a<256^n)(hb:b<256^n):a+b<256^(n+1):=by
 rw[Nat.pow_succ];omega
theorem zag{a n m:Nat}(ha:a<256^n)(h:n≤m):a<256^m:=Nat.lt_of_lt_of_le ha (Nat.pow_le_pow_right (by decide) h)
def By(n:Nat)(a:Int):Prop:=a.natAbs<256^n
theorem By.sml{n:Nat}{a:Int}(h:By n a)(hn:n<1073741824):Sml a.natAbs:=Sml.of_lt h hn
theorem By.mul{n m:Nat}{a b:Int}(ha:By n a)(hb:By m b):By (n+m) (a*b):=by
 unfold By;rw[Int.natAbs_mul];exact mul_lt_pow ha hb
theorem By.mono{n m:Nat}{a:Int}(h:By n a)(hm:n≤m):By m a:=zag h hm
theorem By.add{n:Nat}{a b:Int}(ha:By n a)(hb:By n b):By (n+1) (a+b):=Nat.lt_of_le_of_lt (Int.natAbs_add_le ..) (z4I ha hb)
theorem By.neg{n:Nat}{a:Int}(h:By n a):By n (-a):=by unfold By;rw[Int.natAbs_neg];exact h
theorem By.sm2{n m:Nat}{a b:Int}(ha:By n a)(hb:By m b)(hn:n+m<1073741824):Sml (a.natAbs*b.natAbs):=Sml.of_lt (mul_lt_pow ha hb) hn
theorem By.sma{n:Nat}{a b:Int}(ha:By n a)(hb:By n b)(hn:n+1<1073741824):Sml (a.natAbs+b.natAbs):=Sml.of_lt (z4I ha hb) hn
theorem By.of_sz{x:K}{n:Nat}(h:x.sz≤n):By n x.c0∧By n x.c1∧By n x.c2∧By n x.c3∧By n x.d:=K.sz_le.1 h
def f4(a b c d:Int):Nat→Int
 |0=>a
 |1=>b
 |2=>c
 |_=>d
def By4(n:Nat)(a b c d:Int):Prop:=By n a∧By n b∧By n c∧By n d
theorem By4.f{n:Nat}{a b c d:Int}(h:By4 n a b c d)(i:Nat):(f4 a b c d i).natAbs<256^n:=by
 obtain⟨h0,h1,h2,h3⟩:=h
 match i with
 |0=>exact h0
 |1=>exact h1
 |2=>exact h2
 |n+3=>exact h3
def zgz(n:Nat)(x y z:RN):Bool:=x.raw n&&(y.raw n&&z.raw n)
def ok3(x y z:RN):Bool:=x.ok&&(y.ok&&z.ok)
theorem U2{n:Nat}{x y z:RN}:zgz n x y z=true↔x.raw n=true∧y.raw n=true∧z.raw n=true:=by simp[zgz]
theorem RN.raw_mono{x:RN}{n m:Nat}(h:x.raw n=true)(hm:n≤m):x.raw m=true:=by
 unfold RN.raw at h ⊢
 simp only[Bool.and_eq_true,decide_eq_true_eq]at h ⊢
 omega
end Go.Fw
