/- A part of the proof that the law returns true for every input: an executor for the model's code, and what functions of the program compute. -/
import Derived.Test.YtcafjpldfnegiaaGreatDoorB11
import Derived.Test.YtcafjpldfnegiaaGreatDoorB15
import Derived.Test.YtcafjpldfnegiaaGreatDoorB26
import Derived.KernelRfl
open Go IntKind
set_option maxRecDepth 10000
namespace Go.Fw
open CR
namespace Adj
variable{R:Type}[CR R][Sg R] {m:R}
def nm(x:Adj R m):R:=x.re*x.re-m*(x.im*x.im)
omit [Sg R]in
theorem zsr(x y:Adj R m):(x*y).re=x.re*y.re+m*(x.im*y.im):=rfl
omit [Sg R]in
theorem zrB(x y:Adj R m):(x*y).im=x.re*y.im+x.im*y.re:=rfl
omit [Sg R]in
theorem zqv(x:Adj R m):(-x).re= -x.re:=rfl
omit [Sg R]in
theorem zsq(x:Adj R m):(-x).im= -x.im:=rfl
omit [Sg R]in
theorem zpo(n:Int):(ofInt n:Adj R m).im=ofInt 0:=rfl
omit [Sg R]in
theorem zr8(x y:Adj R m):nm (x*y)=nm x*nm y:=
 (show ∀ρ:Nat→R,(ρ 0*ρ 2+ρ 4*(ρ 1*ρ 3))*(ρ 0*ρ 2+ρ 4*(ρ 1*ρ 3))-ρ 4*((ρ 0*ρ 3+ρ 1*ρ 2)*(ρ 0*ρ 3+ρ 1*ρ 2))=(ρ 0*ρ 0-ρ 4*(ρ 1*ρ 1))*(ρ 2*ρ 2-ρ 4*(ρ 3*ρ 3))from fun ρ=>CR.ring ρ rfl) (vr [x.re,x.im,y.re,y.im,m])
omit [Sg R]in
theorem zim(x:Adj R m):nm (-x)=nm x:=
 (show ∀ρ:Nat→R,-ρ 0* -ρ 0-ρ 2*(-ρ 1* -ρ 1)=ρ 0*ρ 0-ρ 2*(ρ 1*ρ 1)from fun ρ=>CR.ring ρ rfl) (vr [x.re,x.im,m])
def sg(x:Adj R m):Int:=if Sg.sg (nm x)=1 then Sg.sg x.re else if Sg.sg (nm x)= -1 then Sg.sg x.im else 0
variable [im:Sg.Irr m]
open Sg
theorem nm_zero(x:Adj R m):Sg.sg (nm x)=0↔x=ofInt 0:=by
 constructor
 · intro h
   have h0:=zfc ((Sg.zero _).1 h)
   have hi:=Irr.irr _ _ h0
   rw[hi,mul_zero,mul_zero]at h0
   refine ext ?_ hi
   have h1:Sg.sg (x.re*x.re)=0:=by rw[h0];exact(Sg.zero _).2 rfl
   rw[Sg.mul]at h1
   have h2:Sg.sg x.re=0:=by
    rcases Sg.vals x.re with e|e|e<;>rw[e]at h1 ⊢ <;>first|rfl|exact absurd h1 (by decide)
   exact(Sg.zero _).1 h2
 · rintro rfl
   rw[Sg.zero]
   show ofInt 0*ofInt 0-m*(ofInt 0*ofInt 0)=ofInt 0
   rw[mul_zero,mul_zero,sub_eq,add_neg]
theorem re_ne{x:Adj R m}(h:Sg.sg (nm x)=1):Sg.sg x.re≠0:=by
 intro e
 have e0:=(Sg.zero _).1 e
 have h1:nm x= -(m*(x.im*x.im)):=by rw[nm,e0,mul_zero,sub_eq,zero_add]
 rw[h1,Sg.neg,Sg.mul,im.pos,Int.one_mul]at h
 rcases Sg.sq_nonneg x.im with e|e<;>rw[e]at h<;>exact absurd h (by decide)
omit im in
theorem im_ne{x:Adj R m}(h:Sg.sg (nm x)= -1):Sg.sg x.im≠0:=by
 intro e
 have e0:=(Sg.zero _).1 e
 have h1:nm x=x.re*x.re:=by rw[nm,e0,mul_zero,mul_zero,sub_eq,zie,mul_zero,add_zero]
 rw[h1]at h
 rcases Sg.sq_nonneg x.re with e|e<;>rw[e]at h<;>exact absurd h (by decide)
omit im in
theorem z9C(x:Adj R m):sg x= -1∨sg x=0∨sg x=1:=by
 unfold sg;split
 · exact Sg.vals _
 · split
   · exact Sg.vals _
   · exact .inr (.inl rfl)
theorem z4A(x:Adj R m):sg x=0↔x=ofInt 0:=by
 rw[←nm_zero]
 unfold sg
 constructor
 · intro h
   split at h
   · rename_i h1;exact absurd h (re_ne h1)
   · split at h
     · rename_i h1;exact absurd h (im_ne h1)
     · rcases Sg.vals (nm x)with e|e|e
       · contradiction
       · exact e
       · contradiction
 · intro h;rw[h];rfl
omit im in
theorem z47(x:Adj R m):sg (-x)= -sg x:=by
 unfold sg
 rw[zim,zqv,zsq,Sg.neg,Sg.neg]
 split
 · rfl
 · split<;>rfl
omit im in
theorem z3B(x:Adj R m):sg x=1↔(Sg.sg (nm x)=1∧Sg.sg x.re=1)∨(Sg.sg (nm x)= -1∧Sg.sg x.im=1):=by
 unfold sg
 constructor
 · intro h
   split at h
   · exact .inl ⟨by assumption,h⟩
   · split at h
     · exact .inr ⟨by assumption,h⟩
     · exact absurd h (by decide)
 · rintro(⟨h1,h2⟩|⟨h1,h2⟩)
   · rw[if_pos h1,h2]
   · rw[if_neg (by rw[h1];decide),if_pos h1,h2]
theorem z85{x y:Adj R m}(hx:sg x=1)(hy:sg y=1):sg (x*y)=1:=by
 rw[z3B]at hx hy ⊢
 rw[zr8,Sg.mul,zsr,zrB]
 rcases hx with⟨nx,px⟩|⟨nx,px⟩<;>rcases hy with⟨ny,py⟩|⟨ny,py⟩<;>rw[nx,ny]
 · left
   refine⟨rfl,zsu (by rw[Sg.mul,px,py];rfl) ?_⟩
   have e:x.re*y.re*(x.re*y.re)-m*(x.im*y.im)*(m*(x.im*y.im))=x.re*x.re*nm y+m*(y.im*y.im)*nm x:=
    (show ∀ρ:Nat→R,ρ 0*ρ 2*(ρ 0*ρ 2)-ρ 4*(ρ 1*ρ 3)*(ρ 4*(ρ 1*ρ 3))=ρ 0*ρ 0*(ρ 2*ρ 2-ρ 4*(ρ 3*ρ 3))+ρ 4*(ρ 3*ρ 3)*(ρ 0*ρ 0-ρ 4*(ρ 1*ρ 1))from fun ρ=>CR.ring ρ rfl) (vr [x.re,x.im,y.re,y.im,m])
   rw[e]
   refine z39 ?_ ?_
   · rw[Sg.mul,ny,sq (by rw[px];decide)];rfl
   · exact Nn.mul (Nn.mul (.inr im.pos) (sq_nonneg _)) (.inr nx)
 · right
   refine⟨rfl,zsu (by rw[Sg.mul,px,py];rfl) ?_⟩
   have e:x.re*y.im*(x.re*y.im)-x.im*y.re*(x.im*y.re)=y.im*y.im*nm x+x.im*x.im* -nm y:=
    (show ∀ρ:Nat→R,ρ 0*ρ 3*(ρ 0*ρ 3)-ρ 1*ρ 2*(ρ 1*ρ 2)=ρ 3*ρ 3*(ρ 0*ρ 0-ρ 4*(ρ 1*ρ 1))+ρ 1*ρ 1* -(ρ 2*ρ 2-ρ 4*(ρ 3*ρ 3))from fun ρ=>CR.ring ρ rfl) (vr [x.re,x.im,y.re,y.im,m])
   rw[e]
   refine z39 ?_ ?_
   · rw[Sg.mul,nx,sq (by rw[py];decide)];rfl
   · exact Nn.mul (sq_nonneg _) (.inr (z4m ny))
 · right
   rw[add_comm]
   refine⟨rfl,zsu (by rw[Sg.mul,px,py];rfl) ?_⟩
   have e:x.im*y.re*(x.im*y.re)-x.re*y.im*(x.re*y.im)=x.im*x.im*nm y+y.im*y.im* -nm x:=
    (show ∀ρ:Nat→R,ρ 1*ρ 2*(ρ 1*ρ 2)-ρ 0*ρ 3*(ρ 0*ρ 3)=ρ 1*ρ 1*(ρ 2*ρ 2-ρ 4*(ρ 3*ρ 3))+ρ 3*ρ 3* -(ρ 0*ρ 0-ρ 4*(ρ 1*ρ 1))from fun ρ=>CR.ring ρ rfl) (vr [x.re,x.im,y.re,y.im,m])
   rw[e]
   refine z39 ?_ ?_
   · rw[Sg.mul,ny,sq (by rw[px];decide)];rfl
   · exact Nn.mul (sq_nonneg _) (.inr (z4m nx))
 · left
   rw[add_comm]
   refine⟨rfl,zsu (by rw[Sg.mul,Sg.mul,im.pos,px,py];rfl) ?_⟩
   have e:m*(x.im*y.im)*(m*(x.im*y.im))-x.re*y.re*(x.re*y.re)=m*(x.im*x.im)* -nm y+y.re*y.re* -nm x:=
    (show ∀ρ:Nat→R,ρ 4*(ρ 1*ρ 3)*(ρ 4*(ρ 1*ρ 3))-ρ 0*ρ 2*(ρ 0*ρ 2)=ρ 4*(ρ 1*ρ 1)* -(ρ 2*ρ 2-ρ 4*(ρ 3*ρ 3))+ρ 2*ρ 2* -(ρ 0*ρ 0-ρ 4*(ρ 1*ρ 1))from fun ρ=>CR.ring ρ rfl) (vr [x.re,x.im,y.re,y.im,m])
   rw[e]
   refine z39 ?_ ?_
   · rw[Sg.mul,Sg.mul,im.pos,sq (by rw[px];decide),z4m ny];rfl
   · exact Nn.mul (sq_nonneg _) (.inr (z4m nx))
theorem zfq(x y:Adj R m):sg (x*y)=sg x*sg y:=by
 have hz: ∀x:Adj R m,(ofInt 0:Adj R m)*x=ofInt 0:=fun x=>zero_mul x
 have h0:sg (ofInt 0:Adj R m)=0:=(z4A _).2 rfl
 have hn: ∀x y:Adj R m,-x*y= -(x*y):=fun x y=>CR.ring (vr [x,y]) (x:= -(vr [x,y] 0)*vr [x,y] 1) (y:= -(vr [x,y] 0*vr [x,y] 1)) rfl
 have hp: ∀x y:Adj R m,sg y=1→sg (x*y)=sg x*sg y:=by
  intro x y hy
  rcases z9C x with e|e|e
  · have:sg (-x*y)=1:=z85 (by rw[z47,e];rfl) hy
    rw[hn,z47]at this
    rw[e,hy];omega
  · rw[(z4A x).1 e,hz,h0,Int.zero_mul]
  · rw[z85 e hy,e,hy];rfl
 rcases z9C y with e|e|e
 · have h1:=hp x (-y) (by rw[z47,e];rfl)
   rw[mul_comm,hn,z47,z47,mul_comm]at h1
   rw[Int.mul_neg]at h1
   omega
 · rw[(z4A y).1 e,mul_comm,hz,h0,Int.mul_zero]
 · exact hp x y e
theorem zaV{n:R}(hn:Sg.sg n=1){w:Adj R m}(hw:sg w=1):sg (⟨n+w.re,w.im⟩:Adj R m)=1:=by
 have hwp:=hw
 rw[z3B]at hw
 rcases hw with⟨nw,pw⟩|⟨nw,pw⟩
 · rw[z3B]
   left
   refine⟨?_,Sg.add _ _ hn pw⟩
   have e:nm (⟨n+w.re,w.im⟩:Adj R m)=nm w+(n*n+(n*w.re+n*w.re)):=
    (show ∀ρ:Nat→R,(ρ 0+ρ 1)*(ρ 0+ρ 1)-ρ 3*(ρ 2*ρ 2)=ρ 1*ρ 1-ρ 3*(ρ 2*ρ 2)+(ρ 0*ρ 0+(ρ 0*ρ 1+ρ 0*ρ 1))from fun ρ=>CR.ring ρ rfl) (vr [n,w.re,w.im,m])
   rw[e]
   have hnw:Sg.sg (n*w.re)=1:=by rw[Sg.mul,hn,pw];rfl
   exact Sg.add _ _ nw (Sg.add _ _ (sq (by rw[hn];decide)) (Sg.add _ _ hnw hnw))
 · have hz : sg (⟨n + w.re, w.im⟩ : Adj R m) ≠ 0 := by
     intro e
     have:=congrArg Adj.im ((z4A _).1 e)
     simp only[zpo]at this
     rw[this,(Sg.zero _).2 rfl]at pw
     exact absurd pw (by decide)
   have hN:Sg.sg (nm (⟨n+w.re,w.im⟩:Adj R m))≠0:=fun e=>hz ((z4A _).2 ((nm_zero _).1 e))
   rw[z3B]
   rcases Sg.vals (nm (⟨n+w.re,w.im⟩:Adj R m))with e|e|e
   · exact .inr ⟨e,pw⟩
   · exact absurd e hN
   · left
     refine⟨e,?_⟩
     rcases Sg.vals (n+w.re)with k|k|k
     · -- then the part in front is too small
       exfalso
       have k':=z4m k
       have e1:nm (⟨n+w.re,w.im⟩:Adj R m)=nm w+ -(n*n+(n* -(n+w.re)+n* -(n+w.re))):=
        (show ∀ρ:Nat→R,(ρ 0+ρ 1)*(ρ 0+ρ 1)-ρ 3*(ρ 2*ρ 2)=ρ 1*ρ 1-ρ 3*(ρ 2*ρ 2)+ -(ρ 0*ρ 0+(ρ 0* -(ρ 0+ρ 1)+ρ 0* -(ρ 0+ρ 1)))from fun ρ=>CR.ring ρ rfl) (vr [n,w.re,w.im,m])
       have hnk:Sg.sg (n* -(n+w.re))=1:=by rw[Sg.mul,hn,k'];rfl
       have h3:Sg.sg (n*n+(n* -(n+w.re)+n* -(n+w.re)))=1:=Sg.add _ _ (sq (by rw[hn];decide)) (Sg.add _ _ hnk hnk)
       have h4:=Sg.add _ _ (z4m nw) h3
       have e2:nm (⟨n+w.re,w.im⟩:Adj R m)= -(-nm w+(n*n+(n* -(n+w.re)+n* -(n+w.re)))):=by
        rw[e1]
        exact(show ∀ρ:Nat→R,ρ 0+ -ρ 1= -(-ρ 0+ρ 1)from fun ρ=>CR.ring ρ rfl) (vr [nm w,n*n+(n* -(n+w.re)+n* -(n+w.re))])
       rw[e2,Sg.neg,h4]at e
       exact absurd e (by decide)
     · exact absurd k (re_ne e)
     · exact k
theorem zpx(x y:Adj R m)(hx:sg x=1)(hy:sg y=1):sg (x+y)=1:=by
 have hxp:=hx
 let z:Adj R m:=⟨x.re,-x.im⟩
 have hnz:nm z=nm x:=(show ∀ρ:Nat→R,ρ 0*ρ 0-ρ 2*(-ρ 1* -ρ 1)=ρ 0*ρ 0-ρ 2*(ρ 1*ρ 1)from fun ρ=>CR.ring ρ rfl) (vr [x.re,x.im,m])
 have e1:(x+y)*z=⟨nm x+(y*z).re,(y*z).im⟩:=by
  refine ext ?_ ?_
  · exact(show ∀ρ:Nat→R,(ρ 0+ρ 2)*ρ 0+ρ 4*((ρ 1+ρ 3)* -ρ 1)=ρ 0*ρ 0-ρ 4*(ρ 1*ρ 1)+(ρ 2*ρ 0+ρ 4*(ρ 3* -ρ 1))from fun ρ=>CR.ring ρ rfl) (vr [x.re,x.im,y.re,y.im,m])
  · exact(show ∀ρ:Nat→R,(ρ 0+ρ 2)* -ρ 1+(ρ 1+ρ 3)*ρ 0=ρ 2* -ρ 1+ρ 3*ρ 0 from fun ρ=>CR.ring ρ rfl) (vr [x.re,x.im,y.re,y.im,m])
 rw[z3B]at hx
 rcases hx with⟨nx,px⟩|⟨nx,px⟩
 · have hz:sg z=1:=by rw[z3B,hnz];exact .inl ⟨nx,px⟩
   have h2:=zaV nx (z85 hy hz)
   rw[←e1,zfq,hz]at h2
   omega
 · have hz : sg z = -1 := by
     have:sg (-z)=1:=by
      rw[z3B,zim,hnz]
      refine .inr ⟨nx,?_⟩
      show Sg.sg (- -x.im)=1
      rw[Sg.neg,Sg.neg,px];rfl
     rw[z47]at this;omega
   have h1:sg (y* -z)=1:=z85 hy (by rw[z47,hz];rfl)
   have h2:=zaV (z4m nx) h1
   have e2:(⟨-nm x+(y* -z).re,(y* -z).im⟩:Adj R m)= -((x+y)*z):=by
    rw[e1]
    refine ext ?_ ?_
    · exact(show ∀ρ:Nat→R,-ρ 5+(ρ 2* -ρ 0+ρ 4*(ρ 3* - -ρ 1))= -(ρ 5+(ρ 2*ρ 0+ρ 4*(ρ 3* -ρ 1)))from fun ρ=>CR.ring ρ rfl) (vr [x.re,x.im,y.re,y.im,m,nm x])
    · exact(show ∀ρ:Nat→R,ρ 2* - -ρ 1+ρ 3* -ρ 0= -(ρ 2* -ρ 1+ρ 3*ρ 0)from fun ρ=>CR.ring ρ rfl) (vr [x.re,x.im,y.re,y.im,m])
   rw[e2,z47,zfq,hz]at h2
   omega
instance:Sg (Adj R m) where
 sg:=sg
 vals:=z9C
 zero:=z4A
 neg:=z47
 mul:=zfq
 add:=zpx
end Adj
theorem ztF: ∀n:Nat,∀u v:Int,v.natAbs≤n→u*u=2*(v*v)→v=0
 |0,u,v,h,_=>by omega
 |n+1,u,v,hv,h=>by
  have hu:u%2=0:=by
   rcases Int.emod_two_eq u with e|e
   · exact e
   · have:(u*u)%2=1:=by rw[Int.mul_emod,e];rfl
     omega
  obtain⟨u',rfl⟩: ∃u',u=2*u':=⟨u/2,by omega⟩
  have h2:v*v=2*(u'*u'):=by grind
  have hv2:v%2=0:=by
   rcases Int.emod_two_eq v with e|e
   · exact e
   · have:(v*v)%2=1:=by rw[Int.mul_emod,e];rfl
     omega
  obtain⟨v',rfl⟩: ∃v',v=2*v':=⟨v/2,by omega⟩
  have h3:u'*u'=2*(v'*v'):=by grind
  have:=ztF n u' v' (by omega) h3
  omega
instance:Sg.Irr (2:Int):=⟨rfl,fun u v h=>ztF _ u v (Nat.le_refl _) h⟩
abbrev Z2:=Adj Int (2:Int)
theorem zsv(a:Int):a%3=0∨(a*a)%3=1:=by
 have h:a%3=0∨a%3=1∨a%3=2:=by omega
 rcases h with h|h|h
 · exact .inl h
 · right;rw[Int.mul_emod,h];rfl
 · right;rw[Int.mul_emod,h];rfl
theorem ztI: ∀n:Nat,∀a b c d:Int,c.natAbs+d.natAbs≤n→a*a+2*(b*b)=3*(c*c)+6*(d*d)→a*b=3*(c*d)→c=0∧d=0
 |0,a,b,c,d,h,_,_=>by omega
 |n+1,a,b,c,d,hn,h1,h2=>by
  have hab:a%3=0∧b%3=0:=by
   rcases zsv a with ha|ha<;>rcases zsv b with hb|hb
   · exact⟨ha,hb⟩
   · obtain⟨a',rfl⟩: ∃a',a=3*a':=⟨a/3,by omega⟩
     have:3*a'*(3*a')=9*(a'*a'):=by grind
     omega
   · obtain⟨b',rfl⟩: ∃b',b=3*b':=⟨b/3,by omega⟩
     have:3*b'*(3*b')=9*(b'*b'):=by grind
     omega
   · have h3 : (a * a) * (b * b) = 9 * ((c * d) * (c * d)) := by
       have:(a*b)*(a*b)=(3*(c*d))*(3*(c*d)):=by rw[h2]
       grind
     have h4:((a*a)*(b*b))%3=1:=by rw[Int.mul_emod,ha,hb];rfl
     omega
  obtain⟨a',rfl⟩: ∃a',a=3*a':=⟨a/3,by omega⟩
  obtain⟨b',rfl⟩: ∃b',b=3*b':=⟨b/3,by omega⟩
  have e1:c*c+2*(d*d)=3*(a'*a')+6*(b'*b'):=by grind
  have e2:c*d=3*(a'*b'):=by grind
  have hcd:c%3=0∧d%3=0:=by
   rcases zsv c with ha|ha<;>rcases zsv d with hb|hb
   · exact⟨ha,hb⟩
   · obtain⟨a',rfl⟩: ∃a',c=3*a':=⟨c/3,by omega⟩
     have:3*a'*(3*a')=9*(a'*a'):=by grind
     omega
   · obtain⟨b',rfl⟩: ∃b',d=3*b':=⟨d/3,by omega⟩
     have:3*b'*(3*b')=9*(b'*b'):=by grind
     omega
   · have h3 : (c * c) * (d * d) = 9 * ((a' * b') * (a' * b')) := by
       have:(c*d)*(c*d)=(3*(a'*b'))*(3*(a'*b')):=by rw[e2]
       grind
     have h4:((c*c)*(d*d))%3=1:=by rw[Int.mul_emod,ha,hb];rfl
     omega
  obtain⟨c',rfl⟩: ∃a',c=3*a':=⟨c/3,by omega⟩
  obtain⟨d',rfl⟩: ∃b',d=3*b':=⟨d/3,by omega⟩
  by_cases hz:c'=0∧d'=0
  · obtain⟨rfl,rfl⟩:=hz;exact⟨rfl,rfl⟩
  · have f1:a'*a'+2*(b'*b')=3*(c'*c')+6*(d'*d'):=by grind
    have f2:a'*b'=3*(c'*d'):=by grind
    have:=ztI n a' b' c' d' (by omega) f1 f2
    omega
instance:Sg.Irr (ofInt 3:Z2):=⟨by decide,fun u v h=>by
 have h1:u.re*u.re+2*(u.im*u.im)=3*(v.re*v.re)+6*(v.im*v.im):=by
  have:=congrArg Adj.re h
  have e:((ofInt 3:Z2)*(v*v)).re=3*(v.re*v.re+2*(v.im*v.im))+2*(0*(v.re*v.im+v.im*v.re)):=rfl
  rw[e]at this
  have e2:(u*u).re=u.re*u.re+2*(u.im*u.im):=rfl
  rw[e2]at this
  omega
 have h2:u.re*u.im=3*(v.re*v.im):=by
  have:=congrArg Adj.im h
  have e:((ofInt 3:Z2)*(v*v)).im=3*(v.re*v.im+v.im*v.re)+0*(v.re*v.re+2*(v.im*v.im)):=rfl
  rw[e]at this
  have e2:(u*u).im=u.re*u.im+u.im*u.re:=rfl
  rw[e2]at this
  have e3:u.im*u.re=u.re*u.im:=Int.mul_comm _ _
  have e4:v.im*v.re=v.re*v.im:=Int.mul_comm _ _
  rw[e3,e4]at this
  omega
 obtain⟨k1,k2⟩:=ztI _ _ _ _ _ (Nat.le_refl _) h1 h2
 exact Adj.ext k1 k2⟩
abbrev Z23:=Adj Z2 (ofInt 3:Z2)
end Go.Fw
set_option maxRecDepth 10000
namespace Go.Fw
namespace K
theorem ofInt_add(a b:Int):ofInt (a+b)=ofInt a+ofInt b:=by
 rw[z0H,z0H a,z0H b,z1E (by decide) (by decide)];congr 1<;>grind
theorem ofInt_mul(a b:Int):ofInt (a*b)=ofInt a*ofInt b:=by
 rw[z0H,z0H a,z0H b,mul_of (by decide) (by decide)];congr 1<;>grind
instance:CR K where
 ofInt:=ofInt
 add_comm:=add_comm
 add_assoc:=add_assoc
 zero_add:=zero_add
 add_neg:=add_neg
 mul_comm:=mul_comm
 mul_assoc:=mul_assoc
 mul_add:=mul_add
 one_mul:=one_mul
 sub_eq:=sub_eq
 ofInt_add:=ofInt_add
 ofInt_mul:=ofInt_mul
instance(ρ:Nat→K)(k:Int):CR.Rf ρ (K.ofInt k) (.n k):=⟨rfl⟩
instance(ρ:Nat→K):CR.Rf ρ 0 (.n 0):=⟨rfl⟩
instance(ρ:Nat→K):CR.Rf ρ 1 (.n 1):=⟨rfl⟩
theorem mul_zero(x:K):x*0=0:=CR.mul_zero x
theorem zero_mul(x:K):0*x=0:=CR.zero_mul x
def zbB(a b c d:Int):Z23:=⟨⟨a,b⟩,⟨c,d⟩⟩
def num(x:K):Z23:=zbB x.c0 x.c1 x.c2 x.c3
theorem z7p{x y:Z23}(h0:x.re.re=y.re.re)(h1:x.re.im=y.re.im)(h2:x.im.re=y.im.re)(h3:x.im.im=y.im.im):x=y:=Adj.ext (Adj.ext h0 h1) (Adj.ext h2 h3)
theorem z5y{x:K}(h:num x=CR.ofInt 0):x=0:=by
 have h0:x.c0=0:=congrArg (fun z:Z23=>z.re.re) h
 have h1:x.c1=0:=congrArg (fun z:Z23=>z.re.im) h
 have h2:x.c2=0:=congrArg (fun z:Z23=>z.im.re) h
 have h3:x.c3=0:=congrArg (fun z:Z23=>z.im.im) h
 rw[←z4z x,h0,h1,h2,h3,za7]
 exact zgQ x.d_ne (by decide) (by simp) (by simp) (by simp) (by simp)
theorem zgl(a b c d a' b' c' d':Int):zbB a b c d+zbB a' b' c' d'=zbB (a+a') (b+b') (c+c') (d+d'):=rfl
theorem zao(a b c d a' b' c' d':Int):zbB a b c d*zbB a' b' c' d'=zbB (a*a'+2*b*b'+3*c*c'+6*d*d') (a*b'+b*a'+3*c*d'+3*d*c') (a*c'+c*a'+2*b*d'+2*d*b') (a*d'+d*a'+b*c'+c*b'):=by
 refine z7p ?_ ?_ ?_ ?_
 · show a*a'+2*(b*b')+(3*(c*c'+2*(d*d'))+2*(0*(c*d'+d*c')))=a*a'+2*b*b'+3*c*c'+6*d*d'
   grind
 · show a*b'+b*a'+(3*(c*d'+d*c')+0*(c*c'+2*(d*d')))=a*b'+b*a'+3*c*d'+3*d*c'
   grind
 · show a*c'+2*(b*d')+(c*a'+2*(d*b'))=a*c'+c*a'+2*b*d'+2*d*b'
   grind
 · show a*d'+b*c'+(c*b'+d*a')=a*d'+d*a'+b*c'+c*b'
   grind
theorem z4w(s a b c d:Int):zbB (s*a) (s*b) (s*c) (s*d)=CR.ofInt s*zbB a b c d:=by
 show _=zbB s 0 0 0*zbB a b c d
 rw[zao]
 unfold zbB
 congr 2<;>grind
theorem zaF(s:Int):Sg.sg (CR.ofInt s:Z23)=s.sign:=by
 by_cases h:s=0
 · subst h;exact(Sg.zero _).2 rfl
 · show Adj.sg (CR.ofInt s:Z23)=_
   have e:Adj.nm (CR.ofInt s:Z23)=CR.ofInt (s*s):=by
    refine Adj.ext ?_ ?_
    · show s*s+2*(0*0)-(3*(0*0+2*(0*0))+2*(0*(0*0+0*0)))=s*s
      simp
    · show s*0+0*s-(3*(0*0+0*0)+0*(0*0+2*(0*0)))=0
      simp
   have e2: ∀t:Int,t≠0→Adj.sg (CR.ofInt t:Z2)=t.sign:=by
    intro t ht
    have e:Adj.nm (CR.ofInt t:Z2)=t*t:=by show t*t-2*(0*0)=t*t;simp
    have:Sg.sg (Adj.nm (CR.ofInt t:Z2))=1:=by
     rw[e];show(t*t).sign=1
     rw[Int.sign_eq_one_iff_pos]
     rcases Int.lt_trichotomy t 0 with h|h|h
     · exact Int.mul_pos_of_neg_of_neg h h
     · exact absurd h ht
     · exact Int.mul_pos h h
    unfold Adj.sg
    rw[if_pos this];rfl
   have hs:(s*s).sign=1:=by
    rw[Int.sign_eq_one_iff_pos]
    rcases Int.lt_trichotomy s 0 with h'|h'|h'
    · exact Int.mul_pos_of_neg_of_neg h' h'
    · exact absurd h' h
    · exact Int.mul_pos h' h'
   unfold Adj.sg
   rw[e]
   have h1:Sg.sg (CR.ofInt (s*s):Z2)=1:=by
    show Adj.sg (CR.ofInt (s*s):Z2)=1
    rw[e2 _ (Int.mul_ne_zero h h),hs]
   rw[if_pos h1]
   exact e2 s h
def sgn(x:K):Int:=Sg.sg (num x)
theorem ziD(a b c d:Int){e:Int}(he:e≠0):sgn (of a b c d e)=Sg.sg (zbB a b c d)*e.sign:=by
 obtain⟨s,hs,x0,x1,x2,x3,xd⟩:=of_spec a b c d he
 generalize of a b c d e=x at*
 have hx:x.d.sign=1:=Int.sign_eq_one_iff_pos.2 x.pos
 rw[x0,x1,x2,x3,z4w,Sg.mul,zaF,xd,Int.sign_mul,hx,Int.mul_one]
 show Sg.sg (num x)=_
 have hss:s.sign*s.sign=1:=by
  rcases Int.lt_trichotomy s 0 with h|h|h
  · rw[Int.sign_eq_neg_one_of_neg h];rfl
  · exact absurd h hs
  · rw[Int.sign_eq_one_of_pos h];rfl
 rw[Int.mul_comm s.sign,Int.mul_assoc]
 show _=Sg.sg (num x)*(s.sign*s.sign)
 rw[hss,Int.mul_one]
theorem sgn_mul(x y:K):sgn (x*y)=sgn x*sgn y:=by
 show sgn (mul x y)=_
 rw[mul,ziD _ _ _ _ (Int.mul_ne_zero x.d_ne y.d_ne),←zao,Sg.mul,Int.sign_mul,Int.sign_eq_one_iff_pos.2 x.pos,Int.sign_eq_one_iff_pos.2 y.pos]
 show sgn x*sgn y*_=_
 simp
theorem z9T(x y:K)(hx:sgn x=1)(hy:sgn y=1):sgn (x+y)=1:=by
 show sgn (add x y)=1
 rw[add,ziD _ _ _ _ (Int.mul_ne_zero x.d_ne y.d_ne),←zgl,Int.sign_mul,Int.sign_eq_one_iff_pos.2 x.pos,Int.sign_eq_one_iff_pos.2 y.pos]
 rw[Int.mul_comm x.c0,Int.mul_comm x.c1,Int.mul_comm x.c2,Int.mul_comm x.c3,z4w,Int.mul_comm y.c0,Int.mul_comm y.c1,Int.mul_comm y.c2,Int.mul_comm y.c3,z4w]
 have h1:Sg.sg (CR.ofInt y.d*num x)=1:=by rw[Sg.mul,zaF,Int.sign_eq_one_iff_pos.2 y.pos];show 1*sgn x=1;rw[hx];rfl
 have h2:Sg.sg (CR.ofInt x.d*num y)=1:=by rw[Sg.mul,zaF,Int.sign_eq_one_iff_pos.2 x.pos];show 1*sgn y=1;rw[hy];rfl
 have h3:=Sg.add _ _ h1 h2
 exact (congrArg (· * (1 * 1)) h3).trans (by decide)
theorem zmm(x:K):num (-x)= -num x:=rfl
instance:Sg K where
 sg:=sgn
 vals x:=Sg.vals (num x)
 zero x:=⟨fun h=>z5y ((Sg.zero _).1 h),fun h=>by rw[h];exact(Sg.zero _).2 rfl⟩
 neg x:=by show Sg.sg (num (-x))=_;rw[zmm,Sg.neg];rfl
 mul:=sgn_mul
 add:=z9T
theorem sgn_zero{x:K}:sgn x=0↔x=0:=Sg.zero x
theorem zkf(x:K):sgn (-x)= -sgn x:=Sg.neg x
theorem sgn_vals(x:K):sgn x= -1∨sgn x=0∨sgn x=1:=Sg.vals x
theorem z2M(n:Int):sgn (ofInt n)=n.sign:=zaF n
theorem z6c{x y:K}(hx:x≠0)(hy:y≠0):x*y≠0:=by
 intro h
 have h1:=sgn_mul x y
 rw[h,sgn_zero.2 rfl]at h1
 rcases Int.mul_eq_zero.1 h1.symm with h|h
 · exact hx (sgn_zero.1 h)
 · exact hy (sgn_zero.1 h)
def conj2(x:K):K:=⟨x.c0,x.c1,-x.c2,-x.c3,x.d,x.pos,by have:=x.cop;simpa only[X3,Int.natAbs_neg]using this⟩
def conj1(x:K):K:=⟨x.c0,-x.c1,x.c2,-x.c3,x.d,x.pos,by have:=x.cop;simpa only[X3,Int.natAbs_neg]using this⟩
def nrm(y:K):K:=y*conj2 y*conj1 (y*conj2 y)
def div(x y:K):K:=(x*conj2 y)*(conj1 (y*conj2 y)*of (nrm y).d 0 0 0 (nrm y).c0)
theorem zeX{a b c d e:Int}(he:e≠0):(a=0→(of a b c d e).c0=0)∧(b=0→(of a b c d e).c1=0)∧(c=0→(of a b c d e).c2=0)∧(d=0→(of a b c d e).c3=0):=by
 obtain⟨s,hs,x0,x1,x2,x3,xd⟩:=of_spec a b c d he
 generalize of a b c d e=x at*
 have key: ∀p q:Int,p=s*q→p=0→q=0:=by
  intro p q h h0
  rw[h0]at h
  rcases Int.mul_eq_zero.1 h.symm with h|h
  · exact absurd h hs
  · exact h
 exact⟨key _ _ x0,key _ _ x1,key _ _ x2,key _ _ x3⟩
theorem zgm(y:K):(y*conj2 y).c2=0∧(y*conj2 y).c3=0:=by
 show(mul y (conj2 y)).c2=0∧(mul y (conj2 y)).c3=0
 unfold mul
 have:=zeX (a:=y.c0*(conj2 y).c0+2*y.c1*(conj2 y).c1+3*y.c2*(conj2 y).c2+6*y.c3*(conj2 y).c3) (b:=y.c0*(conj2 y).c1+y.c1*(conj2 y).c0+3*y.c2*(conj2 y).c3+3*y.c3*(conj2 y).c2)
  (c:=y.c0*(conj2 y).c2+y.c2*(conj2 y).c0+2*y.c1*(conj2 y).c3+2*y.c3*(conj2 y).c1) (d:=y.c0*(conj2 y).c3+y.c3*(conj2 y).c0+y.c1*(conj2 y).c2+y.c2*(conj2 y).c1) (e:=y.d*(conj2 y).d) (Int.mul_ne_zero y.d_ne y.d_ne)
 exact⟨this.2.2.1 (by simp only[conj2];grind),this.2.2.2 (by simp only[conj2];grind)⟩
theorem zgW(y:K):(nrm y).c1=0∧(nrm y).c2=0∧(nrm y).c3=0:=by
 obtain⟨h2,h3⟩:=zgm y
 unfold nrm
 generalize y*conj2 y=t at*
 show(mul t (conj1 t)).c1=0∧(mul t (conj1 t)).c2=0∧(mul t (conj1 t)).c3=0
 unfold mul
 have:=zeX (a:=t.c0*(conj1 t).c0+2*t.c1*(conj1 t).c1+3*t.c2*(conj1 t).c2+6*t.c3*(conj1 t).c3) (b:=t.c0*(conj1 t).c1+t.c1*(conj1 t).c0+3*t.c2*(conj1 t).c3+3*t.c3*(conj1 t).c2)
  (c:=t.c0*(conj1 t).c2+t.c2*(conj1 t).c0+2*t.c1*(conj1 t).c3+2*t.c3*(conj1 t).c1) (d:=t.c0*(conj1 t).c3+t.c3*(conj1 t).c0+t.c1*(conj1 t).c2+t.c2*(conj1 t).c1) (e:=t.d*(conj1 t).d) (Int.mul_ne_zero t.d_ne t.d_ne)
 exact⟨this.2.1 (by simp only[conj1,h2,h3];grind),this.2.2.1 (by simp only[conj1,h2,h3];grind),this.2.2.2 (by simp only[conj1,h2,h3];grind)⟩
theorem zaZ{y:K}(h:y≠0):conj2 y≠0:=by
 intro e
 apply h
 have h0:=congrArg K.c0 e
 have h1:=congrArg K.c1 e
 have h2:=congrArg K.c2 e
 have h3:=congrArg K.c3 e
 simp only[conj2]at h0 h1 h2 h3
 apply z5y
 have e0:(0:K).c0=0:=rfl
 have e1:(0:K).c1=0:=rfl
 have e2:(0:K).c2=0:=rfl
 have e3:(0:K).c3=0:=rfl
 exact z7p (show y.c0=0 by omega) (show y.c1=0 by omega) (show y.c2=0 by omega) (show y.c3=0 by omega)
theorem zfX{y:K}(h:y≠0):conj1 y≠0:=by
 intro e
 apply h
 have h0:=congrArg K.c0 e
 have h1:=congrArg K.c1 e
 have h2:=congrArg K.c2 e
 have h3:=congrArg K.c3 e
 simp only[conj1]at h0 h1 h2 h3
 apply z5y
 have e0:(0:K).c0=0:=rfl
 have e1:(0:K).c1=0:=rfl
 have e2:(0:K).c2=0:=rfl
 have e3:(0:K).c3=0:=rfl
 exact z7p (show y.c0=0 by omega) (show y.c1=0 by omega) (show y.c2=0 by omega) (show y.c3=0 by omega)
theorem nrm_ne{y:K}(h:y≠0):(nrm y).c0≠0:=by
 have h1:nrm y≠0:=z6c (z6c h (zaZ h)) (zfX (z6c h (zaZ h)))
 obtain⟨e1,e2,e3⟩:=zgW y
 intro e0
 exact h1 (z5y (z7p e0 e1 e2 e3))
def bl(z:Int):Nat:=(dig 256 z.natAbs).length
theorem zsX{z:Int}{k:Nat}:bl z≤k↔z.natAbs<256^k:=by
 constructor
 · intro h;exact Nat.lt_of_lt_of_le (J8 (by decide) _) (Nat.pow_le_pow_right (by decide) h)
 · intro h;exact Q1 (by decide) h
def sz(x:K):Nat:=max (bl x.c0) (max (bl x.c1) (max (bl x.c2) (max (bl x.c3) (bl x.d))))
theorem sz_le{x:K}{k:Nat}:sz x≤k↔x.c0.natAbs<256^k∧x.c1.natAbs<256^k∧x.c2.natAbs<256^k∧x.c3.natAbs<256^k∧x.d.natAbs<256^k:=by
 unfold sz
 simp only[Nat.max_le,zsX]
theorem sz_lt(x:K):x.c0.natAbs<256^sz x∧x.c1.natAbs<256^sz x∧x.c2.natAbs<256^sz x∧x.c3.natAbs<256^sz x∧x.d.natAbs<256^sz x:=sz_le.1 (Nat.le_refl _)
theorem natAbs_ediv_le(a b:Int)(hb:b∣a):(a/b).natAbs≤a.natAbs:=by
 obtain⟨k,rfl⟩:=hb
 by_cases h:b=0
 · subst h;simp
 · rw[Int.mul_ediv_cancel_left _ h,Int.natAbs_mul]
   exact Nat.le_mul_of_pos_left _ (by omega)
theorem sz_of{a b c d e:Int}{k:Nat}(he:e≠0)(ha:a.natAbs<256^k)(hb:b.natAbs<256^k)(hc:c.natAbs<256^k)(hd:d.natAbs<256^k)(hk:e.natAbs<256^k):sz (of a b c d e)≤k:=by
 rw[sz_le]
 obtain⟨h0,h1,h2,h3,h4⟩:=den_dvd a b c d e
 unfold of
 rw[dif_neg he]
 exact⟨Nat.lt_of_le_of_lt (natAbs_ediv_le _ _ h0) ha,Nat.lt_of_le_of_lt (natAbs_ediv_le _ _ h1) hb,Nat.lt_of_le_of_lt (natAbs_ediv_le _ _ h2) hc,Nat.lt_of_le_of_lt (natAbs_ediv_le _ _ h3) hd,Nat.lt_of_le_of_lt (natAbs_ediv_le _ _ h4) hk⟩
theorem mul_lt_pow{a b j k:Nat}(ha:a<256^j)(hb:b<256^k):a*b<256^(j+k):=by
 rw[Nat.pow_add]
 exact Nat.mul_lt_mul'' ha hb
theorem sz_add(x y:K):sz (x+y)≤sz x+sz y+1:=by
 obtain⟨x0,x1,x2,x3,xd⟩:=sz_lt x
 obtain⟨y0,y1,y2,y3,yd⟩:=sz_lt y
 have key: ∀a b:Int,a.natAbs<256^sz x→b.natAbs<256^sz y→(a*y.d+b*x.d).natAbs<256^(sz x+sz y+1):=by
  intro a b ha hb
  have h1:=mul_lt_pow ha yd
  have h2:=mul_lt_pow hb xd
  rw[←Int.natAbs_mul]at h1 h2
  rw[Nat.add_comm (sz y)]at h2
  rw[Nat.pow_succ]
  omega
 refine sz_of (Int.mul_ne_zero x.d_ne y.d_ne) (key _ _ x0 y0) (key _ _ x1 y1) (key _ _ x2 y2) (key _ _ x3 y3) ?_
 have:=mul_lt_pow xd yd
 rw[←Int.natAbs_mul]at this
 rw[Nat.pow_succ];omega
theorem sz_mul(x y:K):sz (x*y)≤sz x+sz y+1:=by
 obtain⟨x0,x1,x2,x3,xd⟩:=sz_lt x
 obtain⟨y0,y1,y2,y3,yd⟩:=sz_lt y
 have key: ∀a b:Int,a.natAbs<256^sz x→b.natAbs<256^sz y→(a*b).natAbs<256^(sz x+sz y):=by
  intro a b ha hb
  have h1:=mul_lt_pow ha hb
  rwa[←Int.natAbs_mul]at h1
 have c:=fun(k a b:Int)=>Int.mul_assoc k a b
 refine sz_of (Int.mul_ne_zero x.d_ne y.d_ne) ?_ ?_ ?_ ?_ ?_
 · have h1:=key _ _ x0 y0;have h2:=key _ _ x1 y1;have h3:=key _ _ x2 y2;have h4:=key _ _ x3 y3
   rw[Nat.pow_succ,c,c,c];omega
 · have h1:=key _ _ x0 y1;have h2:=key _ _ x1 y0;have h3:=key _ _ x2 y3;have h4:=key _ _ x3 y2
   rw[Nat.pow_succ,c,c];omega
 · have h1:=key _ _ x0 y2;have h2:=key _ _ x2 y0;have h3:=key _ _ x1 y3;have h4:=key _ _ x3 y1
   rw[Nat.pow_succ,c,c];omega
 · have h1:=key _ _ x0 y3;have h2:=key _ _ x3 y0;have h3:=key _ _ x1 y2;have h4:=key _ _ x2 y1
   rw[Nat.pow_succ];omega
 · have h1:=key _ _ xd yd
   rw[Nat.pow_succ];omega
theorem sz_neg(x:K):sz (-x)=sz x:=by
 show sz (neg x)=_
 simp only[sz,neg,bl,Int.natAbs_neg]
theorem sz_conj2(x:K):sz (conj2 x)=sz x:=by simp only[sz,conj2,bl,Int.natAbs_neg]
theorem sz_conj1(x:K):sz (conj1 x)=sz x:=by simp only[sz,conj1,bl,Int.natAbs_neg]
theorem sz_sub(x y:K):sz (x-y)≤sz x+sz y+1:=by
 have:=sz_add x (-y)
 rw[sz_neg]at this
 exact this
theorem sz_nrm(y:K):sz (nrm y)≤4*sz y+3:=by
 have h1:=sz_mul y (conj2 y)
 rw[sz_conj2]at h1
 have h2:=sz_mul (y*conj2 y) (conj1 (y*conj2 y))
 rw[sz_conj1]at h2
 unfold nrm;omega
theorem sz_inv(y:K):sz (of (nrm y).d 0 0 0 (nrm y).c0)≤4*sz y+3:=by
 by_cases h:(nrm y).c0=0
 · rw[h];show sz (of _ 0 0 0 0)≤_
   have e: ∀d:Int,of d 0 0 0 0=0:=fun d=>rfl
   rw[e];have:sz (0:K)=1:=by decide
   omega
 · have hn:=sz_nrm y
   obtain⟨h0,h1,h2,h3,h4⟩:=sz_le.1 hn
   exact sz_of h h4 (by simpa using Nat.pow_pos (by decide)) (by simpa using Nat.pow_pos (by decide)) (by simpa using Nat.pow_pos (by decide)) h0
theorem sz_int(n:Int){k:Nat}(hk:1≤k)(h:n.natAbs<256^k):sz (ofInt n)≤k:=by
 rw[sz_le]
 have:256^1≤256^k:=Nat.pow_le_pow_right (by decide) hk
 simp only[ofInt]
 refine⟨h,?_,?_,?_,?_⟩<;>simp<;>omega
end K
set_option maxRecDepth 100000
def c4C(a b c d:Int):CV:= .agg [.lit (.bool (decide (a<0))),X1 (bytesOf a.natAbs),.lit (.bool (decide (b<0))),X1 (bytesOf b.natAbs),.lit (.bool (decide (c<0))),X1 (bytesOf c.natAbs),.lit (.bool (decide (d<0))),X1 (bytesOf d.natAbs)]
def n5C(a b c d e:Int):CV:= .agg [.lit (.bool (decide (a<0))),X1 (bytesOf a.natAbs),.lit (.bool (decide (b<0))),X1 (bytesOf b.natAbs),.lit (.bool (decide (c<0))),X1 (bytesOf c.natAbs),.lit (.bool (decide (d<0))),X1 (bytesOf d.natAbs),.lit (.bool (decide (e<0))),X1 (bytesOf e.natAbs)]
abbrev Z0(x:K):CV:=n5C x.c0 x.c1 x.c2 x.c3 x.d
theorem zhT{a b c d e a' b' c' d' e':Int}(h0:a=a')(h1:b=b')(h2:c=c')(h3:d=d')(h4:e=e'):n5C a b c d e=n5C a' b' c' d' e':=by subst h0 h1 h2 h3 h4;rfl
theorem zej(a b c d e:Int)(f:SmlZ e)(g:SmlZ a)(i:SmlZ (↑(e.natAbs.gcd a.natAbs):Int))(j:SmlZ b)(k:SmlZ (↑((↑(e.natAbs.gcd a.natAbs):Int).natAbs.gcd b.natAbs):Int))(l:SmlZ c)(m:SmlZ (↑((↑((↑(e.natAbs.gcd a.natAbs):Int).natAbs.gcd b.natAbs):Int).natAbs.gcd c.natAbs):Int))(n:SmlZ d):PCall P 216 [c4C a b c d,J2 e] (.agg [.lit (.bool (decide ((↑((↑((↑((↑(e.natAbs.gcd a.natAbs):Int).natAbs.gcd b.natAbs):Int).natAbs.gcd c.natAbs):Int).natAbs.gcd d.natAbs):Int)<0))),.lit (.string (bytesOf (↑((↑((↑((↑(e.natAbs.gcd a.natAbs):Int).natAbs.gcd b.natAbs):Int).natAbs.gcd c.natAbs):Int).natAbs.gcd d.natAbs):Int).natAbs))]):=
 j3 (.c (lq 2 2) (.c (bq 0 4) (.c (lq 2 2) (.r 16 (z5s e a f g) (.c (lq 2 2) (.c (bq 1 4) (.c (lq 2 2) (.r 28 (z5s ((↑(e.natAbs.gcd a.natAbs):Int)) b i j) (.c (lq 2 2) (.c (bq 2 4) (.c (lq 2 2) (.r 40 (z5s ((↑((↑(e.natAbs.gcd a.natAbs):Int).natAbs.gcd b.natAbs):Int)) c k l) (.c (lq 2 2) (.c (bq 3 4) (.c (lq 2 2) (.r 52 (z5s ((↑((↑((↑(e.natAbs.gcd a.natAbs):Int).natAbs.gcd b.natAbs):Int).natAbs.gcd c.natAbs):Int)) d m n) (.c (lq 2 2) (.c (lq 2 2) .nil)))))))))))))))))) (by kernel_rfl)
theorem zp9(n:Int)(a:(-9223372036854775808:Int)≤n∧n≤9223372036854775807)(d:(-9223372036854775808:Int)≤1∧(1:Int)≤9223372036854775807):PCall P 144 [.lit (.int .i64 n)] (.agg [.lit (.bool (decide (n<0))),.lit (.string (bytesOf n.natAbs)),.lit (.bool false),.lit (.string {data:= #[]}),.lit (.bool false),.lit (.string {data:= #[]}),.lit (.bool false),.lit (.string {data:= #[]}),.lit (.bool false),.lit (.string (bytesOf 1))]):=
 j3 (.r 2 (z0u n a) (.r 4 (z0u (1:Int) d) (.c (lq 10 10) .nil))) (by kernel_rfl)
theorem zrQ(a b:Int)(h1:((bytesOf b.natAbs).toList==[])=false)(h2:(!(bytesOf (sgn (decide (a<0)) (a.natAbs%b.natAbs)).natAbs).toList==[])=true)(h3:(!decide (a<0)==decide (b<0))=true)(d:Sml a.natAbs)(e:Sml b.natAbs)(f:b.natAbs≠0)(g:(dig 4294967296 a.natAbs).length<2^38)(i:(dig 4294967296 b.natAbs).length<2^38)(j:Sml (a.natAbs/b.natAbs))(k:Sml (a.natAbs%b.natAbs))(l:(-9223372036854775808:Int)≤1∧(1:Int)≤9223372036854775807)(m:SmlZ (sgn (!decide (a<0)==decide (b<0)) (a.natAbs/b.natAbs)))(n:Sml ((sgn (!decide (a<0)==decide (b<0)) (a.natAbs/b.natAbs)).natAbs+1))(o:SmlZ (sgn (decide (a<0)) (a.natAbs%b.natAbs)))(p:SmlZ b)(q:Sml ((sgn (decide (a<0)) (a.natAbs%b.natAbs)).natAbs+b.natAbs)):PCall P 226 [J2 a,J2 b] (.tup [.agg [.lit (.bool (decide (sgn (!decide (a<0)==decide (b<0)) (a.natAbs/b.natAbs)-1<0))),.lit (.string (bytesOf (sgn (!decide (a<0)==decide (b<0)) (a.natAbs/b.natAbs)-1).natAbs))],.agg [.lit (.bool (decide (sgn (decide (a<0)) (a.natAbs%b.natAbs)+b<0))),.lit (.string (bytesOf (sgn (decide (a<0)) (a.natAbs%b.natAbs)+b).natAbs))],.lit (.int .i64 0)]):=
 j3 (.r 6 (J7 a) (.r 10 (J7 b) (.b 19 h1 (.r 22 (U5 a.natAbs d) (.r 25 (U5 b.natAbs e) (.r 26 (z0A a.natAbs b.natAbs f g i) (.r 38 (U9 (a.natAbs/b.natAbs) (!decide (a<0)==decide (b<0)) j) (.r 42 (U9 (a.natAbs%b.natAbs) (decide (a<0)) k) (.c (lq 2 2) (.c (lq 2 2) (.b 48 h2 (.b 55 h3 (.r 57 (z0u (1:Int) l) (.r 58 (ziM (sgn (!decide (a<0)==decide (b<0)) (a.natAbs/b.natAbs)) m n) (.r 61 (z1H (sgn (decide (a<0)) (a.natAbs%b.natAbs)) b o p q) (.c (lq 2 2) (.c (lq 2 2) (.c (lq 2 2) (.c (lq 2 2) .nil))))))))))))))))))) (by kernel_rfl)
theorem zq9(a b:Int)(h1:((bytesOf b.natAbs).toList==[])=false)(h2:(!(bytesOf (sgn (decide (a<0)) (a.natAbs%b.natAbs)).natAbs).toList==[])=true)(h3:(!decide (a<0)==decide (b<0))=false)(d:Sml a.natAbs)(e:Sml b.natAbs)(f:b.natAbs≠0)(g:(dig 4294967296 a.natAbs).length<2^38)(i:(dig 4294967296 b.natAbs).length<2^38)(j:Sml (a.natAbs/b.natAbs))(k:Sml (a.natAbs%b.natAbs)):PCall P 226 [J2 a,J2 b] (.tup [.agg [.lit (.bool (decide (sgn (!decide (a<0)==decide (b<0)) (a.natAbs/b.natAbs)<0))),.lit (.string (bytesOf (sgn (!decide (a<0)==decide (b<0)) (a.natAbs/b.natAbs)).natAbs))],.agg [.lit (.bool (decide (sgn (decide (a<0)) (a.natAbs%b.natAbs)<0))),.lit (.string (bytesOf (sgn (decide (a<0)) (a.natAbs%b.natAbs)).natAbs))],.lit (.int .i64 0)]):=
 j3 (.r 6 (J7 a) (.r 10 (J7 b) (.b 19 h1 (.r 22 (U5 a.natAbs d) (.r 25 (U5 b.natAbs e) (.r 26 (z0A a.natAbs b.natAbs f g i) (.r 38 (U9 (a.natAbs/b.natAbs) (!decide (a<0)==decide (b<0)) j) (.r 42 (U9 (a.natAbs%b.natAbs) (decide (a<0)) k) (.c (lq 2 2) (.c (lq 2 2) (.b 48 h2 (.b 55 h3 (.c (lq 2 2) (.c (lq 2 2) .nil)))))))))))))) (by kernel_rfl)
theorem zqt(a b:Int)(h1:((bytesOf b.natAbs).toList==[])=false)(h2:(!(bytesOf (sgn (decide (a<0)) (a.natAbs%b.natAbs)).natAbs).toList==[])=false)(d:Sml a.natAbs)(e:Sml b.natAbs)(f:b.natAbs≠0)(g:(dig 4294967296 a.natAbs).length<2^38)(i:(dig 4294967296 b.natAbs).length<2^38)(j:Sml (a.natAbs/b.natAbs))(k:Sml (a.natAbs%b.natAbs)):PCall P 226 [J2 a,J2 b] (.tup [.agg [.lit (.bool (decide (sgn (!decide (a<0)==decide (b<0)) (a.natAbs/b.natAbs)<0))),.lit (.string (bytesOf (sgn (!decide (a<0)==decide (b<0)) (a.natAbs/b.natAbs)).natAbs))],.agg [.lit (.bool (decide (sgn (decide (a<0)) (a.natAbs%b.natAbs)<0))),.lit (.string (bytesOf (sgn (decide (a<0)) (a.natAbs%b.natAbs)).natAbs))],.lit (.int .i64 0)]):=
 j3 (.r 6 (J7 a) (.r 10 (J7 b) (.b 19 h1 (.r 22 (U5 a.natAbs d) (.r 25 (U5 b.natAbs e) (.r 26 (z0A a.natAbs b.natAbs f g i) (.r 38 (U9 (a.natAbs/b.natAbs) (!decide (a<0)==decide (b<0)) j) (.r 42 (U9 (a.natAbs%b.natAbs) (decide (a<0)) k) (.c (lq 2 2) (.c (lq 2 2) (.b 48 h2 (.c (lq 2 2) (.c (lq 2 2) .nil))))))))))))) (by kernel_rfl)
end Go.Fw
