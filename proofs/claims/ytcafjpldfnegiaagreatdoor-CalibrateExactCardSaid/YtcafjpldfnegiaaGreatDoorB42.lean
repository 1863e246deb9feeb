/- A part of the proof that the law returns true for every input: an executor for the model's code, and what functions of the program compute. -/
import Derived.Test.YtcafjpldfnegiaaGreatDoorB11
import Derived.Test.YtcafjpldfnegiaaGreatDoorB15
import Derived.Test.YtcafjpldfnegiaaGreatDoorB39
import Derived.Test.YtcafjpldfnegiaaGreatDoorB41
import Derived.KernelRfl
open Go IntKind
open Go Go.Proofs Go.Proofs.YtcafjpldfnegiaaGreatDoor
namespace Go.Fw
open Go.ChangeShapes Go.WideShapes Go.ChangeAt Go.RowKit
set_option maxRecDepth 100000
section
variable{H:Type}{enc:TypeId×Value→H}{W:World}{base:Nat}{sp:Nat→Bool}{hd:Bool}
theorem znq{n:Int}(h:(Lit.int .u8 n).wf=true):0≤n∧n<256:=by
 unfold Lit.wf at h
 rw[Bool.and_eq_true]at h
 have h1:=of_decide_eq_true h.1
 have h2:=of_decide_eq_true h.2
 have l:IntKind.min .u8=0:=by decide
 have u:IntKind.max .u8=255:=by decide
 rw[l]at h1
 rw[u]at h2
 omega
theorem zfr {t e : TypeId} {v : Value} {d : DataW H} {ps : List MemPlace} (hu : Tryz.prog.underlying t = some (.slice e)) (he : z47 Tryz.prog 8 e = some [.i .u8]) (hc : Tryz.prog.cellsOf e = 1) (hv : ∃ a len cap, v = .slice a len cap) (h : DataW.Trod enc Tryz.prog W base sp hd t v d ps) :
    ∃l:List Int,∃Im:Imm,(∀x∈l,0≤x∧x<256)∧ImOk Im W∧(psV l).rep Im v:=by
 obtain⟨fuel,hx⟩:=h
 obtain⟨a0,len0,cap0,rfl⟩:=hv
 rcases Deep.open_slice hu hx with⟨h1,_⟩|⟨a,len,cap,m,n,D,Pl,h1,hb,hl,hm,hmm,_,hel⟩
 · simp only[Value.cells,List.cons.injEq,and_true]at h1
   injection h1 with e1 e2 e3
   subst e1 e2 e3
   refine⟨[],fun _=>none,(fun x hx=>by cases hx),(fun b cs hb=>by cases hb),?_⟩
   unfold psV CV.rep
   exact⟨none,0,rfl,Nat.le_refl _,.inl ⟨rfl,rfl⟩⟩
 · simp only[Value.cells,List.cons.injEq,and_true]at h1
   injection h1 with e1 e2 e3
   subst e1
   obtain rfl:=e2.symm
   obtain rfl:=e3.symm
   have hlm:len≤m:=by rw[hmm];split<;>omega
   rw[hc]at hel
   obtain⟨f,hf⟩:=zaC (α:=Int) (n:=len) (q:=fun i x=>W.cells? base (a.add (i*1)) 1=some [.int .u8 x]∧(0≤x∧x<256)) (fun i hi=>by
    obtain⟨cs,k1,k2⟩:=hel i (by omega)
    have k3:=z2W 8 n e cs _ _ k2 he
    simp only[CTs,CT.ok]at k3
    obtain⟨_,_,rfl,⟨x,rfl,hw⟩,rfl⟩:=k3
    exact⟨x,k1,znq hw⟩)
   by_cases h0:len=0
   · subst h0
     refine⟨[],fun _=>none,(fun x hx=>by cases hx),(fun b cs hb=>by cases hb),?_⟩
     unfold psV CV.rep
     exact⟨some a,cap,rfl,hl,.inl ⟨rfl,rfl⟩⟩
   · obtain⟨hs,c,T,fz,hcell,_⟩:=z5X (hf 0 (by omega)).1 (by decide)
     rw[(z8b a (0*1)).1]at hcell
     have hs':a.spot=none:=hs
     have step: ∀k,k<len→(c.toList.drop (a.off+k)).take 1=[.int .u8 (f k)]:=fun k hk=>by
      obtain⟨_,c',T',fz',h2,h3⟩:=z5X (hf k hk).1 (by decide)
      rw[(z8b a (k*1)).1,hcell]at h2
      injection h2 with h2
      injection h2 with h2
      subst h2
      rw[(z8b a (k*1)).2,Nat.mul_one]at h3
      exact h3
     have all: ∀k,k≤len→(c.toList.drop a.off).take k=((List.range k).map f).map (Value.int .u8):=by
      intro k
      induction k with
      |zero=>intro _;simp
      |succ k ih=>
       intro hk
       rw[List.range_succ,List.map_append,List.map_append,←ih (by omega),List.take_add,List.drop_drop,step k (by omega)]
       simp
     refine⟨(List.range len).map f,zjs a.block c.toList,?_,?_,?_⟩
     · intro x hx
       obtain⟨i,hi,rfl⟩:=List.mem_map.1 hx
       exact(hf i (List.mem_range.1 hi)).2
     · intro b cs hbb
       unfold zjs at hbb
       split at hbb
       · rename_i hbe
         subst hbe
         injection hbb with hbb
         exact⟨c,T,fz,hcell,hbb⟩
       · cases hbb
     · unfold psV CV.rep
       have hlen:(((List.range len).map f).map fun n=>CV.lit (.int .u8 n)).length=len:=by rw[List.length_map,List.length_map,List.length_range]
       refine⟨some a,cap,by rw[List.length_map,List.length_range],by rw[List.length_map,List.length_range];exact hl,.inr ⟨a.block,a.off,c.toList,?_,?_,?_⟩⟩
       · rw[←hs']
       · unfold zjs;rw[if_pos rfl]
       · rw[hlen,all len (Nat.le_refl _),show(((List.range len).map f).map fun n=>CV.lit (.int .u8 n))=(((List.range len).map f).map (Value.int .u8)).map .lit by simp]
         exact z9q _ _
end
end Go.Fw
namespace Go.Fw
set_option maxRecDepth 100000
noncomputable def xR(b:Nat):Code:=match b with
 |6=>xp [true,true,true,true,true,false,false]
 |7=>xp [true,true,true,true,true,false,true,true,true,false]
 |8=>xp [true,true,true,true,true,false,true,true,true,true,true,false,true,false]
 |9=>xp [true,true,true,true,true,false,true,true,true,true,true,false,true,true,false]
 |11=>xp [true,true,true,true,true,false,true,true,true,true,true,false,true,true,true,true]
 |12=>xp [true,true,true,true,true,false,true,true,true,true,true,true]
 |13=>xp [true,true,true,true,true,true,false]
 |_=> .skip
noncomputable def z06:Code:= .seq (xR 7) (.seq (.cond (.tmp 41) .skip (.exit 0)) (.seq (.block 1 (.seq (xR 8) (.seq (xR 9) (.seq xr10 (xR 11))))) (xR 12)))
def tmX(l:List Int)(a b c:Int)(bm:Nat)(X:MV)(k:Int)(m:List (Nat×MV)):List MV:=J3 103 ([(5,.cv (j7 a)),(6,.cv (j7 b)),(7,.cv (j7 c)),(8,X),(9,zdh bm),(38,.cv (psV l)),(39,.cv (j7 l.length)),(40,.cv (j7 k))]++m)
def z1Z:List Nat:=[5,6,7,8,9,38,39,40]
theorem zgf{l:List Int}{k:Nat}(hk:k<l.length):(l.map fun n=>CV.lit (.int .u8 n))[(k:Int).toNat*1]?=some (CV.lit (.int .u8 l[k])):=by
 rw[Int.toNat_natCast,Nat.mul_one,List.getElem?_map,List.getElem?_eq_getElem hk];rfl
theorem zkW {R : Goal} (hR : R.n = 0) {rest : List Item} {l : List Int} {a b c : Int} {bm : Nat} {ks : List Int} {k : Nat} (hk : k < l.length)
    (h:OkX P 14 (.code (xR 11):: .inBlock 1:: .code (xR 12):: .inLoop z06::rest) ⟨tmX l a b c bm (.cv (.lit (.slice none 0 0))) k [(12,.cv (j7 ((i64.wrap l[k]).tmod 4)))],[]⟩ R (XM bm (zaj ((i64.wrap l[k]).tmod 4) ks))):
    OkX P 14 (.code z06:: .inLoop z06::rest) ⟨tmX l a b c bm (.cv (.lit (.slice none 0 0))) k [],[]⟩ R (XM bm ks):=by
 have b1:(0:Int)≤(k:Int)∧(k:Int)<(l.length:Int):=by omega
 refine OkX.step ?_ (fun b a cs w=>step_seq)
 refine OkX.regSM (s':=⟨tmX l a b c bm (.cv (.lit (.slice none 0 0))) k [(41,.cv (.lit (.bool (decide ((k:Int)<(l.length:Int))))))],[]⟩) (ors:=[]) (41::z1Z) [] (by kernel_rfl) rfl .nil rfl hR ?_
 refine OkX.step ?_ (fun b a cs w=>step_seq)
 refine OkX.cond (t:=decide ((k:Int)<(l.length:Int))) (d:=true) rfl (decide_eq_true b1.2) ?_
 refine OkX.step ?_ (fun b a cs w=>step_skip)
 refine OkX.step ?_ (fun b a cs w=>step_seq)
 refine OkX.step ?_ (fun b a cs w=>step_block)
 refine OkX.step ?_ (fun b a cs w=>step_seq)
 refine OkX.regSM (s':=⟨tmX l a b c bm (.cv (.lit (.slice none 0 0))) k [(11,.cv (.lit (.int .u8 l[k])))],[]⟩) (ors:=[(1,.r (.lit (.int .u8 l[k])))]) (11::z1Z) [] (by kernel_rfl) rfl (.cons b1 (.cons (zgf hk) (.cons (show 1=1 from rfl) .nil))) rfl hR ?_
 refine OkX.step ?_ (fun b a cs w=>step_seq)
 refine OkX.regSM (s':=⟨tmX l a b c bm (.cv (.lit (.slice none 0 0))) k [(12,.cv (j7 ((i64.wrap l[k]).tmod 4)))],[]⟩) (ors:=[]) (12::z1Z) [] (by kernel_rfl) rfl (.cons (show(4:Int)≠0 from by decide) .nil) rfl hR ?_
 refine OkX.step ?_ (fun b a cs w=>step_seq)
 exact zb8 rfl rfl rfl h
theorem zkF {R : Goal} (hR : R.n = 0) {rest : List Item} {l : List Int} {a b c : Int} {bm : Nat} {ks : List Int} {k : Nat} {n : Nat} {out : List CV} (hk : k < l.length)
    (h:OkX P 14 (.code (xR 11):: .inBlock 1:: .code (xR 12):: .inLoop z06::rest) ⟨tmX l a b c bm (.sl 0 0 n 2) k [(12,.cv (j7 ((i64.wrap l[k]).tmod 4)))],[some (own out)]⟩ R (XM bm (zaj ((i64.wrap l[k]).tmod 4) ks))):
    OkX P 14 (.code z06:: .inLoop z06::rest) ⟨tmX l a b c bm (.sl 0 0 n 2) k [],[some (own out)]⟩ R (XM bm ks):=by
 have b1:(0:Int)≤(k:Int)∧(k:Int)<(l.length:Int):=by omega
 refine OkX.step ?_ (fun b a cs w=>step_seq)
 refine OkX.regSM (s':=⟨tmX l a b c bm (.sl 0 0 n 2) k [(41,.cv (.lit (.bool (decide ((k:Int)<(l.length:Int))))))],[some (own out)]⟩) (ors:=[]) (41::z1Z) [0] (by kernel_rfl) rfl (.cons (Z6 out) .nil) rfl hR ?_
 refine OkX.step ?_ (fun b a cs w=>step_seq)
 refine OkX.cond (t:=decide ((k:Int)<(l.length:Int))) (d:=true) rfl (decide_eq_true b1.2) ?_
 refine OkX.step ?_ (fun b a cs w=>step_skip)
 refine OkX.step ?_ (fun b a cs w=>step_seq)
 refine OkX.step ?_ (fun b a cs w=>step_block)
 refine OkX.step ?_ (fun b a cs w=>step_seq)
 refine OkX.regSM (s':=⟨tmX l a b c bm (.sl 0 0 n 2) k [(11,.cv (.lit (.int .u8 l[k])))],[some (own out)]⟩) (ors:=[(1,.r (.lit (.int .u8 l[k])))]) (11::z1Z) [0] (by kernel_rfl) rfl (.cons b1 (.cons (zgf hk) (.cons (show 1=1 from rfl) (.cons (Z6 out) .nil)))) rfl hR ?_
 refine OkX.step ?_ (fun b a cs w=>step_seq)
 refine OkX.regSM (s':=⟨tmX l a b c bm (.sl 0 0 n 2) k [(12,.cv (j7 ((i64.wrap l[k]).tmod 4)))],[some (own out)]⟩) (ors:=[]) (12::z1Z) [0] (by kernel_rfl) rfl (.cons (show(4:Int)≠0 from by decide) (.cons (Z6 out) .nil)) rfl hR ?_
 refine OkX.step ?_ (fun b a cs w=>step_seq)
 exact zb8 rfl rfl rfl h
theorem zg8 {R : Goal} (hR : R.n = 0) {rest : List Item} {l : List Int} {a b c : Int} {bm : Nat} {ks : List Int} {k : Nat} {n : Nat} {out : List CV}
    (h:OkX P 14 (.code z06:: .inLoop z06::rest) ⟨tmX l a b c bm (.sl 0 0 n 2) (i64.wrap ((k:Int)+1)) [],[some (own out)]⟩ R (XM bm ks)):
    OkX P 14 (.inBlock 1:: .code (xR 12):: .inLoop z06::rest) ⟨tmX l a b c bm (.sl 0 0 n 2) k [],[some (own out)]⟩ R (XM bm ks):=by
 refine OkX.step ?_ (fun b a cs w=>step_inBlock)
 refine OkX.regSM (s':=⟨tmX l a b c bm (.sl 0 0 n 2) (i64.wrap ((k:Int)+1)) [],[some (own out)]⟩) (ors:=[]) z1Z [0] (by kernel_rfl) rfl (.cons (Z6 out) .nil) rfl hR ?_
 exact OkX.step h (fun b a cs w=>step_inLoop)
def z83(b c q:Int):Int:=if q=0 then b else if q=1 then c else if q=2 then 0-b else 0-c
theorem zno {R : Goal} (hR : R.n = 0) {rest : List Item} {l : List Int} {a b c : Int} {bm : Nat} {ks : List Int} {k : Nat} {q : Int} (hq : q = 0 ∨ q = 1 ∨ q = 2 ∨ q = 3) (ha : -1000 ≤ a ∧ a ≤ 1000) (hb : -1000 ≤ b ∧ b ≤ 1000) (hc : -1000 ≤ c ∧ c ≤ 1000)
    (h:OkX P 14 rest ⟨tmX l a b c bm (.sl 0 0 1 2) k [],[some (own [j7 (6*q),j7 (a+z83 b c q)])]⟩ R (XM bm ks)):
    OkX P 14 (.code (xR 11)::rest) ⟨tmX l a b c bm (.cv (.lit (.slice none 0 0))) k [(12,.cv (j7 q))],[]⟩ R (XM bm ks):=by
 rcases hq with rfl|rfl|rfl|rfl
 · refine OkX.regSM (s':=⟨tmX l a b c bm (.sl 0 0 1 2) k [],[some (own [j7 0,j7 (i64.wrap (a+b))])]⟩) (ors:=[]) z1Z [2] (by kernel_rfl) rfl (.cons (show(0:Int)≤0∧(0:Int)<4 from by decide) (.cons (show 16≤1099511627776 from by decide) (.cons (show 1≤1099511627776 from by decide) (.cons (show 0<1 from by decide) (.cons (show 2=2 from rfl) (.cons (Z6 [j7 0,j7 (i64.wrap (a+b))]) .nil)))))) rfl hR ?_
   rw[w64 (n:=a+b) (by omega)]
   exact h
 · refine OkX.regSM (s':=⟨tmX l a b c bm (.sl 0 0 1 2) k [],[some (own [j7 6,j7 (i64.wrap (a+c))])]⟩) (ors:=[]) z1Z [2] (by kernel_rfl) rfl (.cons (show(0:Int)≤1∧(1:Int)<4 from by decide) (.cons (show 16≤1099511627776 from by decide) (.cons (show 1≤1099511627776 from by decide) (.cons (show 0<1 from by decide) (.cons (show 2=2 from rfl) (.cons (Z6 [j7 6,j7 (i64.wrap (a+c))]) .nil)))))) rfl hR ?_
   rw[w64 (n:=a+c) (by omega)]
   exact h
 · refine OkX.regSM (s':=⟨tmX l a b c bm (.sl 0 0 1 2) k [],[some (own [j7 12,j7 (i64.wrap (a+i64.wrap (0-b)))])]⟩) (ors:=[]) z1Z [2] (by kernel_rfl) rfl (.cons (show(0:Int)≤2∧(2:Int)<4 from by decide) (.cons (show 16≤1099511627776 from by decide) (.cons (show 1≤1099511627776 from by decide) (.cons (show 0<1 from by decide) (.cons (show 2=2 from rfl) (.cons (Z6 [j7 12,j7 (i64.wrap (a+i64.wrap (0-b)))]) .nil)))))) rfl hR ?_
   rw[w64 (n:=0-b) (by omega),w64 (n:=a+(0-b)) (by omega)]
   exact h
 · refine OkX.regSM (s':=⟨tmX l a b c bm (.sl 0 0 1 2) k [],[some (own [j7 18,j7 (i64.wrap (a+i64.wrap (0-c)))])]⟩) (ors:=[]) z1Z [2] (by kernel_rfl) rfl (.cons (show(0:Int)≤3∧(3:Int)<4 from by decide) (.cons (show 16≤1099511627776 from by decide) (.cons (show 1≤1099511627776 from by decide) (.cons (show 0<1 from by decide) (.cons (show 2=2 from rfl) (.cons (Z6 [j7 18,j7 (i64.wrap (a+i64.wrap (0-c)))]) .nil)))))) rfl hR ?_
   rw[w64 (n:=0-c) (by omega),w64 (n:=a+(0-c)) (by omega)]
   exact h
theorem znV {R : Goal} (hR : R.n = 0) {rest : List Item} {l : List Int} {a b c : Int} {bm : Nat} {ks : List Int} {k n : Nat} {out : List CV} {q : Int} (hq : q = 0 ∨ q = 1 ∨ q = 2 ∨ q = 3) (ha : -1000 ≤ a ∧ a ≤ 1000) (hb : -1000 ≤ b ∧ b ≤ 1000) (hc : -1000 ≤ c ∧ c ≤ 1000) (hn : n ≤ 100) (ho : out.length = n * 2)
    (h:OkX P 14 rest ⟨tmX l a b c bm (.sl 0 0 (n+1) 2) k [],[some (own (out++[j7 (6*q),j7 (a+z83 b c q)]))]⟩ R (XM bm ks)):
    OkX P 14 (.code (xR 11)::rest) ⟨tmX l a b c bm (.sl 0 0 n 2) k [(12,.cv (j7 q))],[some (own out)]⟩ R (XM bm ks):=by
 have ol:(own out).length=n*2:=by simp[own,ho]
 rw[z8j]at h
 rcases hq with rfl|rfl|rfl|rfl
 · refine OkX.regSM (s':=⟨tmX l a b c bm (.sl 0 0 (n+1) 2) k [],[some (own out++[.cv (j7 0),.cv (j7 (i64.wrap (a+b)))])]⟩) (ors:=[]) z1Z [3] (by kernel_rfl) rfl (.cons (show(0:Int)≤0∧(0:Int)<4 from by decide) (.cons (show(n+1)*16≤1099511627776 by omega) (.cons (show n+1≤1099511627776 by omega) (.cons ol (.cons (show z98 [.cv (j7 0),.cv (j7 (i64.wrap (a+b)))] by simp[z98,MV.one]) (.cons (show 2=2 from rfl) (.cons (z56 out [j7 0,j7 (i64.wrap (a+b))]) .nil))))))) rfl hR ?_
   rw[w64 (n:=a+b) (by omega)]
   exact h
 · refine OkX.regSM (s':=⟨tmX l a b c bm (.sl 0 0 (n+1) 2) k [],[some (own out++[.cv (j7 6),.cv (j7 (i64.wrap (a+c)))])]⟩) (ors:=[]) z1Z [3] (by kernel_rfl) rfl (.cons (show(0:Int)≤1∧(1:Int)<4 from by decide) (.cons (show(n+1)*16≤1099511627776 by omega) (.cons (show n+1≤1099511627776 by omega) (.cons ol (.cons (show z98 [.cv (j7 6),.cv (j7 (i64.wrap (a+c)))] by simp[z98,MV.one]) (.cons (show 2=2 from rfl) (.cons (z56 out [j7 6,j7 (i64.wrap (a+c))]) .nil))))))) rfl hR ?_
   rw[w64 (n:=a+c) (by omega)]
   exact h
 · refine OkX.regSM (s':=⟨tmX l a b c bm (.sl 0 0 (n+1) 2) k [],[some (own out++[.cv (j7 12),.cv (j7 (i64.wrap (a+i64.wrap (0-b))))])]⟩) (ors:=[]) z1Z [3] (by kernel_rfl) rfl (.cons (show(0:Int)≤2∧(2:Int)<4 from by decide) (.cons (show(n+1)*16≤1099511627776 by omega) (.cons (show n+1≤1099511627776 by omega) (.cons ol (.cons (show z98 [.cv (j7 12),.cv (j7 (i64.wrap (a+i64.wrap (0-b))))] by simp[z98,MV.one]) (.cons (show 2=2 from rfl) (.cons (z56 out [j7 12,j7 (i64.wrap (a+i64.wrap (0-b)))]) .nil))))))) rfl hR ?_
   rw[w64 (n:=0-b) (by omega),w64 (n:=a+(0-b)) (by omega)]
   exact h
 · refine OkX.regSM (s':=⟨tmX l a b c bm (.sl 0 0 (n+1) 2) k [],[some (own out++[.cv (j7 18),.cv (j7 (i64.wrap (a+i64.wrap (0-c))))])]⟩) (ors:=[]) z1Z [3] (by kernel_rfl) rfl (.cons (show(0:Int)≤3∧(3:Int)<4 from by decide) (.cons (show(n+1)*16≤1099511627776 by omega) (.cons (show n+1≤1099511627776 by omega) (.cons ol (.cons (show z98 [.cv (j7 18),.cv (j7 (i64.wrap (a+i64.wrap (0-c))))] by simp[z98,MV.one]) (.cons (show 2=2 from rfl) (.cons (z56 out [j7 18,j7 (i64.wrap (a+i64.wrap (0-c)))]) .nil))))))) rfl hR ?_
   rw[w64 (n:=0-c) (by omega),w64 (n:=a+(0-c)) (by omega)]
   exact h
def ksX(l:List Int):List Int:=l.foldl (fun ks p=>zaj (p%4) ks) []
theorem z9f{l:List Int}{k:Nat}(hk:k<l.length):ksX (l.take (k+1))=zaj (l[k]%4) (ksX (l.take k)):=by
 unfold ksX
 rw[List.take_succ_eq_append_getElem hk,List.foldl_append];rfl
def rdE(a b c:Int)(p:Int):Int×Int:=(6*(p%4),a+z83 b c (p%4))
theorem zci{p:Int}(h:0≤p∧p<256):(i64.wrap p).tmod 4=p%4:=by
 rw[w64 (by omega),Int.tmod_eq_emod_of_nonneg h.1]
theorem znY {R : Goal} (hR : R.n = 0) {rest : List Item} {l : List Int} {a b c : Int} {bm : Nat} {ks : List Int} {n : Nat} {out : List CV}
    (h:OkX P 14 rest ⟨tmX l a b c bm (.sl 0 0 n 2) l.length [(41,.cv (.lit (.bool (decide ((l.length:Int)<(l.length:Int))))))],[some (own out)]⟩ R (XM bm ks)):
    OkX P 14 (.code z06:: .inLoop z06:: .inBlock 0::rest) ⟨tmX l a b c bm (.sl 0 0 n 2) l.length [],[some (own out)]⟩ R (XM bm ks):=by
 refine OkX.step ?_ (fun b a cs w=>step_seq)
 refine OkX.regSM (s':=⟨tmX l a b c bm (.sl 0 0 n 2) l.length [(41,.cv (.lit (.bool (decide ((l.length:Int)<(l.length:Int))))))],[some (own out)]⟩) (ors:=[]) (41::z1Z) [0] (by kernel_rfl) rfl (.cons (Z6 out) .nil) rfl hR ?_
 refine OkX.step ?_ (fun b a cs w=>step_seq)
 refine OkX.cond (t:=decide ((l.length:Int)<(l.length:Int))) (d:=false) rfl (decide_eq_false (by omega)) ?_
 exact OkX.step (todo':=rest) h (fun b a cs w=>step_exit (by rfl))
theorem znR {R : Goal} (hR : R.n = 0) {rest : List Item} {l : List Int} (hl : l.length ≤ 12) (hb : ∀ x ∈ l, 0 ≤ x ∧ x < 256) (hne : l ≠ []) {a b c : Int} (ha : -1000 ≤ a ∧ a ≤ 1000) (hb' : -1000 ≤ b ∧ b ≤ 1000) (hc : -1000 ≤ c ∧ c ≤ 1000) {bm : Nat}
    (h:OkX P 14 (.code z06:: .inLoop z06::rest) ⟨tmX l a b c bm (.sl 0 0 l.length 2) l.length [],[some (own (flat rdL (l.map (rdE a b c))))]⟩ R (XM bm (ksX l))):
    OkX P 14 (.code z06:: .inLoop z06::rest) ⟨tmX l a b c bm (.cv (.lit (.slice none 0 0))) 0 [],[]⟩ R (XM bm []):=by
 have key := z9A (s := 2) l (fun x => rdL (rdE a b c x)) (fun _ => rfl) (fun k o => OkX P 14 (.code z06 :: .inLoop z06 :: rest) (match o with
     |none=>⟨tmX l a b c bm (.cv (.lit (.slice none 0 0))) k [],[]⟩
     |some (n,out)=>⟨tmX l a b c bm (.sl 0 0 n 2) k [],[some (own out)]⟩) R (XM bm (ksX (l.take k)))) ?_ ?_ hne ?_
 · exact key
 · intro k hk h
   have hx:=hb l[k] (List.getElem_mem hk)
   have hq:=zci hx
   refine zkW hR hk ?_
   rw[hq]
   refine zno hR (by omega) ha hb' hc ?_
   refine zg8 hR ?_
   rw[w64 (n:=(k:Int)+1) (by omega),←z9f hk]
   exact h
 · intro k hk n out hn ho h
   have hx:=hb l[k] (List.getElem_mem hk)
   have hq:=zci hx
   refine zkF hR hk ?_
   rw[hq]
   refine znV hR (by omega) ha hb' hc (by omega) ho ?_
   refine zg8 hR ?_
   rw[w64 (n:=(k:Int)+1) (by omega),←z9f hk]
   exact h
 · show OkX P 14 _ ⟨tmX l a b c bm (.sl 0 0 l.length 2) l.length [],[some (own (flat (fun x=>rdL (rdE a b c x)) l))]⟩ R (XM bm (ksX (l.take l.length)))
   rw[List.take_length]
   rw[zcD]at h
   exact h
def tmF(a b c:Int)(rn:Nat)(e:Int)(m:List (Nat×MV)):List MV:=J3 103 ([(5,.cv (j7 a)),(6,.cv (j7 b)),(7,.cv (j7 c)),(8,.sl 0 0 rn 2),(13,.ptr 1 0),(14,.cv (j7 e))]++m)
noncomputable def hpF(rd:List (Int×Int)):List Blk:=[some (own (flat rdL rd)),some (MV.cv (z1X rd).1.c).cells]
theorem z9m{rd:List (Int×Int)}:List.take (rd.length*2) (List.drop 0 (own (flat rdL rd)))=List.map MV.cv (flat rdL rd):=by
 rw[List.drop_zero]
 exact List.take_of_length_le (by rw[own,List.length_map,z2E z3Y];exact Nat.le_refl _)
theorem zoJ {R : Goal} (hR : R.n = 0) {rest : List Item} {l : List Int} {rd : List (Int × Int)} (hl : rd.length ≤ 12) {a b c : Int} {bm : Nat} {ks : List Int} {m : List (Nat × MV)} (hm : m = [(41, .cv (.lit (.bool (decide ((l.length : Int) < (l.length : Int))))))])
    (h:Ok P 14 (zna++rest) ⟨tmF a b c rd.length (z1X rd).2 [(9,zdh bm),(75,.cv (.lit (.bool (decide ((ks.length:Int)<3)))))],hpF rd⟩ R):
    OkX P 14 (.code (xR 13):: .code (.seq (.seq xr14 (xp [true,true,true,true,true,true,true,false,true])) (xp [true,true,true,true,true,true,true,true]))::rest) ⟨tmX l a b c bm (.sl 0 0 rd.length 2) l.length m,[some (own (flat rdL rd))]⟩ R (XM bm ks):=by
 subst hm
 refine OkX.regSM (s':=⟨tmF a b c rd.length (z1X rd).2 [(9,zdh bm)],hpF rd⟩) (ors:=[(1,.k (.tup [(z1X rd).1.c,j7 (z1X rd).2]) [flat rdL rd])]) [5,6,7,8,9,13,14] [0,2] (by kernel_rfl) rfl (.cons (zhJ rd hl) (.cons (z9m (rd:=rd)) (.cons (show 30≤30 from(by decide)) (.cons (Z6 (flat rdL rd)) (.cons (show CvL (MV.cv (z1X rd).1.c).cells from CvL.map_cv _) .nil))))) rfl hR ?_
 refine OkX.step ?_ (fun b a cs w=>step_seq)
 refine OkX.step ?_ (fun b a cs w=>step_seq)
 refine zbO (bm:=bm) rfl rfl ?_
 exact h
theorem zjX(rd:List (Int×Int))(n:Nat)(a:Int)(b:Int)(c:Int)(bm:Nat)(g:decide ((↑n:Int)<(3:Int))=true){R:Goal}(hR:R.c (CV.lit (Value.bool ((z1X rd).2==(20:Int))))):Ok P (14:FuncId) (zna) ({tm:=tmF a b c rd.length (z1X rd).snd [(9,zdh bm),(75,MV.cv (CV.lit (Value.bool (decide ((↑n:Int)<(3:Int))))))],hp:=hpF rd}) R:=
 okR (ors:=[(0,Or.b true)]) (by kernel_rfl) (.cons g .nil) hR
theorem zlv(rd:List (Int×Int))(n:Nat)(a:Int)(b:Int)(c:Int)(bm:Nat)(g:decide ((↑n:Int)<(3:Int))=false)(h1:((z1X rd).2==(0:Int))=true)(h2:(rnB (z1X rd).fst.x (oV a b c).x&&(rnB (z1X rd).fst.y (oV a b c).y&&(rnB (z1X rd).fst.z (oV a b c).z&&true)))=true)(h3:((z9s rd (z1X rd).fst).2==(0:Int))=true)(d:rd.length≤12)(e:VN.raw 8000 (z1X rd).fst=true)(f:(-9223372036854775808:Int)≤a∧a≤(9223372036854775807:Int))(i:(-9223372036854775808:Int)≤b∧b≤(9223372036854775807:Int))(j:(-9223372036854775808:Int)≤c∧c≤(9223372036854775807:Int))(l:RN.raw 1000000 (z9s rd (z1X rd).fst).fst=true)(o2:List.take (rd.length*2) (List.drop 0 (own (flat rdL rd)))=List.map MV.cv (flat rdL rd)){R:Goal}(hR:R.c (CV.lit (Value.bool (z9e (z9s rd (z1X rd).fst).fst==(0:Int))))):Ok P (14:FuncId) (zna) ({tm:=tmF a b c rd.length (z1X rd).snd [(9,zdh bm),(75,MV.cv (CV.lit (Value.bool (decide ((↑n:Int)<(3:Int))))))],hp:=hpF rd}) R:=
 okR (ors:=[(0,Or.b false),(3,Or.k (CV.tup [RN.c (z9s rd (z1X rd).fst).fst,CV.lit (Value.int i64 (z9s rd (z1X rd).fst).2)]) [flat rdL rd]),(12,Or.b true),(17,Or.r (z5d (oV a b c).x (oV a b c).y (oV a b c).z)),(20,Or.b true),(24,Or.b true),(26,Or.r (CV.lit (Value.int i64 (z9e (z9s rd (z1X rd).fst).fst))))]) (by kernel_rfl) (.cons g (.cons (zfm rd ((z1X rd).fst) d e) (.cons o2 (.cons (show 10≤10 from(by decide)) (.cons h1 (.cons (zfL a b c f i j) (.cons h2 (.cons h3 (.cons (zgj ((z9s rd (z1X rd).fst).fst) l) .nil))))))))) hR
noncomputable def znG(c:Code):Code:=match c with| .cond _ x _=>x|_=> .skip
theorem zbf:z3l= .seq (xp [false]) (.seq (.seq (xp [true,false,false]) (.cond (.tmp 23) (znG (xp [true,false,true])) .skip)) (.seq (xp [true,true,false]) (.seq (xp [true,true,true,false]) (.seq xr5 (.seq (.seq (xR 6) (.block 0 (.loop z06))) (.seq (xR 13) (.seq (.seq xr14 (xp [true,true,true,true,true,true,true,false,true])) (xp [true,true,true,true,true,true,true,true])))))))):=by kernel_rfl
def m3C(m0 m1 m2:Int):CV:= .agg [.lit (.int .i16 m0),.lit (.int .i16 m1),.lit (.int .i16 m2)]
def tm0(_m0 _m1 _m2:Int)(l:List Int)(m:List (Nat×MV)):List MV:=J3 103 ([(1,.cv (psV l)),(2,.ptr 0 0)]++m)
def mcl(m0 m1 m2:Int):List CV:=[.lit (.int .i16 m0),.lit (.int .i16 m1),.lit (.int .i16 m2)]
def q3(m:Int):Int:=(i64.wrap m).tmod 1001
theorem z5r (m0 m1 m2 : Int) (l : List Int) (hl : l.length ≤ 12)
    (h : ∀ bm, OkX P 14 (.code z06 :: .inLoop z06 :: [.inBlock 0, .code (.seq (xR 13) (.seq (.seq xr14 (xp [true, true, true, true, true, true, true, false, true])) (xp [true, true, true, true, true, true, true, true])))]) ⟨tmX l (q3 m0) (q3 m1) (q3 m2) bm (.cv (.lit (.slice none 0 0))) 0 [], []⟩ (.of (· = .lit (.bool true))) (XM bm [])) :
    PCall P 14 [m3C m0 m1 m2,psV l] (.lit (.bool true)):=by
 refine z1b (todo:=[.code z3l]) (s:=⟨([m3C m0 m1 m2,psV l].map .cv)++List.replicate 101 undefM,[]⟩) (rs:=_) rfl ?_
 rw[zbf]
 refine Ok.step ?_ (fun b a cs w=>step_seq)
 refine Ok.regS (s':=⟨tm0 m0 m1 m2 l [],[some (own (mcl m0 m1 m2))]⟩) (ors:=[]) [1,2] [0] (by kernel_rfl) rfl (.cons (Z6 (mcl m0 m1 m2)) .nil) rfl ?_
 refine Ok.step ?_ (fun b a cs w=>step_seq)
 refine Ok.step ?_ (fun b a cs w=>step_seq)
 refine Ok.regS (s':=⟨tm0 m0 m1 m2 l [(23,.cv (.lit (.bool (decide ((l.length:Int)>12)))))],[some (own (mcl m0 m1 m2))]⟩) (ors:=[(0,.r (.lit (.bool true)))]) [1,2,23] [0] (by kernel_rfl) rfl (.cons z8q (.cons (Z6 (mcl m0 m1 m2)) .nil)) rfl ?_
 refine Ok.cond (t:=decide ((l.length:Int)>12)) (d:=false) rfl (decide_eq_false (by omega)) ?_
 refine Ok.step ?_ (fun b a cs w=>step_skip)
 refine Ok.step ?_ (fun b a cs w=>step_seq)
 refine Ok.regS (s':=⟨J3 103 [(1,.cv (psV l)),(5,.cv (j7 (q3 m0))),(6,.cv (j7 (q3 m1))),(7,.cv (j7 (q3 m2)))],[]⟩) (ors:=[]) [1,5,6,7] [] (by kernel_rfl) rfl (.cons (show(0:Int)≤(0:Int)∧(0:Int)<(3:Int)from(by decide)) (.cons (show(1001:Int)≠(0:Int)from(by decide)) (.cons (show(0:Int)≤(1:Int)∧(1:Int)<(3:Int)from(by decide)) (.cons (show(1001:Int)≠(0:Int)from(by decide)) (.cons (show(0:Int)≤(2:Int)∧(2:Int)<(3:Int)from(by decide)) (.cons (show(1001:Int)≠(0:Int)from(by decide)) .nil)))))) rfl ?_
 refine Ok.step ?_ (fun b a cs w=>step_seq)
 refine Ok.regS (s':=⟨J3 103 [(1,.cv (psV l)),(5,.cv (j7 (q3 m0))),(6,.cv (j7 (q3 m1))),(7,.cv (j7 (q3 m2))),(8,.cv (.lit (.slice none 0 0)))],[]⟩) (ors:=[]) [1,5,6,7,8] [] (by kernel_rfl) rfl .nil rfl ?_
 refine Ok.step ?_ (fun b a cs w=>step_seq)
 refine zlO rfl rfl (fun bm=>?_)
 refine OkX.step ?_ (fun b a cs w=>step_seq)
 refine OkX.step ?_ (fun b a cs w=>step_seq)
 refine OkX.regSM (s':=⟨tmX l (q3 m0) (q3 m1) (q3 m2) bm (.cv (.lit (.slice none 0 0))) 0 [],[]⟩) (ors:=[]) z1Z [] (by kernel_rfl) rfl .nil rfl rfl ?_
 refine OkX.step ?_ (fun b a cs w=>step_block)
 refine OkX.step ?_ (fun b a cs w=>step_loop)
 exact h bm
theorem zeR{m:Int}: -1000≤q3 m∧q3 m≤1000:=by
 unfold q3
 generalize i64.wrap m=x
 have h1:=Int.emod_nonneg x.natAbs (show(1001:Int)≠0 by decide)
 have h2:=Int.emod_lt_of_pos x.natAbs (show(0:Int)<1001 by decide)
 rcases Int.le_total 0 x with h|h
 · rw[Int.tmod_eq_emod_of_nonneg h]
   have:=Int.emod_nonneg x (show(1001:Int)≠0 by decide)
   have:=Int.emod_lt_of_pos x (show(0:Int)<1001 by decide)
   omega
 · have e:x.tmod 1001= -((-x).tmod 1001):=by rw[Int.neg_tmod,Int.neg_neg]
   rw[e,Int.tmod_eq_emod_of_nonneg (by omega)]
   have:=Int.emod_nonneg (-x) (show(1001:Int)≠0 by decide)
   have:=Int.emod_lt_of_pos (-x) (show(0:Int)<1001 by decide)
   omega
theorem szI{v:Int}(h: -1000≤v∧v≤1000):(K.ofInt v).sz≤8000:=Nat.le_trans (K.sz_int (k:=2) v (by decide) (by omega)) (by decide)
theorem zoI{a b c:Int}(ha: -1000≤a∧a≤1000)(hb: -1000≤b∧b≤1000)(hc: -1000≤c∧c≤1000):(oV a b c).raw 8000=true:=
 z0c.2 ⟨by rw[zn6];exact z3f (szI ha),by rw[znb];exact z3f (szI hb),by rw[znd];exact z3f (szI hc)⟩
theorem zoB:(oN 0).raw 1000000=true:=z3f (Nat.le_trans zoy (by decide))
theorem zfl (m0 m1 m2 : Int) (l : List Int) (hl : l.length ≤ 12) (hb : ∀ x ∈ l, 0 ≤ x ∧ x < 256) (hne : l ≠ [])
    (hs:(ksX l).length<3→(z1X (l.map (rdE (q3 m0) (q3 m1) (q3 m2)))).2=20)
    (hm: ¬(ksX l).length<3→z1X (l.map (rdE (q3 m0) (q3 m1) (q3 m2)))=(oV (q3 m0) (q3 m1) (q3 m2),0)∧z9s (l.map (rdE (q3 m0) (q3 m1) (q3 m2))) (oV (q3 m0) (q3 m1) (q3 m2))=(oN 0,0)):
    PCall P 14 [m3C m0 m1 m2,psV l] (.lit (.bool true)):=by
 refine z5r m0 m1 m2 l hl (fun bm=>?_)
 have ha:=zeR (m:=m0)
 have hb1:=zeR (m:=m1)
 have hc:=zeR (m:=m2)
 generalize q3 m0=a at*
 generalize q3 m1=b at*
 generalize q3 m2=c at*
 refine znR rfl hl hb hne ha hb1 hc ?_
 have hlen:(l.map (rdE a b c)).length≤12:=by simpa using hl
 have hn:l.length=(l.map (rdE a b c)).length:=by simp
 refine znY rfl ?_
 generalize hr:l.map (rdE a b c)=rd at*
 refine OkX.step ?_ (fun b a cs w=>step_seq)
 rw[show MV.sl 0 0 l.length 2=MV.sl 0 0 rd.length 2 by rw[hn]]
 refine zoJ (rest:=[]) rfl hlen rfl ?_
 by_cases h3:(ksX l).length<3
 · refine zjX rd (ksX l).length a b c bm (decide_eq_true (by omega)) ?_
   rw[hs h3];rfl
 · obtain⟨e1,e2⟩:=hm h3
   have f1:(z1X rd).1=oV a b c:=by rw[e1]
   refine zlv rd (ksX l).length a b c bm (decide_eq_false (by omega)) (by rw[e1];rfl) (by rw[f1];exact z6T _) (by rw[f1,e2];rfl) hlen (by rw[f1];exact zoI ha hb1 hc) (by omega) (by omega) (by omega) (by rw[f1,e2];exact zoB) z9m ?_
   rw[f1,e2]
   show CV.lit (.bool (z9e (oN 0)==0))=_
   rw[z8R,zga,show K.ofInt 0=(0:K)from rfl,K.sgn_zero.2 rfl];rfl
theorem zoc:z1u 0=⟨K.ofInt 1,K.ofInt 1,K.ofInt 0⟩:=by unfold z1u;congr 1<;>kernel_rfl
theorem zo7:z1u 6=⟨K.ofInt 1,K.ofInt 0,K.ofInt 1⟩:=by unfold z1u;congr 1<;>kernel_rfl
theorem zk8:z1u 12=⟨K.ofInt 1,K.ofInt (-1),K.ofInt 0⟩:=by unfold z1u;congr 1<;>kernel_rfl
theorem zjU:z1u 18=⟨K.ofInt 1,K.ofInt 0,K.ofInt (-1)⟩:=by unfold z1u;congr 1<;>kernel_rfl
noncomputable def zS(a1 a2 a3 b1 b2 b3 c1 c2 c3 d1 d2 d3:Int):S4:=⟨⟨K.ofInt a1,K.ofInt a2,K.ofInt a3⟩,⟨K.ofInt b1,K.ofInt b2,K.ofInt b3⟩,⟨K.ofInt c1,K.ofInt c2,K.ofInt c3⟩,⟨K.ofInt d1,K.ofInt d2,K.ofInt d3⟩⟩
theorem z6p (a1 a2 a3 b1 b2 b3 c1 c2 c3 d1 d2 d3 i o u v : Int) (h : z1u i = ⟨K.ofInt 1, K.ofInt u, K.ofInt v⟩) :
    (zS a1 a2 a3 b1 b2 b3 c1 c2 c3 d1 d2 d3).step (i,o)=zS (a1+1*1) (a2+u*1) (a3+v*1) (b1+1*u) (b2+u*u) (b3+v*u) (c1+1*v) (c2+u*v) (c3+v*v) (d1+1*o) (d2+u*o) (d3+v*o):=by
 unfold S4.step zS
 rw[h]
 simp only[K.ofInt_add,K.ofInt_mul]
 rfl
theorem z7C(a b:Int):K.ofInt (a-b)=K.ofInt a-K.ofInt b:=by
 have h:K.ofInt a=K.ofInt (a-b)+K.ofInt b:=by rw[←K.ofInt_add];congr 1;omega
 rw[h]
 exact(show ∀ρ:Nat→K,ρ 0=ρ 0+ρ 1-ρ 1 from fun ρ=>CR.ring ρ rfl) (CR.vr [_,_])
theorem z6t(a1 a2 a3 b1 b2 b3 c1 c2 c3:Int):z4l ⟨K.ofInt a1,K.ofInt a2,K.ofInt a3⟩ ⟨K.ofInt b1,K.ofInt b2,K.ofInt b3⟩ ⟨K.ofInt c1,K.ofInt c2,K.ofInt c3⟩=K.ofInt (a1*(b2*c3-b3*c2)+a2*(b3*c1-b1*c3)+a3*(b1*c2-b2*c1)):=by
 unfold z4l
 simp only[K.ofInt_add,K.ofInt_mul,z7C]
noncomputable def gS(a b c n0 n1 n2 n3:Int):S4:=zS (n0+n1+n2+n3) (n0-n2) (n1-n3) (n0-n2) (n0+n2) 0 (n1-n3) 0 (n1+n3)
 (a*(n0+n1+n2+n3)+b*(n0-n2)+c*(n1-n3)) (a*(n0-n2)+b*(n0+n2)) (a*(n1-n3)+c*(n1+n3))
theorem zjd (a b c n0 n1 n2 n3 q : Int) (hq : q = 0 ∨ q = 1 ∨ q = 2 ∨ q = 3) : (gS a b c n0 n1 n2 n3).step (6 * q, a + z83 b c q) =
    gS a b c (n0+if q=0 then 1 else 0) (n1+if q=1 then 1 else 0) (n2+if q=2 then 1 else 0) (n3+if q=3 then 1 else 0):=by
 unfold gS
 rcases hq with rfl|rfl|rfl|rfl
 · refine(z6p _ _ _ _ _ _ _ _ _ _ _ _ (6*0) _ 1 0 (by rw[show(6:Int)*0=0 from rfl];exact zoc)).trans ?_
   congr 1<;>simp[z83]<;>grind
 · refine(z6p _ _ _ _ _ _ _ _ _ _ _ _ (6*1) _ 0 1 (by rw[show(6:Int)*1=6 from rfl];exact zo7)).trans ?_
   congr 1<;>simp[z83]<;>grind
 · refine(z6p _ _ _ _ _ _ _ _ _ _ _ _ (6*2) _ (-1) 0 zk8).trans ?_
   congr 1<;>simp[z83]<;>grind
 · refine(z6p _ _ _ _ _ _ _ _ _ _ _ _ (6*3) _ 0 (-1) zjU).trans ?_
   congr 1<;>simp[z83]<;>grind
def cn(q:Int):List Int→Int
 | []=>0
 |p::l=>(if p%4=q then 1 else 0)+cn q l
theorem z3E(q:Int): ∀l,0≤cn q l
 | []=>Int.le_refl _
 |p::l=>by have:=z3E q l;unfold cn;split<;>omega
theorem zjy(p:Int):p%4=0∨p%4=1∨p%4=2∨p%4=3:=by omega
theorem z7e(a b c:Int): ∀(l:List Int) (n0 n1 n2 n3:Int),(l.map (rdE a b c)).foldl S4.step (gS a b c n0 n1 n2 n3)=gS a b c (n0+cn 0 l) (n1+cn 1 l) (n2+cn 2 l) (n3+cn 3 l)
 | [],n0,n1,n2,n3=>by simp only[List.map_nil,List.foldl_nil,cn,Int.add_zero]
 |p::l,n0,n1,n2,n3=>by
  rw[List.map_cons,List.foldl_cons]
  show(l.map (rdE a b c)).foldl S4.step ((gS a b c n0 n1 n2 n3).step (6*(p%4),a+z83 b c (p%4)))=_
  rw[zjd _ _ _ _ _ _ _ _ (zjy p),z7e a b c l]
  simp only[cn,Int.add_assoc]
theorem ziF(a b c:Int):gS a b c 0 0 0 0=S4.zero:=by
 unfold gS zS
 simp only[Int.add_zero,Int.sub_zero,Int.mul_zero]
 rfl
theorem zd0(a b c:Int)(l:List Int):z02 (l.map (rdE a b c))=gS a b c (cn 0 l) (cn 1 l) (cn 2 l) (cn 3 l):=by
 have h:=z7e a b c l 0 0 0 0
 rw[ziF]at h
 simp only[Int.zero_add]at h
 exact h
def e3(n0 n1 n2 n3:Int):Int:=4*(n0*n1*n2+n0*n1*n3+n0*n2*n3+n1*n2*n3)
theorem zgh(a b c n0 n1 n2 n3:Int):z4l (gS a b c n0 n1 n2 n3).a (gS a b c n0 n1 n2 n3).b (gS a b c n0 n1 n2 n3).c=K.ofInt (e3 n0 n1 n2 n3):=by
 unfold gS zS
 dsimp only
 rw[z6t]
 congr 1
 unfold e3
 grind
theorem zjl(a b c n0 n1 n2 n3:Int):z4l (gS a b c n0 n1 n2 n3).d (gS a b c n0 n1 n2 n3).b (gS a b c n0 n1 n2 n3).c=K.ofInt a*K.ofInt (e3 n0 n1 n2 n3):=by
 unfold gS zS
 dsimp only
 rw[z6t,←K.ofInt_mul]
 congr 1
 unfold e3
 grind
theorem zhk(a b c n0 n1 n2 n3:Int):z4l (gS a b c n0 n1 n2 n3).a (gS a b c n0 n1 n2 n3).d (gS a b c n0 n1 n2 n3).c=K.ofInt b*K.ofInt (e3 n0 n1 n2 n3):=by
 unfold gS zS
 dsimp only
 rw[z6t,←K.ofInt_mul]
 congr 1
 unfold e3
 grind
theorem ziR(a b c n0 n1 n2 n3:Int):z4l (gS a b c n0 n1 n2 n3).a (gS a b c n0 n1 n2 n3).b (gS a b c n0 n1 n2 n3).d=K.ofInt c*K.ofInt (e3 n0 n1 n2 n3):=by
 unfold gS zS
 dsimp only
 rw[z6t,←K.ofInt_mul]
 congr 1
 unfold e3
 grind
end Go.Fw
