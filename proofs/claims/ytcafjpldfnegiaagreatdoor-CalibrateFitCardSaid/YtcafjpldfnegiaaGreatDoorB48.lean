/- A part of the proof that the law returns true for every input: an executor for the model's code, and what functions of the program compute. -/
import Derived.Test.YtcafjpldfnegiaaGreatDoorB11
import Derived.Test.YtcafjpldfnegiaaGreatDoorB15
import Derived.Test.YtcafjpldfnegiaaGreatDoorB44
import Derived.Test.YtcafjpldfnegiaaGreatDoorB47
import Derived.KernelRfl
import Derived.Deep.Slices
open Go
namespace Go.Fw
set_option maxRecDepth 100000
theorem z66{α:Type}{l:List α}{k:Nat}{d:α}(h:k<l.length):l.getD k d=l[k]:=by
 rw[List.getD_eq_getElem?_getD,List.getElem?_eq_getElem h];rfl
noncomputable def z2u(rs:List RN):Nat→Nat→Nat→Nat
 |0,_,a=>a
 |d+1,k,a=>z2u rs d (k+1) (if z9n (z0P (rs.getD k .zero)) (z0P (rs.getD a .zero))>0 then k else a)
theorem zfr {R : Goal} (hn : j8 R.n [] = true) (rs : List RN) (hl : rs.length < 2 ^ 30) (hr : ∀ k (hk : k < rs.length), rs[k].raw 100000 = true) (d : Nat) : ∀ k a : Nat, k + d = rs.length → (a < rs.length ∨ d = 0) → R.c (.tup [j5 (z2u rs d k a), j5 0]) →
    Ok P 84 (loopHead P 84 0) ⟨J1 46 [(6,.cv (nmV rs)),(7,.cv (j5 a)),(27,.cv (nmV rs)),(28,.cv (j5 rs.length)),(29,.cv (j5 k))],[]⟩ R:=by
 induction d with
 |zero=>
  intro k a hk _ hR
  exact zlO rs k a .zero .zero (decide_eq_false (by omega)) hR
 |succ d ih=>
  intro k a hk ha hR
  have hk':k<rs.length:=by omega
  have ha':a<rs.length:=by omega
  unfold z2u at hR
  rw[z66 hk',z66 ha']at hR
  have x1:=hr k hk'
  have x2:=hr a ha'
  have y1:rs[k].raw 1000000=true:=RN.raw_mono x1 (by decide)
  have y2:rs[a].raw 1000000=true:=RN.raw_mono x2 (by decide)
  have g1:=U3 z7V hk'
  have g2:=U3 z7V ha'
  by_cases c:z9n (z0P rs[k]) (z0P rs[a])>0
  · rw[if_pos c]at hR
    refine zi8 rs k a rs[k] rs[a] (decide_eq_true (by omega)) (decide_eq_true c) y1 y2 (z2F x1) (z2F x2) (by omega) g1 (by omega) g2 hn ?_
    rw[w64 (by omega)]
    exact ih (k+1) k (by omega) (.inl hk') hR
  · rw[if_neg c]at hR
    refine zlm rs k a rs[k] rs[a] (decide_eq_true (by omega)) (decide_eq_false c) y1 y2 (z2F x1) (z2F x2) (by omega) g1 (by omega) g2 hn ?_
    rw[w64 (by omega)]
    exact ih (k+1) a (by omega) (.inl ha') hR
theorem zga {R : Goal} (hn : j8 R.n [] = true) (rs : List RN) (hl : rs.length < 2 ^ 30) (hr : ∀ k (hk : k < rs.length), rs[k].raw 100000 = true) (d : Nat) : ∀ k a : Nat, (k + d = rs.length ∨ (d = 0 ∧ rs.length ≤ k ∧ k < 2 ^ 31)) → (a < rs.length ∨ d = 0) → R.c (.tup [j5 (z2u rs d k a), j5 0]) →
    Ok P 85 (loopHead P 85 0) ⟨J1 44 [(6,.cv (nmV rs)),(8,.cv (j5 a)),(9,.cv (j5 k))],[]⟩ R:=by
 induction d with
 |zero=>
  intro k a hk _ hR
  exact zkD rs k a .zero .zero (decide_eq_false (by omega)) hR
 |succ d ih=>
  intro k a hk ha hR
  have hk':k<rs.length:=by omega
  have ha':a<rs.length:=by omega
  unfold z2u at hR
  rw[z66 hk',z66 ha']at hR
  have x1:=hr k hk'
  have x2:=hr a ha'
  have y1:rs[k].raw 1000000=true:=RN.raw_mono x1 (by decide)
  have y2:rs[a].raw 1000000=true:=RN.raw_mono x2 (by decide)
  have g1:=U3 z7V hk'
  have g2:=U3 z7V ha'
  by_cases c:z9n (z0P rs[k]) (z0P rs[a])>0
  · rw[if_pos c]at hR
    refine zjC rs k a rs[k] rs[a] (decide_eq_true (by omega)) (decide_eq_true c) y1 y2 (z2F x1) (z2F x2) (by omega) g1 (by omega) g2 hn ?_
    rw[w64 (by omega)]
    exact ih (k+1) k (.inl (by omega)) (.inl hk') hR
  · rw[if_neg c]at hR
    refine zlv rs k a rs[k] rs[a] (decide_eq_true (by omega)) (decide_eq_false c) y1 y2 (z2F x1) (z2F x2) (by omega) g1 (by omega) g2 hn ?_
    rw[w64 (by omega)]
    exact ih (k+1) a (.inl (by omega)) (.inl ha') hR
noncomputable def zaz(l:List (Int×Int)):Int×Int:=if(z0N l).2=0 then((z2u (z7u l (z0N l).1).1 (z7u l (z0N l).1).1.length 0 0:Nat),0)else(0,(z0N l).2)
theorem z8n(x:K):z9n (z0P (kN x)) (z0P (kN x))=0:=by
 unfold z9n
 rw[zno,zhl,zow,zaT]
 exact K.sgn_zero.2 rfl
theorem z58{l:List (Int×Int)}(h:(z0N l).2=0)(hd:z0H l=false∨l.length≤12):z0H l=true∧l.length≤12∧(z0N l).1=kv (z7x l)∧(z7u l (z0N l).1)=(l.map (z2X (kv (z7x l))),0)∧sz3 (z7x l) 8000:=by
 rcases zc6 l with⟨e,he,hf⟩|⟨go,hs,hf⟩
 · rw[hf]at h;exact absurd h he
 · have hl : l.length ≤ 12 := by
     rcases hd with h|h
     · rw[go]at h;cases h
     · exact h
   have r1:(z0N l).1=kv (z7x l):=by rw[hf]
   exact⟨go,hl,r1,by rw[r1,zlA go],zna go hl⟩
theorem zcC{l:List (Int×Int)}(g:z0H l=true){m:V3}(hm:sz3 m 8000): ∀k (hk:k<(l.map (z2X (kv m))).length),(l.map (z2X (kv m)))[k].raw 100000=true:=fun k hk=>by
 have hk':k<l.length:=by simpa using hk
 have e:(l.map (z2X (kv m)))[k]=z2X (kv m) l[k]:=List.getElem_map _
 rw[e,zdn]
 exact z40 (Nat.le_trans (zp0 hm ((z3e g).2 k hk')) (by decide))
theorem zeh(l:List (Int×Int))(hl:l.length<2^30)(hd:z0H l=false∨l.length≤12):PCall P 84 [rdV l] (.tup [j5 (zaz l).1,j5 (zaz l).2]):=by
 unfold zaz
 by_cases h:(z0N l).2=0
 · rw[if_pos h]
   obtain⟨g,hl12,r1,r2,hz⟩:=z58 h hd
   refine X2 (zpg l (zrz h) (zrz (by rw[r2])) hl hd hl (by rw[r1];exact z6p (z0c hz (by decide))) ?_)
   rw[r2]
   dsimp only
   exact zfr rfl _ (by rw[List.length_map];omega) (zcC g hz) (l.map (z2X (kv (z7x l)))).length 0 0 (by omega) (by omega) rfl
 · rw[if_neg h]
   exact zmp l (zrD h) hl hd
theorem zas(l:List (Int×Int))(hl:l.length<2^30)(hd:z0H l=false∨l.length≤12):PCall P 85 [rdV l] (.tup [j5 (zaz l).1,j5 (zaz l).2]):=by
 unfold zaz
 by_cases h:(z0N l).2=0
 · rw[if_pos h]
   obtain⟨g,hl12,r1,r2,hz⟩:=z58 h hd
   refine X2 (zo4 l (zrz h) hl hd hl (by rw[r1];exact z6p (z0c hz (by decide))) ?_)
   rw[r2]
   dsimp only
   have e:z2u (l.map (z2X (kv (z7x l)))) (l.map (z2X (kv (z7x l)))).length 0 0=z2u (l.map (z2X (kv (z7x l)))) ((l.map (z2X (kv (z7x l)))).length-1) 1 0:=by
    generalize hrs:l.map (z2X (kv (z7x l)))=rs
    cases hn:rs.length with
    |zero=>rfl
    |succ n=>
     have h0:0<l.length:=by
      have:rs.length=l.length:=by rw[←hrs,List.length_map]
      omega
     have e0:rs.getD 0 .zero=kN (zqX (z7x l) l[0]):=by
      rw[z66 (show 0<rs.length by omega)]
      subst hrs
      rw[←zdn]
      exact List.getElem_map _
     show z2u rs (n+1) 0 0=z2u rs n 1 0
     conv=>lhs;unfold z2u
     rw[e0,z8n,if_neg (by decide)]
   show Ok P 85 _ _ (.of (· = .tup [j5 (z2u (l.map (z2X (kv (z7x l)))) (l.map (z2X (kv (z7x l)))).length 0 0 : Nat), j5 0]))
   rw[e]
   have hm:(l.map (z2X (kv (z7x l)))).length=l.length:=List.length_map _
   exact zga rfl _ (by omega) (zcC g hz) ((l.map (z2X (kv (z7x l)))).length-1) 1 0 (by omega) (by omega) rfl
 · rw[if_neg h]
   exact zhT l (zrD h) hl hd
end Go.Fw
open Go
namespace Go.Fw
set_option maxRecDepth 100000
theorem zem(l:List (Int×Int))(b:Int)(g:z0H l=true):PCall P 86 [rdV l,j5 b] (.tup [rdV (l.map (z3u b)),j5 0]):=by
 obtain⟨hl,_⟩:=z3e g
 cases l with
 | nil => exact z0a (zha [] b g (by decide) (R := (· = _)) (zj9 [] b 0 0 0 rfl rfl))
 |cons x t=>
  generalize hx:x::t=l at*
  have hne:l≠[]:=by rw[←hx];exact List.cons_ne_nil _ _
  refine zha l b g (by omega) (R := (· = _)) ?_
  refine z32 (s:=2) l (fun x=>rdL (z3u b x)) (fun _=>rfl) (fun k o=>Ok P 86 (loopHead P 86 0) (match o with
   |none=>⟨J1 37 [(0,.cv (rdV l)),(1,.cv (j5 b)),(6,.cv (.lit (.slice none 0 0))),(7,.cv (j5 k))],[]⟩
   | some (c, out) => ⟨J1 37 [(0, .cv (rdV l)), (1, .cv (j5 b)), (6, .sl 0 0 c 2), (7, .cv (j5 k))], [some (own out)]⟩) (.of (· = .tup [rdV (l.map (z3u b)), j5 0]))) ?_ ?_ hne ?_
  · intro k hk h
    refine ziM l b k l[k].1 l[k].2 (decide_eq_true (by omega)) (by omega) (z3V hk) (by omega) (z1L hk) rfl ?_
    rw[w64 (n:=(k:Int)+1) (by omega),zqM]
    exact h
  · intro k hk c out hc ho h
    refine zig l b k l[k].1 l[k].2 c out (decide_eq_true (by omega)) (by omega) (z3V hk) (by omega) (z1L hk) (by omega) (by omega) (by simp[own,ho]) (by simp[z6T,MV.one]) (z7R _ [_,_]) rfl ?_
    rw[w64 (n:=(k:Int)+1) (by omega),zqM]
    have h2 : Ok P 86 (loopHead P 86 0) ⟨J1 37 [(0, .cv (rdV l)), (1, .cv (j5 b)), (6, .sl 0 0 (c + 1) 2), (7, .cv (j5 ((k + 1 : Nat) : Int)))], [some (own (out ++ rdL (z3u b l[k])))]⟩ (.of (· = .tup [rdV (l.map (z3u b)), j5 0])) := h
    rw[z6h]at h2
    exact h2
  · refine zjo l b l.length 0 0 l.length (flat (fun x=>rdL (z3u b x)) l) (decide_eq_false (by omega)) ?_ ?_
    · rw[List.drop_zero,List.take_of_length_le (by simp[own,z0h (f:=fun x=>rdL (z3u b x)) (s:=2) (fun _=>rfl)])];rfl
    · show CV.tup _=CV.tup _
      unfold rdV
      rw[z8w,List.length_map]
theorem zad(l:List (Int×Int))(b:Int)(hl:l.length<2^30):PCall P 86 [rdV l,j5 b] (.tup [rdV (z22 l b).1,j5 (z22 l b).2]):=by
 unfold z22
 cases g:z0H l
 · exact z0a (zm1 l b g hl)
 · exact zem l b g
theorem zaK(l:List (Int×Int))(hl:l.length<2^30):PCall P 87 [rdV l,rdV l] (.lit (.bool true)):=by
 refine znA l l (bne_self_eq_false _) (R := (· = _)) ?_
 refine z4v (fun k => Ok P 87 (loopHead P 87 0) ⟨J1 26 [(0, .cv (rdV l)), (1, .cv (rdV l)), (5, .cv (j5 k))], []⟩ (.of (· = .lit (.bool true)))) l.length ?_ ?_
 · intro k hk h
   have b:(0:Int)≤(k:Int)∧(k:Int)<(l.length:Int):=by omega
   have gt:=U3 z03 hk
   refine ziP l k l[k].1 l[k].2 (decide_eq_true b.2) ?_ b gt b gt rfl ?_
   · rw[beq_self_eq_true,beq_self_eq_true];rfl
   · rw[w64 (by omega)];exact h
 · exact zia l l.length 0 0 (decide_eq_false (by omega)) rfl
end Go.Fw
open Go IntKind
namespace Go.Fw
set_option maxRecDepth 100000
theorem znr(l:List (Int×Int))(b:Int)(g:decide ((↑l.length:Int)>12)=true)(g2:decide ((↑l.length:Int)<49)=true):PCall P 16 [rdV l,j5 b] (.lit (.bool true)):=
 j3 (.r 1 (z4j) (.b 7 g (.b 13 g2 (.r 19 (z4j) .nil)))) (by kernel_rfl)
theorem znF(l:List (Int×Int))(b:Int)(g:decide ((↑l.length:Int)>12)=true)(g2:decide ((↑l.length:Int)<49)=false)(g3:decide ((↑l.length:Int)>52)=true):PCall P 16 [rdV l,j5 b] (.lit (.bool true)):=
 j3 (.r 1 (z4j) (.b 7 g (.b 13 g2 (.b 18 g3 (.r 19 (z4j) .nil))))) (by kernel_rfl)
theorem znY(l:List (Int×Int))(b:Int)(g:decide ((↑l.length:Int)>12)=false)(g3:decide ((↑l.length:Int)>52)=false)(q:(rnB (z0N l).fst.x (z0N l).fst.x&&(rnB (z0N l).fst.y (z0N l).fst.y&&(rnB (z0N l).fst.z (z0N l).fst.z&&true)))=true)(e:((z0N l).snd==(z0N l).snd)=true)(c:((zaz l).fst==(zaz l).fst)=true)(d:((zaz l).snd==(zaz l).snd)=true)(s20_0 s21_0:l.length<2^30)(s21_1:z0H l=false∨l.length≤12)(s29_0:l.length<2^30)(s29_1:z0H l=false∨l.length≤12)(s37_0 s38_0:l.length<2^30)(s38_1:z0H l=false∨l.length≤12)(s45_0:l.length<2^30)(s45_1:z0H l=false∨l.length≤12)(s52_0 s54_0 s62_0:l.length<2^30)(s88_0 s90_0:(z22 l b).1.length<2^30):PCall P 16 [rdV l,j5 b] (.lit (.bool ((z22 l b).2==(z22 l b).2))):=
 j3 (.r 1 (z4j) (.c g (.c g3 (.o 7 (.b false) (.o 18 (.b false) (.r 20 (zbX (l) s20_0) (.r 21 (zqU (l) s21_0 s21_1) (.c (lq 30 30) (.r 29 (zaq (l) s29_0 s29_1) (.c (lq 30 30) (.r 37 (zbX (l) s37_0) (.r 38 (zeh (l) s38_0 s38_1) (.r 45 (zas (l) s45_0 s45_1) (.r 52 (zbX (l) s52_0) (.r 54 (zho (l) (b) s54_0) (.r 62 (zad (l) (b) s62_0) (.c q (.c e (.c c (.c d (.o 71 (.b true) (.o 76 (.b true) (.o 81 (.b true) (.o 86 (.b true) (.r 88 (zaD ((z22 l b).1) s88_0) (.r 90 (zaK ((z22 l b).1) s90_0) .nil)))))))))))))))))))))))))) (by kernel_rfl)
theorem zoX(l:List (Int×Int))(b:Int)(g:decide ((↑l.length:Int)>12)=true)(g2:decide ((↑l.length:Int)<49)=false)(g3:decide ((↑l.length:Int)>52)=false)(q:(rnB (z0N l).fst.x (z0N l).fst.x&&(rnB (z0N l).fst.y (z0N l).fst.y&&(rnB (z0N l).fst.z (z0N l).fst.z&&true)))=true)(e:((z0N l).snd==(z0N l).snd)=true)(c:((zaz l).fst==(zaz l).fst)=true)(d:((zaz l).snd==(zaz l).snd)=true)(s20_0 s21_0:l.length<2^30)(s21_1:z0H l=false∨l.length≤12)(s29_0:l.length<2^30)(s29_1:z0H l=false∨l.length≤12)(s37_0 s38_0:l.length<2^30)(s38_1:z0H l=false∨l.length≤12)(s45_0:l.length<2^30)(s45_1:z0H l=false∨l.length≤12)(s52_0 s54_0 s62_0:l.length<2^30)(s88_0 s90_0:(z22 l b).1.length<2^30):PCall P 16 [rdV l,j5 b] (.lit (.bool ((z22 l b).2==(z22 l b).2))):=
 j3 (.r 1 (z4j) (.c g (.c g2 (.c g3 (.o 7 (.b true) (.o 13 (.b false) (.o 18 (.b false) (.r 20 (zbX (l) s20_0) (.r 21 (zqU (l) s21_0 s21_1) (.c (lq 30 30) (.r 29 (zaq (l) s29_0 s29_1) (.c (lq 30 30) (.r 37 (zbX (l) s37_0) (.r 38 (zeh (l) s38_0 s38_1) (.r 45 (zas (l) s45_0 s45_1) (.r 52 (zbX (l) s52_0) (.r 54 (zho (l) (b) s54_0) (.r 62 (zad (l) (b) s62_0) (.c q (.c e (.c c (.c d (.o 71 (.b true) (.o 76 (.b true) (.o 81 (.b true) (.o 86 (.b true) (.r 88 (zaD ((z22 l b).1) s88_0) (.r 90 (zaK ((z22 l b).1) s90_0) .nil)))))))))))))))))))))))))))) (by kernel_rfl)
end Go.Fw
open Go
namespace Go.Fw
set_option maxRecDepth 100000
theorem z8d(l:List (Int×Int))(b:Int):(z22 l b).1.length≤l.length:=by
 unfold z22
 split
 · simp
 · simp
theorem za6(l:List (Int×Int))(b:Int):PCall P 16 [rdV l,j5 b] (.lit (.bool true)):=by
 cases g:decide ((l.length:Int)>12)
 · have hl:l.length≤12:=by have:=of_decide_eq_false g;omega
   have t:=z8d l b
   have s:l.length<2^30:=by omega
   have ts:(z22 l b).1.length<2^30:=by omega
   exact(znY l b g (decide_eq_false (by omega)) (z5n _) (beq_self_eq_true _) (beq_self_eq_true _) (beq_self_eq_true _) s s (.inr hl) s (.inr hl) s s (.inr hl) s (.inr hl) s s s ts ts).eqB (beq_self_eq_true _)
 · cases g2:decide ((l.length:Int)<49)
   · cases g3:decide ((l.length:Int)>52)
     · have hl:l.length≤52:=by have:=of_decide_eq_false g3;omega
       have hl2:49≤l.length:=by have:=of_decide_eq_false g2;omega
       have bad:z0H l=false:=by
        unfold z0H
        rw[decide_eq_false (by omega)];rfl
       have t:=z8d l b
       have s:l.length<2^30:=by omega
       have ts:(z22 l b).1.length<2^30:=by omega
       exact(zoX l b g g2 g3 (z5n _) (beq_self_eq_true _) (beq_self_eq_true _) (beq_self_eq_true _) s s (.inl bad) s (.inl bad) s s (.inl bad) s (.inl bad) s s s ts ts).eqB (beq_self_eq_true _)
     · exact znF l b g g2 g3
   · exact znr l b g g2
end Go.Fw
open Go
namespace Go.Fw
theorem zi0(l:List (Int×Int))(b:Int):PCall P 16 [rdV l,j5 b] (.lit (.bool true)):=za6 l b
end Go.Fw
open Go Go.Proofs Go.Proofs.YtcafjpldfnegiaaGreatDoor
namespace Go.Fw
open Go.ChangeShapes Go.WideShapes Go.ChangeAt Go.RowKit
set_option maxRecDepth 100000
theorem zbm{α:Type}[Inhabited α] {n:Nat}{q:Nat→α→Prop}(h: ∀i,i<n→ ∃x,q i x): ∃f:Nat→α,∀i,i<n→q i (f i):=
 ⟨fun i=>if hi:i<n then(h i hi).choose else default,fun i hi=>by simp only[dif_pos hi];exact(h i hi).choose_spec⟩
theorem z6J {w : World} {base : Nat} {a : Addr} {n : Nat} {cs : List Value} (h : w.cells? base a n = some cs) (hn : 0 < n) :
    a.spot=none∧ ∃c T fz,w.heap[a.block]?=some (.cells c T fz)∧(c.toList.drop a.off).take n=cs:=by
 obtain⟨_,hlen,hi⟩:=World.cells?_some h
 have h0:=hi 0 hn
 have e0:a.add 0=a:=rfl
 rw[e0]at h0
 unfold World.cell? at h0
 split at h0
 · rename_i c T fz hc
   split at h0
   · rw[List.getElem?_eq_getElem (by omega)]at h0;cases h0
   · rename_i hs
     have hspot:a.spot=none:=by cases e:a.spot with|none=>rfl|some s=>rw[e]at hs;exact absurd rfl hs
     refine⟨hspot,c,T,fz,hc,?_⟩
     refine List.ext_getElem? fun i=>?_
     by_cases hin:i<n
     · rw[List.getElem?_take_of_lt hin,List.getElem?_drop,←hi i hin]
       unfold World.cell? Addr.add
       by_cases hi0:i=0
       · subst hi0
         rw[if_pos rfl,hc]
         simp[hspot]
       · rw[if_neg hi0,hc]
         simp
     · rw[List.getElem?_eq_none (by rw[List.length_take];omega),List.getElem?_eq_none (by omega)]
 · rw[List.getElem?_eq_getElem (by omega)]at h0;cases h0
def zmi(b:Nat)(cs:List Value):Imm:=fun k=>if k=b then some cs else none
theorem zal(Im:Imm): ∀l:List Value,CV.repL Im (l.map .lit) l
 | []=>by simp only[List.map_nil,CV.repL]
 |x::l=>by
  simp only[List.map_cons,CV.repL]
  exact⟨x,l,rfl,by simp only[CV.rep],zal Im l⟩
def zqN(x:Int×Int):List Value:=[.int .i64 x.1,.int .i64 x.2]
theorem zeu(l:List (Int×Int)):flat rdL l=(l.flatMap zqN).map .lit:=by
 induction l with
 |nil=>rfl
 |cons x l ih=>rw[z12,ih,List.flatMap_cons,List.map_append];rfl
theorem z9B(a:Addr)(n:Nat):(a.add n).block=a.block∧(a.add n).off=a.off+n:=by
 unfold Addr.add
 split
 · rename_i h;subst h;exact⟨rfl,rfl⟩
 · exact⟨rfl,rfl⟩
section
variable{H:Type}{enc:TypeId×Value→H}{W:World}{base:Nat}{sp:Nat→Bool}{hd:Bool}
theorem zgG {t e : TypeId} {v : Value} {d : DataW H} {ps : List MemPlace} (hu : Tryz.prog.underlying t = some (.slice e)) (he : z75 Tryz.prog 8 e = some [.i .i64, .i .i64]) (hc : Tryz.prog.cellsOf e = 2) (hv : ∃ a len cap, v = .slice a len cap) (h : DataW.Trod enc Tryz.prog W base sp hd t v d ps) :
    ∃l:List (Int×Int),∃Im:Imm,ImOk Im W∧(rdV l).rep Im v:=by
 obtain⟨fuel,hx⟩:=h
 obtain⟨a0,len0,cap0,rfl⟩:=hv
 rcases Deep.open_slice hu hx with⟨h1,_⟩|⟨a,len,cap,m,n,D,Pl,h1,hb,hl,hm,hmm,_,hel⟩
 · simp only[Value.cells,List.cons.injEq,and_true]at h1
   injection h1 with e1 e2 e3
   subst e1 e2 e3
   refine⟨[],fun _=>none,(fun b cs hb=>by cases hb),?_⟩
   unfold rdV CV.rep
   exact⟨none,0,rfl,Nat.le_refl _,.inl ⟨rfl,rfl⟩⟩
 · simp only[Value.cells,List.cons.injEq,and_true]at h1
   injection h1 with e1 e2 e3
   subst e1
   obtain rfl:=e2.symm
   obtain rfl:=e3.symm
   have hlm:len≤m:=by rw[hmm];split<;>omega
   rw[hc]at hel
   obtain⟨f,hf⟩:=zbm (α:=Int×Int) (n:=len) (q:=fun i x=>W.cells? base (a.add (i*2)) 2=some (zqN x)) (fun i hi=>by
    obtain⟨cs,k1,k2⟩:=hel i (by omega)
    have k3:=z6m 8 n e cs _ _ k2 he
    simp only[CTs,CT.ok]at k3
    obtain⟨_,_,rfl,⟨x,rfl,_⟩,_,_,rfl,⟨y,rfl,_⟩,rfl⟩:=k3
    exact⟨(x,y),k1⟩)
   by_cases h0:len=0
   · subst h0
     refine⟨[],fun _=>none,(fun b cs hb=>by cases hb),?_⟩
     unfold rdV CV.rep
     exact⟨some a,cap,rfl,hl,.inl ⟨rfl,rfl⟩⟩
   · obtain⟨hs,c,T,fz,hcell,_⟩:=z6J (hf 0 (by omega)) (by decide)
     rw[(z9B a (0*2)).1]at hcell
     have hs':a.spot=none:=hs
     have step: ∀k,k<len→(c.toList.drop (a.off+k*2)).take 2=zqN (f k):=fun k hk=>by
      obtain⟨_,c',T',fz',h2,h3⟩:=z6J (hf k hk) (by decide)
      rw[(z9B a (k*2)).1,hcell]at h2
      injection h2 with h2
      injection h2 with h2
      subst h2
      rw[(z9B a (k*2)).2]at h3
      exact h3
     have all: ∀k,k≤len→(c.toList.drop a.off).take (k*2)=((List.range k).map f).flatMap zqN:=by
      intro k
      induction k with
      |zero=>intro _;simp
      |succ k ih=>
       intro hk
       rw[List.range_succ,List.map_append,List.flatMap_append,←ih (by omega),Nat.succ_mul,List.take_add,List.drop_drop,step k (by omega)]
       simp
     refine⟨(List.range len).map f,zmi a.block c.toList,?_,?_⟩
     · intro b cs hbb
       unfold zmi at hbb
       split at hbb
       · rename_i hbe
         subst hbe
         injection hbb with hbb
         exact⟨c,T,fz,hcell,hbb⟩
       · cases hbb
     · unfold rdV CV.rep
       have hlen:(flat rdL ((List.range len).map f)).length=len*2:=by rw[z0h z03,List.length_map,List.length_range]
       refine⟨some a,cap,by rw[List.length_map,List.length_range],by rw[List.length_map,List.length_range];exact hl,.inr ⟨a.block,a.off,c.toList,?_,?_,?_⟩⟩
       · rw[←hs']
       · unfold zmi;rw[if_pos rfl]
       · rw[hlen,all len (Nat.le_refl _),zeu]
         exact zal _ _
end
theorem zce {f : FuncId} {cs : List CV} {W : World} {args : Array Value} (Im : Imm) (him : ImOk Im W) (h : PCall P f cs (.lit (.bool true))) (ha : CV.repL Im cs args.toList) :
    Calls Tryz.prog f args W fun e W'=>e= .returned (.bool true)∧Below W.heap.size W W':=by
 refine(h Im W args him ha).mono ?_
 rintro e W' ⟨y,v,I',rfl,rfl,hv,_,_,hb,_⟩
 simp only[CV.rep]at hv
 subst hv
 exact⟨rfl,hb⟩
end Go.Fw
open Go Go.Proofs Go.Proofs.YtcafjpldfnegiaaGreatDoor
namespace Go.Fw
open Go.ChangeShapes Go.WideShapes Go.ChangeAt Go.RowKit
set_option maxRecDepth 100000
theorem zdt {H : Type} {enc : TypeId × Value → H} (W : World) (base : Nat) (args : Array Value) (ds gs : List (DataW H)) (before : List MemPlace)
    (hval: ∀(j:Nat) t v,Tryz.f16.params[j]?=some t→args[j]?=some v→Value.okWide Tryz.prog W .any base t v)
    (hW:DataW.Whole enc Tryz.prog Tryz.f16.params.toList Rows.calibrateFitSpec.vars false W args.toList ds gs before):
    Calls Tryz.prog 16 args W fun e W'=>e= .returned (.bool true)∧Below W.heap.size W W':=by
 obtain⟨p,q,hA,hV,_,_,_⟩:=hW
 rw[Tryz.params16]at hA hval
 obtain⟨v0,vs0,d0,ds0,p0,q0,ha0,hd0,_,h0,r0⟩:=trodAll_cons hA
 obtain⟨v1,vs1,d1,ds1,p1,q1,ha1,hd1,_,h1,r1⟩:=trodAll_cons r0
 obtain⟨hz,hzd,_⟩:=trodAll_nil r1
 subst hz ha1
 obtain rfl:args= #[v0,v1]:=by cases args;simp_all
 obtain⟨l0,Im,him,rp0⟩:=zgG Tryz.underlying68 (by kernel_rfl) (by kernel_rfl) (okWide_slice Tryz.underlying68 (hval 0 68 v0 rfl rfl)) h0
 obtain⟨n1,rfl,_,_,hw1⟩:=open_int Tryz.underlying3 (hval 1 3 v1 rfl rfl) h1
 exact zce Im him (zi0 l0 n1) ⟨_,_,rfl,rp0,⟨_,_,rfl,rfl,rfl⟩⟩
end Go.Fw
