/-
  Joined by program out of the texts Book6 Book7 Book8 Book1 Book3 Book4 Book5 Book9 Book2.
-/
import Derived.Test.YtefaigjfkddelaaGreatDoorRkJ
import Derived.Test.YtefaigjfkddelaaGreatDoorRkE
import Derived.Test.YtefaigjfkddelaaGreatDoorRkI
import Derived.Test.YtefaigjfkddelaaGreatDoorRkG
namespace Go.Proofs.YtefaigjfkddelaaGreatDoor
open Go Go.E
theorem JG {α:Type} {l:List α} {x y:α} {r:Nat} (h:(l++[x])[r]?=some y):(r<l.length∧l[r]?=some y)∨(r=l.length∧y=x):=by
 rcases Nat.lt_trichotomy r l.length with h1 | h1 | h1
 ·rw [List.getElem?_append_left h1] at h;exact .inl ⟨h1,h⟩
 ·subst h1;rw [List.getElem?_append_right (Nat.le_refl _)] at h;simp at h;exact .inr ⟨rfl,h.symm⟩
 ·rw [List.getElem?_eq_none (by simp;omega)] at h;cases h
structure C8 (lo:Nat) (w:World) (xs:List Value) (l:List (List (List UInt8))) (f:Nat→Nat) (V:List Nat):Prop where
 len:xs.length=l.length
 val:∀(r:Nat) (x:List (List UInt8)),l[r]?=some x→∃u,xs[r]?=some u∧Av (λa=>a=⟨f r,0,none⟩) w u x
 blk:∀(r:Nat) (x:List (List UInt8)),l[r]?=some x→x≠[]→lo≤f r∧f r∉V∧∃sp,Blk w (f r) (x.map Aj++sp) 9
 inj:∀(r q:Nat) (x y:List (List UInt8)),l[r]?=some x→l[q]?=some y→x≠[]→y≠[]→f r=f q→r=q
theorem C8.nil {lo:Nat} {w:World} {f:Nat→Nat} {V:List Nat}:C8 lo w [] [] f V:=⟨rfl,by simp,by simp,by simp⟩
theorem C8.chg {lo:Nat} {w w':World} {xs:List Value} {l:List (List (List UInt8))} {f:Nat→Nat} {V S:List Nat} (h:C8 lo w xs l f V) (x:Chg S w w') (hs:∀(r:Nat) (y:List (List UInt8)),l[r]?=some y→y≠[]→f r∉S):C8 lo w' xs l f V:=
 ⟨h.len,λr y hr=>let ⟨u,h1,h2⟩:=h.val r y hr;⟨u,h1,h2.chg x (λhn a ha=>by rw [ha];exact hs r y hr hn)⟩,λr y hr hn=>let ⟨h1,h2,sp,h3⟩:=h.blk r y hr hn;⟨h1,h2,sp,h3.chg x (hs r y hr hn)⟩,h.inj⟩
theorem C8.ext {lo:Nat} {w w':World} {xs:List Value} {l:List (List (List UInt8))} {f:Nat→Nat} {V:List Nat} (h:C8 lo w xs l f V) (x:Ae w w'):C8 lo w' xs l f V:=h.chg x (by simp)
theorem C8.over {lo:Nat} {w:World} {xs:List Value} {l:List (List (List UInt8))} {f:Nat→Nat} {V V':List Nat} (h:C8 lo w xs l f V) (hV:∀b,b∈V'→b∈V∨w.heap.size≤b):C8 lo w xs l f V':=
 ⟨h.len,h.val,λr y hr hn=>let ⟨h1,h2,sp,h3⟩:=h.blk r y hr hn;⟨h1,λhb=>(hV _ hb).elim h2 (λh4=>by have:=h3.lt;omega),sp,h3⟩,h.inj⟩
theorem C8.push {lo:Nat} {w:World} {xs:List Value} {l:List (List (List UInt8))} {f:Nat→Nat} {V:List Nat} (h:C8 lo w xs l f V) {u:Value} {x:List (List UInt8)} {g:Nat} (hu:Av (λa=>a=⟨g,0,none⟩) w u x) (hg:x≠[]→lo≤g∧g∉V∧(∀r y,l[r]?=some y→y≠[]→g≠f r)∧∃sp,Blk w g (x.map Aj++sp) 9):C8 lo w (xs++[u]) (l++[x]) (λr=>if r=l.length then g else f r) V:=by
 refine ⟨by simp [h.len],λr y hr=>?_,λr y hr hn=>?_,λr q y z hr hq hy hz hf=>?_⟩
 ·rcases JG hr with ⟨h1,h2⟩ | ⟨rfl,rfl⟩
  ·obtain ⟨v,h3,h4⟩:=h.val r y h2;refine ⟨v,by rw [List.getElem?_append_left (by rw [h.len];exact h1)];exact h3,?_⟩;rw [if_neg (by omega)];exact h4
  ·refine ⟨u,by rw [←h.len,List.getElem?_append_right (Nat.le_refl _)];simp,?_⟩;rw [if_pos rfl];exact hu
 ·rcases JG hr with ⟨h1,h2⟩ | ⟨rfl,rfl⟩
  ·rw [if_neg (by omega)];exact h.blk r y h2 hn
  ·rw [if_pos rfl];obtain ⟨h1,h2,_,h4⟩:=hg hn;exact ⟨h1,h2,h4⟩
 ·rcases JG hr with ⟨h1,h2⟩ | ⟨rfl,rfl⟩<;>rcases JG hq with ⟨h3,h4⟩ | ⟨rfl,rfl⟩
  ·rw [if_neg (by omega),if_neg (by omega)] at hf;exact h.inj r q y z h2 h4 hy hz hf
  ·rw [if_neg (by omega),if_pos rfl] at hf;exact absurd hf.symm ((hg hz).2.2.1 r y h2 hy)
  ·rw [if_pos rfl,if_neg (by omega)] at hf;exact absurd hf ((hg hy).2.2.1 q z h4 hz)
  ·rfl
structure BT (lo:Nat) (w:World) (v:Value) (l:List (List (List UInt8))) (f:Nat→Nat):Prop where
 own:∃xs,Ax w lo 26 1 v l.length xs∧C8 lo w xs l f (Af v)
 small:l.length≤1000000
def FG (v:Value) (l:List (List (List UInt8))) (f:Nat→Nat) (b:Nat):Prop:=b∈Af v∨∃(r:Nat) (x:List (List UInt8)),l[r]?=some x∧x≠[]∧b=f r
theorem BT.chg {lo:Nat} {w w':World} {v:Value} {l:List (List (List UInt8))} {f:Nat→Nat} {S:List Nat} (h:BT lo w v l f) (x:Chg S w w') (hs:∀b,FG v l f b→b∉S):BT lo w' v l f:=
 let ⟨xs,h1,h2⟩:=h.own
 ⟨⟨xs,h1.chg x (λb hb=>hs b (.inl hb)),h2.chg x (λr y hr hn=>hs _ (.inr ⟨r,y,hr,hn,rfl⟩))⟩,h.small⟩
theorem BT.ext {lo:Nat} {w w':World} {v:Value} {l:List (List (List UInt8))} {f:Nat→Nat} (h:BT lo w v l f) (x:Ae w w'):BT lo w' v l f:=h.chg x (by simp)
theorem BT.lt {lo:Nat} {w:World} {v:Value} {l:List (List (List UInt8))} {f:Nat→Nat} (h:BT lo w v l f) {b:Nat} (hb:FG v l f b):lo≤b∧b<w.heap.size:=by
 obtain ⟨xs,h1,h2⟩:=h.own;rcases hb with hb | ⟨r,x,hr,hn,rfl⟩
 ·exact h1.lt hb
 ·obtain ⟨h3,_,sp,h4⟩:=h2.blk r x hr hn;exact ⟨h3,h4.lt⟩
theorem BT.low {lo lo':Nat} {w:World} {v:Value} {l:List (List (List UInt8))} {f:Nat→Nat} (h:BT lo w v l f) (hl:lo'≤lo):BT lo' w v l f:=
 let ⟨xs,h1,h2⟩:=h.own
 ⟨⟨xs,h1.low hl,⟨h2.len,h2.val,λr x hr hn=>let ⟨h3,h4⟩:=h2.blk r x hr hn;⟨by omega,h4⟩,h2.inj⟩⟩,h.small⟩
theorem Ii:∀(xs:List Value),(xs.map λu=>[u]).flatten=xs
 | []=>rfl
 | x::r=>by simp [Ii r]
abbrev WN (lo:Nat):Addr→Prop:=λa=>lo≤a.block
theorem BT.fresh {lo:Nat} {w:World} {v:Value} {l:List (List (List UInt8))} {f:Nat→Nat} (h:BT lo w v l f):AJ (WN lo) (λ_=>WN lo) w v l:=by
 obtain ⟨xs,h1,h2⟩:=h.own;have:Dg 1 lo 26 (X1 λr a=>a=⟨f r,0,none⟩) w v l:=by
  refine ⟨xs.map λu=>[u],by simp [h2.len],by simp,by rw [Ii];exact h1,λi x cs hi hc=>?_⟩;obtain ⟨u,h3,h4⟩:=h2.val i x hi;rw [List.getElem?_map,h3] at hc;simp at hc;exact ⟨u,hc.symm,h4⟩
 refine Az.map (this.list (ok:=WN lo) h.small (λg hg _=>(h1.lt hg).1)) (λ_ h=>h) λi x cs hi ⟨u,e,ht⟩=>⟨u,e,?_⟩;by_cases hn:x=[]
 ·subst hn;obtain ⟨k0,⟨e1,e2⟩ | ⟨a,c,e1,_,h5⟩⟩:=ht
  ·exact ⟨k0,.inl ⟨e1,e2⟩⟩
  ·exact ⟨k0,.inr ⟨a,c,e1,λh=>absurd rfl h,h5⟩⟩
 ·exact Az.map ht (λa ha=>by
   subst ha;exact (h2.blk i x hi hn).1) λ_ _ _ _ h=>h
theorem BT.list {lo:Nat} {w:World} {v:Value} {l:List (List (List UInt8))} {f:Nat→Nat} (h:BT lo w v l f):Dx w v l:=AJ.of h.fresh
structure Df (lo:Nat) (w:World) (k:Nat) (b:A1) (rv:Nat→Value) (f:Nat→Nat→Nat) (V:List Nat):Prop where
 rows:∀(i:Nat) (s:Aq),i<k→b[i]?=some s→BT lo w (rv i) s.rows (f i)
 apartV:∀(i:Nat) (s:Aq),i<k→b[i]?=some s→∀x,FG (rv i) s.rows (f i) x→x∉V
 apart:∀(i j:Nat) (s u:Aq),i<k→j<k→i≠j→b[i]?=some s→b[j]?=some u→∀x,FG (rv i) s.rows (f i) x→¬FG (rv j) u.rows (f j) x
theorem Df.zero {lo:Nat} {w:World} {b:A1} {rv:Nat→Value} {f:Nat→Nat→Nat} {V:List Nat}:Df lo w 0 b rv f V:=⟨by simp,by simp,by simp⟩
theorem Df.chg {lo:Nat} {w w':World} {k:Nat} {b:A1} {rv:Nat→Value} {f:Nat→Nat→Nat} {V S:List Nat} (h:Df lo w k b rv f V) (x:Chg S w w') (hs:∀(i:Nat) (s:Aq),i<k→b[i]?=some s→∀y,FG (rv i) s.rows (f i) y→y∉S):Df lo w' k b rv f V:=
 ⟨λi s hk hi=>(h.rows i s hk hi).chg x (hs i s hk hi),h.apartV,h.apart⟩
theorem Df.ext {lo:Nat} {w w':World} {k:Nat} {b:A1} {rv:Nat→Value} {f:Nat→Nat→Nat} {V:List Nat} (h:Df lo w k b rv f V) (x:Ae w w'):Df lo w' k b rv f V:=h.chg x (by simp)
theorem Df.over {lo:Nat} {w:World} {k:Nat} {b:A1} {rv:Nat→Value} {f:Nat→Nat→Nat} {V V':List Nat} (h:Df lo w k b rv f V) (hV:∀b,b∈V'→b∈V∨w.heap.size≤b):Df lo w k b rv f V':=
 ⟨h.rows,λi s hk hi x hx hb=>(hV x hb).elim (h.apartV i s hk hi x hx) (λh4=>by have:=((h.rows i s hk hi).lt hx).2;omega),h.apart⟩
theorem Df.push {lo:Nat} {w:World} {k:Nat} {b:A1} {rv:Nat→Value} {f:Nat→Nat→Nat} {V:List Nat} (h:Df lo w k b rv f V) {s:Aq} (hs:b[k]?=some s) {u:Value} {g:Nat→Nat} (hu:BT lo w u s.rows g) (hV:∀x,FG u s.rows g x→x∉V) (hA:∀(i:Nat) (t:Aq),i<k→b[i]?=some t→∀x,FG (rv i) t.rows (f i) x→¬FG u s.rows g x) :
  Df lo w (k+1) b (λi=>if i=k then u else rv i) (λi=>if i=k then g else f i) V:=by
 refine ⟨λi t hk hi=>?_,λi t hk hi x hx=>?_,λi j t z hk a1 a0 hi hj x hx=>?_⟩
 ·by_cases e:i=k
  ·subst e;rw [hs] at hi;obtain rfl:=Option.some.inj hi;simp only [if_pos];exact hu
  ·simp only [if_neg e];exact h.rows i t (by omega) hi
 ·by_cases e:i=k
  ·subst e;rw [hs] at hi;obtain rfl:=Option.some.inj hi;simp only [if_pos] at hx;exact hV x hx
  ·simp only [if_neg e] at hx;exact h.apartV i t (by omega) hi x hx
 ·by_cases e:i=k
  ·subst e;rw [hs] at hi;obtain rfl:=Option.some.inj hi;have e2:j≠i:=λe=>a0 e.symm;simp only [if_pos,if_neg e2] at hx ⊢;exact λhy=>hA j z (by omega) hj x hy hx
  ·by_cases e2:j=k
   ·subst e2;rw [hs] at hj;obtain rfl:=Option.some.inj hj;simp only [if_pos,if_neg e] at hx ⊢;exact hA i t (by omega) hi x hx
   ·simp only [if_neg e,if_neg e2] at hx ⊢;exact h.apart i j t z (by omega) (by omega) a0 hi hj x hx
theorem Km {w:World} {lo:Nat} {v:Value} {l:List (List UInt8)} (h:Ax w lo 9 1 v l.length (l.map Aj)) (hl:l.length≤1000000) (hs:∀s∈l,s.length≤1000000):∃g,Av (λa=>a=⟨g,0,none⟩) w v l∧(l≠[]→lo≤g∧∃sp,Blk w g (l.map Aj++sp) 9):=by
 have h0:=h;obtain ⟨hx,⟨rfl,e⟩ | ⟨g,cap,sp,rfl,hB,h1,h2,h3⟩⟩:=h
 ·have:l=[]:=List.eq_nil_of_length_eq_zero e;subst this;exact ⟨0,Az.nil,λh=>absurd rfl h⟩
 ·have hO:Dg 1 lo 9 WE w (.slice (some ⟨g,0,none⟩) l.length cap) l:=by
   refine ⟨(l.map Aj).map λu=>[u],by simp,by simp,by rw [Ii];exact h0,λi x cs hi hc=>?_⟩;rw [List.getElem?_map,List.getElem?_map,hi] at hc;simp at hc;exact ⟨hc.symm,hs x (List.mem_of_getElem? hi)⟩
  exact ⟨g,hO.list hl (λb hb _=>by simp [Af] at hb;rw [hb]),λ_=>⟨h3,sp,hB⟩⟩
theorem C8.low {lo lo':Nat} {w:World} {xs:List Value} {l:List (List (List UInt8))} {f:Nat→Nat} {V:List Nat} (h:C8 lo w xs l f V) (hl:lo'≤lo):C8 lo' w xs l f V:=⟨h.len,h.val,λr x hr hn=>let ⟨h3,h4⟩:=h.blk r x hr hn;⟨by omega,h4⟩,h.inj⟩
theorem Ti (s:Aq) (rp:Option Addr) (rl rc A:Nat) (x:List UInt8) (w:World) (hA:Blk w A [Aj x] 9):AA Tryz.prog 64 [.agg ⟨AB s (.slice rp rl rc)⟩,.pointer (some ⟨A,0,none⟩)] w (λv w'=>v=.bool (decide (s.name=x))∧Ae w w'):=by
 refine AL Tryz.func64 Tryz.ntmps64 ?_;refine Sa ?_;refine CZ λX w1 a1 a0 hX=>?_;replace hX:Blk w1 X (AB s (.slice rp rl rc)) 41:=hX;replace hA:=hA.ext a0;refine Sa ?_;exact QW.body1 Tryz.results64 rfl ⟨by simp,a0⟩
theorem OB (b:List Aq) (sv:Value) (A:Nat) (x:List UInt8) (w:World) (h:Cs w sv b) (hA:Blk w A [Aj x] 9):AA Tryz.prog 63 [sv,.func (.func 64) ⟨[]⟩ ⟨[.pointer (some ⟨A,0,none⟩)]⟩] w (λv w'=>v=.int .i64 (Ro (N5 b x))∧Ae w w'):=by
 obtain ⟨p,c,rfl⟩:=h.slice;have hl:=h.1;refine AL Tryz.func63 Tryz.ntmps63 ?_;refine Sa ?_;refine CW.loop (ι:=Nat) (λk w'=>k≤b.length∧Ae w w'∧∀i u,i<k→b[i]?=some u→u.name≠x) (λk=>[(0,.slice p b.length c),(1,.func (.func 64) ⟨[]⟩ ⟨[.pointer (some ⟨A,0,none⟩)]⟩),(7,.int .i64 b.length),(8,.int .i64 k)]) (λk=>b.length - k) 0 ⟨by omega,Chg.refl _ _,λi u h=>by omega⟩ BN ?_;rintro k w1 ⟨hk,hx,a1⟩;replace h:=h.ext hx;replace hA:=hA.ext hx;refine Sa ?_;refine Am (λh2=>?_) λh2=>?_
 ·have h2:k<b.length:=by simp at h2;omega
  obtain ⟨s,hs⟩:∃s,b[k]?=some s:=⟨_,List.getElem?_eq_getElem h2⟩;obtain ⟨a,q,kc,rfl,-,a3,hr,a0⟩:=h.at hs;refine Sa ?_;refine Lo ?_;refine LW.load_cells rfl a0 rfl rfl rfl rfl ?_;refine Sa ?_;refine LW.call (fs:=[]) (cs:=[.pointer (some ⟨A,0,none⟩)]) rfl rfl rfl (Ti s _ _ _ A x w1 hA) ?_;rintro v w2 ⟨rfl,a2⟩;refine Sa ?_;refine Am (λh3=>?_) λh3=>?_
  ·have h3:s.name=x:=by simpa using h3
   refine Sa ?_;exact QW.body1 Tryz.results63 rfl ⟨by rw [U2 hs h3 a1];rfl,hx.trans a2⟩
  ·have h3:s.name≠x:=by simpa using h3
   refine Sa ?_;refine QW.again (k+1) ⟨by omega,hx.trans a2,λi u hi hu=>?_⟩ BN (by omega);rcases Nat.lt_or_ge i k with h4 | h4
   ·exact a1 i u h4 hu
   ·obtain rfl:i=k:=by omega
    rw [hs] at hu;obtain rfl:=Option.some.inj hu;exact h3
 ·have h2:k=b.length:=by simp at h2;omega
  subst h2;refine Sa ?_;refine QW.body1 Tryz.results63 rfl ⟨?_,hx⟩;rw [Pj (λi s hi hs=>a1 i s hi hs)];rfl
theorem OY (b:List Aq) (sv:Value) (x:List UInt8) (w:World) (h:Cs w sv b):AA Tryz.prog 45 [.agg ⟨[sv]⟩,Aj x] w (λv w'=>v=.int .i64 (Ro (N5 b x))∧Ae w w'):=by
 obtain ⟨p,c,rfl⟩:=h.slice;refine AL Tryz.func45 Tryz.ntmps45 ?_;refine Sa ?_;refine CZ λB w1 a4 a2 hB=>?_;replace hB:Blk w1 B [.slice p b.length c] 29:=hB;refine Sa ?_;refine CZ λA w2 a5 a1 hA=>?_;replace hA:Blk w2 A [Aj x] 9:=hA;replace hB:=hB.ext a1;have a0:=a2.trans a1;refine Sa ?_;refine Ap rfl rfl (OB b _ A x w2 (h.ext a0) hA) ?_;rintro v w3 ⟨rfl,a3⟩;refine Sa ?_;exact QW.body1 Tryz.results45 rfl ⟨rfl,a0.trans a3⟩
theorem NY (b:List Aq) (sv:Value) (x:List UInt8) (w:World) (h:Cs w sv b):AA Tryz.prog 49 [.agg ⟨[sv]⟩,Aj x] w (λv w'=>v=.int .i64 (Ro (N5 b x))∧Ae w w'):=by
 obtain ⟨p,c,rfl⟩:=h.slice;have hl:=h.1;refine AL Tryz.func49 Tryz.ntmps49 ?_;refine Sa ?_;refine CZ λB w1 a4 a2 hB=>?_;replace hB:Blk w1 B [.slice p b.length c] 29:=hB;replace h:=h.ext a2;refine Sa ?_;refine CW.loop (ι:=Nat) (λk w'=>k≤b.length∧Ae w1 w'∧∀i u,i<k→b[i]?=some u→u.name≠x) (λk=>[(1,Aj x),(2,.pointer (some ⟨B,0,none⟩)),(5,.int .i64 k)]) (λk=>b.length - k) 0 ⟨by omega,Chg.refl _ _,λi u h=>by omega⟩ Bh ?_;rintro k w2 ⟨hk,hx,a1⟩;replace h:=h.ext hx;have a5:=hB.ext hx;have a3:=a2.trans hx;refine Sa ?_;refine Am (λh2=>?_) λh2=>?_
 ·have h2:k<b.length:=by simp at h2;omega
  obtain ⟨s,hs⟩:∃s,b[k]?=some s:=⟨_,List.getElem?_eq_getElem h2⟩;obtain ⟨a,q,kc,rfl,-,a6,hr,a0⟩:=h.at hs;refine Sa ?_;refine Lo ?_;refine Ln ?_;refine Lp (a0 0 _ rfl) ?_;refine Sa ?_;refine Am (λh3=>?_) λh3=>?_
  ·have h3:s.name=x:=by simpa using h3
   refine Sa ?_;exact QW.body1 Tryz.results49 rfl ⟨by rw [U2 hs h3 a1];rfl,a3⟩
  ·have h3:s.name≠x:=by simpa using h3
   refine Sa ?_;refine QW.again (k+1) ⟨by omega,hx,λi u hi hu=>?_⟩ Bh (by omega);rcases Nat.lt_or_ge i k with h4 | h4
   ·exact a1 i u h4 hu
   ·obtain rfl:i=k:=by omega
    rw [hs] at hu;obtain rfl:=Option.some.inj hu;exact h3
 ·have h2:k=b.length:=by simp at h2;omega
  subst h2;refine Sa ?_;refine QW.body1 Tryz.results49 rfl ⟨?_,a3⟩;rw [Pj (λi s hi hs=>a1 i s hi hs)];rfl
theorem LH {α:Type} {f:α→Bool} {l:List α} {k:Nat} {x:α} (h:l[k]?=some x) (hf:f x=false):l.all f=false:=by
 rw [List.all_eq_false];exact ⟨x,List.mem_of_getElem? h,by simp [hf]⟩
theorem Pi {α:Type} {f:α→Bool} {l:List α} {k:Nat} {x:α} (h:(l.take k).all f=true) (hk:l[k]?=some x) (hf:f x=true):(l.take (k+1)).all f=true:=by
 rw [List.take_add_one,hk,List.all_append,h];simp [hf]
theorem RS {α:Type} {f:α→Bool} {l:List α} (h:(l.take l.length).all f=true):l.all f=true:=by
 rwa [List.take_length] at h
noncomputable def MV (cols:Int) (r:List (List UInt8)):Bool:=decide ((r.length:Int)=cols)&&r.all Cv
theorem H2 (s:Aq):CG s=(DJ s.name&&(decide (0≤s.cols)&&(decide (s.cols≤12)&&(decide (s.rows.length≤24)&&s.rows.all (MV s.cols))))):=by
 unfold CG MV;simp [Bool.and_assoc]
theorem My:∀{b:A1} {p:Option (List UInt8)},Gs p b=true↔∀i s,b[i]?=some s→CG s=true∧∀q,(if i=0 then p else (b[i - 1]?).map Aq.name)=some q→Op.bytesLess q s.name=true
 | [],p=>by simp [Gs]
 | s::r,p=>by
  show (((match p with | none=>true | some q=>Op.bytesLess q s.name)&&CG s&&Gs (some s.name) r)=true)↔_;rw [Bool.and_eq_true,Bool.and_eq_true,My];constructor
  ·rintro ⟨⟨h1,h2⟩,h3⟩ i u hi
   cases i with
   | zero=>
    simp at hi;subst hi;refine ⟨h2,λq hq=>?_⟩;rw [if_pos rfl] at hq;subst hq
    exact h1
   | succ i=>
    have h4:=h3 i u (by simpa using hi);refine ⟨h4.1,λq hq=>h4.2 q ?_⟩;rw [if_neg (by omega)] at hq
    cases i with
    | zero=>simpa using hq
    | succ i=>simpa using hq
  ·intro h;have h0:=h 0 s rfl;refine ⟨⟨?_,h0.1⟩,λi u hi=>?_⟩
   ·cases p with
    | none=>rfl
    | some q=>exact h0.2 q rfl
   ·have h4:=h (i+1) u (by simpa using hi);refine ⟨h4.1,λq hq=>h4.2 q ?_⟩;rw [if_neg (by omega)]
    cases i with
    | zero=>simpa using hq
    | succ i=>simpa using hq
theorem J0 (s:Aq) (rv:Value) (w:World) (g:CU w) (hn:s.name.length≤1000000) (h:Hq w rv s.rows):AA Tryz.prog 43 [.agg ⟨AB s rv⟩] w (λr w'=>r=.bool (CG s)∧Ae w w'):=by
 obtain ⟨p,c,rfl⟩:=h.slice;have hl:=h.1;refine AL Tryz.func43 Tryz.ntmps43 ?_;apply CW.seq;apply CW.region;refine Sl ?_;refine CZ λA w1 a9 a5 hA=>?_;replace hA:Blk w1 A (AB s (.slice p s.rows.length c)) 41:=hA;replace g:=g.ext a5;replace h:=h.ext a5;refine Sa ?_;refine Ap rfl rfl (Pb s.name w1 (by omega)) ?_;rintro v w2 ⟨rfl,a4⟩;replace g:=g.ext a4;replace h:=h.ext a4;replace hA:=hA.ext a4;have hx:=a5.trans a4;refine Sa ?_
 cases h1:DJ s.name with
 | false=>
  refine Sa ?_
  exact QW.body1 Tryz.results43 rfl ⟨by rw [H2,h1];rfl,hx⟩
 | true=>
 refine Sa ?_;by_cases h2:s.cols<0
 ·refine LW.know (t:=16) (c:=true) rfl (by simpa using h2) ?_;refine Sa ?_;exact QW.body1 Tryz.results43 rfl ⟨by rw [H2,decide_eq_false (p:=0≤s.cols) (by omega)];simp,hx⟩
 refine LW.know (t:=16) (c:=false) rfl (by simpa using h2) ?_;refine Sa ?_;by_cases h3:12<s.cols
 ·refine LW.know (t:=21) (c:=true) rfl (by simpa using h3) ?_;refine Sa ?_;exact QW.body1 Tryz.results43 rfl ⟨by rw [H2,decide_eq_false (p:=s.cols≤12) (by omega)];simp,hx⟩
 refine LW.know (t:=21) (c:=false) rfl (by simpa using h3) ?_;refine Sa ?_;refine Am (λh4=>?_) λh4=>?_
 ·have h4:24<s.rows.length:=by simp at h4;omega
  refine Sa ?_;exact QW.body1 Tryz.results43 rfl ⟨by rw [H2,decide_eq_false (p:=s.rows.length≤24) (by omega)];simp,hx⟩
 have h4:s.rows.length≤24:=by simp at h4;omega
 have e0:CG s=s.rows.all (MV s.cols):=by
  rw [H2,h1,decide_eq_true (p:=0≤s.cols) (by omega),decide_eq_true (p:=s.cols≤12) (by omega),decide_eq_true h4];simp
 refine Sa ?_;refine CW.loop (ι:=Nat) (λk w'=>k≤s.rows.length∧Ae w2 w'∧(s.rows.take k).all (MV s.cols)=true) (λk=>[(1,.pointer (some ⟨A,0,none⟩)),(28,.slice p s.rows.length c),(29,.int .i64 s.rows.length),(30,.int .i64 k)]) (λk=>s.rows.length - k) 0 ⟨by omega,Chg.refl _ _,rfl⟩ BN ?_;rintro k w3 ⟨hk,a1,a7⟩;replace h:=h.ext a1;replace hA:=hA.ext a1;replace g:=g.ext a1;replace a0:=hx.trans a1;refine Sa ?_;refine Am (λh5=>?_) λh5=>?_;rotate_left
 ·have h5:k=s.rows.length:=by simp at h5;omega
  subst h5;refine Sa ?_;exact QW.body1 Tryz.results43 rfl ⟨by rw [e0,RS a7],a0⟩
 have h5:k<s.rows.length:=by simp at h5;omega
 obtain ⟨r,hr⟩:∃r,s.rows[k]?=some r:=⟨_,List.getElem?_eq_getElem h5⟩;obtain ⟨a,q,qc,rfl,-,ht,hc⟩:=Hq.at h hr;have aa:=ht.1;refine Sw ?_;refine Am (λh6=>?_) λh6=>?_
 ·have h6:(r.length:Int)≠s.cols:=by simpa using h6
  refine Sa ?_;exact QW.body1 Tryz.results43 rfl ⟨by rw [e0,LH hr (by rw [MV,decide_eq_false h6];rfl)],a0⟩
 have h6:(r.length:Int)=s.cols:=by simpa using h6
 refine Sa ?_;refine CW.loop (ι:=Nat) (λj w'=>j≤r.length∧Ae w3 w'∧(r.take j).all Cv=true) (λj=>[(1,.pointer (some ⟨A,0,none⟩)),(28,.slice (some a) s.rows.length c),(29,.int .i64 s.rows.length),(30,.int .i64 k),(39,.slice q r.length qc),(40,.int .i64 r.length),(41,.int .i64 j)]) (λj=>r.length - j) 0 ⟨by omega,Chg.refl _ _,rfl⟩ Hh ?_;rintro j w4 ⟨hj,a2,a3⟩;replace ht:=ht.ext a2;replace g:=g.ext a2;refine Sa ?_;refine Am (λh7=>?_) λh7=>?_;rotate_left
 ·have h7:j=r.length:=by simp at h7;omega
  subst h7;refine Sa ?_;refine QW.again (k+1) ⟨by omega,a1.trans a2,Pi a7 hr ?_⟩ BN (by omega);rw [MV,decide_eq_true h6,RS a3];rfl
 have h7:j<r.length:=by simp at h7;omega
 obtain ⟨t,a6⟩:∃t,r[j]?=some t:=⟨_,List.getElem?_eq_getElem h7⟩;obtain ⟨a',rfl,-,ab,ac⟩:=FZ.at ht a6;refine Sw ?_;refine Ap rfl rfl (Pu t (by omega) w4 g) ?_;rintro v w5 ⟨rfl,a8⟩;refine Sa ?_
 cases h8:Cv t with
 | false=>
  refine Sa ?_
  exact QW.body1 Tryz.results43 rfl ⟨by rw [e0,LH hr (by rw [MV,LH a6 h8,Bool.and_false])],(a0.trans a2).trans a8⟩
 | true=>
  refine Sa ?_;exact QW.again (j+1) ⟨by omega,a2.trans a8,Pi a3 a6 h8⟩ Hh (by omega)
noncomputable def E6 (b:A1) (i:Nat):Bool:=match b[i]? with
 | none=>false
 | some s=>CG s&&(match i with | 0=>true | j+1=>Op.bytesLess ((b[j]?).elim [] Aq.name) s.name)
theorem Tz {b:A1} (h:∀i,i<b.length→E6 b i=true):Gs none b=true:=by
 rw [My];intro i s hi;have hl:=(List.getElem?_eq_some_iff.1 hi).1;have h1:=h i hl;unfold E6 at h1;rw [hi] at h1;simp only [Bool.and_eq_true] at h1;refine ⟨h1.1,λq hq=>?_⟩
 cases i with
 | zero=>simp at hq
 | succ i=>
  rw [if_neg (by omega)] at hq;have h2:Op.bytesLess ((b[i]?).elim [] Aq.name) s.name=true:=h1.2;simp only [Nat.add_sub_cancel] at hq
  cases h3:b[i]? with
  | none=>rw [h3] at hq;simp at hq
  | some u=>
   rw [h3] at hq h2;simp at hq;rw [←hq];exact h2
theorem IF {b:A1} {i:Nat} (hi:i<b.length) (h:E6 b i=false):Gs none b=false:=by
 cases hm:Gs none b with
 | false=>rfl
 | true=>
  rw [My] at hm;have hs:=List.getElem?_eq_getElem hi;obtain ⟨h1,h2⟩:=hm i _ hs;unfold E6 at h;rw [hs] at h;simp only [h1,Bool.true_and] at h
  cases i with
  | zero=>simp at h
  | succ i=>
   have h3:=List.getElem?_eq_getElem (show i<b.length by omega);have h4:=h2 (b[i]'(by omega)).name (by rw [if_neg (by omega)];simp only [Nat.add_sub_cancel];rw [h3];rfl);have h:Op.bytesLess ((b[i]?).elim [] Aq.name) b[i+1].name=false:=h;rw [h3] at h;have h:Op.bytesLess b[i].name b[i+1].name=false:=h;rw [h4] at h;cases h
theorem SL (b:A1) (sv:Value) (w:World) (g:CU w) (h:EX w sv b):AA Tryz.prog 25 [.agg ⟨[sv]⟩] w (λr w'=>r=.bool (Bu b)∧Ae w w'):=by
 obtain ⟨p,c,rfl⟩:=h.slice;have hl:=h.1;refine AL Tryz.func25 Tryz.ntmps25 ?_;apply CW.seq;apply CW.region;refine Sl ?_;refine CZ λA w1 ad a5 hA=>?_;replace hA:Blk w1 A [.slice p b.length c] 29:=hA;replace g:=g.ext a5;replace h:=h.ext a5;refine Sa ?_;refine Am (λh4=>?_) λh4=>?_
 ·have h4:5<b.length:=by simp at h4;omega
  refine Sa ?_;exact QW.body1 Tryz.results25 rfl ⟨by rw [Bu,decide_eq_false (by omega)];rfl,a5⟩
 have h4:b.length≤5:=by simp at h4;omega
 have e0:Bu b=Gs none b:=by rw [Bu,decide_eq_true h4];rfl
 refine Sa ?_;refine CW.loop (ι:=Nat) (λk w'=>k≤b.length∧Ae w1 w'∧∀i,i<k→E6 b i=true) (λk=>[(1,.pointer (some ⟨A,0,none⟩)),(10,.slice p b.length c),(11,.int .i64 b.length),(12,.int .i64 k)]) (λk=>b.length - k) 0 ⟨by omega,Chg.refl _ _,by simp⟩ BN ?_;rintro k w2 ⟨hk,a4,a7⟩;replace h:=h.ext a4;replace hA:=hA.ext a4;replace g:=g.ext a4;have a1:=a5.trans a4;refine Sa ?_;refine Am (λh5=>?_) λh5=>?_;rotate_left
 ·have h5:k=b.length:=by simp at h5;omega
  subst h5;refine Sa ?_;exact QW.body1 Tryz.results25 rfl ⟨by rw [e0,Tz a7],a1⟩
 have h5:k<b.length:=by simp at h5;omega
 obtain ⟨s,hs⟩:∃r,b[k]?=some r:=⟨_,List.getElem?_eq_getElem h5⟩;obtain ⟨a,q,qc,rfl,-,a8,ht,hc⟩:=EX.at h hs;refine Sw ?_;refine BP λX w3 ae a6 hX=>?_;have af:=hA.ext a6;have ag:A≠X:=λe=>by have:=hA.lt;omega
 have h3:=h.ext a6;have ah:=ht.ext a6;refine Sw ?_;refine AM λw4 aa hX=>?_;replace hX:Blk w4 X (AB s (.slice q s.rows.length qc)) 41:=hX;have a3:Ae w2 w4:=a6.step aa (by simp;omega);have ai:=hA.ext a3;have ab:=h.ext a3;have a9:=ht.ext a3;have g4:=g.ext a3;refine Sa ?_;refine Hk ?_;refine RR ?_
 cases k with
 | zero=>
  refine QL.know (t:=19) (c:=false) rfl (by simp) ?_;refine RR ?_;refine QL.call0 rfl rfl (λw5 a0=>J0 s _ w5 (g4.ext a0) a8 (a9.ext a0)) ?_;refine RR ?_;refine QL.nil λw5 a0=>?_;refine Sa ?_;refine Am (λh8=>?_) λh8=>?_
  ·have h8:CG s=false:=by simpa using h8
   refine Sa ?_;exact QW.body1 Tryz.results25 rfl ⟨by rw [e0,IF h5 (by unfold E6;rw [hs];show (CG s&&true)=_;rw [h8];rfl)],(a1.trans a3).trans a0⟩
  ·have h8:CG s=true:=by simpa using h8
   refine Sa ?_;exact QW.again (1) ⟨by omega,(a4.trans a3).trans a0,λi hi=>by
    rcases Nat.lt_or_ge i (0) with h9 | h9
    ·exact a7 i h9
    ·obtain rfl:i=0:=by omega
     unfold E6;rw [hs];show (CG s&&true)=_;rw [h8];rfl⟩ BN (by omega)
 | succ j=>
  obtain ⟨u,hu⟩:∃u,b[j]?=some u:=⟨_,List.getElem?_eq_getElem (by omega)⟩;obtain ⟨a2,q2,qc2,e2,-,-,-,ac⟩:=EX.at ab hu;obtain rfl:=Option.some.inj e2;have aj:w4.cell? ((a.add ((((j+1:Nat):Int) - 1).toNat*3)).add 0)=some (Aj u.name):=by
   rw [show (((j+1:Nat):Int) - 1).toNat=((j:Nat):Int).toNat by omega];exact ac 0 _ rfl
  refine QL.know (t:=19) (c:=true) rfl (by simp) ?_;refine RR ?_
  cases h7:Op.bytesLess u.name s.name with
  | false=>
   refine QL.know (t:=31) (c:=true) rfl rfl ?_;refine RR ?_;refine QL.nil λw5 a0=>?_;refine Sa ?_;exact QW.body1 Tryz.results25 rfl ⟨by rw [e0,IF h5 (by
    unfold E6;rw [hs];have e3:Op.bytesLess ((b[j]?).elim [] Aq.name) s.name=false:=by rw [hu];exact h7
    show (CG s&&Op.bytesLess ((b[j]?).elim [] Aq.name) s.name)=false
    rw [e3,Bool.and_false])],(a1.trans a3).trans a0⟩
  | true=>
  have e3:Op.bytesLess ((b[j]?).elim [] Aq.name) s.name=true:=by rw [hu];exact h7
  have e4:E6 b (j+1)=(CG s&&Op.bytesLess ((b[j]?).elim [] Aq.name) s.name):=by unfold E6;rw [hs]
  refine QL.know (t:=31) (c:=false) rfl rfl ?_;refine RR ?_;refine QL.call0 rfl rfl (λw5 a0=>J0 s _ w5 (g4.ext a0) a8 (a9.ext a0)) ?_;refine RR ?_;refine QL.nil λw5 a0=>?_;refine Sa ?_;refine Am (λh8=>?_) λh8=>?_
  ·have h8:CG s=false:=by simpa using h8
   refine Sa ?_;exact QW.body1 Tryz.results25 rfl ⟨by rw [e0,IF h5 (by rw [e4,h8];rfl)],(a1.trans a3).trans a0⟩
  ·have h8:CG s=true:=by simpa using h8
   refine Sa ?_;exact QW.again (j+1+1) ⟨by omega,(a4.trans a3).trans a0,λi hi=>by
    rcases Nat.lt_or_ge i (j+1) with h9 | h9
    ·exact a7 i h9
    ·obtain rfl:i=j+1:=by omega
     rw [e4,h8,e3];rfl⟩ BN (by omega)
theorem Uu (b:A1) (sv:Value) (w:World) (g:CU w) (h:Cs w sv b):AA Tryz.prog 25 [.agg ⟨[sv]⟩] w (λr w'=>r=.bool (Bu b)∧Ae w w'):=SL b sv w g (Ak.loose h)
theorem FD {l:List (List (List UInt8))} {row col:Nat} {t:List UInt8} {r:Nat} {y:List (List UInt8)} (h:(l.modify row λx=>x.set col t)[r]?=some y):∃x,l[r]?=some x∧y=if r=row then x.set col t else x:=by
 rw [List.getElem?_modify] at h
 cases h1:l[r]? with
 | none=>rw [h1] at h;simp at h
 | some x=>
  rw [h1] at h;simp at h;refine ⟨x,rfl,?_⟩;by_cases e:r=row
  ·subst e;simp at h;rw [if_pos rfl];exact h.symm
  ·rw [if_neg (λx=>e x.symm)] at h;rw [if_neg e];exact h.symm
theorem V7 {v:Value} {l:List (List (List UInt8))} {f:Nat→Nat} {row col:Nat} {t:List UInt8} {b:Nat}:FG v (l.modify row λx=>x.set col t) f b→FG v l f b:=by
 rintro (h | ⟨r,y,hr,hn,rfl⟩)
 ·exact .inl h
 ·obtain ⟨x,hx,rfl⟩:=FD hr;refine .inr ⟨r,x,hx,λe=>hn ?_,rfl⟩;rw [e];simp
theorem C8.set {lo:Nat} {w w':World} {xs:List Value} {l:List (List (List UInt8))} {f:Nat→Nat} {V:List Nat} {row col:Nat} {t:List UInt8} {x:List (List UInt8)} {sp:List Value} (h:C8 lo w xs l f V) (hr:l[row]?=some x) (hc:col<x.length) (ht:t.length≤1000000) (hx:Chg [f row] w w') (hB:Blk w' (f row) ((x.set col t).map Aj++sp) 9):C8 lo w' xs (l.modify row λx=>x.set col t) f V:=by
 have a1:x≠[]:=λe=>by rw [e] at hc;simp at hc
 refine ⟨by simp [h.len],λr y hy=>?_,λr y hy hn=>?_,λr q y z hy hz hn hm hf=>?_⟩
 ·obtain ⟨x',h1,rfl⟩:=FD hy;obtain ⟨u,h2,h3⟩:=h.val r x' h1;refine ⟨u,h2,?_⟩;by_cases e:r=row
  ·subst e;rw [hr] at h1;obtain rfl:=Option.some.inj h1;rw [if_pos rfl];obtain ⟨k0,⟨_,e2⟩ | ⟨a,c,e2,hk,a0⟩⟩:=h3
   ·exact absurd e2 a1
   ·obtain rfl:=hk a1;refine ⟨by simpa using k0,.inr ⟨_,c,by simpa using e2,λ_=>rfl,λi s hs=>?_⟩⟩;refine ⟨[Aj s],rfl,⟨rfl,?_⟩,λj u hj=>?_⟩
    ·rcases List.mem_or_eq_of_mem_set (List.mem_of_getElem? hs) with h5 | h5
     ·obtain ⟨j,hj⟩:=List.getElem?_of_mem h5;obtain ⟨_,_,⟨_,h6⟩,_⟩:=a0 j s hj;exact h6
     ·rw [h5];exact ht
    ·have a3:j=0:=by have:=(List.getElem?_eq_some_iff.1 hj).1;simp at this;exact this
     subst a3;simp at hj;subst hj;rw [A0,A0];refine hB.cell ?_;have a4:=(List.getElem?_eq_some_iff.1 hs).1;rw [show 0+i*1+0=i by omega,List.getElem?_append_left (by simpa using a4),List.getElem?_map,hs];rfl
  ·rw [if_neg e];refine h3.chg hx λhn a ha=>?_;rw [ha];simp only [List.mem_singleton];exact λe2=>e (h.inj r row x' x h1 hr hn a1 e2)
 ·obtain ⟨x',h1,rfl⟩:=FD hy;have a2:x'≠[]:=λe=>hn (by rw [e];simp);obtain ⟨g1,g2,sp',g3⟩:=h.blk r x' h1 a2;refine ⟨g1,g2,?_⟩;by_cases e:r=row
  ·subst e;rw [hr] at h1;obtain rfl:=Option.some.inj h1;rw [if_pos rfl];exact ⟨sp,hB⟩
  ·rw [if_neg e];exact ⟨sp',g3.chg hx (by simp only [List.mem_singleton];exact λe2=>e (h.inj r row x' x h1 hr a2 a1 e2))⟩
 ·obtain ⟨y',h1,rfl⟩:=FD hy;obtain ⟨z',h2,rfl⟩:=FD hz;exact h.inj r q y' z' h1 h2 (λe=>hn (by rw [e];simp)) (λe=>hm (by rw [e];simp)) hf
theorem SF {b:A1} {i row col:Nat} {t:List UInt8} {j:Nat} {u:Aq} (h:(Nx b i row col t)[j]?=some u):∃s,b[j]?=some s∧u.name=s.name∧u.cols=s.cols∧u=(if j=i then Ud s row col t else s):=by
 rw [Vw] at h
 cases h1:b[j]? with
 | none=>rw [h1] at h;simp at h
 | some s=>
  rw [h1] at h;refine ⟨s,rfl,?_⟩;by_cases e:i=j
  ·subst e;simp at h;rw [if_pos rfl];subst h;exact ⟨rfl,rfl,rfl⟩
  ·rw [if_neg e] at h;rw [if_neg (λx=>e x.symm)];obtain rfl:=Option.some.inj h;exact ⟨rfl,rfl,rfl⟩
theorem Kz {b:A1} {i row col:Nat} {t:List UInt8} {j:Nat} {u:Aq} {v:Value} {f:Nat→Nat} {x:Nat} (h:(Nx b i row col t)[j]?=some u) (hx:FG v u.rows f x):∃s,b[j]?=some s∧FG v s.rows f x:=by
 obtain ⟨s,h1,_,_,rfl⟩:=SF h;refine ⟨s,h1,?_⟩;by_cases e:j=i
 ·rw [if_pos e] at hx;exact V7 hx
 ·rw [if_neg e] at hx;exact hx
theorem VN {α:Type} [DecidableEq α] {l m:List α} {k:Nat} {x y:α} (h1:l[k]?=some x) (h2:m[k]?=some y) (h:x≠y):decide (l=m)=false:=by
 rw [decide_eq_false_iff_not];rintro rfl;rw [h1] at h2;exact h (Option.some.inj h2)
theorem Uk {α:Type} {l m:List α} {k:Nat} {x:α} (h:l.take k=m.take k) (h1:l[k]?=some x) (h2:m[k]?=some x):l.take (k+1)=m.take (k+1):=by
 rw [List.take_add_one,List.take_add_one,h,h1,h2]
theorem V1 {α:Type} [DecidableEq α] {l m:List α} (h:l.take l.length=m.take l.length) (hl:l.length=m.length):decide (l=m)=true:=by
 rw [decide_eq_true_eq];rw [List.take_length,hl,List.take_length] at h;exact h
theorem UY {α:Type} [DecidableEq α] {l m:List α} (h:l.length≠m.length):decide (l=m)=false:=by
 rw [decide_eq_false_iff_not];rintro rfl;exact h rfl
theorem SQ (l m:List (List UInt8)) (v u:Value) (w:World) (h:BE w v l) (h':BE w u m):AA Tryz.prog 21 [v,u] w (λr w'=>r=.bool (decide (l=m))∧Ae w w'):=by
 obtain ⟨p,c,rfl⟩:=h.slice;obtain ⟨p',c',rfl⟩:=h'.slice;have hl:=h.1;have a3:=h'.1;refine AL Tryz.func21 Tryz.ntmps21 ?_;refine Sa ?_;refine Am (λh1=>?_) λh1=>?_
 ·have h1:l.length≠m.length:=by simp at h1;omega
  refine Sa ?_;exact QW.body1 Tryz.results21 rfl ⟨by rw [UY h1],Chg.refl _ _⟩
 have h1:l.length=m.length:=by simp at h1;omega
 refine Sa ?_;refine CW.loop (ι:=Nat) (λk w'=>k≤l.length∧Ae w w'∧l.take k=m.take k) (λk=>[(0,.slice p l.length c),(1,.slice p' m.length c'),(5,.int .i64 k)]) (λk=>l.length - k) 0 ⟨by omega,Chg.refl _ _,rfl⟩ Bh ?_;rintro k w1 ⟨hk,hx,a0⟩;replace h:=h.ext hx;replace h':=h'.ext hx;refine Sa ?_;refine Am (λh2=>?_) λh2=>?_
 ·have h2:k<l.length:=by simp at h2;omega
  obtain ⟨s,hs⟩:∃s,l[k]?=some s:=⟨_,List.getElem?_eq_getElem h2⟩;obtain ⟨s',a1⟩:∃s,m[k]?=some s:=⟨_,List.getElem?_eq_getElem (by omega)⟩;obtain ⟨a,rfl,-,-,hc⟩:=Av.at h hs;obtain ⟨a',rfl,-,-,a4⟩:=Av.at h' a1;refine Sa ?_;refine Hk ?_;refine RR ?_;refine QL.nil λw2 a2=>?_;replace hx:=hx.trans a2;refine Sa ?_;refine Am (λh3=>?_) λh3=>?_
  ·have h3:s≠s':=by simpa using h3
   refine Sa ?_;exact QW.body1 Tryz.results21 rfl ⟨by rw [VN hs a1 h3],hx⟩
  ·have h3:s=s':=by simpa using h3
   subst h3;refine Sa ?_;exact QW.again (k+1) ⟨by omega,hx,Uk a0 hs a1⟩ Bh (by omega)
 ·have h2:k=l.length:=by simp at h2;omega
  subst h2;refine Sa ?_;exact QW.body1 Tryz.results21 rfl ⟨by rw [V1 a0 h1],hx⟩
end Go.Proofs.YtefaigjfkddelaaGreatDoor
