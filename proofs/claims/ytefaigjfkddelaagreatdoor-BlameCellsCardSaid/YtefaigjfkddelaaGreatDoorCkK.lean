/-
  Joined by program out of the texts Book6 Book7 Book8 Book1 Book3 Book4 Book5 Book9 Book2.
-/
import Derived.Test.YtefaigjfkddelaaGreatDoorCkJ
import Derived.Test.YtefaigjfkddelaaGreatDoorCkE
import Derived.Test.YtefaigjfkddelaaGreatDoorCkI
import Derived.Test.YtefaigjfkddelaaGreatDoorCkG
namespace Go.Proofs.YtefaigjfkddelaaGreatDoor
open Go Go.E
theorem Ia {α:Type} {l:List α} {x y:α} {r:Nat} (h:(l++[x])[r]?=some y):(r<l.length∧l[r]?=some y)∨(r=l.length∧y=x):=by
 rcases Nat.lt_trichotomy r l.length with h1 | h1 | h1
 ·rw [List.getElem?_append_left h1] at h;exact .inl ⟨h1,h⟩
 ·subst h1;rw [List.getElem?_append_right (Nat.le_refl _)] at h;simp at h;exact .inr ⟨rfl,h.symm⟩
 ·rw [List.getElem?_eq_none (by simp;omega)] at h;cases h
structure BN (lo:Nat) (w:World) (xs:List Value) (l:List (List (List UInt8))) (f:Nat→Nat) (V:List Nat):Prop where
 len:xs.length=l.length
 val:∀(r:Nat) (x:List (List UInt8)),l[r]?=some x→∃u,xs[r]?=some u∧Au (λa=>a=⟨f r,0,none⟩) w u x
 blk:∀(r:Nat) (x:List (List UInt8)),l[r]?=some x→x≠[]→lo≤f r∧f r∉V∧∃sp,Blk w (f r) (x.map Ap++sp) 9
 inj:∀(r q:Nat) (x y:List (List UInt8)),l[r]?=some x→l[q]?=some y→x≠[]→y≠[]→f r=f q→r=q
theorem BN.nil {lo:Nat} {w:World} {f:Nat→Nat} {V:List Nat}:BN lo w [] [] f V:=⟨rfl,by simp,by simp,by simp⟩
theorem BN.chg {lo:Nat} {w w':World} {xs:List Value} {l:List (List (List UInt8))} {f:Nat→Nat} {V S:List Nat} (h:BN lo w xs l f V) (x:Chg S w w') (hs:∀(r:Nat) (y:List (List UInt8)),l[r]?=some y→y≠[]→f r∉S):BN lo w' xs l f V:=
 ⟨h.len,λr y hr=>let ⟨u,h1,h2⟩:=h.val r y hr;⟨u,h1,h2.chg x (λhn a ha=>by rw [ha];exact hs r y hr hn)⟩,λr y hr hn=>let ⟨h1,h2,sp,h3⟩:=h.blk r y hr hn;⟨h1,h2,sp,h3.chg x (hs r y hr hn)⟩,h.inj⟩
theorem BN.ext {lo:Nat} {w w':World} {xs:List Value} {l:List (List (List UInt8))} {f:Nat→Nat} {V:List Nat} (h:BN lo w xs l f V) (x:Ag w w'):BN lo w' xs l f V:=h.chg x (by simp)
theorem BN.over {lo:Nat} {w:World} {xs:List Value} {l:List (List (List UInt8))} {f:Nat→Nat} {V V':List Nat} (h:BN lo w xs l f V) (hV:∀b,b∈V'→b∈V∨w.heap.size≤b):BN lo w xs l f V':=
 ⟨h.len,h.val,λr y hr hn=>let ⟨h1,h2,sp,h3⟩:=h.blk r y hr hn;⟨h1,λhb=>(hV _ hb).elim h2 (λh4=>by have:=h3.lt;omega),sp,h3⟩,h.inj⟩
theorem BN.push {lo:Nat} {w:World} {xs:List Value} {l:List (List (List UInt8))} {f:Nat→Nat} {V:List Nat} (h:BN lo w xs l f V) {u:Value} {x:List (List UInt8)} {g:Nat} (hu:Au (λa=>a=⟨g,0,none⟩) w u x) (hg:x≠[]→lo≤g∧g∉V∧(∀r y,l[r]?=some y→y≠[]→g≠f r)∧∃sp,Blk w g (x.map Ap++sp) 9):BN lo w (xs++[u]) (l++[x]) (λr=>if r=l.length then g else f r) V:=by
 refine ⟨by simp [h.len],λr y hr=>?_,λr y hr hn=>?_,λr q y z hr hq hy hz hf=>?_⟩
 ·rcases Ia hr with ⟨h1,h2⟩ | ⟨rfl,rfl⟩
  ·obtain ⟨v,h3,h4⟩:=h.val r y h2;refine ⟨v,by rw [List.getElem?_append_left (by rw [h.len];exact h1)];exact h3,?_⟩;rw [if_neg (by omega)];exact h4
  ·refine ⟨u,by rw [←h.len,List.getElem?_append_right (Nat.le_refl _)];simp,?_⟩;rw [if_pos rfl];exact hu
 ·rcases Ia hr with ⟨h1,h2⟩ | ⟨rfl,rfl⟩
  ·rw [if_neg (by omega)];exact h.blk r y h2 hn
  ·rw [if_pos rfl];obtain ⟨h1,h2,_,h4⟩:=hg hn;exact ⟨h1,h2,h4⟩
 ·rcases Ia hr with ⟨h1,h2⟩ | ⟨rfl,rfl⟩<;>rcases Ia hq with ⟨h3,h4⟩ | ⟨rfl,rfl⟩
  ·rw [if_neg (by omega),if_neg (by omega)] at hf;exact h.inj r q y z h2 h4 hy hz hf
  ·rw [if_neg (by omega),if_pos rfl] at hf;exact absurd hf.symm ((hg hz).2.2.1 r y h2 hy)
  ·rw [if_pos rfl,if_neg (by omega)] at hf;exact absurd hf ((hg hy).2.2.1 q z h4 hz)
  ·rfl
structure BB (lo:Nat) (w:World) (v:Value) (l:List (List (List UInt8))) (f:Nat→Nat):Prop where
 own:∃xs,Ay w lo 26 1 v l.length xs∧BN lo w xs l f (Ad v)
 small:l.length≤1000000
def DT (v:Value) (l:List (List (List UInt8))) (f:Nat→Nat) (b:Nat):Prop:=b∈Ad v∨∃(r:Nat) (x:List (List UInt8)),l[r]?=some x∧x≠[]∧b=f r
theorem BB.chg {lo:Nat} {w w':World} {v:Value} {l:List (List (List UInt8))} {f:Nat→Nat} {S:List Nat} (h:BB lo w v l f) (x:Chg S w w') (hs:∀b,DT v l f b→b∉S):BB lo w' v l f:=
 let ⟨xs,h1,h2⟩:=h.own
 ⟨⟨xs,h1.chg x (λb hb=>hs b (.inl hb)),h2.chg x (λr y hr hn=>hs _ (.inr ⟨r,y,hr,hn,rfl⟩))⟩,h.small⟩
theorem BB.ext {lo:Nat} {w w':World} {v:Value} {l:List (List (List UInt8))} {f:Nat→Nat} (h:BB lo w v l f) (x:Ag w w'):BB lo w' v l f:=h.chg x (by simp)
theorem BB.lt {lo:Nat} {w:World} {v:Value} {l:List (List (List UInt8))} {f:Nat→Nat} (h:BB lo w v l f) {b:Nat} (hb:DT v l f b):lo≤b∧b<w.heap.size:=by
 obtain ⟨xs,h1,h2⟩:=h.own;rcases hb with hb | ⟨r,x,hr,hn,rfl⟩
 ·exact h1.lt hb
 ·obtain ⟨h3,_,sp,h4⟩:=h2.blk r x hr hn;exact ⟨h3,h4.lt⟩
theorem BB.low {lo lo':Nat} {w:World} {v:Value} {l:List (List (List UInt8))} {f:Nat→Nat} (h:BB lo w v l f) (hl:lo'≤lo):BB lo' w v l f:=
 let ⟨xs,h1,h2⟩:=h.own
 ⟨⟨xs,h1.low hl,⟨h2.len,h2.val,λr x hr hn=>let ⟨h3,h4⟩:=h2.blk r x hr hn;⟨by omega,h4⟩,h2.inj⟩⟩,h.small⟩
theorem G7:∀(xs:List Value),(xs.map λu=>[u]).flatten=xs
 | []=>rfl
 | x::r=>by simp [G7 r]
abbrev NI (lo:Nat):Addr→Prop:=λa=>lo≤a.block
theorem BB.fresh {lo:Nat} {w:World} {v:Value} {l:List (List (List UInt8))} {f:Nat→Nat} (h:BB lo w v l f):Bc (NI lo) (λ_=>NI lo) w v l:=by
 obtain ⟨xs,h1,h2⟩:=h.own;have:BA 1 lo 26 (VS λr a=>a=⟨f r,0,none⟩) w v l:=by
  refine ⟨xs.map λu=>[u],by simp [h2.len],by simp,by rw [G7];exact h1,λi x cs hi hc=>?_⟩;obtain ⟨u,h3,h4⟩:=h2.val i x hi;rw [List.getElem?_map,h3] at hc;simp at hc;exact ⟨u,hc.symm,h4⟩
 refine A2.map (this.list (ok:=NI lo) h.small (λg hg _=>(h1.lt hg).1)) (λ_ h=>h) λi x cs hi ⟨u,e,ht⟩=>⟨u,e,?_⟩;by_cases hn:x=[]
 ·subst hn;obtain ⟨k0,⟨e1,e2⟩ | ⟨a,c,e1,_,h5⟩⟩:=ht
  ·exact ⟨k0,.inl ⟨e1,e2⟩⟩
  ·exact ⟨k0,.inr ⟨a,c,e1,λh=>absurd rfl h,h5⟩⟩
 ·exact A2.map ht (λa ha=>by
   subst ha;exact (h2.blk i x hi hn).1) λ_ _ _ _ h=>h
theorem BB.list {lo:Nat} {w:World} {v:Value} {l:List (List (List UInt8))} {f:Nat→Nat} (h:BB lo w v l f):E9 w v l:=Bc.of h.fresh
structure Cv (lo:Nat) (w:World) (k:Nat) (b:Ah) (rv:Nat→Value) (f:Nat→Nat→Nat) (V:List Nat):Prop where
 rows:∀(i:Nat) (s:Aj),i<k→b[i]?=some s→BB lo w (rv i) s.rows (f i)
 apartV:∀(i:Nat) (s:Aj),i<k→b[i]?=some s→∀x,DT (rv i) s.rows (f i) x→x∉V
 apart:∀(i j:Nat) (s u:Aj),i<k→j<k→i≠j→b[i]?=some s→b[j]?=some u→∀x,DT (rv i) s.rows (f i) x→¬DT (rv j) u.rows (f j) x
theorem Cv.zero {lo:Nat} {w:World} {b:Ah} {rv:Nat→Value} {f:Nat→Nat→Nat} {V:List Nat}:Cv lo w 0 b rv f V:=⟨by simp,by simp,by simp⟩
theorem Cv.chg {lo:Nat} {w w':World} {k:Nat} {b:Ah} {rv:Nat→Value} {f:Nat→Nat→Nat} {V S:List Nat} (h:Cv lo w k b rv f V) (x:Chg S w w') (hs:∀(i:Nat) (s:Aj),i<k→b[i]?=some s→∀y,DT (rv i) s.rows (f i) y→y∉S):Cv lo w' k b rv f V:=
 ⟨λi s hk hi=>(h.rows i s hk hi).chg x (hs i s hk hi),h.apartV,h.apart⟩
theorem Cv.ext {lo:Nat} {w w':World} {k:Nat} {b:Ah} {rv:Nat→Value} {f:Nat→Nat→Nat} {V:List Nat} (h:Cv lo w k b rv f V) (x:Ag w w'):Cv lo w' k b rv f V:=h.chg x (by simp)
theorem Cv.over {lo:Nat} {w:World} {k:Nat} {b:Ah} {rv:Nat→Value} {f:Nat→Nat→Nat} {V V':List Nat} (h:Cv lo w k b rv f V) (hV:∀b,b∈V'→b∈V∨w.heap.size≤b):Cv lo w k b rv f V':=
 ⟨h.rows,λi s hk hi x hx hb=>(hV x hb).elim (h.apartV i s hk hi x hx) (λh4=>by have:=((h.rows i s hk hi).lt hx).2;omega),h.apart⟩
theorem Cv.push {lo:Nat} {w:World} {k:Nat} {b:Ah} {rv:Nat→Value} {f:Nat→Nat→Nat} {V:List Nat} (h:Cv lo w k b rv f V) {s:Aj} (hs:b[k]?=some s) {u:Value} {g:Nat→Nat} (hu:BB lo w u s.rows g) (hV:∀x,DT u s.rows g x→x∉V) (hA:∀(i:Nat) (t:Aj),i<k→b[i]?=some t→∀x,DT (rv i) t.rows (f i) x→¬DT u s.rows g x) :
  Cv lo w (k+1) b (λi=>if i=k then u else rv i) (λi=>if i=k then g else f i) V:=by
 refine ⟨λi t hk hi=>?_,λi t hk hi x hx=>?_,λi j t z hk a1 a0 hi hj x hx=>?_⟩
 ·by_cases e:i=k
  ·subst e;rw [hs] at hi;obtain rfl:=Option.some.inj hi;simp only [if_pos];exact hu
  ·simp only [if_neg e];exact h.rows i t (by omega) hi
 ·by_cases e:i=k
  ·subst e;rw [hs] at hi;obtain rfl:=Option.some.inj hi;simp only [if_pos] at hx;exact hV x hx
  ·simp only [if_neg e] at hx;exact h.apartV i t (by omega) hi x hx
 ·by_cases e:i=k
  ·subst e;rw [hs] at hi;obtain rfl:=Option.some.inj hi;have e2:j≠i:=λe=>a0 e.symm;simp only [if_pos,if_neg e2] at hx ⊢;exact λhy=>hA j z (by omega) hj x hy hx
  ·by_cases e2:j=k
   ·subst e2;rw [hs] at hj;obtain rfl:=Option.some.inj hj;simp only [if_pos,if_neg e] at hx ⊢;exact hA i t (by omega) hi x hx
   ·simp only [if_neg e,if_neg e2] at hx ⊢;exact h.apart i j t z (by omega) (by omega) a0 hi hj x hx
def Bu (b:Ah) (rv:Nat→Value):List (List Value):=b.mapIdx λi s=>A1 s (rv i)
theorem On (b:Ah) (rv:Nat→Value):(Bu b rv).length=b.length:=by simp [Bu]
theorem LR (b:Ah) (rv:Nat→Value):∀cs∈Bu b rv,cs.length=3:=λcs hc=>by
 simp only [Bu,List.mem_mapIdx] at hc;obtain ⟨i,hi,rfl⟩:=hc;rfl
theorem IZ {b:Ah} {rv:Nat→Value} {i:Nat} {s:Aj} (h:b[i]?=some s):(Bu b rv)[i]?=some (A1 s (rv i)):=by
 simp [Bu,List.getElem?_mapIdx,h]
theorem MC {b:Ah} {rv:Nat→Value} {s:Aj} {u:Value}:(Bu (b++[s]) λi=>if i=b.length then u else rv i)=Bu b rv++[A1 s u]:=by
 apply List.ext_getElem?;intro i;simp only [Bu,List.getElem?_mapIdx];rcases Nat.lt_trichotomy i b.length with h | h | h
 ·rw [List.getElem?_append_left h,List.getElem?_append_left (by simpa using h),List.getElem?_mapIdx];have h2:i≠b.length:=by omega
  cases b[i]?<;>simp [h2]
 ·subst h;rw [List.getElem?_append_right (Nat.le_refl _),List.getElem?_append_right (by simp)];simp
 ·rw [List.getElem?_eq_none (by simp;omega),List.getElem?_eq_none (by simp;omega)];rfl
structure Dv (lo:Nat) (w:World) (v:Value) (b:Ah) (rv:Nat→Value) (f:Nat→Nat→Nat):Prop where
 own:Ay w lo 41 3 v b.length (Bu b rv).flatten
 names:∀s∈b,s.name.length≤1000000
 small:b.length≤1000000
 sub:Cv lo w b.length b rv f (Ad v)
theorem Dv.ext {lo:Nat} {w w':World} {v:Value} {b:Ah} {rv:Nat→Value} {f:Nat→Nat→Nat} (h:Dv lo w v b rv f) (x:Ag w w'):Dv lo w' v b rv f:=⟨h.own.ext x,h.names,h.small,h.sub.ext x⟩
abbrev TZ (lo:Nat):=AB (NI lo) (λ_=>NI lo) (λ_ _=>NI lo)
theorem Dv.fresh {lo:Nat} {w:World} {v:Value} {b:Ah} {rv:Nat→Value} {f:Nat→Nat→Nat} (h:Dv lo w v b rv f):TZ lo w v b:=by
 have:BA 3 lo 41 (T9 (λ_=>NI lo) (λ_ _=>NI lo)) w v b:=by
  refine ⟨Bu b rv,On b rv,LR b rv,h.own,λi s cs hi hc=>?_⟩;rw [IZ hi] at hc;obtain rfl:=Option.some.inj hc;exact ⟨rv i,rfl,h.names s (List.mem_of_getElem? hi),(h.sub.rows i s (List.getElem?_eq_some_iff.1 hi).1 hi).fresh⟩
 exact this.list h.small (λg hg _=>(h.own.lt hg).1)
theorem Dv.list {lo:Nat} {w:World} {v:Value} {b:Ah} {rv:Nat→Value} {f:Nat→Nat→Nat} (h:Dv lo w v b rv f):BR w v b:=AB.of h.fresh
theorem Dv.slice {lo:Nat} {w:World} {v:Value} {b:Ah} {rv:Nat→Value} {f:Nat→Nat→Nat} (h:Dv lo w v b rv f):∃p c,v=.slice p b.length c:=h.own.slice
theorem Ow {ok:Addr→Prop} {w:World} {p:Option Addr} {c:Nat} {l:List (List UInt8)} (h:Au ok w (.slice p l.length c) l):p=none∧l.length=0∨∃a,p=some a∧∀j u,(l.map Ap)[j]?=some u→w.cell? (a.add j)=some u:=by
 obtain ⟨h0,⟨e,e2⟩ | ⟨a,c',e,hk,h⟩⟩:=h
 ·simp only [Value.slice.injEq] at e;exact .inl ⟨e.1,by rw [e2];rfl⟩
 ·simp only [Value.slice.injEq] at e;refine .inr ⟨a,e.1,λj u hj=>?_⟩;rw [List.getElem?_map] at hj
  cases hl:l[j]? with
  | none=>rw [hl] at hj;cases hj
  | some x=>
   rw [hl] at hj;simp at hj;subst hj;obtain ⟨cs,h1,⟨rfl,_⟩,h3⟩:=h j x hl;have:=h3 0 _ rfl
   rwa [Im,Nat.mul_one] at this
theorem I2 {w:World} {lo:Nat} {v:Value} {l:List (List UInt8)} (h:Ay w lo 9 1 v l.length (l.map Ap)) (hl:l.length≤1000000) (hs:∀s∈l,s.length≤1000000):∃g,Au (λa=>a=⟨g,0,none⟩) w v l∧(l≠[]→lo≤g∧∃sp,Blk w g (l.map Ap++sp) 9):=by
 have h0:=h;obtain ⟨hx,⟨rfl,e⟩ | ⟨g,cap,sp,rfl,hB,h1,h2,h3⟩⟩:=h
 ·have:l=[]:=List.eq_nil_of_length_eq_zero e;subst this;exact ⟨0,A2.nil,λh=>absurd rfl h⟩
 ·have hO:BA 1 lo 9 UZ w (.slice (some ⟨g,0,none⟩) l.length cap) l:=by
   refine ⟨(l.map Ap).map λu=>[u],by simp,by simp,by rw [G7];exact h0,λi x cs hi hc=>?_⟩;rw [List.getElem?_map,List.getElem?_map,hi] at hc;simp at hc;exact ⟨hc.symm,hs x (List.mem_of_getElem? hi)⟩
  exact ⟨g,hO.list hl (λb hb _=>by simp [Ad] at hb;rw [hb]),λ_=>⟨h3,sp,hB⟩⟩
theorem Ox {ok:Addr→Prop} {w:World} {v:Value} {l:List (List UInt8)} (h:Au ok w v l):∀s∈l,s.length≤1000000:=λs hs=>by
 obtain ⟨i,hi⟩:=List.getElem?_of_mem hs;obtain ⟨p,c,rfl⟩:=h.slice;exact (Au.at h hi).choose_spec.2.2.1
set_option maxRecDepth 8000 in
set_option maxHeartbeats 1000000 in
theorem KQ (s:Aj) (rv:Value) (w:World) (_hn:s.name.length≤1000000) (h:E9 w rv s.rows):AL Tryz.prog 39 [.agg ⟨A1 s rv⟩] w (λv w'=>∃u g,v=.agg ⟨A1 s u⟩∧BB w.heap.size w' u s.rows g∧Ag w w'):=by
 obtain ⟨p,c,rfl⟩:=h.slice;have hl:=h.1;refine Br Tryz.func39 Tryz.ntmps39 ?_;apply CW.seq;apply CW.region;refine Sl ?_;refine Ei λA w1 bc ao hA=>?_;replace hA:Blk w1 A (A1 s (.slice p s.rows.length c)) 41:=hA;have bd:=hA.lt;refine Sl ?_;refine D4 λR w2 be ae hR=>?_;have bf:=hR.lt;replace hA:=hA.ext ae;refine Sa ?_;refine D4 λC w3 bg a7 hC=>?_;have bh:=hC.lt;replace hA:=hA.ext a7;replace hR:=hR.ext a7;refine Sa ?_;refine Cj λw4 a8 hC=>?_;replace hC:Blk w4 C (A1 s (.slice none 0 0)) 41:=hC;have bi:=ao.size;have bj:=ae.size;have bk:=a7.size;have bl:A≠C∧R≠C∧A≠R:=by omega
 replace hA:=hA.chg a8 (by simp;omega);replace hR:=hR.chg a8 (by simp;omega);have af:Ag w w4:=(ao.trans ae).trans (a7.step a8 (by simp;omega));refine Sa ?_;refine CW.loop (ι:=Nat×Option Addr×Nat) (λx w'=>x.1≤s.rows.length∧Ag w w'∧Chg [C] w4 w'∧Blk w' C (A1 s (.slice x.2.1 x.1 x.2.2)) 41∧∃xs f,Ay w' w4.heap.size 26 1 (.slice x.2.1 x.1 x.2.2) x.1 xs∧BN w4.heap.size w' xs (s.rows.take x.1) f (Ad (.slice x.2.1 x.1 x.2.2))) (λx=>[(1,.pointer (some ⟨A,0,none⟩)),(2,.pointer (some ⟨R,0,none⟩)),(3,.pointer (some ⟨C,0,none⟩)),(4,.int .i64 x.1)]) (λx=>s.rows.length - x.1) (0,none,0) ⟨by simp,af,Chg.refl _ _,hC,[],λ_=>0,Ay.nil _ _ _ _,BN.nil⟩ BU ?_;rintro ⟨k,op,oc⟩ w5 ⟨hk,a9,aa,ag,xs,f,hO,hX⟩;dsimp only at hk ag hO hX;show CW _ _ _ _ _ [(1,.pointer (some ⟨A,0,none⟩)),(2,.pointer (some ⟨R,0,none⟩)),(3,.pointer (some ⟨C,0,none⟩)),(4,.int .i64 (k:Int))] _;have bm:=hA.chg aa (by simp;omega);have bn:=hR.chg aa (by simp;omega);have h5:=Bc.ext h a9;have bo:=aa.size;have bp:=a8.size;refine Sa ?_;refine A4 (λh6=>?_) λh6=>?_;rotate_left
 ·have h6:k=s.rows.length:=by simp at h6;omega
  subst h6;rw [List.take_length] at hX;refine Sa ?_;refine Cj λw6 ah au=>?_;have ab:Ag w w6:=a9.step ah (by simp;omega);have av:∀b,b∈Ad (.slice op s.rows.length oc)→b∉[R]:=λb hb=>by have:=(hO.lt hb).1;simp;omega
  have aw:=hO.chg ah av;have ax:=hX.chg ah (λr y hr hn=>by have:=(hX.blk r y hr hn).1;simp;omega);refine Sa ?_;exact QW.body_c Tryz.results39 rfl au rfl rfl rfl ⟨_,f,rfl,(BB.mk ⟨xs,aw,ax⟩ hl).low (by have:=af.size;omega),ab⟩
 have h6:k<s.rows.length:=by simp at h6;omega
 obtain ⟨r,hr⟩:∃r,s.rows[k]?=some r:=⟨_,List.getElem?_eq_getElem h6⟩;obtain ⟨a,q,qc,rfl,-,ht,ap⟩:=Bc.at h hr;have ay:=ht.1;have bq:a.block<w.heap.size:=by
  have:=World.block_lt_of_cell? w _ ap
  rwa [B0] at this
 have az:=Aw a9 ap;have br:=af.size;have hV:∀b,b∈Ad (Value.slice op k oc)→w4.heap.size≤b∧b<w5.heap.size:=λb hb=>hO.lt hb;have n1:A∉Ad (Value.slice op k oc):=λhb=>by have:=(hV A hb).1;omega
 have n2:C∉Ad (Value.slice op k oc):=λhb=>by have:=(hV C hb).1;omega
 have n3:(a.add (((k:Nat):Int).toNat*1)).block∉Ad (Value.slice op k oc):=λhb=>by
  have h8:=(hV _ hb).1;rw [B0] at h8;omega
 have far:∀w',Chg (Ad (Value.slice op k oc)) w5 w'→Ag w w':=λw' hS=>a9.step hS λb hb=>by have:=(hV b hb).1;omega
 refine Sa ?_;refine CW.drawG (Chg (Ad (Value.slice op k oc)) w5) 11 (λw' h=>h.chg) (by kernel_rfl) λw6 ab=>?_;refine Sg ?_;refine Fu 2 λhS=>?_;refine LW.buildSlice0 rfl rfl rfl rfl ?_;intro B w7 bs ac hB;apply LW.nil;replace hS:=hS.ext ac;refine QW.headed hS ?_;refine Fu 8 λhS=>?_;refine LW.append_any (lo:=w6.heap.size) (xs:=[]) (news:=r.map Ap) rfl rfl rfl rfl rfl rfl ⟨rfl,.inr ⟨B,0,[],rfl,hB,Nat.le_refl _,by simp,by omega⟩⟩ ac.size (by simp) (Ow (ht.ext (far _ hS))) (λu hu=>by
  obtain ⟨x,_,rfl⟩:=List.mem_map.1 hu;rfl) (by show (0+_)*17≤_;omega) rfl ?_
 intro v8 w8 aq ai bt;rw [Nat.zero_add,List.nil_append] at ai;have b0:=ac.size;have bu:w5.heap.size≤w6.heap.size:=ab.size;replace hS:Chg (Ad (Value.slice op k oc)) w5 w8:=(Chg.trans hS aq).mono (λb hb b1=>by
  rcases List.mem_append.1 hb with hb | hb
  ·exact hb
  ·simp [Ad] at hb;omega)
 apply LW.nil;refine QW.headed hS ?_;refine Fu 9 λhS=>?_;obtain ⟨gR,b2,ar⟩:=I2 ai ay (Ox ht);obtain ⟨p8,c8,rfl⟩:=ai.slice;refine DG λB2 w9 b3 ad aj=>?_;replace aj:Blk w9 B2 [.slice p8 r.length c8] 26:=aj;replace hS:=hS.ext ad;apply LW.nil;refine QW.headed hS ?_;refine Fu 10 λhS=>?_;have ak:Ag w5 w8:=(ab.trans ac).step aq (λb hb=>by simp [Ad] at hb;omega);have a1:Ag w5 w9:=ak.trans ad;have b4:=a1.size;have b5:gR∉Ad (Value.slice op k oc)∨r=[]:=by
  by_cases hn:r=[]
  ·exact .inr hn
  ·exact .inl λhb=>by have:=(ar hn).1;have:=(hV _ hb).2;omega
 replace hX:=(hX.ext a1).push (b2.ext ad) (λhn=>by
  obtain ⟨g1,sp,g2⟩:=ar hn;refine ⟨by omega,b5.resolve_right hn,λr' y a4 hy hf=>?_,sp,g2.ext ad⟩;obtain ⟨_,_,sp',h9⟩:=hX.blk r' y a4 hy;have:=h9.lt;omega)
 have b6:s.rows.take k++[r]=s.rows.take (k+1):=by rw [List.take_add_one,hr];rfl
 have b7:(s.rows.take k).length=k:=by simp;omega
 rw [b6,b7] at hX;refine LW.append (lo:=w4.heap.size) (k:=k) rfl rfl rfl rfl rfl rfl (hO.ext a1) (by omega) aj rfl rfl rfl (by show (k+1)*25≤_;omega) rfl ?_;intro v10 al a5 a2 am;obtain ⟨p10,c10,rfl⟩:=a2.slice;have a6:=(hX.over am).chg a5 (λr' y a4 hy=>(hX.blk r' y a4 hy).2.1);replace hS:Chg (Ad (Value.slice op k oc)) w5 al:=hS.same a5;have an:Ag w al:=far _ hS;have b8:=ag.chg hS n2;have b9:Chg [C] w4 al:=(Chg.trans aa hS).mono (λb hb b1=>by
  rcases List.mem_append.1 hb with hb | hb
  ·exact hb
  ·have:=(hV b hb).1;omega)
 apply LW.nil;refine QW.headed hS ?_;refine GW.tail rfl (by kernel_rfl) (λhS=>?_);refine Sa ?_;refine CH λba a0 a3=>?_;replace a3:Blk ba C (A1 s (.slice p10 (k+1) c10)) 41:=a3;have nC:∀b,b∈Ad (Value.slice p10 (k+1) c10)→b∉[C]:=λb hb=>by
  have:=(a2.lt hb).1;simp;omega
 have bb:=ag.lt;refine Sa ?_;exact QW.again (k+1,p10,c10) ⟨by show k+1≤_;omega,an.step a0 (by simp;omega),b9.same a0,a3,xs++[.slice p8 r.length c8],_,a2.chg a0 nC,a6.chg a0 (λr' y a4 hy=>by have:=(a6.blk r' y a4 hy).1;simp;omega)⟩ BU (by show s.rows.length - (k+1)<s.rows.length - k;omega)
theorem MD {b:Ah} {rv:Nat→Value} {k:Nat} {s:Aj} {u:Value} (h:b[k]?=some s):(Bu (b.take (k+1)) λi=>if i=k then u else rv i)=Bu (b.take k) rv++[A1 s u]:=by
 have hk:=(List.getElem?_eq_some_iff.1 h).1;have e:b.take (k+1)=b.take k++[s]:=by rw [List.take_add_one,h];rfl
 have e2:(b.take k).length=k:=by simp;omega
 rw [e];have:=MC (b:=b.take k) (rv:=rv) (s:=s) (u:=u)
 rwa [e2] at this
set_option maxRecDepth 8000 in
set_option maxHeartbeats 1000000 in
theorem Mg (b:Ah) (sv:Value) (w:World) (h:BR w sv b):AL Tryz.prog 17 [.agg ⟨[sv]⟩] w (λv w'=>∃u rv f,v=.agg ⟨[u]⟩∧Dv w.heap.size w' u b rv f∧Ag w w'):=by
 obtain ⟨p,c,rfl⟩:=h.slice;have hl:=h.1;have a2:∀s∈b,s.name.length≤1000000:=λs hs=>by
  obtain ⟨i,hi⟩:=List.getElem?_of_mem hs;obtain ⟨_,_,_,_,_,hn,_⟩:=AB.at h hi;exact hn
 refine Br Tryz.func17 Tryz.ntmps17 ?_;apply CW.seq;apply CW.region;refine Sl ?_;refine Ei λA w1 b4 aj hA=>?_;replace hA:Blk w1 A [.slice p b.length c] 29:=hA;have b5:=hA.lt;refine Sl ?_;refine D4 λR w2 b6 ab hR=>?_;have b7:=hR.lt;replace hA:=hA.ext ab;refine Sa ?_;refine D4 λC w3 b8 a8 hC=>?_;have b9:=hC.lt;replace hA:=hA.ext a8;replace hR:=hR.ext a8;have ba:=aj.size;have bb:=ab.size;have bc:=a8.size;have bd:A≠C∧R≠C∧A≠R:=by omega
 have ak:Ag w w3:=(aj.trans ab).trans a8;refine Sa ?_;refine CW.loop (ι:=Nat×Option Addr×Nat) (λx w'=>x.1≤b.length∧Ag w w'∧Chg [C] w3 w'∧Blk w' C [.slice x.2.1 x.1 x.2.2] 29∧∃rv f,Ay w' w3.heap.size 41 3 (.slice x.2.1 x.1 x.2.2) x.1 (Bu (b.take x.1) rv).flatten∧Cv w3.heap.size w' x.1 b rv f (Ad (.slice x.2.1 x.1 x.2.2))) (λx=>[(1,.pointer (some ⟨A,0,none⟩)),(2,.pointer (some ⟨R,0,none⟩)),(3,.pointer (some ⟨C,0,none⟩)),(4,.int .i64 x.1)]) (λx=>b.length - x.1) (0,none,0) ⟨by simp,ak,Chg.refl _ _,hC,λ_=>.slice none 0 0,λ_ _=>0,Ay.nil _ _ _ _,Cv.zero⟩ BU ?_;rintro ⟨k,op,oc⟩ w5 ⟨hk,al,a9,am,rv,f,hO,hX⟩;dsimp only at hk am hO hX;show CW _ _ _ _ _ [(1,.pointer (some ⟨A,0,none⟩)),(2,.pointer (some ⟨R,0,none⟩)),(3,.pointer (some ⟨C,0,none⟩)),(4,.int .i64 (k:Int))] _;have be:=hA.chg a9 (by simp;omega);have bf:=hR.chg a9 (by simp;omega);have bg:=a9.size;have an:=ak.size;have hV:∀j,j∈Ad (Value.slice op k oc)→w3.heap.size≤j∧j<w5.heap.size:=λj hj=>hO.lt hj;have n1:A∉Ad (Value.slice op k oc):=λhb=>by have:=(hV A hb).1;omega
 have n2:C∉Ad (Value.slice op k oc):=λhb=>by have:=(hV C hb).1;omega
 refine Sa ?_;refine A4 (λh6=>?_) λh6=>?_;rotate_left
 ·have h6:k=b.length:=by simp at h6;omega
  subst h6;rw [List.take_length] at hO;refine Sa ?_;refine Cj λw6 ac au=>?_;have aa:Ag w w6:=al.step ac (by simp;omega);have av:∀j,j∈Ad (.slice op b.length oc)→j∉[R]:=λj hj=>by have:=(hV j hj).1;simp;omega
  have ad:=hX.chg ac (λi s hi hs y hy=>by have:=((hX.rows i s hi hs).lt hy).1;simp;omega);refine Sa ?_;refine QW.body_c Tryz.results17 rfl au rfl rfl rfl ⟨_,rv,f,rfl,⟨(hO.chg ac av).low an,a2,hl,⟨λi s hi hs=>(ad.rows i s hi hs).low an,ad.apartV,ad.apart⟩⟩,aa⟩
 have h6:k<b.length:=by simp at h6;omega
 obtain ⟨s,hs⟩:∃s,b[k]?=some s:=⟨_,List.getElem?_eq_getElem h6⟩;obtain ⟨a,q,qc,rfl,-,aw,ht,ao⟩:=AB.at h hs;have bh:a.block<w.heap.size:=by
  have:=World.block_lt_of_cell? w _ (ao 0 _ rfl)
  rwa [B0,B0] at this
 have far:∀w',Chg (Ad (Value.slice op k oc)) w5 w'→Ag w w':=λw' hS=>al.step hS λj hj=>by have:=(hV j hj).1;omega
 refine Sa ?_;refine CW.drawG (Chg (Ad (Value.slice op k oc)) w5) 10 (λw' h=>h.chg) (by kernel_rfl) λw6 aa=>?_;refine Sg ?_;refine GW.take 6 rfl rfl rfl rfl (λw' ax=>Y.load_cells rfl (λj u hj=>Aw (far _ ax) (ao j u hj)) rfl rfl rfl) rfl rfl (by kernel_rfl) (by kernel_rfl) (by kernel_rfl) (λ_ _ _ h=>h) ?_;refine Fu 7 λhS=>?_;refine AE rfl rfl (KQ s _ w6 aw (ht.ext (far _ hS))) ?_;rintro v w7 ⟨u,g,rfl,hF,ap⟩;obtain ⟨xsu,aq,-⟩:=hF.own;obtain ⟨pu,cu,rfl⟩:=aq.slice;clear aq;replace hS:=hS.ext ap;apply LW.nil;refine QW.headed hS ?_;refine Fu 8 λhS=>?_;refine DG λB2 w9 ay ae af=>?_;replace af:Blk w9 B2 (A1 s (.slice pu s.rows.length cu)) 41:=af;replace hS:=hS.ext ae;apply LW.nil;refine QW.headed hS ?_;refine Fu 9 λhS=>?_;have a3:Ag w5 w9:=(aa.trans ap).trans ae;have az:=a3.size;have bi:w5.heap.size≤w6.heap.size:=aa.size;replace hF:=hF.ext ae;have ar:=(hX.ext a3).push hs (hF.low (by omega)) (λx hx hb=>by
  have:=(hF.lt hx).1;have:=(hV x hb).2;omega) (λi t hi a5 x hx hy=>by
  have:=((hX.rows i t hi a5).lt hx).2;have:=(hF.lt hy).1;omega)
 refine LW.append (lo:=w3.heap.size) (k:=k) rfl rfl rfl rfl rfl rfl (hO.ext a3) (by omega) af rfl rfl rfl (by show (k+1)*49≤_;omega) rfl ?_;intro v10 ag a6 a0 ah;obtain ⟨p10,c10,rfl⟩:=a0.slice;have a7:=(ar.over ah).chg a6 (λi t hi a5 y hy=>ar.apartV i t hi a5 y hy);have b0:(Bu (b.take k) rv).flatten++A1 s (.slice pu s.rows.length cu)=(Bu (b.take (k+1)) λi=>if i=k then .slice pu s.rows.length cu else rv i).flatten:=by
  rw [MD hs];simp
 rw [b0] at a0;replace hS:Chg (Ad (Value.slice op k oc)) w5 ag:=hS.same a6;have ai:Ag w ag:=far _ hS;have b1:=am.chg hS n2;have b2:Chg [C] w3 ag:=(Chg.trans a9 hS).mono (λj hj bj=>by
  rcases List.mem_append.1 hj with hj | hj
  ·exact hj
  ·have:=(hV j hj).1;omega)
 apply LW.nil;refine QW.headed hS ?_;refine GW.tail rfl (by kernel_rfl) (λhS=>?_);refine Sa ?_;refine CH λb3 a1 a4=>?_;replace a4:Blk b3 C [.slice p10 (k+1) c10] 29:=a4;refine Sa ?_;exact QW.again (k+1,p10,c10) ⟨by show k+1≤_;omega,ai.step a1 (by simp;omega),b2.same a1,a4,_,_,a0.chg a1 (λj hj=>by have:=(a0.lt hj).1;simp;omega),a7.chg a1 (λi t hi a5 y hy=>by have:=((a7.rows i t hi a5).lt hy).1;simp;omega)⟩ BU (by show b.length - (k+1)<b.length - k;omega)
theorem BN.low {lo lo':Nat} {w:World} {xs:List Value} {l:List (List (List UInt8))} {f:Nat→Nat} {V:List Nat} (h:BN lo w xs l f V) (hl:lo'≤lo):BN lo' w xs l f V:=⟨h.len,h.val,λr x hr hn=>let ⟨h3,h4⟩:=h.blk r x hr hn;⟨by omega,h4⟩,h.inj⟩
theorem QR (s:Aj) (rp:Option Addr) (rl rc A:Nat) (x:List UInt8) (w:World) (hA:Blk w A [Ap x] 9):AL Tryz.prog 64 [.agg ⟨A1 s (.slice rp rl rc)⟩,.pointer (some ⟨A,0,none⟩)] w (λv w'=>v=.bool (decide (s.name=x))∧Ag w w'):=by
 refine Br Tryz.func64 Tryz.ntmps64 ?_;refine Sa ?_;refine Ei λX w1 a1 a0 hX=>?_;replace hX:Blk w1 X (A1 s (.slice rp rl rc)) 41:=hX;replace hA:=hA.ext a0;refine Sa ?_;exact QW.body1 Tryz.results64 rfl ⟨by simp,a0⟩
theorem Mw (b:List Aj) (sv:Value) (A:Nat) (x:List UInt8) (w:World) (h:BR w sv b) (hA:Blk w A [Ap x] 9):AL Tryz.prog 63 [sv,.func (.func 64) ⟨[]⟩ ⟨[.pointer (some ⟨A,0,none⟩)]⟩] w (λv w'=>v=.int .i64 (Uq (Ly b x))∧Ag w w'):=by
 obtain ⟨p,c,rfl⟩:=h.slice;have hl:=h.1;refine Br Tryz.func63 Tryz.ntmps63 ?_;refine Sa ?_;refine CW.loop (ι:=Nat) (λk w'=>k≤b.length∧Ag w w'∧∀i u,i<k→b[i]?=some u→u.name≠x) (λk=>[(0,.slice p b.length c),(1,.func (.func 64) ⟨[]⟩ ⟨[.pointer (some ⟨A,0,none⟩)]⟩),(7,.int .i64 b.length),(8,.int .i64 k)]) (λk=>b.length - k) 0 ⟨by omega,Chg.refl _ _,λi u h=>by omega⟩ BU ?_;rintro k w1 ⟨hk,hx,a1⟩;replace h:=h.ext hx;replace hA:=hA.ext hx;refine Sa ?_;refine A4 (λh2=>?_) λh2=>?_
 ·have h2:k<b.length:=by simp at h2;omega
  obtain ⟨s,hs⟩:∃s,b[k]?=some s:=⟨_,List.getElem?_eq_getElem h2⟩;obtain ⟨a,q,kc,rfl,-,a3,hr,a0⟩:=h.at hs;refine Sa ?_;refine Lo ?_;refine LW.load_cells rfl a0 rfl rfl rfl rfl ?_;refine Sa ?_;refine LW.call (fs:=[]) (cs:=[.pointer (some ⟨A,0,none⟩)]) rfl rfl rfl (QR s _ _ _ A x w1 hA) ?_;rintro v w2 ⟨rfl,a2⟩;refine Sa ?_;refine A4 (λh3=>?_) λh3=>?_
  ·have h3:s.name=x:=by simpa using h3
   refine Sa ?_;exact QW.body1 Tryz.results63 rfl ⟨by rw [Vc hs h3 a1];rfl,hx.trans a2⟩
  ·have h3:s.name≠x:=by simpa using h3
   refine Sa ?_;refine QW.again (k+1) ⟨by omega,hx.trans a2,λi u hi hu=>?_⟩ BU (by omega);rcases Nat.lt_or_ge i k with h4 | h4
   ·exact a1 i u h4 hu
   ·obtain rfl:i=k:=by omega
    rw [hs] at hu;obtain rfl:=Option.some.inj hu;exact h3
 ·have h2:k=b.length:=by simp at h2;omega
  subst h2;refine Sa ?_;refine QW.body1 Tryz.results63 rfl ⟨?_,hx⟩;rw [Sr (λi s hi hs=>a1 i s hi hs)];rfl
theorem MK (b:List Aj) (sv:Value) (x:List UInt8) (w:World) (h:BR w sv b):AL Tryz.prog 45 [.agg ⟨[sv]⟩,Ap x] w (λv w'=>v=.int .i64 (Uq (Ly b x))∧Ag w w'):=by
 obtain ⟨p,c,rfl⟩:=h.slice;refine Br Tryz.func45 Tryz.ntmps45 ?_;refine Sa ?_;refine Ei λB w1 a4 a2 hB=>?_;replace hB:Blk w1 B [.slice p b.length c] 29:=hB;refine Sa ?_;refine Ei λA w2 a5 a1 hA=>?_;replace hA:Blk w2 A [Ap x] 9:=hA;replace hB:=hB.ext a1;have a0:=a2.trans a1;refine Sa ?_;refine AE rfl rfl (Mw b _ A x w2 (h.ext a0) hA) ?_;rintro v w3 ⟨rfl,a3⟩;refine Sa ?_;exact QW.body1 Tryz.results45 rfl ⟨rfl,a0.trans a3⟩
theorem JA {α:Type} {f:α→Bool} {l:List α} {k:Nat} {x:α} (h:l[k]?=some x) (hf:f x=false):l.all f=false:=by
 rw [List.all_eq_false];exact ⟨x,List.mem_of_getElem? h,by simp [hf]⟩
theorem MT {α:Type} {f:α→Bool} {l:List α} {k:Nat} {x:α} (h:(l.take k).all f=true) (hk:l[k]?=some x) (hf:f x=true):(l.take (k+1)).all f=true:=by
 rw [List.take_add_one,hk,List.all_append,h];simp [hf]
theorem P9 {α:Type} {f:α→Bool} {l:List α} (h:(l.take l.length).all f=true):l.all f=true:=by
 rwa [List.take_length] at h
noncomputable def KC (cols:Int) (r:List (List UInt8)):Bool:=decide ((r.length:Int)=cols)&&r.all Dc
theorem FX (s:Aj):BX s=(Dm s.name&&(decide (0≤s.cols)&&(decide (s.cols≤12)&&(decide (s.rows.length≤24)&&s.rows.all (KC s.cols))))):=by
 unfold BX KC;simp [Bool.and_assoc]
theorem Kk:∀{b:Ah} {p:Option (List UInt8)},Fg p b=true↔∀i s,b[i]?=some s→BX s=true∧∀q,(if i=0 then p else (b[i - 1]?).map Aj.name)=some q→Op.bytesLess q s.name=true
 | [],p=>by simp [Fg]
 | s::r,p=>by
  show (((match p with | none=>true | some q=>Op.bytesLess q s.name)&&BX s&&Fg (some s.name) r)=true)↔_;rw [Bool.and_eq_true,Bool.and_eq_true,Kk];constructor
  ·rintro ⟨⟨h1,h2⟩,h3⟩ i u hi
   cases i with
   | zero=>
    simp at hi;subst hi;refine ⟨h2,λq hq=>?_⟩;rw [if_pos rfl] at hq;subst hq
    exact h1
   | succ i=>
    have h4:=h3 i u (by simpa using hi);refine ⟨h4.1,λq hq=>h4.2 q ?_⟩;rw [if_neg (by omega)] at hq
    cases i with
    | zero=>simpa using hq
    | succ i=>simpa using hq
  ·intro h;have h0:=h 0 s rfl;refine ⟨⟨?_,h0.1⟩,λi u hi=>?_⟩
   ·cases p with
    | none=>rfl
    | some q=>exact h0.2 q rfl
   ·have h4:=h (i+1) u (by simpa using hi);refine ⟨h4.1,λq hq=>h4.2 q ?_⟩;rw [if_neg (by omega)]
    cases i with
    | zero=>simpa using hq
    | succ i=>simpa using hq
theorem HL (s:Aj) (rv:Value) (w:World) (g:Cm w) (hn:s.name.length≤1000000) (h:FM w rv s.rows):AL Tryz.prog 43 [.agg ⟨A1 s rv⟩] w (λr w'=>r=.bool (BX s)∧Ag w w'):=by
 obtain ⟨p,c,rfl⟩:=h.slice;have hl:=h.1;refine Br Tryz.func43 Tryz.ntmps43 ?_;apply CW.seq;apply CW.region;refine Sl ?_;refine Ei λA w1 a9 a5 hA=>?_;replace hA:Blk w1 A (A1 s (.slice p s.rows.length c)) 41:=hA;replace g:=g.ext a5;replace h:=h.ext a5;refine Sa ?_;refine AE rfl rfl (MM s.name w1 (by omega)) ?_;rintro v w2 ⟨rfl,a4⟩;replace g:=g.ext a4;replace h:=h.ext a4;replace hA:=hA.ext a4;have hx:=a5.trans a4;refine Sa ?_
 cases h1:Dm s.name with
 | false=>
  refine Sa ?_
  exact QW.body1 Tryz.results43 rfl ⟨by rw [FX,h1];rfl,hx⟩
 | true=>
 refine Sa ?_;by_cases h2:s.cols<0
 ·refine LW.know (t:=16) (c:=true) rfl (by simpa using h2) ?_;refine Sa ?_;exact QW.body1 Tryz.results43 rfl ⟨by rw [FX,decide_eq_false (p:=0≤s.cols) (by omega)];simp,hx⟩
 refine LW.know (t:=16) (c:=false) rfl (by simpa using h2) ?_;refine Sa ?_;by_cases h3:12<s.cols
 ·refine LW.know (t:=21) (c:=true) rfl (by simpa using h3) ?_;refine Sa ?_;exact QW.body1 Tryz.results43 rfl ⟨by rw [FX,decide_eq_false (p:=s.cols≤12) (by omega)];simp,hx⟩
 refine LW.know (t:=21) (c:=false) rfl (by simpa using h3) ?_;refine Sa ?_;refine A4 (λh4=>?_) λh4=>?_
 ·have h4:24<s.rows.length:=by simp at h4;omega
  refine Sa ?_;exact QW.body1 Tryz.results43 rfl ⟨by rw [FX,decide_eq_false (p:=s.rows.length≤24) (by omega)];simp,hx⟩
 have h4:s.rows.length≤24:=by simp at h4;omega
 have e0:BX s=s.rows.all (KC s.cols):=by
  rw [FX,h1,decide_eq_true (p:=0≤s.cols) (by omega),decide_eq_true (p:=s.cols≤12) (by omega),decide_eq_true h4];simp
 refine Sa ?_;refine CW.loop (ι:=Nat) (λk w'=>k≤s.rows.length∧Ag w2 w'∧(s.rows.take k).all (KC s.cols)=true) (λk=>[(1,.pointer (some ⟨A,0,none⟩)),(28,.slice p s.rows.length c),(29,.int .i64 s.rows.length),(30,.int .i64 k)]) (λk=>s.rows.length - k) 0 ⟨by omega,Chg.refl _ _,rfl⟩ BU ?_;rintro k w3 ⟨hk,a1,a7⟩;replace h:=h.ext a1;replace hA:=hA.ext a1;replace g:=g.ext a1;replace a0:=hx.trans a1;refine Sa ?_;refine A4 (λh5=>?_) λh5=>?_;rotate_left
 ·have h5:k=s.rows.length:=by simp at h5;omega
  subst h5;refine Sa ?_;exact QW.body1 Tryz.results43 rfl ⟨by rw [e0,P9 a7],a0⟩
 have h5:k<s.rows.length:=by simp at h5;omega
 obtain ⟨r,hr⟩:∃r,s.rows[k]?=some r:=⟨_,List.getElem?_eq_getElem h5⟩;obtain ⟨a,q,qc,rfl,-,ht,hc⟩:=FM.at h hr;have aa:=ht.1;refine Sw ?_;refine A4 (λh6=>?_) λh6=>?_
 ·have h6:(r.length:Int)≠s.cols:=by simpa using h6
  refine Sa ?_;exact QW.body1 Tryz.results43 rfl ⟨by rw [e0,JA hr (by rw [KC,decide_eq_false h6];rfl)],a0⟩
 have h6:(r.length:Int)=s.cols:=by simpa using h6
 refine Sa ?_;refine CW.loop (ι:=Nat) (λj w'=>j≤r.length∧Ag w3 w'∧(r.take j).all Dc=true) (λj=>[(1,.pointer (some ⟨A,0,none⟩)),(28,.slice (some a) s.rows.length c),(29,.int .i64 s.rows.length),(30,.int .i64 k),(39,.slice q r.length qc),(40,.int .i64 r.length),(41,.int .i64 j)]) (λj=>r.length - j) 0 ⟨by omega,Chg.refl _ _,rfl⟩ VC ?_;rintro j w4 ⟨hj,a2,a3⟩;replace ht:=ht.ext a2;replace g:=g.ext a2;refine Sa ?_;refine A4 (λh7=>?_) λh7=>?_;rotate_left
 ·have h7:j=r.length:=by simp at h7;omega
  subst h7;refine Sa ?_;refine QW.again (k+1) ⟨by omega,a1.trans a2,MT a7 hr ?_⟩ BU (by omega);rw [KC,decide_eq_true h6,P9 a3];rfl
 have h7:j<r.length:=by simp at h7;omega
 obtain ⟨t,a6⟩:∃t,r[j]?=some t:=⟨_,List.getElem?_eq_getElem h7⟩;obtain ⟨a',rfl,-,ab,ac⟩:=EL.at ht a6;refine Sw ?_;refine AE rfl rfl (Ng t (by omega) w4 g) ?_;rintro v w5 ⟨rfl,a8⟩;refine Sa ?_
 cases h8:Dc t with
 | false=>
  refine Sa ?_
  exact QW.body1 Tryz.results43 rfl ⟨by rw [e0,JA hr (by rw [KC,JA a6 h8,Bool.and_false])],(a0.trans a2).trans a8⟩
 | true=>
  refine Sa ?_;exact QW.again (j+1) ⟨by omega,a2.trans a8,MT a3 a6 h8⟩ VC (by omega)
noncomputable def DI (b:Ah) (i:Nat):Bool:=match b[i]? with
 | none=>false
 | some s=>BX s&&(match i with | 0=>true | j+1=>Op.bytesLess ((b[j]?).elim [] Aj.name) s.name)
theorem Rm {b:Ah} (h:∀i,i<b.length→DI b i=true):Fg none b=true:=by
 rw [Kk];intro i s hi;have hl:=(List.getElem?_eq_some_iff.1 hi).1;have h1:=h i hl;unfold DI at h1;rw [hi] at h1;simp only [Bool.and_eq_true] at h1;refine ⟨h1.1,λq hq=>?_⟩
 cases i with
 | zero=>simp at hq
 | succ i=>
  rw [if_neg (by omega)] at hq;have h2:Op.bytesLess ((b[i]?).elim [] Aj.name) s.name=true:=h1.2;simp only [Nat.add_sub_cancel] at hq
  cases h3:b[i]? with
  | none=>rw [h3] at hq;simp at hq
  | some u=>
   rw [h3] at hq h2;simp at hq;rw [←hq];exact h2
theorem Hh {b:Ah} {i:Nat} (hi:i<b.length) (h:DI b i=false):Fg none b=false:=by
 cases hm:Fg none b with
 | false=>rfl
 | true=>
  rw [Kk] at hm;have hs:=List.getElem?_eq_getElem hi;obtain ⟨h1,h2⟩:=hm i _ hs;unfold DI at h;rw [hs] at h;simp only [h1,Bool.true_and] at h
  cases i with
  | zero=>simp at h
  | succ i=>
   have h3:=List.getElem?_eq_getElem (show i<b.length by omega);have h4:=h2 (b[i]'(by omega)).name (by rw [if_neg (by omega)];simp only [Nat.add_sub_cancel];rw [h3];rfl);have h:Op.bytesLess ((b[i]?).elim [] Aj.name) b[i+1].name=false:=h;rw [h3] at h;have h:Op.bytesLess b[i].name b[i+1].name=false:=h;rw [h4] at h;cases h
theorem Q3 (b:Ah) (sv:Value) (w:World) (g:Cm w) (h:Ea w sv b):AL Tryz.prog 25 [.agg ⟨[sv]⟩] w (λr w'=>r=.bool (AX b)∧Ag w w'):=by
 obtain ⟨p,c,rfl⟩:=h.slice;have hl:=h.1;refine Br Tryz.func25 Tryz.ntmps25 ?_;apply CW.seq;apply CW.region;refine Sl ?_;refine Ei λA w1 ad a5 hA=>?_;replace hA:Blk w1 A [.slice p b.length c] 29:=hA;replace g:=g.ext a5;replace h:=h.ext a5;refine Sa ?_;refine A4 (λh4=>?_) λh4=>?_
 ·have h4:5<b.length:=by simp at h4;omega
  refine Sa ?_;exact QW.body1 Tryz.results25 rfl ⟨by rw [AX,decide_eq_false (by omega)];rfl,a5⟩
 have h4:b.length≤5:=by simp at h4;omega
 have e0:AX b=Fg none b:=by rw [AX,decide_eq_true h4];rfl
 refine Sa ?_;refine CW.loop (ι:=Nat) (λk w'=>k≤b.length∧Ag w1 w'∧∀i,i<k→DI b i=true) (λk=>[(1,.pointer (some ⟨A,0,none⟩)),(10,.slice p b.length c),(11,.int .i64 b.length),(12,.int .i64 k)]) (λk=>b.length - k) 0 ⟨by omega,Chg.refl _ _,by simp⟩ BU ?_;rintro k w2 ⟨hk,a4,a7⟩;replace h:=h.ext a4;replace hA:=hA.ext a4;replace g:=g.ext a4;have a1:=a5.trans a4;refine Sa ?_;refine A4 (λh5=>?_) λh5=>?_;rotate_left
 ·have h5:k=b.length:=by simp at h5;omega
  subst h5;refine Sa ?_;exact QW.body1 Tryz.results25 rfl ⟨by rw [e0,Rm a7],a1⟩
 have h5:k<b.length:=by simp at h5;omega
 obtain ⟨s,hs⟩:∃r,b[k]?=some r:=⟨_,List.getElem?_eq_getElem h5⟩;obtain ⟨a,q,qc,rfl,-,a8,ht,hc⟩:=Ea.at h hs;refine Sw ?_;refine D4 λX w3 ae a6 hX=>?_;have af:=hA.ext a6;have ag:A≠X:=λe=>by have:=hA.lt;omega
 have h3:=h.ext a6;have ah:=ht.ext a6;refine Sw ?_;refine Cj λw4 aa hX=>?_;replace hX:Blk w4 X (A1 s (.slice q s.rows.length qc)) 41:=hX;have a3:Ag w2 w4:=a6.step aa (by simp;omega);have ai:=hA.ext a3;have ab:=h.ext a3;have a9:=ht.ext a3;have g4:=g.ext a3;refine Sa ?_;refine Lr ?_;refine TU ?_
 cases k with
 | zero=>
  refine QL.know (t:=19) (c:=false) rfl (by simp) ?_;refine TU ?_;refine QL.call0 rfl rfl (λw5 a0=>HL s _ w5 (g4.ext a0) a8 (a9.ext a0)) ?_;refine TU ?_;refine QL.nil λw5 a0=>?_;refine Sa ?_;refine A4 (λh8=>?_) λh8=>?_
  ·have h8:BX s=false:=by simpa using h8
   refine Sa ?_;exact QW.body1 Tryz.results25 rfl ⟨by rw [e0,Hh h5 (by unfold DI;rw [hs];show (BX s&&true)=_;rw [h8];rfl)],(a1.trans a3).trans a0⟩
  ·have h8:BX s=true:=by simpa using h8
   refine Sa ?_;exact QW.again (1) ⟨by omega,(a4.trans a3).trans a0,λi hi=>by
    rcases Nat.lt_or_ge i (0) with h9 | h9
    ·exact a7 i h9
    ·obtain rfl:i=0:=by omega
     unfold DI;rw [hs];show (BX s&&true)=_;rw [h8];rfl⟩ BU (by omega)
 | succ j=>
  obtain ⟨u,hu⟩:∃u,b[j]?=some u:=⟨_,List.getElem?_eq_getElem (by omega)⟩;obtain ⟨a2,q2,qc2,e2,-,-,-,ac⟩:=Ea.at ab hu;obtain rfl:=Option.some.inj e2;have aj:w4.cell? ((a.add ((((j+1:Nat):Int) - 1).toNat*3)).add 0)=some (Ap u.name):=by
   rw [show (((j+1:Nat):Int) - 1).toNat=((j:Nat):Int).toNat by omega];exact ac 0 _ rfl
  refine QL.know (t:=19) (c:=true) rfl (by simp) ?_;refine TU ?_
  cases h7:Op.bytesLess u.name s.name with
  | false=>
   refine QL.know (t:=31) (c:=true) rfl rfl ?_;refine TU ?_;refine QL.nil λw5 a0=>?_;refine Sa ?_;exact QW.body1 Tryz.results25 rfl ⟨by rw [e0,Hh h5 (by
    unfold DI;rw [hs];have e3:Op.bytesLess ((b[j]?).elim [] Aj.name) s.name=false:=by rw [hu];exact h7
    show (BX s&&Op.bytesLess ((b[j]?).elim [] Aj.name) s.name)=false
    rw [e3,Bool.and_false])],(a1.trans a3).trans a0⟩
  | true=>
  have e3:Op.bytesLess ((b[j]?).elim [] Aj.name) s.name=true:=by rw [hu];exact h7
  have e4:DI b (j+1)=(BX s&&Op.bytesLess ((b[j]?).elim [] Aj.name) s.name):=by unfold DI;rw [hs]
  refine QL.know (t:=31) (c:=false) rfl rfl ?_;refine TU ?_;refine QL.call0 rfl rfl (λw5 a0=>HL s _ w5 (g4.ext a0) a8 (a9.ext a0)) ?_;refine TU ?_;refine QL.nil λw5 a0=>?_;refine Sa ?_;refine A4 (λh8=>?_) λh8=>?_
  ·have h8:BX s=false:=by simpa using h8
   refine Sa ?_;exact QW.body1 Tryz.results25 rfl ⟨by rw [e0,Hh h5 (by rw [e4,h8];rfl)],(a1.trans a3).trans a0⟩
  ·have h8:BX s=true:=by simpa using h8
   refine Sa ?_;exact QW.again (j+1+1) ⟨by omega,(a4.trans a3).trans a0,λi hi=>by
    rcases Nat.lt_or_ge i (j+1) with h9 | h9
    ·exact a7 i h9
    ·obtain rfl:i=j+1:=by omega
     rw [e4,h8,e3];rfl⟩ BU (by omega)
theorem Sf (b:Ah) (sv:Value) (w:World) (g:Cm w) (h:BR w sv b):AL Tryz.prog 25 [.agg ⟨[sv]⟩] w (λr w'=>r=.bool (AX b)∧Ag w w'):=Q3 b sv w g (AB.loose h)
theorem E2 {l:List (List (List UInt8))} {row col:Nat} {t:List UInt8} {r:Nat} {y:List (List UInt8)} (h:(l.modify row λx=>x.set col t)[r]?=some y):∃x,l[r]?=some x∧y=if r=row then x.set col t else x:=by
 rw [List.getElem?_modify] at h
 cases h1:l[r]? with
 | none=>rw [h1] at h;simp at h
 | some x=>
  rw [h1] at h;simp at h;refine ⟨x,rfl,?_⟩;by_cases e:r=row
  ·subst e;simp at h;rw [if_pos rfl];exact h.symm
  ·rw [if_neg (λx=>e x.symm)] at h;rw [if_neg e];exact h.symm
theorem TO {v:Value} {l:List (List (List UInt8))} {f:Nat→Nat} {row col:Nat} {t:List UInt8} {b:Nat}:DT v (l.modify row λx=>x.set col t) f b→DT v l f b:=by
 rintro (h | ⟨r,y,hr,hn,rfl⟩)
 ·exact .inl h
 ·obtain ⟨x,hx,rfl⟩:=E2 hr;refine .inr ⟨r,x,hx,λe=>hn ?_,rfl⟩;rw [e];simp
theorem BN.set {lo:Nat} {w w':World} {xs:List Value} {l:List (List (List UInt8))} {f:Nat→Nat} {V:List Nat} {row col:Nat} {t:List UInt8} {x:List (List UInt8)} {sp:List Value} (h:BN lo w xs l f V) (hr:l[row]?=some x) (hc:col<x.length) (ht:t.length≤1000000) (hx:Chg [f row] w w') (hB:Blk w' (f row) ((x.set col t).map Ap++sp) 9):BN lo w' xs (l.modify row λx=>x.set col t) f V:=by
 have a1:x≠[]:=λe=>by rw [e] at hc;simp at hc
 refine ⟨by simp [h.len],λr y hy=>?_,λr y hy hn=>?_,λr q y z hy hz hn hm hf=>?_⟩
 ·obtain ⟨x',h1,rfl⟩:=E2 hy;obtain ⟨u,h2,h3⟩:=h.val r x' h1;refine ⟨u,h2,?_⟩;by_cases e:r=row
  ·subst e;rw [hr] at h1;obtain rfl:=Option.some.inj h1;rw [if_pos rfl];obtain ⟨k0,⟨_,e2⟩ | ⟨a,c,e2,hk,a0⟩⟩:=h3
   ·exact absurd e2 a1
   ·obtain rfl:=hk a1;refine ⟨by simpa using k0,.inr ⟨_,c,by simpa using e2,λ_=>rfl,λi s hs=>?_⟩⟩;refine ⟨[Ap s],rfl,⟨rfl,?_⟩,λj u hj=>?_⟩
    ·rcases List.mem_or_eq_of_mem_set (List.mem_of_getElem? hs) with h5 | h5
     ·obtain ⟨j,hj⟩:=List.getElem?_of_mem h5;obtain ⟨_,_,⟨_,h6⟩,_⟩:=a0 j s hj;exact h6
     ·rw [h5];exact ht
    ·have a3:j=0:=by have:=(List.getElem?_eq_some_iff.1 hj).1;simp at this;exact this
     subst a3;simp at hj;subst hj;rw [Ao,Ao];refine hB.cell ?_;have a4:=(List.getElem?_eq_some_iff.1 hs).1;rw [show 0+i*1+0=i by omega,List.getElem?_append_left (by simpa using a4),List.getElem?_map,hs];rfl
  ·rw [if_neg e];refine h3.chg hx λhn a ha=>?_;rw [ha];simp only [List.mem_singleton];exact λe2=>e (h.inj r row x' x h1 hr hn a1 e2)
 ·obtain ⟨x',h1,rfl⟩:=E2 hy;have a2:x'≠[]:=λe=>hn (by rw [e];simp);obtain ⟨g1,g2,sp',g3⟩:=h.blk r x' h1 a2;refine ⟨g1,g2,?_⟩;by_cases e:r=row
  ·subst e;rw [hr] at h1;obtain rfl:=Option.some.inj h1;rw [if_pos rfl];exact ⟨sp,hB⟩
  ·rw [if_neg e];exact ⟨sp',g3.chg hx (by simp only [List.mem_singleton];exact λe2=>e (h.inj r row x' x h1 hr a2 a1 e2))⟩
 ·obtain ⟨y',h1,rfl⟩:=E2 hy;obtain ⟨z',h2,rfl⟩:=E2 hz;exact h.inj r q y' z' h1 h2 (λe=>hn (by rw [e];simp)) (λe=>hm (by rw [e];simp)) hf
theorem HY {b:Ah} {i row col:Nat} {t:List UInt8} {j:Nat} {u:Aj} (h:(FJ b i row col t)[j]?=some u):∃s,b[j]?=some s∧u.name=s.name∧u.cols=s.cols∧u=(if j=i then KZ s row col t else s):=by
 rw [Ol] at h
 cases h1:b[j]? with
 | none=>rw [h1] at h;simp at h
 | some s=>
  rw [h1] at h;refine ⟨s,rfl,?_⟩;by_cases e:i=j
  ·subst e;simp at h;rw [if_pos rfl];subst h;exact ⟨rfl,rfl,rfl⟩
  ·rw [if_neg e] at h;rw [if_neg (λx=>e x.symm)];obtain rfl:=Option.some.inj h;exact ⟨rfl,rfl,rfl⟩
theorem Oo (b:Ah) (i row col:Nat) (t:List UInt8) (rv:Nat→Value):Bu (FJ b i row col t) rv=Bu b rv:=by
 apply List.ext_getElem?;intro j;simp only [Bu,List.getElem?_mapIdx]
 cases h:(FJ b i row col t)[j]? with
 | none=>
  rw [Ol] at h
  cases h1:b[j]? with
  | none=>rfl
  | some s=>rw [h1] at h;split at h<;>simp at h
 | some u=>
  obtain ⟨s,h1,h2,h3,_⟩:=HY h;rw [h1];simp [A1,h2,h3]
theorem En {b:Ah} {i row col:Nat} {t:List UInt8} {j:Nat} {u:Aj} {v:Value} {f:Nat→Nat} {x:Nat} (h:(FJ b i row col t)[j]?=some u) (hx:DT v u.rows f x):∃s,b[j]?=some s∧DT v s.rows f x:=by
 obtain ⟨s,h1,_,_,rfl⟩:=HY h;refine ⟨s,h1,?_⟩;by_cases e:j=i
 ·rw [if_pos e] at hx;exact TO hx
 ·rw [if_neg e] at hx;exact hx
theorem Dv.set {lo:Nat} {w w':World} {v:Value} {b:Ah} {rv:Nat→Value} {f:Nat→Nat→Nat} (h:Dv lo w v b rv f) {i row col:Nat} {t:List UInt8} {s:Aj} {x:List (List UInt8)} {sp:List Value} (hi:b[i]?=some s) (hr:s.rows[row]?=some x) (hc:col<x.length) (ht:t.length≤1000000) (hx:Chg [f i row] w w') (hB:Blk w' (f i row) ((x.set col t).map Ap++sp) 9):Dv lo w' v (FJ b i row col t) rv f:=by
 have a2:x≠[]:=λe=>by rw [e] at hc;simp at hc
 have a3:=(List.getElem?_eq_some_iff.1 hi).1;have hu:DT (rv i) s.rows (f i) (f i row):=.inr ⟨row,x,hr,a2,rfl⟩;have a0:(FJ b i row col t).length=b.length:=by simp [FJ]
 refine ⟨?_,λu hm=>?_,by rw [a0];exact h.small,⟨λj u hj a1=>?_,λj u hj a1 y hy=>?_,λj k u z hj hk a4 a1 a5 y hy a6=>?_⟩⟩
 ·rw [Oo,a0];exact h.own.chg hx λy hy he=>by
   simp only [List.mem_singleton] at he;subst he;exact h.sub.apartV i s a3 hi _ hu hy
 ·obtain ⟨j,hj⟩:=List.getElem?_of_mem hm;obtain ⟨s',h1,h2,_⟩:=HY hj;rw [h2];exact h.names s' (List.mem_of_getElem? h1)
 ·rw [a0] at hj;obtain ⟨s',h1,_,_,rfl⟩:=HY a1;have hF:=h.sub.rows j s' hj h1;by_cases e:j=i
  ·subst e;rw [hi] at h1;obtain rfl:=Option.some.inj h1;rw [if_pos rfl];obtain ⟨xs,o1,o2⟩:=hF.own;refine ⟨⟨xs,?_,?_⟩,by simpa [KZ] using hF.small⟩
   ·have:=o1.chg hx (λy hy he=>by
     simp only [List.mem_singleton] at he;subst he;exact (o2.blk row x hr a2).2.1 hy)
    simpa [KZ] using this
   ·exact o2.set hr hc ht hx hB
  ·rw [if_neg e];exact hF.chg hx λy hy he=>by
    simp only [List.mem_singleton] at he;subst he;exact h.sub.apart i j s s' a3 hj (λe2=>e e2.symm) hi h1 _ hu hy
 ·rw [a0] at hj;obtain ⟨s',h1,h2⟩:=En a1 hy;exact h.sub.apartV j s' hj h1 y h2
 ·rw [a0] at hj hk;obtain ⟨s',h1,h2⟩:=En a1 hy;obtain ⟨s2,h3,h4⟩:=En a5 a6;exact h.sub.apart j k s' s2 hj hk a4 h1 h3 y h2 h4
theorem Dv.at {lo:Nat} {w:World} {v:Value} {b:Ah} {rv:Nat→Value} {f:Nat→Nat→Nat} (h:Dv lo w v b rv f) {i row:Nat} {s:Aj} {x:List (List UInt8)} (hi:b[i]?=some s) (hr:s.rows[row]?=some x) (hn:x≠[]) :
  ∃B cb M cm cx,v=.slice (some ⟨B,0,none⟩) b.length cb∧rv i=.slice (some ⟨M,0,none⟩) s.rows.length cm∧(∀j u,(A1 s (rv i))[j]?=some u→w.cell? (((⟨B,0,none⟩:Addr).add (((i:Nat):Int).toNat*3)).add j)=some u)∧w.cell? ((⟨M,0,none⟩:Addr).add (((row:Nat):Int).toNat*1))=some (.slice (some ⟨f i row,0,none⟩) x.length cx)∧lo≤f i row∧∃sp,Blk w (f i row) (x.map Ap++sp) 9:=by
 have a0:=(List.getElem?_eq_some_iff.1 hi).1;have a1:=(List.getElem?_eq_some_iff.1 hr).1;obtain ⟨B,cb,sp,rfl,hB,-⟩:=h.own.get (by omega);have hF:=h.sub.rows i s a0 hi;obtain ⟨xs,o1,o2⟩:=hF.own;obtain ⟨M,cm,sp2,e2,hM,-⟩:=o1.get (by omega);obtain ⟨u,h1,k0,⟨_,e3⟩ | ⟨a,cx,e3,hk,_⟩⟩:=o2.val row x hr
 ·exact absurd e3 hn
 obtain rfl:=hk hn;obtain ⟨g1,_,sp3,g3⟩:=o2.blk row x hr hn;refine ⟨B,cb,M,cm,cx,rfl,e2,λj u hj=>?_,?_,g1,sp3,g3⟩
 ·have a2:=(List.getElem?_eq_some_iff.1 hj).1;rw [Ao,Ao];refine hB.cell ?_;have h7:=FT (sp:=sp) (LR b rv) (IZ hi) (show j<3 from a2);rw [show 0+((i:Nat):Int).toNat*3+j=i*3+j by omega,h7];exact hj
 ·rw [Ao];refine hM.cell ?_;rw [show 0+((row:Nat):Int).toNat*1=row by omega,List.getElem?_append_left (by rw [o2.len];exact a1),h1,e3]
end Go.Proofs.YtefaigjfkddelaaGreatDoor
