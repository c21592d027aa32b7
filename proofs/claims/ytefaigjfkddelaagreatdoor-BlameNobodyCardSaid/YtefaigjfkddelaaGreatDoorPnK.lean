/-
  Joined by program out of the texts Book6 Book7 Book8 Book1 Book3 Book4 Book5 Book9 Book2 BookA.
-/
import Derived.Test.YtefaigjfkddelaaGreatDoorPnJ
import Derived.Test.YtefaigjfkddelaaGreatDoorPnE
import Derived.Test.YtefaigjfkddelaaGreatDoorPnI
import Derived.Test.YtefaigjfkddelaaGreatDoorPnG
namespace Go.Proofs.YtefaigjfkddelaaGreatDoor
open Tryz
open Go Go.E
theorem KQ{α:Type}{l:List α}{x y:α}{r:Nat}(h:(l++[x])[r]?=some y):(r<l.length∧l[r]?=some y)∨(r=l.length∧y=x):=by
 rcases AdM r l.length with h1 | h1 | h1
 ·rw[Abg h1] at h;exact .inl ⟨h1,h⟩
 ·subst h1;rw[Ace (Ab9 _)] at h;simp at h;exact .inr ⟨rfl,h.symm⟩
 ·rw[AbK Ae0] at h;cases h
def Pd(u:Value):Prop:=∀p n c,u=.slice p n c→n≤c
theorem Kq{p:Option Addr}{n c:Nat}(h:n≤c):Pd (.slice p n c):=λ_ _ _ e=>by
 obtain⟨-,rfl,rfl⟩:=Acd e;exact h
theorem K9{w:World}{lo e k n:Nat}{v:Value}{xs:List Value}(h:A3 w lo e k v n xs):Pd v:=by
 obtain⟨-,⟨rfl,rfl⟩ | ⟨g,cap,sp,rfl,-,h1,-⟩⟩:=h
 ·exact Kq (Ab9 _)
 ·exact Kq h1
structure CT(lo:Nat)(w:World)(xs:List Value)(l:List (List (List UInt8)))(f:Nat→Nat)(V:List Nat):Prop where
 len:xs.length=l.length
 val:∀(r:Nat) (x:List (List UInt8)),l[r]?=some x→∃u,xs[r]?=some u∧A4 (λa=>a=⟨f r,0,none⟩) w u x∧Pd u
 blk:∀(r:Nat) (x:List (List UInt8)),l[r]?=some x→x≠[]→lo≤f r∧f r∉V∧∃sp,Blk w (f r) (x.map Am++sp) 9
 inj:∀(r q:Nat) (x y:List (List UInt8)),l[r]?=some x→l[q]?=some y→x≠[]→y≠[]→f r=f q→r=q
theorem CT.nil{lo:Nat}{w:World}{f:Nat→Nat}{V:List Nat}:CT lo w [] [] f V:=⟨rfl,by simp,by simp,by simp⟩
theorem CT.chg{lo:Nat}{w w':World}{xs:List Value}{l:List (List (List UInt8))}{f:Nat→Nat}{V S:List Nat}(h:CT lo w xs l f V)(x:Chg S w w')(hs:∀(r:Nat) (y:List (List UInt8)),l[r]?=some y→y≠[]→f r∉S):CT lo w' xs l f V:=
 ⟨h.len,λr y hr=>let ⟨u,h1,h2,h0⟩:=h.val r y hr;⟨u,h1,h2.chg x (λhn a ha=>by rw[ha];exact hs r y hr hn),h0⟩,λr y hr hn=>let ⟨h1,h2,sp,h3⟩:=h.blk r y hr hn;⟨h1,h2,sp,h3.chg x (hs r y hr hn)⟩,h.inj⟩
theorem CT.ext{lo:Nat}{w w':World}{xs:List Value}{l:List (List (List UInt8))}{f:Nat→Nat}{V:List Nat}(h:CT lo w xs l f V)(x:Ae w w'):CT lo w' xs l f V:=h.chg x Ae7
theorem CT.over{lo:Nat}{w:World}{xs:List Value}{l:List (List (List UInt8))}{f:Nat→Nat}{V V':List Nat}(h:CT lo w xs l f V)(hV:∀b,b∈V'→b∈V∨w.heap.size≤b):CT lo w xs l f V':=
 ⟨h.len,h.val,λr y hr hn=>let ⟨h1,h2,sp,h3⟩:=h.blk r y hr hn;⟨h1,λhb=>(hV _ hb).elim h2 (λh4=>by have:=h3.lt;omega),sp,h3⟩,h.inj⟩
theorem CT.push{lo:Nat}{w:World}{xs:List Value}{l:List (List (List UInt8))}{f:Nat→Nat}{V:List Nat}(h:CT lo w xs l f V){u:Value}{x:List (List UInt8)}{g:Nat}(hu:A4 (λa=>a=⟨g,0,none⟩) w u x)(hu0:Pd u)(hg:x≠[]→lo≤g∧g∉V∧(∀r y,l[r]?=some y→y≠[]→g≠f r)∧∃sp,Blk w g (x.map Am++sp) 9):CT lo w (xs++[u]) (l++[x]) (λr=>if r=l.length then g else f r) V:=by
 refine⟨by simp[h.len],λr y hr=>?_,λr y hr hn=>?_,λr q y z hr hq hy hz hf=>?_⟩
 ·rcases KQ hr with ⟨h1,h2⟩ | ⟨rfl,rfl⟩
  ·obtain⟨v,h3,h4,h0⟩:=h.val r y h2;refine⟨v,by rw[Abg (by rw[h.len];exact h1)];exact h3,?_,h0⟩;rw[if_neg Aez];exact h4
  ·refine⟨u,by rw[←h.len,Ace (Ab9 _)];simp,?_,hu0⟩;rw[if_pos rfl];exact hu
 ·rcases KQ hr with ⟨h1,h2⟩ | ⟨rfl,rfl⟩
  ·rw[if_neg Aez];exact h.blk r y h2 hn
  ·rw[if_pos rfl];obtain⟨h1,h2,_,h4⟩:=hg hn;exact⟨h1,h2,h4⟩
 ·rcases KQ hr with ⟨h1,h2⟩ | ⟨rfl,rfl⟩<;>rcases KQ hq with ⟨h3,h4⟩ | ⟨rfl,rfl⟩
  ·rw[if_neg Aez,if_neg Aez] at hf;exact h.inj r q y z h2 h4 hy hz hf
  ·rw[if_neg Aez,if_pos rfl] at hf;exact absurd hf.symm ((hg hz).2.2.1 r y h2 hy)
  ·rw[if_pos rfl,if_neg Aez] at hf;exact absurd hf ((hg hy).2.2.1 q z h4 hz)
  ·rfl
structure CS(lo:Nat)(w:World)(v:Value)(l:List (List (List UInt8)))(f:Nat→Nat):Prop where
 own:∃xs,A3 w lo 26 1 v l.length xs∧CT lo w xs l f (Ac v)
 small:l.length≤1000000
def DJ(v:Value)(l:List (List (List UInt8)))(f:Nat→Nat)(b:Nat):Prop:=b∈Ac v∨∃(r:Nat) (x:List (List UInt8)),l[r]?=some x∧x≠[]∧b=f r
theorem CS.chg{lo:Nat}{w w':World}{v:Value}{l:List (List (List UInt8))}{f:Nat→Nat}{S:List Nat}(h:CS lo w v l f)(x:Chg S w w')(hs:∀b,DJ v l f b→b∉S):CS lo w' v l f:=
 let ⟨xs,h1,h2⟩:=h.own
 ⟨⟨xs,h1.chg x (λb hb=>hs b (.inl hb)),h2.chg x (λr y hr hn=>hs _ (.inr ⟨r,y,hr,hn,rfl⟩))⟩,h.small⟩
theorem CS.ext{lo:Nat}{w w':World}{v:Value}{l:List (List (List UInt8))}{f:Nat→Nat}(h:CS lo w v l f)(x:Ae w w'):CS lo w' v l f:=h.chg x Ae7
theorem CS.lt{lo:Nat}{w:World}{v:Value}{l:List (List (List UInt8))}{f:Nat→Nat}(h:CS lo w v l f){b:Nat}(hb:DJ v l f b):lo≤b∧b<w.heap.size:=by
 obtain⟨xs,h1,h2⟩:=h.own;rcases hb with hb | ⟨r,x,hr,hn,rfl⟩
 ·exact h1.lt hb
 ·obtain⟨h3,_,sp,h4⟩:=h2.blk r x hr hn;exact⟨h3,h4.lt⟩
theorem CS.low{lo lo':Nat}{w:World}{v:Value}{l:List (List (List UInt8))}{f:Nat→Nat}(h:CS lo w v l f)(hl:lo'≤lo):CS lo' w v l f:=
 let ⟨xs,h1,h2⟩:=h.own
 ⟨⟨xs,h1.low hl,⟨h2.len,h2.val,λr x hr hn=>let ⟨h3,h4⟩:=h2.blk r x hr hn;⟨by omega,h4⟩,h2.inj⟩⟩,h.small⟩
theorem FQ:∀(xs:List Value),(xs.map λu=>[u]).flatten=xs
 | []=>rfl
 | x::r=>by simp[FQ r]
abbrev EX(lo:Nat):Addr→Prop:=λa=>lo≤a.block
theorem CS.fresh{lo:Nat}{w:World}{v:Value}{l:List (List (List UInt8))}{f:Nat→Nat}(h:CS lo w v l f):AO (EX lo) (λ_=>EX lo) w v l:=by
 obtain⟨xs,h1,h2⟩:=h.own;have:B1 1 lo 26 (Aaj λr a=>a=⟨f r,0,none⟩) w v l:=by
  refine⟨xs.map λu=>[u],by simp[h2.len],by simp,by rw[FQ];exact h1,λi x cs hi hc=>?_⟩;obtain⟨u,h3,h4,-⟩:=h2.val i x hi;rw[AbA,h3] at hc;simp at hc;exact⟨u,hc.symm,h4⟩
 refine Ao.map (this.list (ok:=EX lo) h.small (λg hg _=>(h1.lt hg).1)) (λ_ h=>h) λi x cs hi ⟨u,e,ht⟩=>⟨u,e,?_⟩;by_cases hn:x=[]
 ·subst hn;obtain⟨k0,⟨e1,e2⟩ | ⟨a,c,e1,_,h5⟩⟩:=ht
  ·exact⟨k0,.inl ⟨e1,e2⟩⟩
  ·exact⟨k0,.inr ⟨a,c,e1,λh=>absurd rfl h,h5⟩⟩
 ·exact Ao.map ht (λa ha=>by
   subst ha;exact(h2.blk i x hi hn).1) λ_ _ _ _ h=>h
theorem CS.list{lo:Nat}{w:World}{v:Value}{l:List (List (List UInt8))}{f:Nat→Nat}(h:CS lo w v l f):EK w v l:=AO.of h.fresh
structure De(lo:Nat)(w:World)(k:Nat)(b:Ag)(rv:Nat→Value)(f:Nat→Nat→Nat)(V:List Nat):Prop where
 rows:∀(i:Nat) (s:Af),i<k→b[i]?=some s→CS lo w (rv i) s.rows (f i)
 apartV:∀(i:Nat) (s:Af),i<k→b[i]?=some s→∀x,DJ (rv i) s.rows (f i) x→x∉V
 apart:∀(i j:Nat) (s u:Af),i<k→j<k→i≠j→b[i]?=some s→b[j]?=some u→∀x,DJ (rv i) s.rows (f i) x→¬DJ (rv j) u.rows (f j) x
theorem De.zero{lo:Nat}{w:World}{b:Ag}{rv:Nat→Value}{f:Nat→Nat→Nat}{V:List Nat}:De lo w 0 b rv f V:=⟨by simp,by simp,by simp⟩
theorem De.chg{lo:Nat}{w w':World}{k:Nat}{b:Ag}{rv:Nat→Value}{f:Nat→Nat→Nat}{V S:List Nat}(h:De lo w k b rv f V)(x:Chg S w w')(hs:∀(i:Nat) (s:Af),i<k→b[i]?=some s→∀y,DJ (rv i) s.rows (f i) y→y∉S):De lo w' k b rv f V:=
 ⟨λi s hk hi=>(h.rows i s hk hi).chg x (hs i s hk hi),h.apartV,h.apart⟩
theorem De.ext{lo:Nat}{w w':World}{k:Nat}{b:Ag}{rv:Nat→Value}{f:Nat→Nat→Nat}{V:List Nat}(h:De lo w k b rv f V)(x:Ae w w'):De lo w' k b rv f V:=h.chg x Ae7
theorem De.over{lo:Nat}{w:World}{k:Nat}{b:Ag}{rv:Nat→Value}{f:Nat→Nat→Nat}{V V':List Nat}(h:De lo w k b rv f V)(hV:∀b,b∈V'→b∈V∨w.heap.size≤b):De lo w k b rv f V':=
 ⟨h.rows,λi s hk hi x hx hb=>(hV x hb).elim (h.apartV i s hk hi x hx) (λh4=>by have:=((h.rows i s hk hi).lt hx).2;omega),h.apart⟩
theorem De.push{lo:Nat}{w:World}{k:Nat}{b:Ag}{rv:Nat→Value}{f:Nat→Nat→Nat}{V:List Nat}(h:De lo w k b rv f V){s:Af}(hs:b[k]?=some s){u:Value}{g:Nat→Nat}(hu:CS lo w u s.rows g)(hV:∀x,DJ u s.rows g x→x∉V)(hA:∀(i:Nat) (t:Af),i<k→b[i]?=some t→∀x,DJ (rv i) t.rows (f i) x→¬DJ u s.rows g x) :
  De lo w (k+1) b (λi=>if i=k then u else rv i) (λi=>if i=k then g else f i) V:=by
 refine⟨λi t hk hi=>?_,λi t hk hi x hx=>?_,λi j t z hk a1 a0 hi hj x hx=>?_⟩
 ·by_cases e:i=k
  ·subst e;rw[hs] at hi;obtain rfl:=Aa5 hi;simp only[if_pos];exact hu
  ·simp only[if_neg e];exact h.rows i t Aez hi
 ·by_cases e:i=k
  ·subst e;rw[hs] at hi;obtain rfl:=Aa5 hi;simp only[if_pos] at hx;exact hV x hx
  ·simp only[if_neg e] at hx;exact h.apartV i t Aez hi x hx
 ·by_cases e:i=k
  ·subst e;rw[hs] at hi;obtain rfl:=Aa5 hi;have e2:j≠i:=λe=>a0 e.symm;simp only[if_pos,if_neg e2] at hx ⊢;exact λhy=>hA j z Aez hj x hy hx
  ·by_cases e2:j=k
   ·subst e2;rw[hs] at hj;obtain rfl:=Aa5 hj;simp only[if_pos,if_neg e] at hx ⊢;exact hA i t Aez hi x hx
   ·simp only[if_neg e,if_neg e2] at hx ⊢;exact h.apart i j t z Aez Aez a0 hi hj x hx
def Br(b:Ag)(rv:Nat→Value):List (List Value):=b.mapIdx λi s=>Ap s (rv i)
theorem IJ(b:Ag)(rv:Nat→Value):(Br b rv).length=b.length:=by simp[Br]
theorem FV(b:Ag)(rv:Nat→Value):∀cs∈Br b rv,cs.length=3:=λcs hc=>by
 simp only[Br,List.mem_mapIdx] at hc;obtain⟨i,hi,rfl⟩:=hc;rfl
theorem Fx{b:Ag}{rv:Nat→Value}{i:Nat}{s:Af}(h:b[i]?=some s):(Br b rv)[i]?=some (Ap s (rv i)):=by
 simp[Br,h]
theorem QF{b:Ag}{rv:Nat→Value}{s:Af}{u:Value}:(Br (b++[s]) λi=>if i=b.length then u else rv i)=Br b rv++[Ap s u]:=by
 apply Ack;intro i;simp only[Br,Adx];rcases AdM i b.length with h | h | h
 ·rw[Abg h,Abg Afa,Adx];have h2:i≠b.length:=Aez
  cases b[i]?<;>simp[h2]
 ·subst h;rw[Ace (Ab9 _),Ace Ae7];simp
 ·rw[AbK Ae0,AbK Ae0];rfl
structure BI(lo:Nat)(w:World)(v:Value)(b:Ag)(rv:Nat→Value)(f:Nat→Nat→Nat):Prop where
 own:A3 w lo 41 3 v b.length (Br b rv).flatten
 names:∀s∈b,s.name.length≤1000000
 small:b.length≤1000000
 sub:De lo w b.length b rv f (Ac v)
theorem BI.ext{lo:Nat}{w w':World}{v:Value}{b:Ag}{rv:Nat→Value}{f:Nat→Nat→Nat}(h:BI lo w v b rv f)(x:Ae w w'):BI lo w' v b rv f:=⟨h.own.ext x,h.names,h.small,h.sub.ext x⟩
abbrev Bq(lo:Nat):=Ak (EX lo) (λ_=>EX lo) (λ_ _=>EX lo)
theorem BI.fresh{lo:Nat}{w:World}{v:Value}{b:Ag}{rv:Nat→Value}{f:Nat→Nat→Nat}(h:BI lo w v b rv f):Bq lo w v b:=by
 have:B1 3 lo 41 (YU (λ_=>EX lo) (λ_ _=>EX lo)) w v b:=by
  refine⟨Br b rv,IJ b rv,FV b rv,h.own,λi s cs hi hc=>?_⟩;rw[Fx hi] at hc;obtain rfl:=Aa5 hc;exact⟨rv i,rfl,h.names s (Aa9 hi),(h.sub.rows i s (Aav.1 hi).1 hi).fresh⟩
 exact this.list h.small (λg hg _=>(h.own.lt hg).1)
theorem Bq.low{lo lo':Nat}{w:World}{v:Value}{b:Ag}(h:Bq lo w v b)(hl:lo'≤lo):Bq lo' w v b:=
 Ao.map h (λ_ h=>Acr hl h) λ_ _ _ _ ⟨rv,e,hn,hr⟩=>⟨rv,e,hn,Ao.map hr (λ_ h=>Acr hl h) λ_ _ _ _ ⟨u,e,ht⟩=>⟨u,e,Ao.map ht (λ_ h=>Acr hl h) λ_ _ _ _ h=>h⟩⟩
theorem Bq.old{S:List Nat}{lo:Nat}{w w':World}{v:Value}{b:Ag}(h:Bq lo w v b)(x:Chg S w w')(hs:∀y,y∈S→y<lo):Bq lo w' v b:=
 Ak.chg h x (λa ha hm=>by have:=hs _ hm;have:lo≤a.block:=ha;omega) (λ_ a _ ha hm=>by have:=hs _ hm;have:lo≤a.block:=ha;omega) (λ_ _ _ _ a _ _ _ ha hm=>by have:=hs _ hm;have:lo≤a.block:=ha;omega)
theorem BI.slice{lo:Nat}{w:World}{v:Value}{b:Ag}{rv:Nat→Value}{f:Nat→Nat→Nat}(h:BI lo w v b rv f):∃p c,v=.slice p b.length c:=h.own.slice
theorem Tw{ok:Addr→Prop}{w:World}{p:Option Addr}{c:Nat}{l:List (List UInt8)}(h:A4 ok w (.slice p l.length c) l):p=none∧l.length=0∨∃a,p=some a∧∀j u,(l.map Am)[j]?=some u→w.cell? (a.add j)=some u:=by
 obtain⟨h0,⟨e,e2⟩ | ⟨a,c',e,hk,h⟩⟩:=h
 ·simp only[Acj] at e;exact .inl ⟨e.1,by rw[e2];rfl⟩
 ·simp only[Acj] at e;refine .inr ⟨a,e.1,λj u hj=>?_⟩;rw[AbA] at hj
  cases hl:l[j]? with
  | none=>rw[hl] at hj;cases hj
  | some x=>
   rw[hl] at hj;simp at hj;subst hj;obtain⟨cs,h1,⟨rfl,_⟩,h3⟩:=h j x hl;have:=h3 0 _ rfl
   rwa [IV,AcX] at this
theorem EY{w:World}{lo:Nat}{v:Value}{l:List (List UInt8)}(h:A3 w lo 9 1 v l.length (l.map Am))(hl:l.length≤1000000)(hs:∀s∈l,s.length≤1000000):∃g,A4 (λa=>a=⟨g,0,none⟩) w v l∧(l≠[]→lo≤g∧∃sp,Blk w g (l.map Am++sp) 9):=by
 have h0:=h;obtain⟨hx,⟨rfl,e⟩ | ⟨g,cap,sp,rfl,hB,h1,h2,h3⟩⟩:=h
 ·have:l=[]:=AbX e;subst this;exact⟨0,Ao.nil,λh=>absurd rfl h⟩
 ·have hO:B1 1 lo 9 AaC w (.slice (some ⟨g,0,none⟩) l.length cap) l:=by
   refine⟨(l.map Am).map λu=>[u],by simp,by simp,by rw[FQ];exact h0,λi x cs hi hc=>?_⟩;rw[AbA,AbA,hi] at hc;simp at hc;exact⟨hc.symm,hs x (Aa9 hi)⟩
  exact⟨g,hO.list hl (λb hb _=>by simp[Ac] at hb;rw[hb]),λ_=>⟨h3,sp,hB⟩⟩
theorem F0{ok:Addr→Prop}{w:World}{v:Value}{l:List (List UInt8)}(h:A4 ok w v l):∀s∈l,s.length≤1000000:=λs hs=>by
 obtain⟨i,hi⟩:=Acy hs;obtain⟨p,c,rfl⟩:=h.slice;exact(A4.at h hi).choose_spec.2.2.1
set_option maxRecDepth 8000 in
set_option maxHeartbeats 1000000 in
theorem Jw(s:Af)(rv:Value)(w:World)(_hn:s.name.length≤1000000)(h:EK w rv s.rows):AF prog 39 [.agg ⟨Ap s rv⟩] w (λv w'=>∃u g,v=.agg ⟨Ap s u⟩∧CS w.heap.size w' u s.rows g∧Ae w w'):=by
 obtain⟨p,c,rfl⟩:=h.slice;have hl:=h.1;refine AQ func39 ntmps39 ?_;apply CW.seq;apply CW.region;refine Sl ?_;refine Dq λA w1 bc ao hA=>?_;replace hA:Blk w1 A (Ap s (.slice p s.rows.length c)) 41:=hA;have bd:=hA.lt;refine Sl ?_;refine BX λR w2 be af hR=>?_;have bf:=hR.lt;replace hA:=hA.ext af;refine Sa ?_;refine BX λC w3 bg a7 hC=>?_;have bh:=hC.lt;replace hA:=hA.ext a7;replace hR:=hR.ext a7;refine Sa ?_;refine AR λw4 a8 hC=>?_;replace hC:Blk w4 C (Ap s (.slice none 0 0)) 41:=hC;have bi:=ao.size;have bj:=af.size;have bk:=a7.size;have bl:A≠C∧R≠C∧A≠R:=Aez
 replace hA:=hA.chg a8 Ae0;replace hR:=hR.chg a8 Ae0;have ag:Ae w w4:=(ao.trans af).trans (a7.step a8 Ae0);refine Sa ?_;refine CW.loop (ι:=Nat×Option Addr×Nat) (λx w'=>x.1≤s.rows.length∧Ae w w'∧Chg [C] w4 w'∧Blk w' C (Ap s (.slice x.2.1 x.1 x.2.2)) 41∧∃xs f,A3 w' w4.heap.size 26 1 (.slice x.2.1 x.1 x.2.2) x.1 xs∧CT w4.heap.size w' xs (s.rows.take x.1) f (Ac (.slice x.2.1 x.1 x.2.2))) (λx=>[(1,.pointer (some ⟨A,0,none⟩)),(2,.pointer (some ⟨R,0,none⟩)),(3,.pointer (some ⟨C,0,none⟩)),(4,.int .i64 x.1)]) (λx=>s.rows.length - x.1) (0,none,0) ⟨by simp,ag,Chg.refl _ _,hC,[],λ_=>0,A3.nil _ _ _ _,CT.nil⟩ B9 ?_;rintro⟨k,op,oc⟩ w5 ⟨hk,a9,aa,ah,xs,f,hO,hX⟩;dsimp only at hk ah hO hX;show CW _ _ _ _ _ [(1,.pointer (some ⟨A,0,none⟩)),(2,.pointer (some ⟨R,0,none⟩)),(3,.pointer (some ⟨C,0,none⟩)),(4,.int .i64 (k:Int))] _;have bm:=hA.chg aa Ae0;have bn:=hR.chg aa Ae0;have h5:=AO.ext h a9;have bo:=aa.size;have bp:=a8.size;refine Sa ?_;refine Av (λh6=>?_) λh6=>?_;rotate_left
 ·have h6:k=s.rows.length:=by simp at h6;omega
  subst h6;rw[Acs] at hX;refine Sa ?_;refine AR λw6 ai au=>?_;have ab:Ae w w6:=a9.step ai Ae0;have av:∀b,b∈Ac (.slice op s.rows.length oc)→b∉[R]:=λb hb=>by have:=(hO.lt hb).1;simp;omega
  have aw:=hO.chg ai av;have ax:=hX.chg ai (λr y hr hn=>by have:=(hX.blk r y hr hn).1;simp;omega);refine Sa ?_;exact QW.body_c rfl rfl au rfl rfl rfl ⟨_,f,rfl,(CS.mk ⟨xs,aw,ax⟩ hl).low (by have:=ag.size;omega),ab⟩
 have h6:k<s.rows.length:=by simp at h6;omega
 obtain⟨r,hr⟩:∃r,s.rows[k]?=some r:=⟨_,Aak h6⟩;obtain⟨a,q,qc,rfl,-,ht,ap⟩:=AO.at h hr;have ay:=ht.1;have bq:a.block<w.heap.size:=by
  have:=AcR w _ ap
  rwa [BQ] at this
 have az:=Aw a9 ap;have br:=ag.size;have hV:∀b,b∈Ac (Value.slice op k oc)→w4.heap.size≤b∧b<w5.heap.size:=λb hb=>hO.lt hb;have n1:A∉Ac (Value.slice op k oc):=λhb=>by have:=(hV A hb).1;omega
 have n2:C∉Ac (Value.slice op k oc):=λhb=>by have:=(hV C hb).1;omega
 have n3:(a.add (((k:Nat):Int).toNat*1)).block∉Ac (Value.slice op k oc):=λhb=>by
  have h8:=(hV _ hb).1;rw[BQ] at h8;omega
 have far:∀w',Chg (Ac (Value.slice op k oc)) w5 w'→Ae w w':=λw' hS=>a9.step hS λb hb=>by have:=(hV b hb).1;omega
 refine Sa ?_;refine CW.drawG (Chg (Ac (Value.slice op k oc)) w5) 11 (λw' h=>h.chg) Ae1 λw6 ab=>?_;refine Sg ?_;refine DR 2 λhS=>?_;refine LW.buildSlice0 rfl rfl rfl rfl ?_;intro B w7 bs ac hB;apply LW.nil;replace hS:=hS.ext ac;refine QW.headed hS ?_;refine DR 8 λhS=>?_;refine LW.append_any (lo:=w6.heap.size) (xs:=[]) (news:=r.map Am) rfl rfl rfl rfl rfl rfl ⟨rfl,.inr ⟨B,0,[],rfl,hB,Ab9 _,by simp,by omega⟩⟩ ac.size Ae7 (Tw (ht.ext (far _ hS))) (λu hu=>by
  obtain⟨x,_,rfl⟩:=Acu.1 hu;rfl) (by show(0+_)*17≤_;omega) rfl ?_
 intro v8 w8 aq ad bt;rw[AbW,Acb] at ad;have b0:=ac.size;have bu:w5.heap.size≤w6.heap.size:=ab.size;replace hS:Chg (Ac (Value.slice op k oc)) w5 w8:=(Chg.trans hS aq).mono (λb hb b1=>by
  rcases AbB.1 hb with hb | hb
  ·exact hb
  ·simp[Ac] at hb;omega)
 apply LW.nil;refine QW.headed hS ?_;refine DR 9 λhS=>?_;obtain⟨gR,b2,ar⟩:=EY ad ay (F0 ht);obtain⟨p8,c8,rfl⟩:=ad.slice;refine Cx λB2 w9 b3 ae aj=>?_;replace aj:Blk w9 B2 [.slice p8 r.length c8] 26:=aj;replace hS:=hS.ext ae;apply LW.nil;refine QW.headed hS ?_;refine DR 10 λhS=>?_;have ak:Ae w5 w8:=(ab.trans ac).step aq (λb hb=>by simp[Ac] at hb;omega);have a1:Ae w5 w9:=ak.trans ae;have b4:=a1.size;have b5:gR∉Ac (Value.slice op k oc)∨r=[]:=by
  by_cases hn:r=[]
  ·exact .inr hn
  ·exact .inl λhb=>by have:=(ar hn).1;have:=(hV _ hb).2;omega
 replace hX:=(hX.ext a1).push (b2.ext ae) (K9 ad) (λhn=>by
  obtain⟨g1,sp,g2⟩:=ar hn;refine⟨by omega,b5.resolve_right hn,λr' y a4 hy hf=>?_,sp,g2.ext ae⟩;obtain⟨_,_,sp',h9⟩:=hX.blk r' y a4 hy;have:=h9.lt;omega)
 have b6:s.rows.take k++[r]=s.rows.take (k+1):=by rw[Aco,hr];rfl
 have b7:(s.rows.take k).length=k:=Ae0
 rw[b6,b7] at hX;refine LW.append (lo:=w4.heap.size) (k:=k) rfl rfl rfl rfl rfl rfl (hO.ext a1) Aez aj rfl rfl rfl (by show(k+1)*25≤_;omega) rfl ?_;intro v10 al a5 a2 am;obtain⟨p10,c10,rfl⟩:=a2.slice;have a6:=(hX.over am).chg a5 (λr' y a4 hy=>(hX.blk r' y a4 hy).2.1);replace hS:Chg (Ac (Value.slice op k oc)) w5 al:=hS.same a5;have an:Ae w al:=far _ hS;have b8:=ah.chg hS n2;have b9:Chg [C] w4 al:=(Chg.trans aa hS).mono (λb hb b1=>by
  rcases AbB.1 hb with hb | hb
  ·exact hb
  ·have:=(hV b hb).1;omega)
 apply LW.nil;refine QW.headed hS ?_;refine GW.tail rfl Ae1 (λhS=>?_);refine Sa ?_;refine BO λba a0 a3=>?_;replace a3:Blk ba C (Ap s (.slice p10 (k+1) c10)) 41:=a3;have nC:∀b,b∈Ac (Value.slice p10 (k+1) c10)→b∉[C]:=λb hb=>by
  have:=(a2.lt hb).1;simp;omega
 have bb:=ah.lt;refine Sa ?_;exact QW.again (k+1,p10,c10) ⟨by show k+1≤_;omega,an.step a0 Ae0,b9.same a0,a3,xs++[.slice p8 r.length c8],_,a2.chg a0 nC,a6.chg a0 (λr' y a4 hy=>by have:=(a6.blk r' y a4 hy).1;simp;omega)⟩ B9 (by show s.rows.length - (k+1)<s.rows.length - k;omega)
theorem KN{b:Ag}{rv:Nat→Value}{k:Nat}{s:Af}{u:Value}(h:b[k]?=some s):(Br (b.take (k+1)) λi=>if i=k then u else rv i)=Br (b.take k) rv++[Ap s u]:=by
 have hk:=(Aav.1 h).1;have e:b.take (k+1)=b.take k++[s]:=by rw[Aco,h];rfl
 have e2:(b.take k).length=k:=Ae0
 rw[e];have:=QF (b:=b.take k) (rv:=rv) (s:=s) (u:=u)
 rwa [e2] at this
set_option maxRecDepth 8000 in
set_option maxHeartbeats 1000000 in
theorem H8(b:Ag)(sv:Value)(w:World)(h:B5 w sv b):AF prog 17 [.agg ⟨[sv]⟩] w (λv w'=>∃u rv f,v=.agg ⟨[u]⟩∧BI w.heap.size w' u b rv f∧Ae w w'):=by
 obtain⟨p,c,rfl⟩:=h.slice;have hl:=h.1;have a2:∀s∈b,s.name.length≤1000000:=λs hs=>by
  obtain⟨i,hi⟩:=Acy hs;obtain⟨_,_,_,_,_,hn,_⟩:=Ak.at h hi;exact hn
 refine AQ func17 ntmps17 ?_;apply CW.seq;apply CW.region;refine Sl ?_;refine Dq λA w1 b4 aj hA=>?_;replace hA:Blk w1 A [.slice p b.length c] 29:=hA;have b5:=hA.lt;refine Sl ?_;refine BX λR w2 b6 ab hR=>?_;have b7:=hR.lt;replace hA:=hA.ext ab;refine Sa ?_;refine BX λC w3 b8 a8 hC=>?_;have b9:=hC.lt;replace hA:=hA.ext a8;replace hR:=hR.ext a8;have ba:=aj.size;have bb:=ab.size;have bc:=a8.size;have bd:A≠C∧R≠C∧A≠R:=Aez
 have ak:Ae w w3:=(aj.trans ab).trans a8;refine Sa ?_;refine CW.loop (ι:=Nat×Option Addr×Nat) (λx w'=>x.1≤b.length∧Ae w w'∧Chg [C] w3 w'∧Blk w' C [.slice x.2.1 x.1 x.2.2] 29∧∃rv f,A3 w' w3.heap.size 41 3 (.slice x.2.1 x.1 x.2.2) x.1 (Br (b.take x.1) rv).flatten∧De w3.heap.size w' x.1 b rv f (Ac (.slice x.2.1 x.1 x.2.2))) (λx=>[(1,.pointer (some ⟨A,0,none⟩)),(2,.pointer (some ⟨R,0,none⟩)),(3,.pointer (some ⟨C,0,none⟩)),(4,.int .i64 x.1)]) (λx=>b.length - x.1) (0,none,0) ⟨by simp,ak,Chg.refl _ _,hC,λ_=>.slice none 0 0,λ_ _=>0,A3.nil _ _ _ _,De.zero⟩ B9 ?_;rintro⟨k,op,oc⟩ w5 ⟨hk,al,a9,am,rv,f,hO,hX⟩;dsimp only at hk am hO hX;show CW _ _ _ _ _ [(1,.pointer (some ⟨A,0,none⟩)),(2,.pointer (some ⟨R,0,none⟩)),(3,.pointer (some ⟨C,0,none⟩)),(4,.int .i64 (k:Int))] _;have be:=hA.chg a9 Ae0;have bf:=hR.chg a9 Ae0;have bg:=a9.size;have an:=ak.size;have hV:∀j,j∈Ac (Value.slice op k oc)→w3.heap.size≤j∧j<w5.heap.size:=λj hj=>hO.lt hj;have n1:A∉Ac (Value.slice op k oc):=λhb=>by have:=(hV A hb).1;omega
 have n2:C∉Ac (Value.slice op k oc):=λhb=>by have:=(hV C hb).1;omega
 refine Sa ?_;refine Av (λh6=>?_) λh6=>?_;rotate_left
 ·have h6:k=b.length:=by simp at h6;omega
  subst h6;rw[Acs] at hO;refine Sa ?_;refine AR λw6 ac au=>?_;have aa:Ae w w6:=al.step ac Ae0;have av:∀j,j∈Ac (.slice op b.length oc)→j∉[R]:=λj hj=>by have:=(hV j hj).1;simp;omega
  have ad:=hX.chg ac (λi s hi hs y hy=>by have:=((hX.rows i s hi hs).lt hy).1;simp;omega);refine Sa ?_;refine QW.body_c rfl rfl au rfl rfl rfl ⟨_,rv,f,rfl,⟨(hO.chg ac av).low an,a2,hl,⟨λi s hi hs=>(ad.rows i s hi hs).low an,ad.apartV,ad.apart⟩⟩,aa⟩
 have h6:k<b.length:=by simp at h6;omega
 obtain⟨s,hs⟩:∃s,b[k]?=some s:=⟨_,Aak h6⟩;obtain⟨a,q,qc,rfl,-,aw,ht,ao⟩:=Ak.at h hs;have bh:a.block<w.heap.size:=by
  have:=AcR w _ (ao 0 _ rfl)
  rwa [BQ,BQ] at this
 have far:∀w',Chg (Ac (Value.slice op k oc)) w5 w'→Ae w w':=λw' hS=>al.step hS λj hj=>by have:=(hV j hj).1;omega
 refine Sa ?_;refine CW.drawG (Chg (Ac (Value.slice op k oc)) w5) 10 (λw' h=>h.chg) Ae1 λw6 aa=>?_;refine Sg ?_;refine GW.take 6 rfl rfl rfl rfl (λw' ax=>Y.load_cells rfl (λj u hj=>Aw (far _ ax) (ao j u hj)) rfl rfl rfl) rfl rfl Ae1 Ae1 Ae1 (λ_ _ _ h=>h) ?_;refine DR 7 λhS=>?_;refine Ax rfl rfl (Jw s _ w6 aw (ht.ext (far _ hS))) ?_;rintro v w7 ⟨u,g,rfl,hF,ap⟩;obtain⟨xsu,aq,-⟩:=hF.own;obtain⟨pu,cu,rfl⟩:=aq.slice;clear aq;replace hS:=hS.ext ap;apply LW.nil;refine QW.headed hS ?_;refine DR 8 λhS=>?_;refine Cx λB2 w9 ay ae af=>?_;replace af:Blk w9 B2 (Ap s (.slice pu s.rows.length cu)) 41:=af;replace hS:=hS.ext ae;apply LW.nil;refine QW.headed hS ?_;refine DR 9 λhS=>?_;have a3:Ae w5 w9:=(aa.trans ap).trans ae;have az:=a3.size;have bi:w5.heap.size≤w6.heap.size:=aa.size;replace hF:=hF.ext ae;have ar:=(hX.ext a3).push hs (hF.low Aez) (λx hx hb=>by
  have:=(hF.lt hx).1;have:=(hV x hb).2;omega) (λi t hi a5 x hx hy=>by
  have:=((hX.rows i t hi a5).lt hx).2;have:=(hF.lt hy).1;omega)
 refine LW.append (lo:=w3.heap.size) (k:=k) rfl rfl rfl rfl rfl rfl (hO.ext a3) Aez af rfl rfl rfl (by show(k+1)*49≤_;omega) rfl ?_;intro v10 ag a6 a0 ah;obtain⟨p10,c10,rfl⟩:=a0.slice;have a7:=(ar.over ah).chg a6 (λi t hi a5 y hy=>ar.apartV i t hi a5 y hy);have b0:(Br (b.take k) rv).flatten++Ap s (.slice pu s.rows.length cu)=(Br (b.take (k+1)) λi=>if i=k then .slice pu s.rows.length cu else rv i).flatten:=by
  rw[KN hs];simp
 rw[b0] at a0;replace hS:Chg (Ac (Value.slice op k oc)) w5 ag:=hS.same a6;have ai:Ae w ag:=far _ hS;have b1:=am.chg hS n2;have b2:Chg [C] w3 ag:=(Chg.trans a9 hS).mono (λj hj bj=>by
  rcases AbB.1 hj with hj | hj
  ·exact hj
  ·have:=(hV j hj).1;omega)
 apply LW.nil;refine QW.headed hS ?_;refine GW.tail rfl Ae1 (λhS=>?_);refine Sa ?_;refine BO λb3 a1 a4=>?_;replace a4:Blk b3 C [.slice p10 (k+1) c10] 29:=a4;refine Sa ?_;exact QW.again (k+1,p10,c10) ⟨by show k+1≤_;omega,ai.step a1 Ae0,b2.same a1,a4,_,_,a0.chg a1 (λj hj=>by have:=(a0.lt hj).1;simp;omega),a7.chg a1 (λi t hi a5 y hy=>by have:=((a7.rows i t hi a5).lt hy).1;simp;omega)⟩ B9 (by show b.length - (k+1)<b.length - k;omega)
theorem XC(a:Addr)(i j:Nat):(a.add i).add j=a.add (i+j):=by
 unfold Addr.add;by_cases h1:i=0<;>by_cases h2:j=0<;>simp[h1,h2]<;>omega
theorem CT.low{lo lo':Nat}{w:World}{xs:List Value}{l:List (List (List UInt8))}{f:Nat→Nat}{V:List Nat}(h:CT lo w xs l f V)(hl:lo'≤lo):CT lo' w xs l f V:=⟨h.len,h.val,λr x hr hn=>let ⟨h3,h4⟩:=h.blk r x hr hn;⟨by omega,h4⟩,h.inj⟩
theorem Wq(s:Af)(rp:Option Addr)(rl rc A:Nat)(x:List UInt8)(w:World)(hA:Blk w A [Am x] 9):AF prog 64 [.agg ⟨Ap s (.slice rp rl rc)⟩,.pointer (some ⟨A,0,none⟩)] w (λv w'=>v=.bool (decide (s.name=x))∧Ae w w'):=by
 refine AQ func64 ntmps64 ?_;refine Sa ?_;refine Dq λX w1 a1 a0 hX=>?_;replace hX:Blk w1 X (Ap s (.slice rp rl rc)) 41:=hX;replace hA:=hA.ext a0;refine Sa ?_;exact QW.body1 rfl rfl ⟨by simp,a0⟩
theorem Ql(b:List Af)(sv:Value)(A:Nat)(x:List UInt8)(w:World)(h:B5 w sv b)(hA:Blk w A [Am x] 9):AF prog 63 [sv,.func (.func 64) ⟨[]⟩ ⟨[.pointer (some ⟨A,0,none⟩)]⟩] w (λv w'=>v=.int .i64 (Qq (IW b x))∧Ae w w'):=by
 obtain⟨p,c,rfl⟩:=h.slice;have hl:=h.1;refine AQ func63 ntmps63 ?_;refine Sa ?_;refine CW.loop (ι:=Nat) (λk w'=>k≤b.length∧Ae w w'∧∀i u,i<k→b[i]?=some u→u.name≠x) (λk=>[(0,.slice p b.length c),(1,.func (.func 64) ⟨[]⟩ ⟨[.pointer (some ⟨A,0,none⟩)]⟩),(7,.int .i64 b.length),(8,.int .i64 k)]) (λk=>b.length - k) 0 ⟨by omega,Chg.refl _ _,λi u h=>by omega⟩ B9 ?_;rintro k w1 ⟨hk,hx,a1⟩;replace h:=h.ext hx;replace hA:=hA.ext hx;refine Sa ?_;refine Av (λh2=>?_) λh2=>?_
 ·have h2:k<b.length:=by simp at h2;omega
  obtain⟨s,hs⟩:∃s,b[k]?=some s:=⟨_,Aak h2⟩;obtain⟨a,q,kc,rfl,-,a3,hr,a0⟩:=h.at hs;refine Sa ?_;refine Lo ?_;refine LW.load_cells rfl a0 rfl rfl rfl rfl ?_;refine Sa ?_;refine LW.call (fs:=[]) (cs:=[.pointer (some ⟨A,0,none⟩)]) rfl rfl rfl (Wq s _ _ _ A x w1 hA) ?_;rintro v w2 ⟨rfl,a2⟩;refine Sa ?_;refine Av (λh3=>?_) λh3=>?_
  ·have h3:s.name=x:=by simpa using h3
   refine Sa ?_;exact QW.body1 rfl rfl ⟨by rw[TH hs h3 a1];rfl,hx.trans a2⟩
  ·have h3:s.name≠x:=by simpa using h3
   refine Sa ?_;refine QW.again (k+1) ⟨by omega,hx.trans a2,λi u hi hu=>?_⟩ B9 Aez;rcases Ac0 i k with h4 | h4
   ·exact a1 i u h4 hu
   ·obtain rfl:i=k:=by omega
    rw[hs] at hu;obtain rfl:=Aa5 hu;exact h3
 ·have h2:k=b.length:=by simp at h2;omega
  subst h2;refine Sa ?_;refine QW.body1 rfl rfl ⟨?_,hx⟩;rw[Rc (λi s hi hs=>a1 i s hi hs)];rfl
theorem QO(b:List Af)(sv:Value)(x:List UInt8)(w:World)(h:B5 w sv b):AF prog 45 [.agg ⟨[sv]⟩,Am x] w (λv w'=>v=.int .i64 (Qq (IW b x))∧Ae w w'):=by
 obtain⟨p,c,rfl⟩:=h.slice;refine AQ func45 ntmps45 ?_;refine Sa ?_;refine Dq λB w1 a4 a2 hB=>?_;replace hB:Blk w1 B [.slice p b.length c] 29:=hB;refine Sa ?_;refine Dq λA w2 a5 a1 hA=>?_;replace hA:Blk w2 A [Am x] 9:=hA;replace hB:=hB.ext a1;have a0:=a2.trans a1;refine Sa ?_;refine Ax rfl rfl (Ql b _ A x w2 (h.ext a0) hA) ?_;rintro v w3 ⟨rfl,a3⟩;refine Sa ?_;exact QW.body1 rfl rfl ⟨rfl,a0.trans a3⟩
theorem LO(b:List Af)(sv:Value)(x:List UInt8)(w:World)(h:B5 w sv b):AF prog 49 [.agg ⟨[sv]⟩,Am x] w (λv w'=>v=.int .i64 (Qq (IW b x))∧Ae w w'):=by
 obtain⟨p,c,rfl⟩:=h.slice;have hl:=h.1;refine AQ func49 ntmps49 ?_;refine Sa ?_;refine Dq λB w1 a4 a2 hB=>?_;replace hB:Blk w1 B [.slice p b.length c] 29:=hB;replace h:=h.ext a2;refine Sa ?_;refine CW.loop (ι:=Nat) (λk w'=>k≤b.length∧Ae w1 w'∧∀i u,i<k→b[i]?=some u→u.name≠x) (λk=>[(1,Am x),(2,.pointer (some ⟨B,0,none⟩)),(5,.int .i64 k)]) (λk=>b.length - k) 0 ⟨by omega,Chg.refl _ _,λi u h=>by omega⟩ Bh ?_;rintro k w2 ⟨hk,hx,a1⟩;replace h:=h.ext hx;have a5:=hB.ext hx;have a3:=a2.trans hx;refine Sa ?_;refine Av (λh2=>?_) λh2=>?_
 ·have h2:k<b.length:=by simp at h2;omega
  obtain⟨s,hs⟩:∃s,b[k]?=some s:=⟨_,Aak h2⟩;obtain⟨a,q,kc,rfl,-,a6,hr,a0⟩:=h.at hs;refine Sa ?_;refine Lo ?_;refine Ln ?_;refine Lp (a0 0 _ rfl) ?_;refine Sa ?_;refine Av (λh3=>?_) λh3=>?_
  ·have h3:s.name=x:=by simpa using h3
   refine Sa ?_;exact QW.body1 rfl rfl ⟨by rw[TH hs h3 a1];rfl,a3⟩
  ·have h3:s.name≠x:=by simpa using h3
   refine Sa ?_;refine QW.again (k+1) ⟨by omega,hx,λi u hi hu=>?_⟩ Bh Aez;rcases Ac0 i k with h4 | h4
   ·exact a1 i u h4 hu
   ·obtain rfl:i=k:=by omega
    rw[hs] at hu;obtain rfl:=Aa5 hu;exact h3
 ·have h2:k=b.length:=by simp at h2;omega
  subst h2;refine Sa ?_;refine QW.body1 rfl rfl ⟨?_,a3⟩;rw[Rc (λi s hi hs=>a1 i s hi hs)];rfl
theorem Hb{α:Type}{f:α→Bool}{l:List α}{k:Nat}{x:α}(h:l[k]?=some x)(hf:f x=false):l.all f=false:=by
 rw[Aei];exact⟨x,Aa9 h,by simp[hf]⟩
theorem Kl{α:Type}{f:α→Bool}{l:List α}{k:Nat}{x:α}(h:(l.take k).all f=true)(hk:l[k]?=some x)(hf:f x=true):(l.take (k+1)).all f=true:=by
 rw[Aco,hk,List.all_append,h];simp[hf]
theorem MG{α:Type}{f:α→Bool}{l:List α}(h:(l.take l.length).all f=true):l.all f=true:=by
 rwa [Acs] at h
noncomputable def Ie(cols:Int)(r:List (List UInt8)):Bool:=decide ((r.length:Int)=cols)&&r.all Bt
theorem DV(s:Af):AJ s=(D7 s.name&&(decide (0≤s.cols)&&(decide (s.cols≤12)&&(decide (s.rows.length≤24)&&s.rows.all (Ie s.cols))))):=by
 unfold AJ Ie;simp[Bool.and_assoc]
theorem NR:∀{b:Ag} {p:Option (List UInt8)},G6 p b=true↔∀i s,b[i]?=some s→AJ s=true∧∀q,(if i=0 then p else(b[i - 1]?).map Af.name)=some q→Op.bytesLess q s.name=true
 | [],p=>by simp[G6]
 | s::r,p=>by
  show(((match p with | none=>true | some q=>Op.bytesLess q s.name)&&AJ s&&G6 (some s.name) r)=true)↔_;rw[Abf,Abf,NR];constructor
  ·rintro⟨⟨h1,h2⟩,h3⟩ i u hi
   cases i with
   | zero=>
    simp at hi;subst hi;refine⟨h2,λq hq=>?_⟩;rw[if_pos rfl] at hq;subst hq
    exact h1
   | succ i=>
    have h4:=h3 i u Afk;refine⟨h4.1,λq hq=>h4.2 q ?_⟩;rw[if_neg Aez] at hq
    cases i with
    | zero=>simpa using hq
    | succ i=>simpa using hq
  ·intro h;have h0:=h 0 s rfl;refine⟨⟨?_,h0.1⟩,λi u hi=>?_⟩
   ·cases p with
    | none=>rfl
    | some q=>exact h0.2 q rfl
   ·have h4:=h (i+1) u Afk;refine⟨h4.1,λq hq=>h4.2 q ?_⟩;rw[if_neg Aez]
    cases i with
    | zero=>simpa using hq
    | succ i=>simpa using hq
theorem K4(s:Af)(rv:Value)(w:World)(g:Dg w)(hn:s.name.length≤1000000)(h:GY w rv s.rows):AF prog 43 [.agg ⟨Ap s rv⟩] w (λr w'=>r=.bool (AJ s)∧Ae w w'):=by
 obtain⟨p,c,rfl⟩:=h.slice;have hl:=h.1;refine AQ func43 ntmps43 ?_;apply CW.seq;apply CW.region;refine Sl ?_;refine Dq λA w1 a9 a5 hA=>?_;replace hA:Blk w1 A (Ap s (.slice p s.rows.length c)) 41:=hA;replace g:=g.ext a5;replace h:=h.ext a5;refine Sa ?_;refine Ax rfl rfl (QR s.name w1 Aez) ?_;rintro v w2 ⟨rfl,a4⟩;replace g:=g.ext a4;replace h:=h.ext a4;replace hA:=hA.ext a4;have hx:=a5.trans a4;refine Sa ?_
 cases h1:D7 s.name with
 | false=>
  refine Sa ?_
  exact QW.body1 rfl rfl ⟨by rw[DV,h1];rfl,hx⟩
 | true=>
 refine Sa ?_;by_cases h2:s.cols<0
 ·refine LW.know (t:=16) (c:=true) rfl Afj ?_;refine Sa ?_;exact QW.body1 rfl rfl ⟨by rw[DV,decide_eq_false (p:=0≤s.cols) Aez];simp,hx⟩
 refine LW.know (t:=16) (c:=false) rfl Afj ?_;refine Sa ?_;by_cases h3:12<s.cols
 ·refine LW.know (t:=21) (c:=true) rfl AfC ?_;refine Sa ?_;exact QW.body1 rfl rfl ⟨by rw[DV,decide_eq_false (p:=s.cols≤12) Aez];simp,hx⟩
 refine LW.know (t:=21) (c:=false) rfl AfC ?_;refine Sa ?_;refine Av (λh4=>?_) λh4=>?_
 ·have h4:24<s.rows.length:=by simp at h4;omega
  refine Sa ?_;exact QW.body1 rfl rfl ⟨by rw[DV,decide_eq_false (p:=s.rows.length≤24) Aez];simp,hx⟩
 have h4:s.rows.length≤24:=by simp at h4;omega
 have e0:AJ s=s.rows.all (Ie s.cols):=by
  rw[DV,h1,decide_eq_true (p:=0≤s.cols) Aez,decide_eq_true (p:=s.cols≤12) Aez,decide_eq_true h4];simp
 refine Sa ?_;refine CW.loop (ι:=Nat) (λk w'=>k≤s.rows.length∧Ae w2 w'∧(s.rows.take k).all (Ie s.cols)=true) (λk=>[(1,.pointer (some ⟨A,0,none⟩)),(28,.slice p s.rows.length c),(29,.int .i64 s.rows.length),(30,.int .i64 k)]) (λk=>s.rows.length - k) 0 ⟨by omega,Chg.refl _ _,rfl⟩ B9 ?_;rintro k w3 ⟨hk,a1,a7⟩;replace h:=h.ext a1;replace hA:=hA.ext a1;replace g:=g.ext a1;replace a0:=hx.trans a1;refine Sa ?_;refine Av (λh5=>?_) λh5=>?_;rotate_left
 ·have h5:k=s.rows.length:=by simp at h5;omega
  subst h5;refine Sa ?_;exact QW.body1 rfl rfl ⟨by rw[e0,MG a7],a0⟩
 have h5:k<s.rows.length:=by simp at h5;omega
 obtain⟨r,hr⟩:∃r,s.rows[k]?=some r:=⟨_,Aak h5⟩;obtain⟨a,q,qc,rfl,-,ht,hc⟩:=GY.at h hr;have aa:=ht.1;refine Sw ?_;refine Av (λh6=>?_) λh6=>?_
 ·have h6:(r.length:Int)≠s.cols:=by simpa using h6
  refine Sa ?_;exact QW.body1 rfl rfl ⟨by rw[e0,Hb hr (by rw[Ie,decide_eq_false h6];rfl)],a0⟩
 have h6:(r.length:Int)=s.cols:=by simpa using h6
 refine Sa ?_;refine CW.loop (ι:=Nat) (λj w'=>j≤r.length∧Ae w3 w'∧(r.take j).all Bt=true) (λj=>[(1,.pointer (some ⟨A,0,none⟩)),(28,.slice (some a) s.rows.length c),(29,.int .i64 s.rows.length),(30,.int .i64 k),(39,.slice q r.length qc),(40,.int .i64 r.length),(41,.int .i64 j)]) (λj=>r.length - j) 0 ⟨by omega,Chg.refl _ _,rfl⟩ Nd ?_;rintro j w4 ⟨hj,a2,a3⟩;replace ht:=ht.ext a2;replace g:=g.ext a2;refine Sa ?_;refine Av (λh7=>?_) λh7=>?_;rotate_left
 ·have h7:j=r.length:=by simp at h7;omega
  subst h7;refine Sa ?_;refine QW.again (k+1) ⟨by omega,a1.trans a2,Kl a7 hr ?_⟩ B9 Aez;rw[Ie,decide_eq_true h6,MG a3];rfl
 have h7:j<r.length:=by simp at h7;omega
 obtain⟨t,a6⟩:∃t,r[j]?=some t:=⟨_,Aak h7⟩;obtain⟨a',rfl,-,ab,ac⟩:=Ga.at ht a6;refine Sw ?_;refine Ax rfl rfl (Rp t Aez w4 g) ?_;rintro v w5 ⟨rfl,a8⟩;refine Sa ?_
 cases h8:Bt t with
 | false=>
  refine Sa ?_
  exact QW.body1 rfl rfl ⟨by rw[e0,Hb hr (by rw[Ie,Hb a6 h8,AdN])],(a0.trans a2).trans a8⟩
 | true=>
  refine Sa ?_;exact QW.again (j+1) ⟨by omega,a2.trans a8,Kl a3 a6 h8⟩ Nd Aez
noncomputable def Dj(b:Ag)(i:Nat):Bool:=match b[i]? with
 | none=>false
 | some s=>AJ s&&(match i with | 0=>true | j+1=>Op.bytesLess ((b[j]?).elim [] Af.name) s.name)
theorem Pp{b:Ag}(h:∀i,i<b.length→Dj b i=true):G6 none b=true:=by
 rw[NR];intro i s hi;have hl:=(Aav.1 hi).1;have h1:=h i hl;unfold Dj at h1;rw[hi] at h1;simp only[Abf] at h1;refine⟨h1.1,λq hq=>?_⟩
 cases i with
 | zero=>simp at hq
 | succ i=>
  rw[if_neg Aez] at hq;have h2:Op.bytesLess ((b[i]?).elim [] Af.name) s.name=true:=h1.2;simp only[Nat.add_sub_cancel] at hq
  cases h3:b[i]? with
  | none=>rw[h3] at hq;simp at hq
  | some u=>
   rw[h3] at hq h2;simp at hq;rw[←hq];exact h2
theorem Gh{b:Ag}{i:Nat}(hi:i<b.length)(h:Dj b i=false):G6 none b=false:=by
 cases hm:G6 none b with
 | false=>rfl
 | true=>
  rw[NR] at hm;have hs:=Aak hi;obtain⟨h1,h2⟩:=hm i _ hs;unfold Dj at h;rw[hs] at h;simp only[h1,Bool.true_and] at h
  cases i with
  | zero=>simp at h
  | succ i=>
   have h3:=Aak (show i<b.length by omega);have h4:=h2 (b[i]' Aez).name (by rw[if_neg Aez];simp only[Nat.add_sub_cancel];rw[h3];rfl);have h:Op.bytesLess ((b[i]?).elim [] Af.name) b[i+1].name=false:=h;rw[h3] at h;have h:Op.bytesLess b[i].name b[i+1].name=false:=h;rw[h4] at h;cases h
theorem VQ(b:Ag)(sv:Value)(w:World)(g:Dg w)(h:DY w sv b):AF prog 25 [.agg ⟨[sv]⟩] w (λr w'=>r=.bool (A5 b)∧Ae w w'):=by
 obtain⟨p,c,rfl⟩:=h.slice;have hl:=h.1;refine AQ func25 ntmps25 ?_;apply CW.seq;apply CW.region;refine Sl ?_;refine Dq λA w1 ad a5 hA=>?_;replace hA:Blk w1 A [.slice p b.length c] 29:=hA;replace g:=g.ext a5;replace h:=h.ext a5;refine Sa ?_;refine Av (λh4=>?_) λh4=>?_
 ·have h4:5<b.length:=by simp at h4;omega
  refine Sa ?_;exact QW.body1 rfl rfl ⟨by rw[A5,decide_eq_false Aez];rfl,a5⟩
 have h4:b.length≤5:=by simp at h4;omega
 have e0:A5 b=G6 none b:=by rw[A5,decide_eq_true h4];rfl
 refine Sa ?_;refine CW.loop (ι:=Nat) (λk w'=>k≤b.length∧Ae w1 w'∧∀i,i<k→Dj b i=true) (λk=>[(1,.pointer (some ⟨A,0,none⟩)),(10,.slice p b.length c),(11,.int .i64 b.length),(12,.int .i64 k)]) (λk=>b.length - k) 0 ⟨by omega,Chg.refl _ _,by simp⟩ B9 ?_;rintro k w2 ⟨hk,a4,a7⟩;replace h:=h.ext a4;replace hA:=hA.ext a4;replace g:=g.ext a4;have a1:=a5.trans a4;refine Sa ?_;refine Av (λh5=>?_) λh5=>?_;rotate_left
 ·have h5:k=b.length:=by simp at h5;omega
  subst h5;refine Sa ?_;exact QW.body1 rfl rfl ⟨by rw[e0,Pp a7],a1⟩
 have h5:k<b.length:=by simp at h5;omega
 obtain⟨s,hs⟩:∃r,b[k]?=some r:=⟨_,Aak h5⟩;obtain⟨a,q,qc,rfl,-,a8,ht,hc⟩:=DY.at h hs;refine Sw ?_;refine BX λX w3 ae a6 hX=>?_;have af:=hA.ext a6;have ag:A≠X:=λe=>by have:=hA.lt;omega
 have h3:=h.ext a6;have ah:=ht.ext a6;refine Sw ?_;refine AR λw4 aa hX=>?_;replace hX:Blk w4 X (Ap s (.slice q s.rows.length qc)) 41:=hX;have a3:Ae w2 w4:=a6.step aa Ae0;have ai:=hA.ext a3;have ab:=h.ext a3;have a9:=ht.ext a3;have g4:=g.ext a3;refine Sa ?_;refine HZ ?_;refine MF ?_
 cases k with
 | zero=>
  refine QL.know (t:=19) (c:=false) rfl Ae7 ?_;refine MF ?_;refine QL.call0 rfl rfl (λw5 a0=>K4 s _ w5 (g4.ext a0) a8 (a9.ext a0)) ?_;refine MF ?_;refine QL.nil λw5 a0=>?_;refine Sa ?_;refine Av (λh8=>?_) λh8=>?_
  ·have h8:AJ s=false:=by simpa using h8
   refine Sa ?_;exact QW.body1 rfl rfl ⟨by rw[e0,Gh h5 (by unfold Dj;rw[hs];show(AJ s&&true)=_;rw[h8];rfl)],(a1.trans a3).trans a0⟩
  ·have h8:AJ s=true:=by simpa using h8
   refine Sa ?_;exact QW.again (1) ⟨by omega,(a4.trans a3).trans a0,λi hi=>by
    rcases Ac0 i (0) with h9 | h9
    ·exact a7 i h9
    ·obtain rfl:i=0:=by omega
     unfold Dj;rw[hs];show(AJ s&&true)=_;rw[h8];rfl⟩ B9 Aez
 | succ j=>
  obtain⟨u,hu⟩:∃u,b[j]?=some u:=⟨_,Aak Aez⟩;obtain⟨a2,q2,qc2,e2,-,-,-,ac⟩:=DY.at ab hu;obtain rfl:=Aa5 e2;have aj:w4.cell? ((a.add ((((j+1:Nat):Int) - 1).toNat*3)).add 0)=some (Am u.name):=by
   rw[show(((j+1:Nat):Int) - 1).toNat=((j:Nat):Int).toNat by omega];exact ac 0 _ rfl
  refine QL.know (t:=19) (c:=true) rfl Ae7 ?_;refine MF ?_
  cases h7:Op.bytesLess u.name s.name with
  | false=>
   refine QL.know (t:=31) (c:=true) rfl rfl ?_;refine MF ?_;refine QL.nil λw5 a0=>?_;refine Sa ?_;exact QW.body1 rfl rfl ⟨by rw[e0,Gh h5 (by
    unfold Dj;rw[hs];have e3:Op.bytesLess ((b[j]?).elim [] Af.name) s.name=false:=by rw[hu];exact h7
    show(AJ s&&Op.bytesLess ((b[j]?).elim [] Af.name) s.name)=false
    rw[e3,AdN])],(a1.trans a3).trans a0⟩
  | true=>
  have e3:Op.bytesLess ((b[j]?).elim [] Af.name) s.name=true:=by rw[hu];exact h7
  have e4:Dj b (j+1)=(AJ s&&Op.bytesLess ((b[j]?).elim [] Af.name) s.name):=by unfold Dj;rw[hs]
  refine QL.know (t:=31) (c:=false) rfl rfl ?_;refine MF ?_;refine QL.call0 rfl rfl (λw5 a0=>K4 s _ w5 (g4.ext a0) a8 (a9.ext a0)) ?_;refine MF ?_;refine QL.nil λw5 a0=>?_;refine Sa ?_;refine Av (λh8=>?_) λh8=>?_
  ·have h8:AJ s=false:=by simpa using h8
   refine Sa ?_;exact QW.body1 rfl rfl ⟨by rw[e0,Gh h5 (by rw[e4,h8];rfl)],(a1.trans a3).trans a0⟩
  ·have h8:AJ s=true:=by simpa using h8
   refine Sa ?_;exact QW.again (j+1+1) ⟨by omega,(a4.trans a3).trans a0,λi hi=>by
    rcases Ac0 i (j+1) with h9 | h9
    ·exact a7 i h9
    ·obtain rfl:i=j+1:=by omega
     rw[e4,h8,e3];rfl⟩ B9 Aez
theorem X8(b:Ag)(sv:Value)(w:World)(g:Dg w)(h:B5 w sv b):AF prog 25 [.agg ⟨[sv]⟩] w (λr w'=>r=.bool (A5 b)∧Ae w w'):=VQ b sv w g (Ak.loose h)
theorem OV(s:Af)(rv:Value)(w:World)(hn:s.name.length≤1000000)(h:GY w rv s.rows):AF prog 20 [.agg ⟨Ap s rv⟩] w (λr w'=>r=.bool (AJ s)∧Ae w w'):=by
 obtain⟨p,c,rfl⟩:=h.slice;have hl:=h.1;refine AQ func20 ntmps20 ?_;apply CW.seq;apply CW.region;refine Sl ?_;refine Dq λA w1 ab a7 hA=>?_;replace hA:Blk w1 A (Ap s (.slice p s.rows.length c)) 41:=hA;replace h:=h.ext a7;refine Sa ?_;refine Ax rfl rfl (Pz s.name Aez w1) ?_;rintro v w2 ⟨rfl,a5⟩;replace h:=h.ext a5;replace hA:=hA.ext a5;have hx:=a7.trans a5;refine Sa ?_
 cases h1:D7 s.name with
 | false=>
  refine Sa ?_
  exact QW.body1 rfl rfl ⟨by rw[DV,h1];rfl,hx⟩
 | true=>
 refine Sa ?_;by_cases h2:s.cols<0
 ·refine LW.know (t:=14) (c:=true) rfl Afj ?_;refine Sa ?_;exact QW.body1 rfl rfl ⟨by rw[DV,decide_eq_false (p:=0≤s.cols) Aez];simp,hx⟩
 refine LW.know (t:=14) (c:=false) rfl Afj ?_;refine Sa ?_;by_cases h3:12<s.cols
 ·refine LW.know (t:=19) (c:=true) rfl AfC ?_;refine Sa ?_;exact QW.body1 rfl rfl ⟨by rw[DV,decide_eq_false (p:=s.cols≤12) Aez];simp,hx⟩
 refine LW.know (t:=19) (c:=false) rfl AfC ?_;refine Sa ?_;refine Av (λh4=>?_) λh4=>?_
 ·have h4:24<s.rows.length:=by simp at h4;omega
  refine Sa ?_;exact QW.body1 rfl rfl ⟨by rw[DV,decide_eq_false (p:=s.rows.length≤24) Aez];simp,hx⟩
 have h4:s.rows.length≤24:=by simp at h4;omega
 have e0:AJ s=s.rows.all (Ie s.cols):=by
  rw[DV,h1,decide_eq_true (p:=0≤s.cols) Aez,decide_eq_true (p:=s.cols≤12) Aez,decide_eq_true h4];simp
 refine Sa ?_;refine CW.loop (ι:=Nat) (λk w'=>k≤s.rows.length∧Ae w2 w'∧(s.rows.take k).all (Ie s.cols)=true) (λk=>[(1,.pointer (some ⟨A,0,none⟩)),(3,.int .i64 k)]) (λk=>s.rows.length - k) 0 ⟨by omega,Chg.refl _ _,rfl⟩ EH ?_;rintro k w3 ⟨hk,a4,a8⟩;replace h:=h.ext a4;replace hA:=hA.ext a4;replace a0:=hx.trans a4;refine Sa ?_;refine Av (λh5=>?_) λh5=>?_;rotate_left
 ·have h5:k=s.rows.length:=by simp at h5;omega
  subst h5;refine Sa ?_;exact QW.body1 rfl rfl ⟨by rw[e0,MG a8],a0⟩
 have h5:k<s.rows.length:=by simp at h5;omega
 obtain⟨r,hr⟩:∃r,s.rows[k]?=some r:=⟨_,Aak h5⟩;obtain⟨a,q,qc,rfl,-,ht,hc⟩:=GY.at h hr;have ac:=ht.1;refine Sa ?_;refine HZ ?_;refine MF ?_;refine QL.nil λw4 a1=>?_;replace ht:=ht.ext a1;replace h:=h.ext a1;replace hA:=hA.ext a1;have aa:=A2 a1 hc;refine Sa ?_;refine Av (λh6=>?_) λh6=>?_
 ·have h6:(r.length:Int)≠s.cols:=by simpa using h6
  refine Sa ?_;exact QW.body1 rfl rfl ⟨by rw[e0,Hb hr (by rw[Ie,decide_eq_false h6];rfl)],a0.trans a1⟩
 have h6:(r.length:Int)=s.cols:=by simpa using h6
 refine Sa ?_;refine CW.loop (ι:=Nat) (λj w'=>j≤r.length∧Ae w4 w'∧(r.take j).all Bt=true) (λj=>[(1,.pointer (some ⟨A,0,none⟩)),(3,.int .i64 k),(4,.int .i64 j)]) (λj=>r.length - j) 0 ⟨by omega,Chg.refl _ _,rfl⟩ Bh ?_;rintro j w5 ⟨hj,a2,a3⟩;replace ht:=ht.ext a2;replace hA:=hA.ext a2;replace ad:=A2 a2 aa;refine Sw ?_;refine Av (λh7=>?_) λh7=>?_;rotate_left
 ·have h7:j=r.length:=by simp at h7;omega
  subst h7;refine Sa ?_;refine QW.again (k+1) ⟨by omega,(a4.trans a1).trans a2,Kl a8 hr ?_⟩ EH Aez;rw[Ie,decide_eq_true h6,MG a3];rfl
 have h7:j<r.length:=by simp at h7;omega
 obtain⟨t,a6⟩:∃t,r[j]?=some t:=⟨_,Aak h7⟩;obtain⟨a',rfl,-,ae,af⟩:=Ga.at ht a6;refine Sw ?_;refine Ax rfl rfl (HR t Aez w5) ?_;rintro v w6 ⟨rfl,a9⟩;refine Sa ?_
 cases h8:Bt t with
 | false=>
  refine Sa ?_
  exact QW.body1 rfl rfl ⟨by rw[e0,Hb hr (by rw[Ie,Hb a6 h8,AdN])],((a0.trans a1).trans a2).trans a9⟩
 | true=>
  refine Sa ?_;exact QW.again (j+1) ⟨by omega,a2.trans a9,Kl a3 a6 h8⟩ Bh Aez
theorem OU(b:Ag)(sv:Value)(w:World)(h:DY w sv b):AF prog 11 [.agg ⟨[sv]⟩] w (λr w'=>r=.bool (A5 b)∧Ae w w'):=by
 obtain⟨p,c,rfl⟩:=h.slice;have hl:=h.1;refine AQ func11 ntmps11 ?_;apply CW.seq;apply CW.region;refine Sl ?_;refine Dq λA w1 a8 a4 hA=>?_;replace hA:Blk w1 A [.slice p b.length c] 29:=hA;replace h:=h.ext a4;refine Sa ?_;refine Av (λh4=>?_) λh4=>?_
 ·have h4:5<b.length:=by simp at h4;omega
  refine Sa ?_;exact QW.body1 rfl rfl ⟨by rw[A5,decide_eq_false Aez];rfl,a4⟩
 have h4:b.length≤5:=by simp at h4;omega
 have e0:A5 b=G6 none b:=by rw[A5,decide_eq_true h4];rfl
 refine Sa ?_;refine CW.loop (ι:=Nat) (λk w'=>k≤b.length∧Ae w1 w'∧∀i,i<k→Dj b i=true) (λk=>[(1,.pointer (some ⟨A,0,none⟩)),(3,.int .i64 k)]) (λk=>b.length - k) 0 ⟨by omega,Chg.refl _ _,by simp⟩ EH ?_;rintro k w2 ⟨hk,a3,a5⟩;replace h:=h.ext a3;replace hA:=hA.ext a3;have a1:=a4.trans a3;refine Sa ?_;refine Av (λh5=>?_) λh5=>?_;rotate_left
 ·have h5:k=b.length:=by simp at h5;omega
  subst h5;refine Sa ?_;exact QW.body1 rfl rfl ⟨by rw[e0,Pp a5],a1⟩
 have h5:k<b.length:=by simp at h5;omega
 obtain⟨s,hs⟩:∃r,b[k]?=some r:=⟨_,Aak h5⟩;obtain⟨a,q,qc,rfl,-,a6,ht,hc⟩:=DY.at h hs;have a9:w2.cell? ((a.add (((k:Nat):Int).toNat*3)).add 0)=some (Am s.name):=hc 0 _ rfl;refine Sa ?_;refine HZ ?_;refine MF ?_;refine QL.call0 rfl rfl (λw5 a0=>OV s _ w5 a6 (ht.ext a0)) ?_;refine MF ?_
 cases h8:AJ s with
 | false=>
  refine QL.know (t:=22) (c:=true) rfl rfl ?_;refine MF ?_;refine QL.nil λw5 a0=>?_;refine Sa ?_;exact QW.body1 rfl rfl ⟨by rw[e0,Gh h5 (by
   unfold Dj;rw[hs];show(AJ s&&_)=false
   rw[h8];rfl)],a1.trans a0⟩
 | true=>
 refine QL.know (t:=22) (c:=false) rfl rfl ?_;refine MF ?_
 cases k with
 | zero=>
  refine QL.know (t:=25) (c:=false) rfl Ae7 ?_;refine MF ?_;refine QL.nil λw5 a0=>?_;refine Sa ?_;exact QW.again 1 ⟨by omega,a3.trans a0,λi hi=>by
   obtain rfl:i=0:=by omega
   unfold Dj;rw[hs];show(AJ s&&true)=_;rw[h8];rfl⟩ EH Aez
 | succ j=>
  obtain⟨u,hu⟩:∃u,b[j]?=some u:=⟨_,Aak Aez⟩;obtain⟨a2,q2,qc2,e2,-,-,-,a7⟩:=DY.at h hu;obtain rfl:=Aa5 e2;have aa:w2.cell? ((a.add ((((j+1:Nat):Int) - 1).toNat*3)).add 0)=some (Am u.name):=by
   rw[show(((j+1:Nat):Int) - 1).toNat=((j:Nat):Int).toNat by omega];exact a7 0 _ rfl
  have e4:Dj b (j+1)=(AJ s&&Op.bytesLess ((b[j]?).elim [] Af.name) s.name):=by unfold Dj;rw[hs]
  have e3:((b[j]?).elim [] Af.name)=u.name:=by rw[hu];rfl
  rw[e3,h8] at e4;refine QL.know (t:=25) (c:=true) rfl Ae7 ?_;refine MF ?_;refine QL.nil λw5 a0=>?_;refine Sa ?_;refine Av (λh7=>?_) λh7=>?_
  ·have h7:Op.bytesLess u.name s.name=false:=by simpa using h7
   refine Sa ?_;exact QW.body1 rfl rfl ⟨by rw[e0,Gh h5 (by rw[e4,h7];rfl)],a1.trans a0⟩
  ·have h7:Op.bytesLess u.name s.name=true:=by simpa using h7
   refine Sa ?_;exact QW.again (j+1+1) ⟨by omega,a3.trans a0,λi hi=>by
    rcases Ac0 i (j+1) with h9 | h9
    ·exact a5 i h9
    ·obtain rfl:i=j+1:=by omega
     rw[e4,h7];rfl⟩ EH Aez
theorem KH(b:Ag)(sv:Value)(w:World)(h:B5 w sv b):AF prog 11 [.agg ⟨[sv]⟩] w (λr w'=>r=.bool (A5 b)∧Ae w w'):=OU b sv w (Ak.loose h)
theorem ZH{s:Af}{row col:Int}(h:Yk s row col=true):∃r:List (List UInt8),s.rows[row.toNat]?=some r∧0≤row∧row<s.rows.length∧0≤col∧col<r.length:=by
 simp only[Yk,Abf,decide_eq_true_eq] at h;obtain⟨⟨h1,h2⟩,h3,h4⟩:=h;have h5:=Aak (show row.toNat<s.rows.length by omega);refine⟨_,h5,h1,h2,h3,?_⟩
 simpa[AaE,h5] using h4
theorem Uk(s:Af)(rv:Value)(row col:Int)(w:World)(h:EK w rv s.rows):AF prog 106 [.agg ⟨Ap s rv⟩,.int .i64 row,.int .i64 col] w (λr w'=>r=.bool (Yk s row col)∧Ae w w'):=by
 obtain⟨p,c,rfl⟩:=h.slice;have hl:=h.1;refine AQ func106 ntmps106 ?_;apply CW.seq;apply CW.region;refine Sl ?_;refine Dq λA w1 a1 a0 hA=>?_;replace hA:Blk w1 A (Ap s (.slice p s.rows.length c)) 41:=hA;replace h:=h.ext a0;refine Sa ?_;by_cases h1:0≤row;rotate_left
 ·refine LW.know (t:=9) (c:=false) rfl Aft ?_;refine Sa ?_;exact QW.body1 rfl rfl ⟨by rw[Yk,decide_eq_false h1];rfl,a0⟩
 refine LW.know (t:=9) (c:=true) rfl Aft ?_;refine Sa ?_;by_cases h2:row<s.rows.length;rotate_left
 ·refine LW.know (t:=16) (c:=false) rfl Afj ?_;refine Sa ?_;exact QW.body1 rfl rfl ⟨by rw[Yk,decide_eq_false h2,AdN];rfl,a0⟩
 refine LW.know (t:=16) (c:=true) rfl Afj ?_;refine Sa ?_;by_cases h3:0≤col;rotate_left
 ·refine LW.know (t:=20) (c:=false) rfl AfC ?_;refine Sa ?_;exact QW.body1 rfl rfl ⟨by rw[Yk,decide_eq_false h3,Bool.false_and,AdN],a0⟩
 refine LW.know (t:=20) (c:=true) rfl AfC ?_;have hr:=Aak (show row.toNat<s.rows.length by omega);obtain⟨a,q,qc,rfl,-,ht,hc⟩:=AO.at h hr;have hc:w1.cell? (a.add (row.toNat*1))=_:=hc;refine Sw ?_;exact QW.body1 rfl rfl ⟨by
  rw[Yk,decide_eq_true h1,decide_eq_true h2,decide_eq_true h3];simp[hr],a0⟩
def YY(nm:List UInt8)(row col:Int):List Value:=[Am nm,.int .i64 row,.int .i64 col]
theorem Gr{l:List (List (List UInt8))}{row col:Nat}{t:List UInt8}{r:Nat}{y:List (List UInt8)}(h:(l.modify row λx=>x.set col t)[r]?=some y):∃x,l[r]?=some x∧y=if r=row then x.set col t else x:=by
 rw[AcA] at h
 cases h1:l[r]? with
 | none=>rw[h1] at h;simp at h
 | some x=>
  rw[h1] at h;simp at h;refine⟨x,rfl,?_⟩;by_cases e:r=row
  ·subst e;simp at h;rw[if_pos rfl];exact h.symm
  ·rw[if_neg (λx=>e x.symm)] at h;rw[if_neg e];exact h.symm
theorem Zj{v:Value}{l:List (List (List UInt8))}{f:Nat→Nat}{row col:Nat}{t:List UInt8}{b:Nat}:DJ v (l.modify row λx=>x.set col t) f b→DJ v l f b:=by
 rintro(h | ⟨r,y,hr,hn,rfl⟩)
 ·exact .inl h
 ·obtain⟨x,hx,rfl⟩:=Gr hr;refine .inr ⟨r,x,hx,λe=>hn ?_,rfl⟩;rw[e];simp
theorem CT.set{lo:Nat}{w w':World}{xs:List Value}{l:List (List (List UInt8))}{f:Nat→Nat}{V:List Nat}{row col:Nat}{t:List UInt8}{x:List (List UInt8)}{sp:List Value}(h:CT lo w xs l f V)(hr:l[row]?=some x)(hc:col<x.length)(ht:t.length≤1000000)(hx:Chg [f row] w w')(hB:Blk w' (f row) ((x.set col t).map Am++sp) 9):CT lo w' xs (l.modify row λx=>x.set col t) f V:=by
 have a1:x≠[]:=λe=>by rw[e] at hc;simp at hc
 refine⟨by simp[h.len],λr y hy=>?_,λr y hy hn=>?_,λr q y z hy hz hn hm hf=>?_⟩
 ·obtain⟨x',h1,rfl⟩:=Gr hy;obtain⟨u,h2,h3,h0⟩:=h.val r x' h1;refine⟨u,h2,?_,h0⟩;by_cases e:r=row
  ·subst e;rw[hr] at h1;obtain rfl:=Aa5 h1;rw[if_pos rfl];obtain⟨k0,⟨_,e2⟩ | ⟨a,c,e2,hk,a0⟩⟩:=h3
   ·exact absurd e2 a1
   ·obtain rfl:=hk a1;refine⟨by simpa using k0,.inr ⟨_,c,by simpa using e2,λ_=>rfl,λi s hs=>?_⟩⟩;refine⟨[Am s],rfl,⟨rfl,?_⟩,λj u hj=>?_⟩
    ·rcases AcW (Aa9 hs) with h5 | h5
     ·obtain⟨j,hj⟩:=Acy h5;obtain⟨_,_,⟨_,h6⟩,_⟩:=a0 j s hj;exact h6
     ·rw[h5];exact ht
    ·have a3:j=0:=by have:=(Aav.1 hj).1;simp at this;exact this
     subst a3;simp at hj;subst hj;rw[An,An];refine hB.cell ?_;have a4:=(Aav.1 hs).1;rw[show 0+i*1+0=i by omega,Abg (by simpa using a4),AbA,hs];rfl
  ·rw[if_neg e];refine h3.chg hx λhn a ha=>?_;rw[ha];simp only[Aaw];exact λe2=>e (h.inj r row x' x h1 hr hn a1 e2)
 ·obtain⟨x',h1,rfl⟩:=Gr hy;have a2:x'≠[]:=λe=>hn (by rw[e];simp);obtain⟨g1,g2,sp',g3⟩:=h.blk r x' h1 a2;refine⟨g1,g2,?_⟩;by_cases e:r=row
  ·subst e;rw[hr] at h1;obtain rfl:=Aa5 h1;rw[if_pos rfl];exact⟨sp,hB⟩
  ·rw[if_neg e];exact⟨sp',g3.chg hx (by simp only[Aaw];exact λe2=>e (h.inj r row x' x h1 hr a2 a1 e2))⟩
 ·obtain⟨y',h1,rfl⟩:=Gr hy;obtain⟨z',h2,rfl⟩:=Gr hz;exact h.inj r q y' z' h1 h2 (λe=>hn (by rw[e];simp)) (λe=>hm (by rw[e];simp)) hf
theorem KM{b:Ag}{i row col:Nat}{t:List UInt8}{j:Nat}{u:Af}(h:(H3 b i row col t)[j]?=some u):∃s,b[j]?=some s∧u.name=s.name∧u.cols=s.cols∧u=(if j=i then JZ s row col t else s):=by
 rw[Tb] at h
 cases h1:b[j]? with
 | none=>rw[h1] at h;simp at h
 | some s=>
  rw[h1] at h;refine⟨s,rfl,?_⟩;by_cases e:i=j
  ·subst e;simp at h;rw[if_pos rfl];subst h;exact⟨rfl,rfl,rfl⟩
  ·rw[if_neg e] at h;rw[if_neg (λx=>e x.symm)];obtain rfl:=Aa5 h;exact⟨rfl,rfl,rfl⟩
theorem Th(b:Ag)(i row col:Nat)(t:List UInt8)(rv:Nat→Value):Br (H3 b i row col t) rv=Br b rv:=by
 apply Ack;intro j;simp only[Br,Adx]
 cases h:(H3 b i row col t)[j]? with
 | none=>
  rw[Tb] at h
  cases h1:b[j]? with
  | none=>rfl
  | some s=>rw[h1] at h;split at h<;>simp at h
 | some u=>
  obtain⟨s,h1,h2,h3,_⟩:=KM h;rw[h1];simp[Ap,h2,h3]
theorem FW{b:Ag}{i row col:Nat}{t:List UInt8}{j:Nat}{u:Af}{v:Value}{f:Nat→Nat}{x:Nat}(h:(H3 b i row col t)[j]?=some u)(hx:DJ v u.rows f x):∃s,b[j]?=some s∧DJ v s.rows f x:=by
 obtain⟨s,h1,_,_,rfl⟩:=KM h;refine⟨s,h1,?_⟩;by_cases e:j=i
 ·rw[if_pos e] at hx;exact Zj hx
 ·rw[if_neg e] at hx;exact hx
theorem BI.set{lo:Nat}{w w':World}{v:Value}{b:Ag}{rv:Nat→Value}{f:Nat→Nat→Nat}(h:BI lo w v b rv f){i row col:Nat}{t:List UInt8}{s:Af}{x:List (List UInt8)}{sp:List Value}(hi:b[i]?=some s)(hr:s.rows[row]?=some x)(hc:col<x.length)(ht:t.length≤1000000)(hx:Chg [f i row] w w')(hB:Blk w' (f i row) ((x.set col t).map Am++sp) 9):BI lo w' v (H3 b i row col t) rv f:=by
 have a2:x≠[]:=λe=>by rw[e] at hc;simp at hc
 have a3:=(Aav.1 hi).1;have hu:DJ (rv i) s.rows (f i) (f i row):=.inr ⟨row,x,hr,a2,rfl⟩;have a0:(H3 b i row col t).length=b.length:=by simp[H3]
 refine⟨?_,λu hm=>?_,by rw[a0];exact h.small,⟨λj u hj a1=>?_,λj u hj a1 y hy=>?_,λj k u z hj hk a4 a1 a5 y hy a6=>?_⟩⟩
 ·rw[Th,a0];exact h.own.chg hx λy hy he=>by
   simp only[Aaw] at he;subst he;exact h.sub.apartV i s a3 hi _ hu hy
 ·obtain⟨j,hj⟩:=Acy hm;obtain⟨s',h1,h2,_⟩:=KM hj;rw[h2];exact h.names s' (Aa9 h1)
 ·rw[a0] at hj;obtain⟨s',h1,_,_,rfl⟩:=KM a1;have hF:=h.sub.rows j s' hj h1;by_cases e:j=i
  ·subst e;rw[hi] at h1;obtain rfl:=Aa5 h1;rw[if_pos rfl];obtain⟨xs,o1,o2⟩:=hF.own;refine⟨⟨xs,?_,?_⟩,by simpa[JZ] using hF.small⟩
   ·have:=o1.chg hx (λy hy he=>by
     simp only[Aaw] at he;subst he;exact(o2.blk row x hr a2).2.1 hy)
    simpa[JZ] using this
   ·exact o2.set hr hc ht hx hB
  ·rw[if_neg e];exact hF.chg hx λy hy he=>by
    simp only[Aaw] at he;subst he;exact h.sub.apart i j s s' a3 hj (λe2=>e e2.symm) hi h1 _ hu hy
 ·rw[a0] at hj;obtain⟨s',h1,h2⟩:=FW a1 hy;exact h.sub.apartV j s' hj h1 y h2
 ·rw[a0] at hj hk;obtain⟨s',h1,h2⟩:=FW a1 hy;obtain⟨s2,h3,h4⟩:=FW a5 a6;exact h.sub.apart j k s' s2 hj hk a4 h1 h3 y h2 h4
theorem BI.at{lo:Nat}{w:World}{v:Value}{b:Ag}{rv:Nat→Value}{f:Nat→Nat→Nat}(h:BI lo w v b rv f){i row:Nat}{s:Af}{x:List (List UInt8)}(hi:b[i]?=some s)(hr:s.rows[row]?=some x)(hn:x≠[]) :
  ∃B cb M cm cx,v=.slice (some ⟨B,0,none⟩) b.length cb∧rv i=.slice (some ⟨M,0,none⟩) s.rows.length cm∧(∀j u,(Ap s (rv i))[j]?=some u→w.cell? (((⟨B,0,none⟩:Addr).add (((i:Nat):Int).toNat*3)).add j)=some u)∧w.cell? ((⟨M,0,none⟩:Addr).add (((row:Nat):Int).toNat*1))=some (.slice (some ⟨f i row,0,none⟩) x.length cx)∧lo≤f i row∧∃sp,Blk w (f i row) (x.map Am++sp) 9:=by
 have a0:=(Aav.1 hi).1;have a1:=(Aav.1 hr).1;obtain⟨B,cb,sp,rfl,hB,-⟩:=h.own.get Aez;have hF:=h.sub.rows i s a0 hi;obtain⟨xs,o1,o2⟩:=hF.own;obtain⟨M,cm,sp2,e2,hM,-⟩:=o1.get Aez;obtain⟨u,h1,⟨k0,⟨_,e3⟩ | ⟨a,cx,e3,hk,_⟩⟩,-⟩:=o2.val row x hr
 ·exact absurd e3 hn
 obtain rfl:=hk hn;obtain⟨g1,_,sp3,g3⟩:=o2.blk row x hr hn;refine⟨B,cb,M,cm,cx,rfl,e2,λj u hj=>?_,?_,g1,sp3,g3⟩
 ·have a2:=(Aav.1 hj).1;rw[An,An];refine hB.cell ?_;have h7:=Fk (sp:=sp) (FV b rv) (Fx hi) (show j<3 from a2);rw[show 0+((i:Nat):Int).toNat*3+j=i*3+j by omega,h7];exact hj
 ·rw[An];refine hM.cell ?_;rw[show 0+((row:Nat):Int).toNat*1=row by omega,Abg (by rw[o2.len];exact a1),h1,e3]
theorem Z8{α:Type}[DecidableEq α]{l m:List α}{k:Nat}{x y:α}(h1:l[k]?=some x)(h2:m[k]?=some y)(h:x≠y):decide (l=m)=false:=by
 rw[decide_eq_false_iff_not];rintro rfl;rw[h1] at h2;exact h (Aa5 h2)
theorem Xu{α:Type}{l m:List α}{k:Nat}{x:α}(h:l.take k=m.take k)(h1:l[k]?=some x)(h2:m[k]?=some x):l.take (k+1)=m.take (k+1):=by
 rw[Aco,Aco,h,h1,h2]
theorem Za{α:Type}[DecidableEq α]{l m:List α}(h:l.take l.length=m.take l.length)(hl:l.length=m.length):decide (l=m)=true:=by
 rw[decide_eq_true_eq];rw[Acs,hl,Acs] at h;exact h
theorem Yx{α:Type}[DecidableEq α]{l m:List α}(h:l.length≠m.length):decide (l=m)=false:=by
 rw[decide_eq_false_iff_not];rintro rfl;exact h rfl
theorem VY(l m:List (List UInt8))(v u:Value)(w:World)(h:CD w v l)(h':CD w u m):AF prog 21 [v,u] w (λr w'=>r=.bool (decide (l=m))∧Ae w w'):=by
 obtain⟨p,c,rfl⟩:=h.slice;obtain⟨p',c',rfl⟩:=h'.slice;have hl:=h.1;have a3:=h'.1;refine AQ func21 ntmps21 ?_;refine Sa ?_;refine Av (λh1=>?_) λh1=>?_
 ·have h1:l.length≠m.length:=by simp at h1;omega
  refine Sa ?_;exact QW.body1 rfl rfl ⟨by rw[Yx h1],Chg.refl _ _⟩
 have h1:l.length=m.length:=by simp at h1;omega
 refine Sa ?_;refine CW.loop (ι:=Nat) (λk w'=>k≤l.length∧Ae w w'∧l.take k=m.take k) (λk=>[(0,.slice p l.length c),(1,.slice p' m.length c'),(5,.int .i64 k)]) (λk=>l.length - k) 0 ⟨by omega,Chg.refl _ _,rfl⟩ Bh ?_;rintro k w1 ⟨hk,hx,a0⟩;replace h:=h.ext hx;replace h':=h'.ext hx;refine Sa ?_;refine Av (λh2=>?_) λh2=>?_
 ·have h2:k<l.length:=by simp at h2;omega
  obtain⟨s,hs⟩:∃s,l[k]?=some s:=⟨_,Aak h2⟩;obtain⟨s',a1⟩:∃s,m[k]?=some s:=⟨_,Aak Aez⟩;obtain⟨a,rfl,-,-,hc⟩:=A4.at h hs;obtain⟨a',rfl,-,-,a4⟩:=A4.at h' a1;refine Sa ?_;refine HZ ?_;refine MF ?_;refine QL.nil λw2 a2=>?_;replace hx:=hx.trans a2;refine Sa ?_;refine Av (λh3=>?_) λh3=>?_
  ·have h3:s≠s':=by simpa using h3
   refine Sa ?_;exact QW.body1 rfl rfl ⟨by rw[Z8 hs a1 h3],hx⟩
  ·have h3:s=s':=by simpa using h3
   subst h3;refine Sa ?_;exact QW.again (k+1) ⟨by omega,hx,Xu a0 hs a1⟩ Bh Aez
 ·have h2:k=l.length:=by simp at h2;omega
  subst h2;refine Sa ?_;exact QW.body1 rfl rfl ⟨by rw[Za a0 h1],hx⟩
theorem BI.old{S:List Nat}{lo:Nat}{w w':World}{v:Value}{b:Ag}{rv:Nat→Value}{f:Nat→Nat→Nat}(h:BI lo w v b rv f)(x:Chg S w w')(hs:∀y,y∈S→y<lo):BI lo w' v b rv f:=
 ⟨h.own.chg x (λy hy he=>by have:=(h.own.lt hy).1;have:=hs y he;omega),h.names,h.small,h.sub.chg x (λi s hi hs' y hy he=>by have:=((h.sub.rows i s hi hs').lt hy).1;have:=hs y he;omega)⟩
theorem HX{b:Ag}{nm:List UInt8}{row col:Int}{t:List UInt8}(h:(A5 b&&Bt t)=false):HV b nm row col t=([],1):=by rw[HV,if_neg (by rw[h];simp)]
theorem Jo{b:Ag}{nm:List UInt8}{row col:Int}{t:List UInt8}(h:(A5 b&&Bt t)=true)(h2:OR b nm row col=false):HV b nm row col t=([],2):=by
 rw[HV,if_pos h]
 cases ha:IW b nm with
 | none=>rfl
 | some i=>simp only[h2];simp
theorem JY{b:Ag}{nm:List UInt8}{row col:Int}{t:List UInt8}{i:Nat}(h:(A5 b&&Bt t)=true)(h2:OR b nm row col=true)(ha:IW b nm=some i):HV b nm row col t=(H3 b i row.toNat col.toNat t,0):=by
 rw[HV,if_pos h,ha];simp only[h2];simp
set_option maxHeartbeats 1000000 in
theorem QY(b:Ag)(sv:Value)(nm:List UInt8)(row col:Int)(t:List UInt8)(w:World)(h:B5 w sv b)(ht:t.length≤1000000):AF prog 75 [.agg ⟨[sv]⟩,.agg ⟨YY nm row col⟩,Am t] w (λr w'=>∃u,r=.tuple #[.agg ⟨[u]⟩,.int .i64 (HV b nm row col t).2]∧Bq w.heap.size w' u (HV b nm row col t).1∧Ae w w'):=by
 obtain⟨p,c,rfl⟩:=h.slice;have hl:=h.1;refine AQ func75 ntmps75 ?_;apply CW.seq;apply CW.region;refine Sl ?_;refine Dq λA w1 b3 aj hA=>?_;replace hA:Blk w1 A [.slice p b.length c] 29:=hA;have b4:=hA.lt;refine Sl ?_;refine Dq λB w2 b5 ac hB=>?_;replace hB:Blk w2 B (YY nm row col) 100:=hB;have b6:=hB.lt;replace hA:=hA.ext ac;refine Sl ?_;refine BX λR w3 b7 ad hR=>?_;have b8:=hR.lt;replace hA:=hA.ext ad;replace hB:=hB.ext ad;have hx:=(aj.trans ac).trans ad;have b9:=aj.size;have ba:=ac.size;refine Sa ?_;refine Ax rfl rfl (LO b _ nm w3 (h.ext hx)) ?_;rintro v w4 ⟨rfl,a6⟩;replace hA:=hA.ext a6;replace hB:=hB.ext a6;replace hR:=hR.ext a6;replace hx:=hx.trans a6;have bb:=a6.size;refine Sa ?_;refine Ax rfl rfl (KH b _ w4 (h.ext hx)) ?_;rintro v w5 ⟨rfl,a7⟩;replace hA:=hA.ext a7;replace hB:=hB.ext a7;replace hR:=hR.ext a7;replace hx:=hx.trans a7;have bc:=a7.size
 cases h1:A5 b with
 | false=>
  have e0:(A5 b&&Bt t)=false:=by rw[h1];rfl
  refine Sa ?_;refine AR λw6 am an=>?_;have a4:Ae w w6:=hx.step am Ae0;refine Sa ?_
  exact QW.body_ct rfl rfl an rfl rfl rfl rfl ⟨_,by rw[HX e0];rfl,by rw[HX e0];exact Ao.nil,a4⟩
 | true=>
 refine Sa ?_;refine Ax rfl rfl (HR t Aez w5) ?_;rintro v w6 ⟨rfl,a4⟩;replace hA:=hA.ext a4;replace hB:=hB.ext a4;replace hR:=hR.ext a4;replace hx:=hx.trans a4;have bd:=a4.size
 cases h2:Bt t with
 | false=>
  have e0:(A5 b&&Bt t)=false:=by rw[h1,h2];rfl
  refine Sa ?_;refine AR λw7 ao ap=>?_;have a0:Ae w w7:=hx.step ao Ae0;refine Sa ?_
  exact QW.body_ct rfl rfl ap rfl rfl rfl rfl ⟨_,by rw[HX e0];rfl,by rw[HX e0];exact Ao.nil,a0⟩
 | true=>
 have e0:(A5 b&&Bt t)=true:=by rw[h1,h2];rfl
 replace h:=h.ext hx;have no:OR b nm row col=false→∀w7,Ae w6 w7→True:=λ_ _ _=>trivial
 cases ha:IW b nm with
 | none=>
  have h3:OR b nm row col=false:=by rw[OR,ha]
  refine Sa ?_;refine HZ ?_;refine MF ?_;refine QL.know (t:=27) (c:=true) rfl rfl ?_;refine MF ?_;refine QL.nil λw7 a0=>?_;replace hR:=hR.ext a0;have aq:=a0.size;refine Sa ?_;refine AR λw8 ae af=>?_;have a3:Ae w w8:=(hx.trans a0).step ae Ae0;refine Sa ?_
  exact QW.body_ct rfl rfl af rfl rfl rfl rfl ⟨_,by rw[Jo e0 h3];rfl,by rw[Jo e0 h3];exact Ao.nil,a3⟩
 | some i=>
 obtain⟨s,hs,-⟩:=Nl ha;have hi:=(Aav.1 hs).1;have e3:OR b nm row col=Yk s row col:=by rw[OR,ha];simp only[hs]
 obtain⟨a,q,qc,rfl,-,-,ar,be⟩:=Ak.at h hs;rw[show Qq (some i)=(i:Int) from rfl];refine Sa ?_;refine HZ ?_;refine MF ?_;refine QL.know (t:=27) (c:=false) rfl Ae7 ?_;refine MF ?_;refine QL.call0 rfl rfl (λw7 a0=>Uk s _ row col w7 (ar.ext a0)) ?_;refine MF ?_;refine QL.nil λw7 a0=>?_;replace hA:=hA.ext a0;replace hB:=hB.ext a0;replace hR:=hR.ext a0;replace hx:=hx.trans a0;replace h:=h.ext a0;have aq:=a0.size
 cases h3:Yk s row col with
 | false=>
  rw[h3] at e3;refine Sa ?_;refine AR λw8 ae af=>?_;have a3:Ae w w8:=hx.step ae Ae0;refine Sa ?_
  exact QW.body_ct rfl rfl af rfl rfl rfl rfl ⟨_,by rw[Jo e0 e3];rfl,by rw[Jo e0 e3];exact Ao.nil,a3⟩
 | true=>
 rw[h3] at e3;obtain⟨x,hr,k1,k2,k3,k4⟩:=ZH h3;have au:x≠[]:=λe=>by rw[e] at k4;simp at k4;omega
 refine Sa ?_;refine Ax rfl rfl (H8 b _ w7 h) ?_;rintro v w8 ⟨u,rv,f,rfl,hF,a3⟩;obtain⟨Q,cb,M,cm,cx,rfl,e2,a8,ag,bf,sp,hG⟩:=hF.at hs hr au;have bg:=hG.lt;have av:=hx.size;replace hB:=hB.ext a3;replace hR:=hR.ext a3;have ah:=hx.trans a3;have bh:=a3.size;refine Sa ?_;refine BX λC w9 bi ai hC=>?_;have bj:=hC.lt;replace hB:=hB.ext ai;replace hR:=hR.ext ai;refine Sa ?_;refine AR λwx a5 hC=>?_;replace hC:Blk wx C [.slice (some ⟨Q,0,none⟩) b.length cb] 29:=hC;have a1:Ae w8 wx:=ai.step a5 Ae0;replace hB:=hB.chg a5 Ae0;replace hR:=hR.chg a5 Ae0;replace hF:=hF.ext a1;have aw:wx.cell? (((⟨Q,0,none⟩:Addr).add (((i:Nat):Int).toNat*3)).add 2)=some (.slice (some ⟨M,0,none⟩) s.rows.length cm):=A2 a1 (a8 2 _ (by rw[e2];rfl));have a9:wx.cell? ((⟨M,0,none⟩:Addr).add (row.toNat*1))=_:=A2 a1 ag;have bk:=a1.size;refine Sa ?_;refine CW.drawTail 14 Ae1 Ae1 λwa a2=>?_;replace hB:=hB.ext a2;replace hC:=hC.ext a2;replace hR:=hR.ext a2;replace hF:=hF.ext a2;replace hG:=(hG.ext a1).ext a2;have ax:=A2 a2 aw;have ak:=A2 a2 a9;refine Stw ?_;refine TL.nil ?_;have a5:col.toNat<x.length:=Aez
 refine LW.store (i:=0+col.toNat*1) (by show some (Value.pointer (some (Addr.add ⟨f i row.toNat,0,none⟩ (col.toNat*1))))=_;rw[An]) rfl rfl hG (Acw (by show _+1≤_;rw[Aax,Acg];omega)) rfl rfl λwb ab al=>?_;have e5:(x.map Am++sp).set (0+col.toNat*1) (Am t)=(x.set col.toNat t).map Am++sp:=by
  rw[show 0+col.toNat*1=col.toNat by omega,AcT _ _ (by simpa using a5),Ad5]
 rw[e5] at al;have ay:=hF.set hs hr a5 ht ab al;have az:=a2.size;have nRC:R≠f i row.toNat∧C≠f i row.toNat:=⟨by omega,by omega⟩;have bl:=hR.chg ab (by simpa using nRC.1);have bm:=hC.chg ab (by simpa using nRC.2);refine Sa ?_;refine AR λwc aa b0=>?_;have b1:Bq w.heap.size wc _ (H3 b i row.toNat col.toNat t):=Bq.low (ay.old aa Ae0).fresh Aez;have b2:Ae w wc:=(((ah.trans a1).trans a2).step ab Ae0).step aa Ae0;refine Sa ?_;exact QW.body_ct rfl rfl b0 rfl rfl rfl rfl ⟨_,by rw[JY e0 e3 ha],by rw[JY e0 e3 ha];exact b1,b2⟩
end Go.Proofs.YtefaigjfkddelaaGreatDoor
