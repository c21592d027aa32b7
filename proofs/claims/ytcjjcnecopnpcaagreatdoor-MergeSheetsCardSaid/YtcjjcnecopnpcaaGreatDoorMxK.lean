/-
  Joined by program out of the texts Book6 Book7 Book1 Book3 Book4 Book2.
-/
import Derived.Test.YtcjjcnecopnpcaaGreatDoorMxJ
import Derived.Test.YtcjjcnecopnpcaaGreatDoorMxE
import Derived.Test.YtcjjcnecopnpcaaGreatDoorMxI
import Derived.Test.YtcjjcnecopnpcaaGreatDoorMxG
namespace Go.Proofs.YtcjjcnecopnpcaaGreatDoor
open Tryz
open Go Go.E
theorem Kl{α:Type}{l:List α}{x y:α}{r:Nat}(h:(l++[x])[r]?=some y):(r<l.length∧l[r]?=some y)∨(r=l.length∧y=x):=by
 rcases Ac7 r l.length with h1 | h1 | h1
 ·rw[Abk h1] at h;exact .inl ⟨h1,h⟩
 ·subst h1;rw[Abx (Abi _)] at h;simp at h;exact .inr ⟨rfl,h.symm⟩
 ·rw[Abs AdG] at h;cases h
def Ue(u:Value):Prop:=∀p n c,u=.slice p n c→n≤c
theorem Q1{p:Option Addr}{n c:Nat}(h:n≤c):Ue (.slice p n c):=λ_ _ _ e=>by
 obtain⟨-,rfl,rfl⟩:=Acw e;exact h
theorem Ze{w:World}{lo e k n:Nat}{v:Value}{xs:List Value}(h:E.Own w lo e k v n xs):Ue v:=by
 obtain⟨-,⟨rfl,rfl⟩ | ⟨g,cap,sp,rfl,-,h1,-⟩⟩:=h
 ·exact Q1 (Abi _)
 ·exact Q1 h1
structure EF(lo:Nat)(w:World)(xs:List Value)(l:List (List (List UInt8)))(f:Nat→Nat)(V:List Nat):Prop where
 len:xs.length=l.length
 val:∀(r:Nat) (x:List (List UInt8)),l[r]?=some x→∃u,xs[r]?=some u∧A2 (λa=>a=⟨f r,0,none⟩) w u x∧Ue u
 blk:∀(r:Nat) (x:List (List UInt8)),l[r]?=some x→x≠[]→lo≤f r∧f r∉V∧∃sp,Blk w (f r) (x.map Ao++sp) 9
 inj:∀(r q:Nat) (x y:List (List UInt8)),l[r]?=some x→l[q]?=some y→x≠[]→y≠[]→f r=f q→r=q
theorem EF.nil{lo:Nat}{w:World}{f:Nat→Nat}{V:List Nat}:EF lo w [] [] f V:=⟨rfl,by simp,by simp,by simp⟩
theorem EF.chg{lo:Nat}{w w':World}{xs:List Value}{l:List (List (List UInt8))}{f:Nat→Nat}{V S:List Nat}(h:EF lo w xs l f V)(x:Chg S w w')(hs:∀(r:Nat) (y:List (List UInt8)),l[r]?=some y→y≠[]→f r∉S):EF lo w' xs l f V:=
 ⟨h.len,λr y hr=>let ⟨u,h1,h2,h0⟩:=h.val r y hr;⟨u,h1,h2.chg x (λhn a ha=>by rw[ha];exact hs r y hr hn),h0⟩,λr y hr hn=>let ⟨h1,h2,sp,h3⟩:=h.blk r y hr hn;⟨h1,h2,sp,h3.chg x (hs r y hr hn)⟩,h.inj⟩
theorem EF.ext{lo:Nat}{w w':World}{xs:List Value}{l:List (List (List UInt8))}{f:Nat→Nat}{V:List Nat}(h:EF lo w xs l f V)(x:Ai w w'):EF lo w' xs l f V:=h.chg x AdM
theorem EF.over{lo:Nat}{w:World}{xs:List Value}{l:List (List (List UInt8))}{f:Nat→Nat}{V V':List Nat}(h:EF lo w xs l f V)(hV:∀b,b∈V'→b∈V∨w.heap.size≤b):EF lo w xs l f V':=
 ⟨h.len,h.val,λr y hr hn=>let ⟨h1,h2,sp,h3⟩:=h.blk r y hr hn;⟨h1,λhb=>(hV _ hb).elim h2 (λh4=>by have:=h3.lt;omega),sp,h3⟩,h.inj⟩
theorem EF.push{lo:Nat}{w:World}{xs:List Value}{l:List (List (List UInt8))}{f:Nat→Nat}{V:List Nat}(h:EF lo w xs l f V){u:Value}{x:List (List UInt8)}{g:Nat}(hu:A2 (λa=>a=⟨g,0,none⟩) w u x)(hu0:Ue u)(hg:x≠[]→lo≤g∧g∉V∧(∀r y,l[r]?=some y→y≠[]→g≠f r)∧∃sp,Blk w g (x.map Ao++sp) 9):EF lo w (xs++[u]) (l++[x]) (λr=>if r=l.length then g else f r) V:=by
 refine⟨by simp[h.len],λr y hr=>?_,λr y hr hn=>?_,λr q y z hr hq hy hz hf=>?_⟩
 ·rcases Kl hr with ⟨h1,h2⟩ | ⟨rfl,rfl⟩
  ·obtain⟨v,h3,h4,h0⟩:=h.val r y h2;refine⟨v,by rw[Abk (by rw[h.len];exact h1)];exact h3,?_,h0⟩;rw[if_neg AdE];exact h4
  ·refine⟨u,by rw[←h.len,Abx (Abi _)];simp,?_,hu0⟩;rw[if_pos rfl];exact hu
 ·rcases Kl hr with ⟨h1,h2⟩ | ⟨rfl,rfl⟩
  ·rw[if_neg AdE];exact h.blk r y h2 hn
  ·rw[if_pos rfl];obtain⟨h1,h2,_,h4⟩:=hg hn;exact⟨h1,h2,h4⟩
 ·rcases Kl hr with ⟨h1,h2⟩ | ⟨rfl,rfl⟩<;>rcases Kl hq with ⟨h3,h4⟩ | ⟨rfl,rfl⟩
  ·rw[if_neg AdE,if_neg AdE] at hf;exact h.inj r q y z h2 h4 hy hz hf
  ·rw[if_neg AdE,if_pos rfl] at hf;exact absurd hf.symm ((hg hz).2.2.1 r y h2 hy)
  ·rw[if_pos rfl,if_neg AdE] at hf;exact absurd hf ((hg hy).2.2.1 q z h4 hz)
  ·rfl
structure Fa(lo:Nat)(w:World)(v:Value)(l:List (List (List UInt8)))(f:Nat→Nat):Prop where
 own:∃xs,E.Own w lo 47 1 v l.length xs∧EF lo w xs l f (Ac v)
 small:l.length≤1000000
def Ku(v:Value)(l:List (List (List UInt8)))(f:Nat→Nat)(b:Nat):Prop:=b∈Ac v∨∃(r:Nat) (x:List (List UInt8)),l[r]?=some x∧x≠[]∧b=f r
theorem Fa.chg{lo:Nat}{w w':World}{v:Value}{l:List (List (List UInt8))}{f:Nat→Nat}{S:List Nat}(h:Fa lo w v l f)(x:Chg S w w')(hs:∀b,Ku v l f b→b∉S):Fa lo w' v l f:=
 let ⟨xs,h1,h2⟩:=h.own
 ⟨⟨xs,h1.chg x (λb hb=>hs b (.inl hb)),h2.chg x (λr y hr hn=>hs _ (.inr ⟨r,y,hr,hn,rfl⟩))⟩,h.small⟩
theorem Fa.ext{lo:Nat}{w w':World}{v:Value}{l:List (List (List UInt8))}{f:Nat→Nat}(h:Fa lo w v l f)(x:Ai w w'):Fa lo w' v l f:=h.chg x AdM
theorem Fa.lt{lo:Nat}{w:World}{v:Value}{l:List (List (List UInt8))}{f:Nat→Nat}(h:Fa lo w v l f){b:Nat}(hb:Ku v l f b):lo≤b∧b<w.heap.size:=by
 obtain⟨xs,h1,h2⟩:=h.own;rcases hb with hb | ⟨r,x,hr,hn,rfl⟩
 ·exact h1.lt hb
 ·obtain⟨h3,_,sp,h4⟩:=h2.blk r x hr hn;exact⟨h3,h4.lt⟩
theorem Fa.low{lo lo':Nat}{w:World}{v:Value}{l:List (List (List UInt8))}{f:Nat→Nat}(h:Fa lo w v l f)(hl:lo'≤lo):Fa lo' w v l f:=
 let ⟨xs,h1,h2⟩:=h.own
 ⟨⟨xs,h1.low hl,⟨h2.len,h2.val,λr x hr hn=>let ⟨h3,h4⟩:=h2.blk r x hr hn;⟨by omega,h4⟩,h2.inj⟩⟩,h.small⟩
theorem O9:∀(xs:List Value),(xs.map λu=>[u]).flatten=xs
 | []=>rfl
 | x::r=>by simp[O9 r]
structure EC(lo:Nat)(w:World)(k:Nat)(b:An)(rv:Nat→Value)(f:Nat→Nat→Nat)(V:List Nat):Prop where
 rows:∀(i:Nat) (s:Ae),i<k→b[i]?=some s→Fa lo w (rv i) s.rows (f i)
 apartV:∀(i:Nat) (s:Ae),i<k→b[i]?=some s→∀x,Ku (rv i) s.rows (f i) x→x∉V
 apart:∀(i j:Nat) (s u:Ae),i<k→j<k→i≠j→b[i]?=some s→b[j]?=some u→∀x,Ku (rv i) s.rows (f i) x→¬Ku (rv j) u.rows (f j) x
theorem EC.zero{lo:Nat}{w:World}{b:An}{rv:Nat→Value}{f:Nat→Nat→Nat}{V:List Nat}:EC lo w 0 b rv f V:=⟨by simp,by simp,by simp⟩
theorem EC.chg{lo:Nat}{w w':World}{k:Nat}{b:An}{rv:Nat→Value}{f:Nat→Nat→Nat}{V S:List Nat}(h:EC lo w k b rv f V)(x:Chg S w w')(hs:∀(i:Nat) (s:Ae),i<k→b[i]?=some s→∀y,Ku (rv i) s.rows (f i) y→y∉S):EC lo w' k b rv f V:=
 ⟨λi s hk hi=>(h.rows i s hk hi).chg x (hs i s hk hi),h.apartV,h.apart⟩
theorem EC.ext{lo:Nat}{w w':World}{k:Nat}{b:An}{rv:Nat→Value}{f:Nat→Nat→Nat}{V:List Nat}(h:EC lo w k b rv f V)(x:Ai w w'):EC lo w' k b rv f V:=h.chg x AdM
theorem EC.over{lo:Nat}{w:World}{k:Nat}{b:An}{rv:Nat→Value}{f:Nat→Nat→Nat}{V V':List Nat}(h:EC lo w k b rv f V)(hV:∀b,b∈V'→b∈V∨w.heap.size≤b):EC lo w k b rv f V':=
 ⟨h.rows,λi s hk hi x hx hb=>(hV x hb).elim (h.apartV i s hk hi x hx) (λh4=>by have:=((h.rows i s hk hi).lt hx).2;omega),h.apart⟩
theorem EC.push{lo:Nat}{w:World}{k:Nat}{b:An}{rv:Nat→Value}{f:Nat→Nat→Nat}{V:List Nat}(h:EC lo w k b rv f V){s:Ae}(hs:b[k]?=some s){u:Value}{g:Nat→Nat}(hu:Fa lo w u s.rows g)(hV:∀x,Ku u s.rows g x→x∉V)(hA:∀(i:Nat) (t:Ae),i<k→b[i]?=some t→∀x,Ku (rv i) t.rows (f i) x→¬Ku u s.rows g x) :
  EC lo w (k+1) b (λi=>if i=k then u else rv i) (λi=>if i=k then g else f i) V:=by
 refine⟨λi t hk hi=>?_,λi t hk hi x hx=>?_,λi j t z hk a1 a0 hi hj x hx=>?_⟩
 ·by_cases e:i=k
  ·subst e;rw[hs] at hi;obtain rfl:=Abm hi;simp only[if_pos];exact hu
  ·simp only[if_neg e];exact h.rows i t AdE hi
 ·by_cases e:i=k
  ·subst e;rw[hs] at hi;obtain rfl:=Abm hi;simp only[if_pos] at hx;exact hV x hx
  ·simp only[if_neg e] at hx;exact h.apartV i t AdE hi x hx
 ·by_cases e:i=k
  ·subst e;rw[hs] at hi;obtain rfl:=Abm hi;have e2:j≠i:=λe=>a0 e.symm;simp only[if_pos,if_neg e2] at hx ⊢;exact λhy=>hA j z AdE hj x hy hx
  ·by_cases e2:j=k
   ·subst e2;rw[hs] at hj;obtain rfl:=Abm hj;simp only[if_pos,if_neg e] at hx ⊢;exact hA i t AdE hi x hx
   ·simp only[if_neg e,if_neg e2] at hx ⊢;exact h.apart i j t z AdE AdE a0 hi hj x hx
def EB(b:An)(rv:Nat→Value):List (List Value):=b.mapIdx λi s=>Am s (rv i)
theorem PL{b:An}{rv:Nat→Value}{s:Ae}{u:Value}:(EB (b++[s]) λi=>if i=b.length then u else rv i)=EB b rv++[Am s u]:=by
 apply AbT;intro i;simp only[EB,List.getElem?_mapIdx];rcases Ac7 i b.length with h | h | h
 ·rw[Abk h,Abk Aeu,List.getElem?_mapIdx];have h2:i≠b.length:=AdE
  cases b[i]?<;>simp[h2]
 ·subst h;rw[Abx (Abi _),Abx AdM];simp
 ·rw[Abs AdG,Abs AdG];rfl
structure Zx(lo:Nat)(w:World)(v:Value)(b:An)(rv:Nat→Value)(f:Nat→Nat→Nat):Prop where
 own:E.Own w lo 46 3 v b.length (EB b rv).flatten
 names:∀s∈b,s.name.length≤1000000
 small:b.length≤1000000
 sub:EC lo w b.length b rv f (Ac v)
theorem Sb{ok:Addr→Prop}{w:World}{p:Option Addr}{c:Nat}{l:List (List UInt8)}(h:A2 ok w (.slice p l.length c) l):p=none∧l.length=0∨∃a,p=some a∧∀j u,(l.map Ao)[j]?=some u→w.cell? (a.add j)=some u:=by
 obtain⟨h0,⟨e,e2⟩ | ⟨a,c',e,hk,h⟩⟩:=h
 ·simp only[AbM] at e;exact .inl ⟨e.1,by rw[e2];rfl⟩
 ·simp only[AbM] at e;refine .inr ⟨a,e.1,λj u hj=>?_⟩;rw[Ab1] at hj
  cases hl:l[j]? with
  | none=>rw[hl] at hj;cases hj
  | some x=>
   rw[hl] at hj;simp at hj;subst hj;obtain⟨cs,h1,⟨rfl,_⟩,h3⟩:=h j x hl;have:=h3 0 _ rfl
   rwa [Oc,Acr] at this
theorem OB{w:World}{lo:Nat}{v:Value}{l:List (List UInt8)}(h:E.Own w lo 9 1 v l.length (l.map Ao))(hl:l.length≤1000000)(hs:∀s∈l,s.length≤1000000):∃g,A2 (λa=>a=⟨g,0,none⟩) w v l∧(l≠[]→lo≤g∧∃sp,Blk w g (l.map Ao++sp) 9):=by
 have h0:=h;obtain⟨hx,⟨rfl,e⟩ | ⟨g,cap,sp,rfl,hB,h1,h2,h3⟩⟩:=h
 ·have:l=[]:=Abt e;subst this;exact⟨0,Ab.nil,λh=>absurd rfl h⟩
 ·have hO:Aq 1 lo 9 ZH w (.slice (some ⟨g,0,none⟩) l.length cap) l:=by
   refine⟨(l.map Ao).map λu=>[u],by simp,by simp,by rw[O9];exact h0,λi x cs hi hc=>?_⟩;rw[Ab1,Ab1,hi] at hc;simp at hc;exact⟨hc.symm,hs x (Abn hi)⟩
  exact⟨g,hO.list hl (λb hb _=>by simp[Ac] at hb;rw[hb]),λ_=>⟨h3,sp,hB⟩⟩
theorem Sc{ok:Addr→Prop}{w:World}{v:Value}{l:List (List UInt8)}(h:A2 ok w v l):∀s∈l,s.length≤1000000:=λs hs=>by
 obtain⟨i,hi⟩:=Acl hs;obtain⟨p,c,rfl⟩:=h.slice;exact(A2.at h hi).choose_spec.2.2.1
set_option maxRecDepth 8000 in
set_option maxHeartbeats 1000000 in
theorem IY(s:Ae)(rv:Value)(w:World)(_hn:s.name.length≤1000000)(h:BA w rv s.rows):AF prog 44 [.agg ⟨Am s rv⟩] w (λv w'=>∃u g,v=.agg ⟨Am s u⟩∧Fa w.heap.size w' u s.rows g∧Ai w w'):=by
 obtain⟨p,c,rfl⟩:=h.slice;have hl:=h.1;refine Bj func44 ntmps44 ?_;apply CW.seq;apply CW.region;refine Sl ?_;refine CM λA w1 bc ao hA=>?_;replace hA:Blk w1 A (Am s (.slice p s.rows.length c)) 46:=hA;have bd:=hA.lt;refine Sl ?_;refine Bo λR w2 be af hR=>?_;have bf:=hR.lt;replace hA:=hA.ext af;refine Sa ?_;refine Bo λC w3 bg a7 hC=>?_;have bh:=hC.lt;replace hA:=hA.ext a7;replace hR:=hR.ext a7;refine Sa ?_;refine AD λw4 a8 hC=>?_;replace hC:Blk w4 C (Am s (.slice none 0 0)) 46:=hC;have bi:=ao.size;have bj:=af.size;have bk:=a7.size;have bl:A≠C∧R≠C∧A≠R:=AdE
 replace hA:=hA.chg a8 AdG;replace hR:=hR.chg a8 AdG;have ag:Ai w w4:=(ao.trans af).trans (a7.step a8 AdG);refine Sa ?_;refine CW.loop (ι:=Nat×Option Addr×Nat) (λx w'=>x.1≤s.rows.length∧Ai w w'∧Chg [C] w4 w'∧Blk w' C (Am s (.slice x.2.1 x.1 x.2.2)) 46∧∃xs f,E.Own w' w4.heap.size 47 1 (.slice x.2.1 x.1 x.2.2) x.1 xs∧EF w4.heap.size w' xs (s.rows.take x.1) f (Ac (.slice x.2.1 x.1 x.2.2))) (λx=>[(1,.pointer (some ⟨A,0,none⟩)),(2,.pointer (some ⟨R,0,none⟩)),(3,.pointer (some ⟨C,0,none⟩)),(4,.int .i64 x.1)]) (λx=>s.rows.length - x.1) (0,none,0) ⟨by simp,ag,Chg.refl _ _,hC,[],λ_=>0,Own.nil _ _ _ _,EF.nil⟩ Bx ?_;rintro⟨k,op,oc⟩ w5 ⟨hk,a9,aa,ah,xs,f,hO,hX⟩;dsimp only at hk ah hO hX;show CW _ _ _ _ _ [(1,.pointer (some ⟨A,0,none⟩)),(2,.pointer (some ⟨R,0,none⟩)),(3,.pointer (some ⟨C,0,none⟩)),(4,.int .i64 (k:Int))] _;have bm:=hA.chg aa AdG;have bn:=hR.chg aa AdG;have h5:=Bb.ext h a9;have bo:=aa.size;have bp:=a8.size;refine Sa ?_;refine A8 (λh6=>?_) λh6=>?_;rotate_left
 ·have h6:k=s.rows.length:=by simp at h6;omega
  subst h6;rw[AbH] at hX;refine Sa ?_;refine AD λw6 ai au=>?_;have ab:Ai w w6:=a9.step ai AdG;have av:∀b,b∈Ac (.slice op s.rows.length oc)→b∉[R]:=λb hb=>by have:=(hO.lt hb).1;simp;omega
  have aw:=hO.chg ai av;have ax:=hX.chg ai (λr y hr hn=>by have:=(hX.blk r y hr hn).1;simp;omega);refine Sa ?_;exact QW.body_c rfl rfl au rfl rfl rfl ⟨_,f,rfl,(Fa.mk ⟨xs,aw,ax⟩ hl).low (by have:=ag.size;omega),ab⟩
 have h6:k<s.rows.length:=by simp at h6;omega
 obtain⟨r,hr⟩:∃r,s.rows[k]?=some r:=⟨_,Aap h6⟩;obtain⟨a,q,qc,rfl,-,ht,ap⟩:=Bb.at h hr;have ay:=ht.1;have bq:a.block<w.heap.size:=by
  have:=AbO w _ ap
  rwa [BF] at this
 have az:=A0 a9 ap;have br:=ag.size;have hV:∀b,b∈Ac (Value.slice op k oc)→w4.heap.size≤b∧b<w5.heap.size:=λb hb=>hO.lt hb;have n1:A∉Ac (Value.slice op k oc):=λhb=>by have:=(hV A hb).1;omega
 have n2:C∉Ac (Value.slice op k oc):=λhb=>by have:=(hV C hb).1;omega
 have n3:(a.add (((k:Nat):Int).toNat*1)).block∉Ac (Value.slice op k oc):=λhb=>by
  have h8:=(hV _ hb).1;rw[BF] at h8;omega
 have far:∀w',Chg (Ac (Value.slice op k oc)) w5 w'→Ai w w':=λw' hS=>a9.step hS λb hb=>by have:=(hV b hb).1;omega
 refine Sa ?_;refine CW.drawG (Chg (Ac (Value.slice op k oc)) w5) 11 (λw' h=>h.chg) AdF λw6 ab=>?_;refine Sg ?_;refine BE 2 λhS=>?_;refine LW.buildSlice0 rfl rfl rfl rfl ?_;intro B w7 bs ac hB;apply LW.nil;replace hS:=hS.ext ac;refine QW.headed hS ?_;refine BE 8 λhS=>?_;refine LW.append_any (lo:=w6.heap.size) (xs:=[]) (news:=r.map Ao) rfl rfl rfl rfl rfl rfl ⟨rfl,.inr ⟨B,0,[],rfl,hB,Abi _,by simp,by omega⟩⟩ ac.size AdM (Sb (ht.ext (far _ hS))) (λu hu=>by
  obtain⟨x,_,rfl⟩:=AbE.1 hu;rfl) (by show(0+_)*17≤_;omega) rfl ?_
 intro v8 w8 aq ad bt;rw[AbC,Ab5] at ad;have b0:=ac.size;have bu:w5.heap.size≤w6.heap.size:=ab.size;replace hS:Chg (Ac (Value.slice op k oc)) w5 w8:=(Chg.trans hS aq).mono (λb hb b1=>by
  rcases Abf.1 hb with hb | hb
  ·exact hb
  ·simp[Ac] at hb;omega)
 apply LW.nil;refine QW.headed hS ?_;refine BE 9 λhS=>?_;obtain⟨gR,b2,ar⟩:=OB ad ay (Sc ht);obtain⟨p8,c8,rfl⟩:=ad.slice;refine Dt λB2 w9 b3 ae aj=>?_;replace aj:Blk w9 B2 [.slice p8 r.length c8] 47:=aj;replace hS:=hS.ext ae;apply LW.nil;refine QW.headed hS ?_;refine BE 10 λhS=>?_;have ak:Ai w5 w8:=(ab.trans ac).step aq (λb hb=>by simp[Ac] at hb;omega);have a1:Ai w5 w9:=ak.trans ae;have b4:=a1.size;have b5:gR∉Ac (Value.slice op k oc)∨r=[]:=by
  by_cases hn:r=[]
  ·exact .inr hn
  ·exact .inl λhb=>by have:=(ar hn).1;have:=(hV _ hb).2;omega
 replace hX:=(hX.ext a1).push (b2.ext ae) (Ze ad) (λhn=>by
  obtain⟨g1,sp,g2⟩:=ar hn;refine⟨by omega,b5.resolve_right hn,λr' y a4 hy hf=>?_,sp,g2.ext ae⟩;obtain⟨_,_,sp',h9⟩:=hX.blk r' y a4 hy;have:=h9.lt;omega)
 have b6:s.rows.take k++[r]=s.rows.take (k+1):=by rw[Ab7,hr];rfl
 have b7:(s.rows.take k).length=k:=AdG
 rw[b6,b7] at hX;refine LW.append (lo:=w4.heap.size) (k:=k) rfl rfl rfl rfl rfl rfl (hO.ext a1) AdE aj rfl rfl rfl (by show(k+1)*25≤_;omega) rfl ?_;intro v10 al a5 a2 am;obtain⟨p10,c10,rfl⟩:=a2.slice;have a6:=(hX.over am).chg a5 (λr' y a4 hy=>(hX.blk r' y a4 hy).2.1);replace hS:Chg (Ac (Value.slice op k oc)) w5 al:=hS.same a5;have an:Ai w al:=far _ hS;have b8:=ah.chg hS n2;have b9:Chg [C] w4 al:=(Chg.trans aa hS).mono (λb hb b1=>by
  rcases Abf.1 hb with hb | hb
  ·exact hb
  ·have:=(hV b hb).1;omega)
 apply LW.nil;refine QW.headed hS ?_;refine GW.tail rfl AdF (λhS=>?_);refine Sa ?_;refine CR λba a0 a3=>?_;replace a3:Blk ba C (Am s (.slice p10 (k+1) c10)) 46:=a3;have nC:∀b,b∈Ac (Value.slice p10 (k+1) c10)→b∉[C]:=λb hb=>by
  have:=(a2.lt hb).1;simp;omega
 have bb:=ah.lt;refine Sa ?_;exact QW.again (k+1,p10,c10) ⟨by show k+1≤_;omega,an.step a0 AdG,b9.same a0,a3,xs++[.slice p8 r.length c8],_,a2.chg a0 nC,a6.chg a0 (λr' y a4 hy=>by have:=(a6.blk r' y a4 hy).1;simp;omega)⟩ Bx (by show s.rows.length - (k+1)<s.rows.length - k;omega)
theorem PM{b:An}{rv:Nat→Value}{k:Nat}{s:Ae}{u:Value}(h:b[k]?=some s):(EB (b.take (k+1)) λi=>if i=k then u else rv i)=EB (b.take k) rv++[Am s u]:=by
 have hk:=(Abg.1 h).1;have e:b.take (k+1)=b.take k++[s]:=by rw[Ab7,h];rfl
 have e2:(b.take k).length=k:=AdG
 rw[e];have:=PL (b:=b.take k) (rv:=rv) (s:=s) (u:=u)
 rwa [e2] at this
set_option maxRecDepth 8000 in
set_option maxHeartbeats 1000000 in
theorem AM(b:An)(sv:Value)(w:World)(h:AA w sv b):AF prog 43 [.agg ⟨[sv]⟩] w (λv w'=>∃u rv f,v=.agg ⟨[u]⟩∧Zx w.heap.size w' u b rv f∧Ai w w'):=by
 obtain⟨p,c,rfl⟩:=h.slice;have hl:=h.1;have a2:∀s∈b,s.name.length≤1000000:=λs hs=>by
  obtain⟨i,hi⟩:=Acl hs;obtain⟨_,_,_,_,_,hn,_⟩:=Aa.at h hi;exact hn
 refine Bj func43 ntmps43 ?_;apply CW.seq;apply CW.region;refine Sl ?_;refine CM λA w1 b4 aj hA=>?_;replace hA:Blk w1 A [.slice p b.length c] 24:=hA;have b5:=hA.lt;refine Sl ?_;refine Bo λR w2 b6 ab hR=>?_;have b7:=hR.lt;replace hA:=hA.ext ab;refine Sa ?_;refine Bo λC w3 b8 a8 hC=>?_;have b9:=hC.lt;replace hA:=hA.ext a8;replace hR:=hR.ext a8;have ba:=aj.size;have bb:=ab.size;have bc:=a8.size;have bd:A≠C∧R≠C∧A≠R:=AdE
 have ak:Ai w w3:=(aj.trans ab).trans a8;refine Sa ?_;refine CW.loop (ι:=Nat×Option Addr×Nat) (λx w'=>x.1≤b.length∧Ai w w'∧Chg [C] w3 w'∧Blk w' C [.slice x.2.1 x.1 x.2.2] 24∧∃rv f,E.Own w' w3.heap.size 46 3 (.slice x.2.1 x.1 x.2.2) x.1 (EB (b.take x.1) rv).flatten∧EC w3.heap.size w' x.1 b rv f (Ac (.slice x.2.1 x.1 x.2.2))) (λx=>[(1,.pointer (some ⟨A,0,none⟩)),(2,.pointer (some ⟨R,0,none⟩)),(3,.pointer (some ⟨C,0,none⟩)),(4,.int .i64 x.1)]) (λx=>b.length - x.1) (0,none,0) ⟨by simp,ak,Chg.refl _ _,hC,λ_=>.slice none 0 0,λ_ _=>0,Own.nil _ _ _ _,EC.zero⟩ Bx ?_;rintro⟨k,op,oc⟩ w5 ⟨hk,al,a9,am,rv,f,hO,hX⟩;dsimp only at hk am hO hX;show CW _ _ _ _ _ [(1,.pointer (some ⟨A,0,none⟩)),(2,.pointer (some ⟨R,0,none⟩)),(3,.pointer (some ⟨C,0,none⟩)),(4,.int .i64 (k:Int))] _;have be:=hA.chg a9 AdG;have bf:=hR.chg a9 AdG;have bg:=a9.size;have an:=ak.size;have hV:∀j,j∈Ac (Value.slice op k oc)→w3.heap.size≤j∧j<w5.heap.size:=λj hj=>hO.lt hj;have n1:A∉Ac (Value.slice op k oc):=λhb=>by have:=(hV A hb).1;omega
 have n2:C∉Ac (Value.slice op k oc):=λhb=>by have:=(hV C hb).1;omega
 refine Sa ?_;refine A8 (λh6=>?_) λh6=>?_;rotate_left
 ·have h6:k=b.length:=by simp at h6;omega
  subst h6;rw[AbH] at hO;refine Sa ?_;refine AD λw6 ac au=>?_;have aa:Ai w w6:=al.step ac AdG;have av:∀j,j∈Ac (.slice op b.length oc)→j∉[R]:=λj hj=>by have:=(hV j hj).1;simp;omega
  have ad:=hX.chg ac (λi s hi hs y hy=>by have:=((hX.rows i s hi hs).lt hy).1;simp;omega);refine Sa ?_;refine QW.body_c rfl rfl au rfl rfl rfl ⟨_,rv,f,rfl,⟨(hO.chg ac av).low an,a2,hl,⟨λi s hi hs=>(ad.rows i s hi hs).low an,ad.apartV,ad.apart⟩⟩,aa⟩
 have h6:k<b.length:=by simp at h6;omega
 obtain⟨s,hs⟩:∃s,b[k]?=some s:=⟨_,Aap h6⟩;obtain⟨a,q,qc,rfl,-,aw,ht,ao⟩:=Aa.at h hs;have bh:a.block<w.heap.size:=by
  have:=AbO w _ (ao 0 _ rfl)
  rwa [BF,BF] at this
 have far:∀w',Chg (Ac (Value.slice op k oc)) w5 w'→Ai w w':=λw' hS=>al.step hS λj hj=>by have:=(hV j hj).1;omega
 refine Sa ?_;refine CW.drawG (Chg (Ac (Value.slice op k oc)) w5) 10 (λw' h=>h.chg) AdF λw6 aa=>?_;refine Sg ?_;refine GW.take 6 rfl rfl rfl rfl (λw' ax=>Y.load_cells rfl (λj u hj=>A0 (far _ ax) (ao j u hj)) rfl rfl rfl) rfl rfl AdF AdF AdF (λ_ _ _ h=>h) ?_;refine BE 7 λhS=>?_;refine Ay rfl rfl (IY s _ w6 aw (ht.ext (far _ hS))) ?_;rintro v w7 ⟨u,g,rfl,hF,ap⟩;obtain⟨xsu,aq,-⟩:=hF.own;obtain⟨pu,cu,rfl⟩:=aq.slice;clear aq;replace hS:=hS.ext ap;apply LW.nil;refine QW.headed hS ?_;refine BE 8 λhS=>?_;refine Dt λB2 w9 ay ae af=>?_;replace af:Blk w9 B2 (Am s (.slice pu s.rows.length cu)) 46:=af;replace hS:=hS.ext ae;apply LW.nil;refine QW.headed hS ?_;refine BE 9 λhS=>?_;have a3:Ai w5 w9:=(aa.trans ap).trans ae;have az:=a3.size;have bi:w5.heap.size≤w6.heap.size:=aa.size;replace hF:=hF.ext ae;have ar:=(hX.ext a3).push hs (hF.low AdE) (λx hx hb=>by
  have:=(hF.lt hx).1;have:=(hV x hb).2;omega) (λi t hi a5 x hx hy=>by
  have:=((hX.rows i t hi a5).lt hx).2;have:=(hF.lt hy).1;omega)
 refine LW.append (lo:=w3.heap.size) (k:=k) rfl rfl rfl rfl rfl rfl (hO.ext a3) AdE af rfl rfl rfl (by show(k+1)*49≤_;omega) rfl ?_;intro v10 ag a6 a0 ah;obtain⟨p10,c10,rfl⟩:=a0.slice;have a7:=(ar.over ah).chg a6 (λi t hi a5 y hy=>ar.apartV i t hi a5 y hy);have b0:(EB (b.take k) rv).flatten++Am s (.slice pu s.rows.length cu)=(EB (b.take (k+1)) λi=>if i=k then .slice pu s.rows.length cu else rv i).flatten:=by
  rw[PM hs];simp
 rw[b0] at a0;replace hS:Chg (Ac (Value.slice op k oc)) w5 ag:=hS.same a6;have ai:Ai w ag:=far _ hS;have b1:=am.chg hS n2;have b2:Chg [C] w3 ag:=(Chg.trans a9 hS).mono (λj hj bj=>by
  rcases Abf.1 hj with hj | hj
  ·exact hj
  ·have:=(hV j hj).1;omega)
 apply LW.nil;refine QW.headed hS ?_;refine GW.tail rfl AdF (λhS=>?_);refine Sa ?_;refine CR λb3 a1 a4=>?_;replace a4:Blk b3 C [.slice p10 (k+1) c10] 24:=a4;refine Sa ?_;exact QW.again (k+1,p10,c10) ⟨by show k+1≤_;omega,ai.step a1 AdG,b2.same a1,a4,_,_,a0.chg a1 (λj hj=>by have:=(a0.lt hj).1;simp;omega),a7.chg a1 (λi t hi a5 y hy=>by have:=((a7.rows i t hi a5).lt hy).1;simp;omega)⟩ Bx (by show b.length - (k+1)<b.length - k;omega)
theorem Vo(s:Ae)(rp:Option Addr)(rl rc A:Nat)(x:List UInt8)(w:World)(hA:Blk w A [Ao x] 9):AF prog 103 [.agg ⟨Am s (.slice rp rl rc)⟩,.pointer (some ⟨A,0,none⟩)] w (λv w'=>v=.bool (decide (s.name=x))∧Ai w w'):=by
 refine Bj func103 ntmps103 ?_;refine Sa ?_;refine CM λX w1 a1 a0 hX=>?_;replace hX:Blk w1 X (Am s (.slice rp rl rc)) 46:=hX;replace hA:=hA.ext a0;refine Sa ?_;exact QW.body1 rfl rfl ⟨by simp,a0⟩
theorem Pt(b:List Ae)(sv:Value)(A:Nat)(x:List UInt8)(w:World)(h:AA w sv b)(hA:Blk w A [Ao x] 9):AF prog 102 [sv,.func (.func 103) ⟨[]⟩ ⟨[.pointer (some ⟨A,0,none⟩)]⟩] w (λv w'=>v=.int .i64 (V0 (NG b x))∧Ai w w'):=by
 obtain⟨p,c,rfl⟩:=h.slice;have hl:=h.1;refine Bj func102 ntmps102 ?_;refine Sa ?_;refine CW.loop (ι:=Nat) (λk w'=>k≤b.length∧Ai w w'∧∀i u,i<k→b[i]?=some u→u.name≠x) (λk=>[(0,.slice p b.length c),(1,.func (.func 103) ⟨[]⟩ ⟨[.pointer (some ⟨A,0,none⟩)]⟩),(7,.int .i64 b.length),(8,.int .i64 k)]) (λk=>b.length - k) 0 ⟨by omega,Chg.refl _ _,λi u h=>by omega⟩ Bx ?_;rintro k w1 ⟨hk,hx,a1⟩;replace h:=h.ext hx;replace hA:=hA.ext hx;refine Sa ?_;refine A8 (λh2=>?_) λh2=>?_
 ·have h2:k<b.length:=by simp at h2;omega
  obtain⟨s,hs⟩:∃s,b[k]?=some s:=⟨_,Aap h2⟩;obtain⟨a,q,kc,rfl,-,a3,hr,a0⟩:=h.at hs;refine Sa ?_;refine Lo ?_;refine LW.load_cells rfl a0 rfl rfl rfl rfl ?_;refine Sa ?_;refine LW.call (fs:=[]) (cs:=[.pointer (some ⟨A,0,none⟩)]) rfl rfl rfl (Vo s _ _ _ A x w1 hA) ?_;rintro v w2 ⟨rfl,a2⟩;refine Sa ?_;refine A8 (λh3=>?_) λh3=>?_
  ·have h3:s.name=x:=by simpa using h3
   refine Sa ?_;exact QW.body1 rfl rfl ⟨by rw[WH hs h3 a1];rfl,hx.trans a2⟩
  ·have h3:s.name≠x:=by simpa using h3
   refine Sa ?_;refine QW.again (k+1) ⟨by omega,hx.trans a2,λi u hi hu=>?_⟩ Bx AdE;rcases AbI i k with h4 | h4
   ·exact a1 i u h4 hu
   ·obtain rfl:i=k:=by omega
    rw[hs] at hu;obtain rfl:=Abm hu;exact h3
 ·have h2:k=b.length:=by simp at h2;omega
  subst h2;refine Sa ?_;refine QW.body1 rfl rfl ⟨?_,hx⟩;rw[WI (λi s hi hs=>a1 i s hi hs)];rfl
theorem WA(b:List Ae)(sv:Value)(x:List UInt8)(w:World)(h:AA w sv b):AF prog 70 [.agg ⟨[sv]⟩,Ao x] w (λv w'=>v=.int .i64 (V0 (NG b x))∧Ai w w'):=by
 obtain⟨p,c,rfl⟩:=h.slice;refine Bj func70 ntmps70 ?_;refine Sa ?_;refine CM λB w1 a4 a2 hB=>?_;replace hB:Blk w1 B [.slice p b.length c] 24:=hB;refine Sa ?_;refine CM λA w2 a5 a1 hA=>?_;replace hA:Blk w2 A [Ao x] 9:=hA;replace hB:=hB.ext a1;have a0:=a2.trans a1;refine Sa ?_;refine Ay rfl rfl (Pt b _ A x w2 (h.ext a0) hA) ?_;rintro v w3 ⟨rfl,a3⟩;refine Sa ?_;exact QW.body1 rfl rfl ⟨rfl,a0.trans a3⟩
theorem Mq{α:Type}{f:α→Bool}{l:List α}{k:Nat}{x:α}(h:l[k]?=some x)(hf:f x=false):l.all f=false:=by
 rw[List.all_eq_false];exact⟨x,Abn h,by simp[hf]⟩
theorem Qt{α:Type}{f:α→Bool}{l:List α}{k:Nat}{x:α}(h:(l.take k).all f=true)(hk:l[k]?=some x)(hf:f x=true):(l.take (k+1)).all f=true:=by
 rw[Ab7,hk,List.all_append,h];simp[hf]
theorem TW{α:Type}{f:α→Bool}{l:List α}(h:(l.take l.length).all f=true):l.all f=true:=by
 rwa [AbH] at h
noncomputable def Nw(cols:Int)(r:List (List UInt8)):Bool:=decide ((r.length:Int)=cols)&&r.all BN
theorem HS(s:Ae):A7 s=(Do s.name&&(decide (0≤s.cols)&&(decide (s.cols≤12)&&(decide (s.rows.length≤24)&&s.rows.all (Nw s.cols))))):=by
 unfold A7 Nw;simp[Bool.and_assoc]
theorem MM:∀{b:An} {p:Option (List UInt8)},G3 p b=true↔∀i s,b[i]?=some s→A7 s=true∧∀q,(if i=0 then p else(b[i - 1]?).map Ae.name)=some q→Op.bytesLess q s.name=true
 | [],p=>by simp[G3]
 | s::r,p=>by
  show(((match p with | none=>true | some q=>Op.bytesLess q s.name)&&A7 s&&G3 (some s.name) r)=true)↔_;rw[AaY,AaY,MM];constructor
  ·rintro⟨⟨h1,h2⟩,h3⟩ i u hi
   cases i with
   | zero=>
    simp at hi;subst hi;refine⟨h2,λq hq=>?_⟩;rw[if_pos rfl] at hq;subst hq
    exact h1
   | succ i=>
    have h4:=h3 i u Aep;refine⟨h4.1,λq hq=>h4.2 q ?_⟩;rw[if_neg AdE] at hq
    cases i with
    | zero=>simpa using hq
    | succ i=>simpa using hq
  ·intro h;have h0:=h 0 s rfl;refine⟨⟨?_,h0.1⟩,λi u hi=>?_⟩
   ·cases p with
    | none=>rfl
    | some q=>exact h0.2 q rfl
   ·have h4:=h (i+1) u Aep;refine⟨h4.1,λq hq=>h4.2 q ?_⟩;rw[if_neg AdE]
    cases i with
    | zero=>simpa using hq
    | succ i=>simpa using hq
theorem JW(s:Ae)(rv:Value)(w:World)(g:CQ w)(hn:s.name.length≤1000000)(h:HH w rv s.rows):AF prog 45 [.agg ⟨Am s rv⟩] w (λr w'=>r=.bool (A7 s)∧Ai w w'):=by
 obtain⟨p,c,rfl⟩:=h.slice;have hl:=h.1;refine Bj func45 ntmps45 ?_;apply CW.seq;apply CW.region;refine Sl ?_;refine CM λA w1 a9 a5 hA=>?_;replace hA:Blk w1 A (Am s (.slice p s.rows.length c)) 46:=hA;replace g:=g.ext a5;replace h:=h.ext a5;refine Sa ?_;refine Ay rfl rfl (Qi s.name w1 AdE) ?_;rintro v w2 ⟨rfl,a4⟩;replace g:=g.ext a4;replace h:=h.ext a4;replace hA:=hA.ext a4;have hx:=a5.trans a4;refine Sa ?_
 cases h1:Do s.name with
 | false=>
  refine Sa ?_
  exact QW.body1 rfl rfl ⟨by rw[HS,h1];rfl,hx⟩
 | true=>
 refine Sa ?_;by_cases h2:s.cols<0
 ·refine LW.know (t:=16) (c:=true) rfl Aeh ?_;refine Sa ?_;exact QW.body1 rfl rfl ⟨by rw[HS,decide_eq_false (p:=0≤s.cols) AdE];simp,hx⟩
 refine LW.know (t:=16) (c:=false) rfl Aeh ?_;refine Sa ?_;by_cases h3:12<s.cols
 ·refine LW.know (t:=21) (c:=true) rfl (by simpa using h3) ?_;refine Sa ?_;exact QW.body1 rfl rfl ⟨by rw[HS,decide_eq_false (p:=s.cols≤12) AdE];simp,hx⟩
 refine LW.know (t:=21) (c:=false) rfl (by simpa using h3) ?_;refine Sa ?_;refine A8 (λh4=>?_) λh4=>?_
 ·have h4:24<s.rows.length:=by simp at h4;omega
  refine Sa ?_;exact QW.body1 rfl rfl ⟨by rw[HS,decide_eq_false (p:=s.rows.length≤24) AdE];simp,hx⟩
 have h4:s.rows.length≤24:=by simp at h4;omega
 have e0:A7 s=s.rows.all (Nw s.cols):=by
  rw[HS,h1,decide_eq_true (p:=0≤s.cols) AdE,decide_eq_true (p:=s.cols≤12) AdE,decide_eq_true h4];simp
 refine Sa ?_;refine CW.loop (ι:=Nat) (λk w'=>k≤s.rows.length∧Ai w2 w'∧(s.rows.take k).all (Nw s.cols)=true) (λk=>[(1,.pointer (some ⟨A,0,none⟩)),(28,.slice p s.rows.length c),(29,.int .i64 s.rows.length),(30,.int .i64 k)]) (λk=>s.rows.length - k) 0 ⟨by omega,Chg.refl _ _,rfl⟩ Bx ?_;rintro k w3 ⟨hk,a1,a7⟩;replace h:=h.ext a1;replace hA:=hA.ext a1;replace g:=g.ext a1;replace a0:=hx.trans a1;refine Sa ?_;refine A8 (λh5=>?_) λh5=>?_;rotate_left
 ·have h5:k=s.rows.length:=by simp at h5;omega
  subst h5;refine Sa ?_;exact QW.body1 rfl rfl ⟨by rw[e0,TW a7],a0⟩
 have h5:k<s.rows.length:=by simp at h5;omega
 obtain⟨r,hr⟩:∃r,s.rows[k]?=some r:=⟨_,Aap h5⟩;obtain⟨a,q,qc,rfl,-,ht,hc⟩:=HH.at h hr;have aa:=ht.1;refine Sw ?_;refine A8 (λh6=>?_) λh6=>?_
 ·have h6:(r.length:Int)≠s.cols:=by simpa using h6
  refine Sa ?_;exact QW.body1 rfl rfl ⟨by rw[e0,Mq hr (by rw[Nw,decide_eq_false h6];rfl)],a0⟩
 have h6:(r.length:Int)=s.cols:=by simpa using h6
 refine Sa ?_;refine CW.loop (ι:=Nat) (λj w'=>j≤r.length∧Ai w3 w'∧(r.take j).all BN=true) (λj=>[(1,.pointer (some ⟨A,0,none⟩)),(28,.slice (some a) s.rows.length c),(29,.int .i64 s.rows.length),(30,.int .i64 k),(39,.slice q r.length qc),(40,.int .i64 r.length),(41,.int .i64 j)]) (λj=>r.length - j) 0 ⟨by omega,Chg.refl _ _,rfl⟩ Ff ?_;rintro j w4 ⟨hj,a2,a3⟩;replace ht:=ht.ext a2;replace g:=g.ext a2;refine Sa ?_;refine A8 (λh7=>?_) λh7=>?_;rotate_left
 ·have h7:j=r.length:=by simp at h7;omega
  subst h7;refine Sa ?_;refine QW.again (k+1) ⟨by omega,a1.trans a2,Qt a7 hr ?_⟩ Bx AdE;rw[Nw,decide_eq_true h6,TW a3];rfl
 have h7:j<r.length:=by simp at h7;omega
 obtain⟨t,a6⟩:∃t,r[j]?=some t:=⟨_,Aap h7⟩;obtain⟨a',rfl,-,ab,ac⟩:=Ge.at ht a6;refine Sw ?_;refine Ay rfl rfl (Q0 t AdE w4 g) ?_;rintro v w5 ⟨rfl,a8⟩;refine Sa ?_
 cases h8:BN t with
 | false=>
  refine Sa ?_
  exact QW.body1 rfl rfl ⟨by rw[e0,Mq hr (by rw[Nw,Mq a6 h8,AcO])],(a0.trans a2).trans a8⟩
 | true=>
  refine Sa ?_;exact QW.again (j+1) ⟨by omega,a2.trans a8,Qt a3 a6 h8⟩ Ff AdE
noncomputable def E9(b:An)(i:Nat):Bool:=match b[i]? with
 | none=>false
 | some s=>A7 s&&(match i with | 0=>true | j+1=>Op.bytesLess ((b[j]?).elim [] Ae.name) s.name)
theorem V8{b:An}(h:∀i,i<b.length→E9 b i=true):G3 none b=true:=by
 rw[MM];intro i s hi;have hl:=(Abg.1 hi).1;have h1:=h i hl;unfold E9 at h1;rw[hi] at h1;simp only[AaY] at h1;refine⟨h1.1,λq hq=>?_⟩
 cases i with
 | zero=>simp at hq
 | succ i=>
  rw[if_neg AdE] at hq;have h2:Op.bytesLess ((b[i]?).elim [] Ae.name) s.name=true:=h1.2;simp only[Adv] at hq
  cases h3:b[i]? with
  | none=>rw[h3] at hq;simp at hq
  | some u=>
   rw[h3] at hq h2;simp at hq;rw[←hq];exact h2
theorem Ju{b:An}{i:Nat}(hi:i<b.length)(h:E9 b i=false):G3 none b=false:=by
 cases hm:G3 none b with
 | false=>rfl
 | true=>
  rw[MM] at hm;have hs:=Aap hi;obtain⟨h1,h2⟩:=hm i _ hs;unfold E9 at h;rw[hs] at h;simp only[h1,Bool.true_and] at h
  cases i with
  | zero=>simp at h
  | succ i=>
   have h3:=Aap (show i<b.length by omega);have h4:=h2 (b[i]' AdE).name (by rw[if_neg AdE];simp only[Adv];rw[h3];rfl);have h:Op.bytesLess ((b[i]?).elim [] Ae.name) b[i+1].name=false:=h;rw[h3] at h;have h:Op.bytesLess b[i].name b[i+1].name=false:=h;rw[h4] at h;cases h
theorem UJ(b:An)(sv:Value)(w:World)(g:CQ w)(h:Fe w sv b):AF prog 28 [.agg ⟨[sv]⟩] w (λr w'=>r=.bool (Av b)∧Ai w w'):=by
 obtain⟨p,c,rfl⟩:=h.slice;have hl:=h.1;refine Bj func28 ntmps28 ?_;apply CW.seq;apply CW.region;refine Sl ?_;refine CM λA w1 ad a5 hA=>?_;replace hA:Blk w1 A [.slice p b.length c] 24:=hA;replace g:=g.ext a5;replace h:=h.ext a5;refine Sa ?_;refine A8 (λh4=>?_) λh4=>?_
 ·have h4:5<b.length:=by simp at h4;omega
  refine Sa ?_;exact QW.body1 rfl rfl ⟨by rw[Av,decide_eq_false AdE];rfl,a5⟩
 have h4:b.length≤5:=by simp at h4;omega
 have e0:Av b=G3 none b:=by rw[Av,decide_eq_true h4];rfl
 refine Sa ?_;refine CW.loop (ι:=Nat) (λk w'=>k≤b.length∧Ai w1 w'∧∀i,i<k→E9 b i=true) (λk=>[(1,.pointer (some ⟨A,0,none⟩)),(10,.slice p b.length c),(11,.int .i64 b.length),(12,.int .i64 k)]) (λk=>b.length - k) 0 ⟨by omega,Chg.refl _ _,by simp⟩ Bx ?_;rintro k w2 ⟨hk,a4,a7⟩;replace h:=h.ext a4;replace hA:=hA.ext a4;replace g:=g.ext a4;have a1:=a5.trans a4;refine Sa ?_;refine A8 (λh5=>?_) λh5=>?_;rotate_left
 ·have h5:k=b.length:=by simp at h5;omega
  subst h5;refine Sa ?_;exact QW.body1 rfl rfl ⟨by rw[e0,V8 a7],a1⟩
 have h5:k<b.length:=by simp at h5;omega
 obtain⟨s,hs⟩:∃r,b[k]?=some r:=⟨_,Aap h5⟩;obtain⟨a,q,qc,rfl,-,a8,ht,hc⟩:=Fe.at h hs;refine Sw ?_;refine Bo λX w3 ae a6 hX=>?_;have af:=hA.ext a6;have ag:A≠X:=λe=>by have:=hA.lt;omega
 have h3:=h.ext a6;have ah:=ht.ext a6;refine Sw ?_;refine AD λw4 aa hX=>?_;replace hX:Blk w4 X (Am s (.slice q s.rows.length qc)) 46:=hX;have a3:Ai w2 w4:=a6.step aa AdG;have ai:=hA.ext a3;have ab:=h.ext a3;have a9:=ht.ext a3;have g4:=g.ext a3;refine Sa ?_;refine LU ?_;refine Sk ?_
 cases k with
 | zero=>
  refine QL.know (t:=19) (c:=false) rfl AdM ?_;refine Sk ?_;refine QL.call0 rfl rfl (λw5 a0=>JW s _ w5 (g4.ext a0) a8 (a9.ext a0)) ?_;refine Sk ?_;refine QL.nil λw5 a0=>?_;refine Sa ?_;refine A8 (λh8=>?_) λh8=>?_
  ·have h8:A7 s=false:=by simpa using h8
   refine Sa ?_;exact QW.body1 rfl rfl ⟨by rw[e0,Ju h5 (by unfold E9;rw[hs];show(A7 s&&true)=_;rw[h8];rfl)],(a1.trans a3).trans a0⟩
  ·have h8:A7 s=true:=by simpa using h8
   refine Sa ?_;exact QW.again (1) ⟨by omega,(a4.trans a3).trans a0,λi hi=>by
    rcases AbI i (0) with h9 | h9
    ·exact a7 i h9
    ·obtain rfl:i=0:=by omega
     unfold E9;rw[hs];show(A7 s&&true)=_;rw[h8];rfl⟩ Bx AdE
 | succ j=>
  obtain⟨u,hu⟩:∃u,b[j]?=some u:=⟨_,Aap AdE⟩;obtain⟨a2,q2,qc2,e2,-,-,-,ac⟩:=Fe.at ab hu;obtain rfl:=Abm e2;have aj:w4.cell? ((a.add ((((j+1:Nat):Int) - 1).toNat*3)).add 0)=some (Ao u.name):=by
   rw[show(((j+1:Nat):Int) - 1).toNat=((j:Nat):Int).toNat by omega];exact ac 0 _ rfl
  refine QL.know (t:=19) (c:=true) rfl AdM ?_;refine Sk ?_
  cases h7:Op.bytesLess u.name s.name with
  | false=>
   refine QL.know (t:=31) (c:=true) rfl rfl ?_;refine Sk ?_;refine QL.nil λw5 a0=>?_;refine Sa ?_;exact QW.body1 rfl rfl ⟨by rw[e0,Ju h5 (by
    unfold E9;rw[hs];have e3:Op.bytesLess ((b[j]?).elim [] Ae.name) s.name=false:=by rw[hu];exact h7
    show(A7 s&&Op.bytesLess ((b[j]?).elim [] Ae.name) s.name)=false
    rw[e3,AcO])],(a1.trans a3).trans a0⟩
  | true=>
  have e3:Op.bytesLess ((b[j]?).elim [] Ae.name) s.name=true:=by rw[hu];exact h7
  have e4:E9 b (j+1)=(A7 s&&Op.bytesLess ((b[j]?).elim [] Ae.name) s.name):=by unfold E9;rw[hs]
  refine QL.know (t:=31) (c:=false) rfl rfl ?_;refine Sk ?_;refine QL.call0 rfl rfl (λw5 a0=>JW s _ w5 (g4.ext a0) a8 (a9.ext a0)) ?_;refine Sk ?_;refine QL.nil λw5 a0=>?_;refine Sa ?_;refine A8 (λh8=>?_) λh8=>?_
  ·have h8:A7 s=false:=by simpa using h8
   refine Sa ?_;exact QW.body1 rfl rfl ⟨by rw[e0,Ju h5 (by rw[e4,h8];rfl)],(a1.trans a3).trans a0⟩
  ·have h8:A7 s=true:=by simpa using h8
   refine Sa ?_;exact QW.again (j+1+1) ⟨by omega,(a4.trans a3).trans a0,λi hi=>by
    rcases AbI i (j+1) with h9 | h9
    ·exact a7 i h9
    ·obtain rfl:i=j+1:=by omega
     rw[e4,h8,e3];rfl⟩ Bx AdE
theorem Mk(b:An)(sv:Value)(w:World)(g:CQ w)(h:AA w sv b):AF prog 28 [.agg ⟨[sv]⟩] w (λr w'=>r=.bool (Av b)∧Ai w w'):=UJ b sv w g (Aa.loose h)
theorem I0{α:Type}[DecidableEq α]{l m:List α}{k:Nat}{x y:α}(h1:l[k]?=some x)(h2:m[k]?=some y)(h:x≠y):decide (l=m)=false:=by
 rw[decide_eq_false_iff_not];rintro rfl;rw[h1] at h2;exact h (Abm h2)
theorem Fy{α:Type}{l m:List α}{k:Nat}{x:α}(h:l.take k=m.take k)(h1:l[k]?=some x)(h2:m[k]?=some x):l.take (k+1)=m.take (k+1):=by
 rw[Ab7,Ab7,h,h1,h2]
theorem GD{α:Type}[DecidableEq α]{l m:List α}(h:l.take l.length=m.take l.length)(hl:l.length=m.length):decide (l=m)=true:=by
 rw[decide_eq_true_eq];rw[AbH,hl,AbH] at h;exact h
theorem G1{α:Type}[DecidableEq α]{l m:List α}(h:l.length≠m.length):decide (l=m)=false:=by
 rw[decide_eq_false_iff_not];rintro rfl;exact h rfl
theorem UQ(l m:List (List UInt8))(v u:Value)(w:World)(h:Ce w v l)(h':Ce w u m):AF prog 62 [v,u] w (λr w'=>r=.bool (decide (l=m))∧Ai w w'):=by
 obtain⟨p,c,rfl⟩:=h.slice;obtain⟨p',c',rfl⟩:=h'.slice;have hl:=h.1;have a3:=h'.1;refine Bj func62 ntmps62 ?_;refine Sa ?_;refine A8 (λh1=>?_) λh1=>?_
 ·have h1:l.length≠m.length:=by simp at h1;omega
  refine Sa ?_;exact QW.body1 rfl rfl ⟨by rw[G1 h1],Chg.refl _ _⟩
 have h1:l.length=m.length:=by simp at h1;omega
 refine Sa ?_;refine CW.loop (ι:=Nat) (λk w'=>k≤l.length∧Ai w w'∧l.take k=m.take k) (λk=>[(0,.slice p l.length c),(1,.slice p' m.length c'),(5,.int .i64 k)]) (λk=>l.length - k) 0 ⟨by omega,Chg.refl _ _,rfl⟩ CF ?_;rintro k w1 ⟨hk,hx,a0⟩;replace h:=h.ext hx;replace h':=h'.ext hx;refine Sa ?_;refine A8 (λh2=>?_) λh2=>?_
 ·have h2:k<l.length:=by simp at h2;omega
  obtain⟨s,hs⟩:∃s,l[k]?=some s:=⟨_,Aap h2⟩;obtain⟨s',a1⟩:∃s,m[k]?=some s:=⟨_,Aap AdE⟩;obtain⟨a,rfl,-,-,hc⟩:=A2.at h hs;obtain⟨a',rfl,-,-,a4⟩:=A2.at h' a1;refine Sa ?_;refine LU ?_;refine Sk ?_;refine QL.nil λw2 a2=>?_;replace hx:=hx.trans a2;refine Sa ?_;refine A8 (λh3=>?_) λh3=>?_
  ·have h3:s≠s':=by simpa using h3
   refine Sa ?_;exact QW.body1 rfl rfl ⟨by rw[I0 hs a1 h3],hx⟩
  ·have h3:s=s':=by simpa using h3
   subst h3;refine Sa ?_;exact QW.again (k+1) ⟨by omega,hx,Fy a0 hs a1⟩ CF AdE
 ·have h2:k=l.length:=by simp at h2;omega
  subst h2;refine Sa ?_;exact QW.body1 rfl rfl ⟨by rw[GD a0 h1],hx⟩
theorem TD(l m:List (List UInt8))(v u:Value)(w:World)(h:Ce w v l)(h':Ce w u m):AF prog 107 [v,u] w (λr w'=>r=.bool (decide (l=m))∧Ai w w'):=by
 obtain⟨p,c,rfl⟩:=h.slice;obtain⟨p',c',rfl⟩:=h'.slice;have hl:=h.1;have a3:=h'.1;refine Bj func107 ntmps107 ?_;refine Sa ?_;refine A8 (λh1=>?_) λh1=>?_
 ·have h1:l.length≠m.length:=by simp at h1;omega
  refine Sa ?_;exact QW.body1 rfl rfl ⟨by rw[G1 h1],Chg.refl _ _⟩
 have h1:l.length=m.length:=by simp at h1;omega
 refine Sa ?_;refine CW.loop (ι:=Nat) (λk w'=>k≤l.length∧Ai w w'∧l.take k=m.take k) (λk=>[(0,.slice p l.length c),(1,.slice p' m.length c'),(12,.int .i64 l.length),(13,.int .i64 k)]) (λk=>l.length - k) 0 ⟨by omega,Chg.refl _ _,rfl⟩ Bx ?_;rintro k w1 ⟨hk,hx,a0⟩;replace h:=h.ext hx;replace h':=h'.ext hx;refine Sa ?_;refine A8 (λh2=>?_) λh2=>?_
 ·have h2:k<l.length:=by simp at h2;omega
  obtain⟨s,hs⟩:∃s,l[k]?=some s:=⟨_,Aap h2⟩;obtain⟨s',a1⟩:∃s,m[k]?=some s:=⟨_,Aap AdE⟩;obtain⟨a,rfl,-,-,hc⟩:=A2.at h hs;obtain⟨a',rfl,-,-,a4⟩:=A2.at h' a1;refine Sa ?_;refine LU ?_;refine Sk ?_;refine QL.nil λw2 a2=>?_;replace hx:=hx.trans a2;refine Sa ?_;refine A8 (λh3=>?_) λh3=>?_
  ·have h3:s≠s':=by simpa using h3
   refine Sa ?_;exact QW.body1 rfl rfl ⟨by rw[I0 hs a1 h3],hx⟩
  ·have h3:s=s':=by simpa using h3
   subst h3;refine Sa ?_;exact QW.again (k+1) ⟨by omega,hx,Fy a0 hs a1⟩ Bx AdE
 ·have h2:k=l.length:=by simp at h2;omega
  subst h2;refine Sa ?_;exact QW.body1 rfl rfl ⟨by rw[GD a0 h1],hx⟩
theorem T8(l m:List (List (List UInt8)))(v u:Value)(w:World)(h:BA w v l)(h':BA w u m):AF prog 106 [v,u,.func (.func 107) ⟨[]⟩ ⟨[]⟩] w (λr w'=>r=.bool (decide (l=m))∧Ai w w'):=by
 obtain⟨p,c,rfl⟩:=h.slice;obtain⟨p',c',rfl⟩:=h'.slice;have hl:=h.1;have a4:=h'.1;refine Bj func106 ntmps106 ?_;refine Sa ?_;refine A8 (λh1=>?_) λh1=>?_
 ·have h1:l.length≠m.length:=by simp at h1;omega
  refine Sa ?_;exact QW.body1 rfl rfl ⟨by rw[G1 h1],Chg.refl _ _⟩
 have h1:l.length=m.length:=by simp at h1;omega
 refine Sa ?_;refine CW.loop (ι:=Nat) (λk w'=>k≤l.length∧Ai w w'∧l.take k=m.take k) (λk=>[(1,.slice p' m.length c'),(2,.func (.func 107) ⟨[]⟩ ⟨[]⟩),(15,.slice p l.length c),(16,.int .i64 l.length),(17,.int .i64 k)]) (λk=>l.length - k) 0 ⟨by omega,Chg.refl _ _,rfl⟩ Et ?_;rintro k w1 ⟨hk,hx,a0⟩;replace h:=h.ext hx;replace h':=h'.ext hx;refine Sa ?_;refine A8 (λh2=>?_) λh2=>?_
 ·have h2:k<l.length:=by simp at h2;omega
  obtain⟨s,hs⟩:∃s,l[k]?=some s:=⟨_,Aap h2⟩;obtain⟨s',a1⟩:∃s,m[k]?=some s:=⟨_,Aap AdE⟩;obtain⟨a,q,qc,rfl,-,ht,hc⟩:=Bb.at h hs;obtain⟨a',q',qc',rfl,-,a2,a5⟩:=Bb.at h' a1;refine Sw ?_;refine LW.call (fs:=[]) (cs:=[]) rfl rfl rfl (TD s s' _ _ w1 ht a2) ?_;rintro v w2 ⟨rfl,a3⟩;replace hx:=hx.trans a3;refine Sa ?_;refine A8 (λh3=>?_) λh3=>?_
  ·have h3:s≠s':=by simpa using h3
   refine Sa ?_;exact QW.body1 rfl rfl ⟨by rw[I0 hs a1 h3],hx⟩
  ·have h3:s=s':=by simpa using h3
   subst h3;refine Sa ?_;exact QW.again (k+1) ⟨by omega,hx,Fy a0 hs a1⟩ Et AdE
 ·have h2:k=l.length:=by simp at h2;omega
  subst h2;refine Sa ?_;exact QW.body1 rfl rfl ⟨by rw[GD a0 h1],hx⟩
theorem EP{s u:Ae}:decide (s=u)=(decide (s.name=u.name)&&decide (s.cols=u.cols)&&decide (s.rows=u.rows)):=by
 cases s;cases u;simp[Bool.and_assoc]
theorem Wh(s u:Ae)(rv uv:Value)(w:World)(h:BA w rv s.rows)(h':BA w uv u.rows):AF prog 105 [.agg ⟨Am s rv⟩,.agg ⟨Am u uv⟩] w (λr w'=>r=.bool (decide (s=u))∧Ai w w'):=by
 refine Bj func105 ntmps105 ?_;apply CW.seq;apply CW.region;refine Sl ?_;refine CM λA w1 a3 a1 hA=>?_;replace hA:Blk w1 A (Am s rv) 46:=hA;refine Sl ?_;refine CM λB w2 a4 a0 hB=>?_;replace hB:Blk w2 B (Am u uv) 46:=hB;replace hA:=hA.ext a0;have hx:=a1.trans a0;refine Sa ?_;by_cases h1:s.name=u.name;rotate_left
 ·refine LW.know (t:=10) (c:=false) rfl Aem ?_;refine Sa ?_;exact QW.body1 rfl rfl ⟨by rw[EP,decide_eq_false h1];rfl,hx⟩
 refine LW.know (t:=10) (c:=true) rfl Aem ?_;refine Sa ?_;by_cases h2:s.cols=u.cols;rotate_left
 ·refine LW.know (t:=17) (c:=false) rfl Aeh ?_;refine Sa ?_;exact QW.body1 rfl rfl ⟨by rw[EP,decide_eq_false h2,AcO];rfl,hx⟩
 refine LW.know (t:=17) (c:=true) rfl Aeh ?_;refine Sa ?_;refine Ay rfl rfl (T8 s.rows u.rows _ _ w2 (h.ext hx) (h'.ext hx)) ?_;rintro v w3 ⟨rfl,a2⟩;refine Sa ?_;exact QW.body1 rfl rfl ⟨by rw[EP,decide_eq_true h1,decide_eq_true h2];rfl,hx.trans a2⟩
theorem S5(l m:An)(v u:Value)(w:World)(h:AA w v l)(h':AA w u m):AF prog 104 [v,u,.func (.func 105) ⟨[]⟩ ⟨[]⟩] w (λr w'=>r=.bool (decide (l=m))∧Ai w w'):=by
 obtain⟨p,c,rfl⟩:=h.slice;obtain⟨p',c',rfl⟩:=h'.slice;have hl:=h.1;have ab:=h'.1;refine Bj func104 ntmps104 ?_;refine Sa ?_;refine A8 (λh1=>?_) λh1=>?_
 ·have h1:l.length≠m.length:=by simp at h1;omega
  refine Sa ?_;exact QW.body1 rfl rfl ⟨by rw[G1 h1],Chg.refl _ _⟩
 have h1:l.length=m.length:=by simp at h1;omega
 refine Sa ?_;refine CW.loop (ι:=Nat) (λk w'=>k≤l.length∧Ai w w'∧l.take k=m.take k) (λk=>[(1,.slice p' m.length c'),(2,.func (.func 105) ⟨[]⟩ ⟨[]⟩),(15,.slice p l.length c),(16,.int .i64 l.length),(17,.int .i64 k)]) (λk=>l.length - k) 0 ⟨by omega,Chg.refl _ _,rfl⟩ Et ?_;rintro k w1 ⟨hk,hx,a0⟩;replace h:=h.ext hx;replace h':=h'.ext hx;refine Sa ?_;refine A8 (λh2=>?_) λh2=>?_
 ·have h2:k<l.length:=by simp at h2;omega
  obtain⟨s,hs⟩:∃s,l[k]?=some s:=⟨_,Aap h2⟩;obtain⟨s',a1⟩:∃s,m[k]?=some s:=⟨_,Aap AdE⟩;obtain⟨a,q,qc,rfl,-,-,ht,hc⟩:=Aa.at h hs;obtain⟨a',q',qc',rfl,-,-,a7,a3⟩:=Aa.at h' a1;refine Sw ?_;refine Bo λX w2 ac a8 hX=>?_;refine Sw ?_;refine AD λw3 a9 hX=>?_;replace hX:Blk w3 X (Am s (.slice q s.rows.length qc)) 46:=hX;have a4:Ai w1 w3:=a8.step a9 AdG;replace a3:∀j u,(Am s' (.slice q' s'.rows.length qc'))[j]?=some u→w3.cell? ((a'.add (((k:Nat):Int).toNat*3)).add j)=some u:=λj u hj=>BH a4 (a3 j u hj);refine Sw ?_;refine Bo λY w4 ad a5 hY=>?_;have ae:X<w3.heap.size:=hX.lt;replace hX:=hX.ext a5;refine Sw ?_;refine AD λw5 a6 hY=>?_;replace hY:Blk w5 Y (Am s' (.slice q' s'.rows.length qc')) 46:=hY;replace hX:=hX.chg a6 AdG;have a2:Ai w1 w5:=a4.trans (a5.step a6 AdG);refine Sa ?_;refine LW.call (fs:=[]) (cs:=[]) rfl rfl rfl (Wh s s' _ _ w5 (ht.ext a2) (a7.ext a2)) ?_;rintro v w6 ⟨rfl,aa⟩;replace hx:=(hx.trans a2).trans aa;refine Sa ?_;refine A8 (λh3=>?_) λh3=>?_
  ·have h3:s≠s':=by simpa using h3
   refine Sa ?_;exact QW.body1 rfl rfl ⟨by rw[I0 hs a1 h3],hx⟩
  ·have h3:s=s':=by simpa using h3
   subst h3;refine Sa ?_;exact QW.again (k+1) ⟨by omega,hx,Fy a0 hs a1⟩ Et AdE
 ·have h2:k=l.length:=by simp at h2;omega
  subst h2;refine Sa ?_;exact QW.body1 rfl rfl ⟨by rw[GD a0 h1],hx⟩
theorem UN(l m:An)(v u:Value)(w:World)(h:AA w v l)(h':AA w u m):AF prog 71 [.agg ⟨[v]⟩,.agg ⟨[u]⟩] w (λr w'=>r=.bool (decide (l=m))∧Ai w w'):=by
 refine Bj func71 ntmps71 ?_;apply CW.seq;apply CW.region;refine Sl ?_;refine CM λA w1 a3 a1 hA=>?_;replace hA:Blk w1 A [v] 24:=hA;refine Sl ?_;refine CM λB w2 a4 a0 hB=>?_;replace hB:Blk w2 B [u] 24:=hB;replace hA:=hA.ext a0;have hx:=a1.trans a0;refine Sa ?_;refine Ay rfl rfl (S5 l m v u w2 (h.ext hx) (h'.ext hx)) ?_;rintro v w3 ⟨rfl,a2⟩;refine Sa ?_;exact QW.body1 rfl rfl ⟨rfl,hx.trans a2⟩
theorem NL(s u:Ae)(rv uv:Value)(w:World)(h:BA w rv s.rows)(h':BA w uv u.rows):AF prog 39 [.agg ⟨Am s rv⟩,.agg ⟨Am u uv⟩] w (λr w'=>r=.bool (decide (s=u))∧Ai w w'):=by
 obtain⟨p,c,rfl⟩:=h.slice;obtain⟨p',c',rfl⟩:=h'.slice;have hl:=h.1;have a7:=h'.1;refine Bj func39 ntmps39 ?_;apply CW.seq;apply CW.region;refine Sl ?_;refine CM λA w1 a8 a5 hA=>?_;replace hA:Blk w1 A (Am s (.slice p s.rows.length c)) 46:=hA;refine Sl ?_;refine CM λB w2 a9 a4 hB=>?_;replace hB:Blk w2 B (Am u (.slice p' u.rows.length c')) 46:=hB;replace hA:=hA.ext a4;have hx:=a5.trans a4;refine Sa ?_;by_cases h1:s.name=u.name;rotate_left
 ·refine LW.know (t:=11) (c:=true) rfl Aem ?_;refine Sa ?_;exact QW.body1 rfl rfl ⟨by rw[EP,decide_eq_false h1];rfl,hx⟩
 refine LW.know (t:=11) (c:=false) rfl Aem ?_;refine Sa ?_;by_cases h2:s.cols=u.cols;rotate_left
 ·refine LW.know (t:=18) (c:=true) rfl Aeh ?_;refine Sa ?_;exact QW.body1 rfl rfl ⟨by rw[EP,decide_eq_false h2,AcO];rfl,hx⟩
 refine LW.know (t:=18) (c:=false) rfl Aeh ?_;refine Sa ?_;refine A8 (λh3=>?_) λh3=>?_
 ·have h3:s.rows.length≠u.rows.length:=by simp at h3;omega
  refine Sa ?_;exact QW.body1 rfl rfl ⟨by rw[EP,G1 h3,AcO],hx⟩
 have h3:s.rows.length=u.rows.length:=by simp at h3;omega
 refine Sa ?_;refine CW.loop (ι:=Nat) (λk w'=>k≤s.rows.length∧Ai w2 w'∧s.rows.take k=u.rows.take k) (λk=>[(2,.pointer (some ⟨A,0,none⟩)),(3,.pointer (some ⟨B,0,none⟩)),(5,.int .i64 k)]) (λk=>s.rows.length - k) 0 ⟨by omega,Chg.refl _ _,rfl⟩ CF ?_;rintro k w3 ⟨hk,a1,a0⟩;replace h:=h.ext (hx.trans a1);replace h':=h'.ext (hx.trans a1);replace hA:=hA.ext a1;replace hB:=hB.ext a1;refine Sa ?_;refine A8 (λh4=>?_) λh4=>?_
 ·have h4:k<s.rows.length:=by simp at h4;omega
  obtain⟨r,hr⟩:∃r,s.rows[k]?=some r:=⟨_,Aap h4⟩;obtain⟨r',a3⟩:∃r,u.rows[k]?=some r:=⟨_,Aap AdE⟩;obtain⟨a,q,qc,rfl,-,ht,hc⟩:=Bb.at h hr;obtain⟨a',q',qc',rfl,-,a6,aa⟩:=Bb.at h' a3;refine Sa ?_;refine LU ?_;refine Sk ?_;refine QL.call0 rfl rfl (λw4 a2=>UQ r r' _ _ w4 (ht.ext a2) (a6.ext a2)) ?_;refine Sk ?_;refine QL.nil λw4 a2=>?_;refine Sa ?_;refine A8 (λh5=>?_) λh5=>?_
  ·have h5:r≠r':=by simpa using h5
   refine Sa ?_;exact QW.body1 rfl rfl ⟨by rw[EP,I0 hr a3 h5,AcO],(hx.trans a1).trans a2⟩
  ·have h5:r=r':=by simpa using h5
   subst h5;refine Sa ?_;exact QW.again (k+1) ⟨by omega,a1.trans a2,Fy a0 hr a3⟩ CF AdE
 ·have h4:k=s.rows.length:=by simp at h4;omega
  subst h4;refine Sa ?_;exact QW.body1 rfl rfl ⟨by rw[EP,decide_eq_true h1,decide_eq_true h2,GD a0 h3];rfl,hx.trans a1⟩
theorem JD(l m:An)(v u:Value)(w:World)(h:AA w v l)(h':AA w u m):AF prog 17 [.agg ⟨[v]⟩,.agg ⟨[u]⟩] w (λr w'=>r=.bool (decide (l=m))∧Ai w w'):=by
 obtain⟨p,c,rfl⟩:=h.slice;obtain⟨p',c',rfl⟩:=h'.slice;have hl:=h.1;have a7:=h'.1;refine Bj func17 ntmps17 ?_;apply CW.seq;apply CW.region;refine Sl ?_;refine CM λA w1 a8 a5 hA=>?_;replace hA:Blk w1 A [.slice p l.length c] 24:=hA;refine Sl ?_;refine CM λB w2 a9 a4 hB=>?_;replace hB:Blk w2 B [.slice p' m.length c'] 24:=hB;replace hA:=hA.ext a4;have hx:=a5.trans a4;refine Sa ?_;refine A8 (λh3=>?_) λh3=>?_
 ·have h3:l.length≠m.length:=by simp at h3;omega
  refine Sa ?_;exact QW.body1 rfl rfl ⟨by rw[G1 h3],hx⟩
 have h3:l.length=m.length:=by simp at h3;omega
 refine Sa ?_;refine CW.loop (ι:=Nat) (λk w'=>k≤l.length∧Ai w2 w'∧l.take k=m.take k) (λk=>[(2,.pointer (some ⟨A,0,none⟩)),(3,.pointer (some ⟨B,0,none⟩)),(5,.int .i64 k)]) (λk=>l.length - k) 0 ⟨by omega,Chg.refl _ _,rfl⟩ CF ?_;rintro k w3 ⟨hk,a1,a0⟩;replace h:=h.ext (hx.trans a1);replace h':=h'.ext (hx.trans a1);replace hA:=hA.ext a1;replace hB:=hB.ext a1;refine Sa ?_;refine A8 (λh4=>?_) λh4=>?_
 ·have h4:k<l.length:=by simp at h4;omega
  obtain⟨r,hr⟩:∃r,l[k]?=some r:=⟨_,Aap h4⟩;obtain⟨r',a3⟩:∃r,m[k]?=some r:=⟨_,Aap AdE⟩;obtain⟨a,q,qc,rfl,-,-,ht,hc⟩:=Aa.at h hr;obtain⟨a',q',qc',rfl,-,-,a6,aa⟩:=Aa.at h' a3;refine Sa ?_;refine LU ?_;refine Sk ?_;refine QL.call0 rfl rfl (λw4 a2=>NL r r' _ _ w4 (ht.ext a2) (a6.ext a2)) ?_;refine Sk ?_;refine QL.nil λw4 a2=>?_;refine Sa ?_;refine A8 (λh5=>?_) λh5=>?_
  ·have h5:r≠r':=by simpa using h5
   refine Sa ?_;exact QW.body1 rfl rfl ⟨by rw[I0 hr a3 h5],(hx.trans a1).trans a2⟩
  ·have h5:r=r':=by simpa using h5
   subst h5;refine Sa ?_;exact QW.again (k+1) ⟨by omega,a1.trans a2,Fy a0 hr a3⟩ CF AdE
 ·have h4:k=l.length:=by simp at h4;omega
  subst h4;refine Sa ?_;exact QW.body1 rfl rfl ⟨by rw[GD a0 h3],hx.trans a1⟩
end Go.Proofs.YtcjjcnecopnpcaaGreatDoor
