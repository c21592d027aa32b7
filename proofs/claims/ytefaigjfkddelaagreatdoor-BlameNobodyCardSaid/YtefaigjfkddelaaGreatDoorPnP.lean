/-
  Joined by program out of the texts Pas2 Pas3 Pas4 Rev Blb3 Hea BlaW Tol2.
-/
import Derived.Test.YtefaigjfkddelaaGreatDoorPnO
import Derived.Test.YtefaigjfkddelaaGreatDoorPnE
import Derived.Test.YtefaigjfkddelaaGreatDoorPnA
import Derived.Test.YtefaigjfkddelaaGreatDoorPnH
import Derived.Test.YtefaigjfkddelaaGreatDoorPnK
import Derived.Test.YtefaigjfkddelaaGreatDoorPnJ
import Derived.Test.YtefaigjfkddelaaGreatDoorPnL
namespace Go.Proofs.YtefaigjfkddelaaGreatDoor
open Tryz
open Go Go.E
theorem PW{P:A9→Bool}:∀{l:A7} {k:Nat} {c:A9},l[k]?=some c→P c=true→(∀j d,j<k→l[j]?=some d→P d=false)→l.findIdx? P=some k
 | [],_,_,h,_,_=>by simp at h
 | c::l,0,d,h,hp,_=>by
  simp at h;subst h
  simp[Adq,hp]
 | c::l,k+1,d,h,hp,hn=>by
  rw[Adq,hn 0 c Aez rfl,PW (k:=k) Afa hp λj u hj hu=>hn (j+1) u Aez (by simpa using hu)];rfl
theorem L5{P:A9→Bool}{l:A7}(h:∀j d,j<l.length→l[j]?=some d→P d=false):l.findIdx? P=none:=by
 rw[Adu];intro c hc;obtain⟨j,hj⟩:=Acy hc;exact h j c (Aav.1 hj).1 hj
theorem Rf(l:A7)(id:List UInt8):l.findIdx? (λc=>decide (c.id=id))=DM l id:=by
 cases e:DM l id with
 | none=>
  exact L5 λj d _ hd=>by have:=Kn e d (Aa9 hd);simp[this]
 | some k=>
  obtain⟨c,h1,h2,h3⟩:=Ez e;exact PW h1 Af3 λj d hj hd=>by have:=h3 j d hj hd;simp[this]
theorem GP(l:A7)(lv:Value)(P:A9→Bool)(g:FuncId)(cs:List Value)(w:World)(h:Dw w lv l)
  (hg:∀w',Ae w w'→∀i c q n bp bn bc a k,l[i]?=some c→lv=.slice (some a) l.length k→(∀j u,(Bl c (.slice q c.parents.length n) (.slice bp bn bc))[j]?=some u→w'.cell? ((a.add (((i:Nat):Int).toNat*4)).add j)=some u)→AF prog g (.agg ⟨Bl c (.slice q c.parents.length n) (.slice bp bn bc)⟩::cs) w' (λv w''=>v=.bool (P c)∧Ae w' w'')) :
  AF prog 28 [lv,.func (.func g) ⟨[]⟩ ⟨cs⟩] w (λv w'=>v=.int .i64 (Qk (l.findIdx? P))∧Ae w w'):=by
 obtain⟨p,c,rfl⟩:=h.slice;have hl:=h.1;refine AQ func28 ntmps28 ?_;refine Sa ?_;refine CW.loop (ι:=Nat) (λk w'=>k≤l.length∧Ae w w'∧∀i u,i<k→l[i]?=some u→P u=false) (λk=>[(0,.slice p l.length c),(1,.func (.func g) ⟨[]⟩ ⟨cs⟩),(7,.int .i64 l.length),(8,.int .i64 k)]) (λk=>l.length - k) 0 ⟨by omega,Chg.refl _ _,λi u h=>by omega⟩ B9 ?_;rintro k w1 ⟨hk,hx,a1⟩;replace h:=h.ext hx;refine Sa ?_;refine Av (λh2=>?_) λh2=>?_
 ·have h2:k<l.length:=by simp at h2;omega
  obtain⟨cm,hs⟩:∃s,l[k]?=some s:=⟨_,Aak h2⟩;obtain⟨a,q,n,bp,bn,bc,rfl,-,a0⟩:=Dw.at' h hs;refine Sa ?_;refine Lo ?_;refine LW.load_cells rfl a0 rfl rfl rfl rfl ?_;refine Sa ?_;refine LW.call (fs:=[]) (cs:=cs) rfl rfl rfl (hg w1 hx k cm q n bp bn bc a c hs rfl a0) ?_;rintro v w2 ⟨rfl,a2⟩;refine Sa ?_;refine Av (λh3=>?_) λh3=>?_
  ·refine Sa ?_;exact QW.body1 rfl rfl ⟨by rw[PW hs h3 a1];rfl,hx.trans a2⟩
  ·refine Sa ?_;refine QW.again (k+1) ⟨by omega,hx.trans a2,λi u hi hu=>?_⟩ B9 Aez;rcases Ac0 i k with h4 | h4
   ·exact a1 i u h4 hu
   ·obtain rfl:i=k:=by omega
    rw[hs] at hu;obtain rfl:=Aa5 hu;exact h3
 ·have h2:k=l.length:=by simp at h2;omega
  subst h2;refine Sa ?_;refine QW.body1 rfl rfl ⟨?_,hx⟩;rw[L5 a1];rfl
theorem U9(cm:A9)(q bp:Option Addr)(m n bn bc A:Nat)(x:List UInt8)(w:World)(hA:Blk w A [Am x] 9):AF prog 59 [.agg ⟨Bl cm (.slice q m n) (.slice bp bn bc)⟩,.pointer (some ⟨A,0,none⟩)] w (λv w'=>v=.bool (decide (cm.id=x))∧Ae w w'):=by
 refine AQ func59 ntmps59 ?_;refine Sa ?_;refine Dq λX w1 a1 a0 hX=>?_;replace hX:Blk w1 X (Bl cm (.slice q m n) (.slice bp bn bc)) 31:=hX;replace hA:=hA.ext a0;refine Sa ?_;exact QW.body1 rfl rfl ⟨by simp,a0⟩
theorem Jk(l:A7)(lv:Value)(x:List UInt8)(w:World)(h:Dw w lv l):AF prog 42 [lv,Am x] w (λv w'=>v=.int .i64 (Qk (DM l x))∧Ae w w'):=by
 obtain⟨p,c,rfl⟩:=h.slice;refine AQ func42 ntmps42 ?_;refine Sa ?_;refine Dq λA w1 a2 a0 hA=>?_;replace hA:Blk w1 A [Am x] 9:=hA;refine Sa ?_;refine Ax rfl rfl (GP l _ (λc=>decide (c.id=x)) 59 [.pointer (some ⟨A,0,none⟩)] w1 (h.ext a0) λw' hx i cm q n bp bn bc a k _ _ _=>U9 cm q bp _ n bn bc A x w' (hA.ext hx)) ?_;rintro v w2 ⟨rfl,a1⟩;refine Sa ?_;exact QW.body1 rfl rfl ⟨by rw[Rf],a0.trans a1⟩
set_option maxRecDepth 8000 in
set_option maxHeartbeats 2000000 in
theorem WQ(l:A7)(v:Value)(id:List UInt8)(w:World)(h:Dw w v l)(hm:EJ l=true)(hl:l.length≤1000):AF prog 26 [v,Am id] w (λr w'=>E.A3 w' w.heap.size 9 1 r (CA l id).length ((CA l id).map Am)∧Ae w w'):=by
 obtain⟨p,c,rfl⟩:=h.slice;have ah:=Po hm id;have h0:=h;refine AQ func26 ntmps26 ?_;refine Sa ?_;refine Ax rfl rfl (Jk l _ id w h) ?_;rintro v w1 ⟨rfl,aa⟩;refine Sa ?_;refine CW.loop (ι:=List Nat×List UInt8×Value) (λx w'=>x.1++DI l l.length (DM l x.2.1)=Cq l id∧Ae w w'∧E.A3 w' w.heap.size 9 1 x.2.2 x.1.length ((x.1.map (Yh l)).map Am)) (λx=>[(0,.slice p l.length c),(1,Am x.2.1),(5,x.2.2),(6,.int .i64 (Qk (DM l x.2.1)))]) (λx=>Yw (DM l x.2.1)) ([],id,.slice none 0 0) ⟨rfl,aa,E.A3.nil _ _ _ _⟩ B9 ?_;rintro⟨dn,cur,ov⟩ w2 ⟨a0,a4,a5⟩;dsimp only at a0 a5;show CW _ _ _ _ _ [(0,.slice p l.length c),(1,Am cur),(5,ov),(6,.int .i64 (Qk (DM l cur)))] _;replace h:=h.ext a4;have ai:=a4.size
 cases ho:DM l cur with
 | none=>
  rw[ho,NM,Acq] at a0;refine Sw ?_;refine QW.body1 rfl rfl ⟨?_,a4⟩;rw[CA,←a0,Acg]
  exact a5
 | some k=>
  have hk:=HB ho;obtain⟨cm,hc,a7,-⟩:=Ez ho;rw[ho,NN hm hc] at a0;have aj:dn.length<l.length:=by
   have e:=congrArg List.length a0;simp only[Aax,AaT] at e;omega
  show CW _ _ _ _ _ [(0,.slice p l.length c),(1,Am cur),(5,ov),(6,.int .i64 (k:Int))] _;refine Sw ?_;refine Cx λC w3 ak a8 hC=>?_;have al:=a8.size;refine Sa ?_;refine LW.append (lo:=w.heap.size) (k:=dn.length) rfl rfl rfl rfl rfl rfl (a5.ext a8) Aez hC rfl rfl rfl AfI rfl ?_;intro v4 w4 ab ac _;have a3:E.A3 w4 w.heap.size 9 1 v4 (dn++[k]).length (((dn++[k]).map (Yh l)).map Am):=by
   rw[Aax,Ac1,Ac1];simp only[AcE,AcZ,Qi hc,a7];exact ac
  have a1:=(a4.trans a8).step ab (λb hb=>(a5.lt hb).1);obtain⟨a,q',n',bv',rfl,ad,a2⟩:=Dw.at (h0.ext a1) hc;have ae:=a2 1 _ rfl;refine Sw ?_;refine Av (λh2=>?_) λh2=>?_
  ·have h2:cm.parents=[]:=by
    cases e:cm.parents with
    | nil=>rfl
    | cons p r=>rw[e] at h2;simp at h2;omega
   rw[h2] at a0;refine Sw ?_;refine QW.body1 rfl rfl ⟨?_,a1⟩;rw[CA,←a0,Acg];exact a3
  obtain⟨pp,pr,a6⟩:∃s r,cm.parents=s::r:=by
   cases e:cm.parents with
   | nil=>rw[e] at h2;simp at h2
   | cons p r=>exact⟨p,r,rfl⟩
  obtain⟨j,hj,am⟩:=Em hm hc (p:=pp) (by rw[a6];exact Acv ..);have an:0<cm.parents.length:=by rw[a6];simp
  obtain⟨qa,rfl,-,af⟩:=ad.at (i:=0) (s:=pp) (by rw[a6];rfl);rw[a6] at a0;simp only at a0;have ag:w4.cell? (qa.add 0)=some (Am pp):=af;refine Sw ?_;refine Ax rfl rfl (Jk l _ pp w4 (h0.ext a1)) ?_;rintro v w5 ⟨rfl,a9⟩;refine Sa ?_;refine QW.again (dn++[k],pp,v4) ⟨by show(dn++[k])++DI l l.length (DM l pp)=_;rw[Abh];exact a0,a1.trans a9,a3.ext a9⟩ B9 ?_;show Yw (DM l pp)<Yw (some k);rw[hj];show j+1<k+1;omega
theorem Pq{l:A7}{i:Nat}{c:A9}(hi:l[i]?=some c)(h:Ib l i c=false):EJ l=false:=by
 rw[EJ,Aei];refine⟨i,Adj.2 (Aav.1 hi).1,?_⟩;rw[hi];simp[h]
theorem Q1{l:A7}(h:∀i c,i<l.length→l[i]?=some c→Ib l i c=true):EJ l=true:=by
 rw[EJ,Ac2];intro i hi
 cases e:l[i]? with
 | none=>rfl
 | some c=>exact h i c (Adj.1 hi) e
def M7(l:A7)(k:Nat)(c:A9):Bool:=(DM (l.take k) c.id).isSome||decide (2<c.parents.length)||(decide (c.parents.length=2)&&decide (c.parents[0]?=c.parents[1]?))
theorem NS(l:A7)(k:Nat)(c:A9):Ib l k c=(!M7 l k c&&c.parents.all λp=>(DM (l.take k) p).isSome):=by
 unfold Ib M7
 congr 1
 cases(DM (l.take k) c.id)<;>by_cases h:c.parents.length≤2<;>simp[h]<;>omega
theorem Eb.two{w:World}{p:Option Addr}{c:Nat}{l:List (List UInt8)}(h:Eb w (.slice p l.length c) l)(h2:l.length=2):∃a s t,p=some a∧l[0]?=some s∧l[1]?=some t∧w.cell? (a.add 0)=some (Am s)∧w.cell? (a.add 1)=some (Am t):=by
 obtain⟨s,hs⟩:∃s,l[0]?=some s:=⟨_,Aak Aez⟩;obtain⟨t,ht⟩:∃s,l[1]?=some s:=⟨_,Aak Aez⟩;obtain⟨a,rfl,-,h0⟩:=h.at hs;obtain⟨b,e,-,h1⟩:=h.at ht;obtain rfl:=Aa5 e;exact⟨a,s,t,rfl,hs,ht,h0,h1⟩
theorem WO{l:A7}{k:Nat}{c:A9}(hc:l[k]?=some c):(DM (l.take k) c.id).isSome=!decide (Qk (DM l c.id)=(k:Int)):=by
 cases e:DM (l.take k) c.id with
 | some j=>
  obtain⟨h1,h2⟩:=Rh e;rw[h1];have:¬((j:Nat):Int)=(k:Int):=Aez
  simp[Qk,this]
 | none=>
  have:DM l c.id=some k:=JB hc rfl λj d hj hd=>Kn e d (Aa9 (i:=j) (by rw[AcP hj];exact hd));rw[this];simp[Qk]
set_option maxRecDepth 8000 in
set_option maxHeartbeats 40000000 in
theorem YG(l:A7)(v:Value)(w:World)(h:Dw w v l)(hcap:∀p n c,v=.slice p n c→n≤c):AF prog 22 [v] w (λr w'=>r=.bool (EJ l)∧Ae w w'):=by
 obtain⟨p,c,rfl⟩:=h.slice;have hl:=h.1;have ae:=hcap _ _ _ rfl;refine AQ func22 ntmps22 ?_;refine Sa ?_;refine CW.loop (ι:=Nat) (λk w'=>k≤l.length∧Ae w w'∧∀i c,i<k→l[i]?=some c→Ib l i c=true) (λk=>[(0,.slice p l.length c),(7,.slice p l.length c),(8,.int .i64 l.length),(9,.int .i64 k)]) (λk=>l.length - k) 0 ⟨by omega,Chg.refl _ _,λ_ _ h=>by omega⟩ B9 ?_;rintro k w1 ⟨hk,hx,a8⟩;replace h:=h.ext hx;refine Sa ?_;refine Av (λh2=>?_) λh2=>?_;rotate_left
 ·have h2:k=l.length:=by simp at h2;omega
  subst h2;refine Sa ?_;exact QW.body1 rfl rfl ⟨by rw[Q1 a8],hx⟩
 have h2:k<l.length:=by simp at h2;omega
 obtain⟨cm,hc⟩:∃s,l[k]?=some s:=⟨_,Aak h2⟩;obtain⟨a,q,n,bp,bn,bc,rfl,hp,a2⟩:=Dw.at' h hc;have af:=hp.1;have hT:=C8.take (i:=k) h rfl Aez;have ag:(l.take k).length=k:=Ae0
 refine Sa ?_;refine Lo ?_;refine LW.load_cells rfl a2 rfl rfl rfl rfl ?_;refine Sa ?_;refine BX λX w2 ah ab hX=>?_;have ai:=hX.lt;refine Sa ?_;refine AR λw3 ac hX=>?_;replace hX:Blk w3 X (Bl cm (.slice q cm.parents.length n) (.slice bp bn bc)) 31:=hX;have a0:Ae w1 w3:=ab.step ac Ae0;replace h:=h.ext a0;replace hp:=hp.ext a0;replace hT:=Dw.ext hT a0;refine Sw ?_;refine CW.cut (ι:=Unit) (λ_ w'=>Ae w3 w') (λ_=>[(0,.slice (some a) l.length c),(7,.slice (some a) l.length c),(8,.int .i64 l.length),(9,.int .i64 k),(3,.int .i64 k),(4,.pointer (some ⟨X,0,none⟩)),(42,.bool (M7 l k cm))]) ?_ ?_
 ·refine CW.drawG (Ae w3) 28 (λw' h=>h) Ae1 λwa aj=>?_;refine BD ?_;refine DR 3 λhS=>?_;refine Ax rfl rfl (Jk l _ cm.id _ (h.ext hS)) ?_;rintro v w4 ⟨rfl,a3⟩;have ad:=hS.trans a3;clear hS;apply LW.nil;refine QW.headed ad ?_;have a6:=WO hc
  cases ho:DM (l.take k) cm.id with
  | some j=>
   have hb:M7 l k cm=true:=by simp[M7,ho]
   refine BD ?_;refine GW.know (t:=20) (c:=true) rfl (by rw[ho] at a6;simpa using a6) ?_;refine BD ?_;refine GW.know (t:=26) (c:=true) rfl Ae7 ?_;refine BD ?_;refine GW.tail rfl Ae1 (λhS=>?_);refine Sa ?_
   exact QW.head () hS AeB
  | none=>
   refine BD ?_;refine GW.know (t:=20) (c:=false) rfl (by rw[ho] at a6;simpa using a6) ?_;refine BD ?_;by_cases h3:2<cm.parents.length
   ·have hb:M7 l k cm=true:=by simp[M7,ho,h3]
    refine GW.know (t:=26) (c:=true) rfl Ae0 ?_;refine BD ?_;refine GW.tail rfl Ae1 (λhS=>?_);refine Sa ?_;exact QW.head () hS AeB
   refine GW.know (t:=26) (c:=false) rfl Ae0 ?_;refine BD ?_;by_cases h4:cm.parents.length=2;rotate_left
   ·have hb:M7 l k cm=false:=by simp[M7,ho,h3,h4]
    refine GW.know (t:=31) (c:=false) rfl Ae0 ?_;refine BD ?_;refine GW.tail rfl Ae1 (λhS=>?_);refine Sa ?_;exact QW.head () hS AeB
   obtain⟨qa,s,t,rfl,hs,ht,ak,al⟩:=Eb.two hp h4;have hb:M7 l k cm=decide (s=t):=by rw[M7,ho,hs,ht,h4];simp
   refine GW.know (t:=31) (c:=true) rfl Ae0 ?_;refine BD ?_;refine GW.tail rfl Ae1 (λhS=>?_);refine Sa ?_;exact QW.head () hS AeB
 rintro⟨⟩ w4 a3;show CW _ _ _ _ _ [(0,.slice (some a) l.length c),(7,.slice (some a) l.length c),(8,.int .i64 l.length),(9,.int .i64 k),(3,.int .i64 k),(4,.pointer (some ⟨X,0,none⟩)),(42,.bool (M7 l k cm))] _;have a4:=(hx.trans a0).trans a3;replace hX:=hX.ext a3;refine Sa ?_;refine Av (λh3=>?_) λh3=>?_
 ·refine Sa ?_;exact QW.body1 rfl rfl ⟨by rw[Pq hc (by rw[NS,h3];rfl)],a4⟩
 refine Sa ?_;refine CW.loop (ι:=Nat) (λj w'=>j≤cm.parents.length∧Ae w4 w'∧∀i s,i<j→cm.parents[i]?=some s→(DM (l.take k) s).isSome=true) (λj=>[(0,.slice (some a) l.length c),(7,.slice (some a) l.length c),(8,.int .i64 l.length),(9,.int .i64 k),(3,.int .i64 k),(44,.slice q cm.parents.length n),(45,.int .i64 cm.parents.length),(46,.int .i64 j)]) (λj=>cm.parents.length - j) 0 ⟨by omega,Chg.refl _ _,λ_ _ h=>by omega⟩ HA ?_;rintro j w5 ⟨hj,a7,a9⟩;have a1:=a3.trans a7;have a5:=a4.trans a7;replace h:=h.ext a1;replace hp:=hp.ext a1;replace hT:=Dw.ext hT a1;refine Sw ?_;refine Av (λh4=>?_) λh4=>?_;rotate_left
 ·have h4:j=cm.parents.length:=by simp at h4;omega
  subst h4;refine Sw ?_;refine QW.again (k+1) ⟨by omega,a5,λi d hi hd=>?_⟩ B9 Aez;by_cases e:i=k
  ·subst e;rw[hc] at hd;obtain rfl:=Aa5 hd;rw[NS,h3,Ac2.2 λs hs=>?_]
   ·rfl
   ·obtain⟨i,hi⟩:=Acy hs;exact a9 i s (Aav.1 hi).1 hi
  ·exact a8 i d Aez hd
 have h4:j<cm.parents.length:=by simp at h4;omega
 obtain⟨s,hs⟩:∃s,cm.parents[j]?=some s:=⟨_,Aak h4⟩;obtain⟨qa,rfl,-,am⟩:=hp.at hs;refine Sw ?_;refine LW.slice_hi (j:=k) rfl rfl rfl rfl rfl Aez rfl ?_;refine Sw ?_;refine Ax rfl rfl (Jk (l.take k) _ s _ hT) ?_;rintro v w6 ⟨rfl,aa⟩;refine Sa ?_;refine Av (λh5=>?_) λh5=>?_
 ·have h5:(DM (l.take k) s).isSome=false:=by
   cases ho:DM (l.take k) s with
   | none=>rfl
   | some i=>
    rw[ho] at h5;have h6:((i:Nat):Int)<0:=of_decide_eq_true h5;omega
  refine Sa ?_;refine QW.body1 rfl rfl ⟨?_,a5.trans aa⟩;rw[Pq hc];rw[NS,AdR];exact .inr (Aei.2 ⟨s,Aa9 hs,by rw[h5];simp⟩)
 ·have h5:(DM (l.take k) s).isSome=true:=by
   cases ho:DM (l.take k) s with
   | none=>
    rw[ho] at h5
    exact absurd (show(-1:Int)<0 by omega) (of_decide_eq_false h5)
   | some j=>rfl
  refine Sa ?_;refine QW.again (j+1) ⟨by omega,a7.trans aa,λi t hi ht=>?_⟩ HA Aez;by_cases e:i=j
  ·subst e;rw[hs] at ht;obtain rfl:=Aa5 ht;exact h5
  ·exact a9 i t Aez ht
open Go Go.E Go.Sort
theorem K0(w:World)(g:Nat)(f:Array Value→Array Value):Chg [g] w (mapBlock w g f):=
 ⟨rfl,rfl,rfl,by simp[mapBlock],λk _ hk=>by
  have:¬g=k:=λe=>hk (by simp[e]);simp[mapBlock,AdQ,this]⟩
theorem WY(l:List (List UInt8))(xs sp:List Value)(h:xs.length=l.length):putCells (λs:List UInt8=>Am s) 0 l.toArray ⟨xs++sp⟩=⟨l.map Am++sp⟩:=by
 apply Array.ext_getElem?;intro j;simp only[putCells,Array.getElem?_mapIdx,AdA,Aeh,AbW,Ac8,true_and,AdZ];by_cases hj:j<l.length
 ·rw[Abg Aez,Abg AeT,AbA,Aak Aez,Aak hj];simp[hj]
 ·rw[Ace Aez,Ace Ae0,Acg,h];cases sp[j - l.length]?<;>simp[hj]
theorem QX(l:List (List UInt8))(v:Value)(lo:Nat)(w:World)(h:E.A3 w lo 9 1 v l.length (l.map Am))(hl:l.length≤1000000):AF prog 27 [v] w (λr w'=>r=.tuple #[]∧E.A3 w' lo 9 1 v l.length (l.reverse.map Am)∧Chg (Ac v) w w'):=by
 obtain⟨a3,⟨rfl,h0⟩ | ⟨g,cap,sp,rfl,hB,hn,a1,a2⟩⟩:=h
 ·refine Gk Ae1 (slices_Reverse_string_empty none 0 w) λe w' ⟨he,hw⟩=>⟨_,he,rfl,?_,?_⟩
  ·have:l=[]:=AbX h0;subst this;exact E.A3.nil _ _ _ _
  ·subst hw;exact Chg.refl _ _
 ·refine Gk Ae1 (slices_Reverse_string g 0 cap l w (λj hj=>⟨?_,?_⟩) Aez) λe w' ⟨he,n,hw⟩=>⟨_,he,rfl,?_,?_⟩
  ·have a0:j<l.length:=by simpa using hj
   rw[AbW];refine hB.cell ?_;rw[Abg AeW,AbA,Aak a0];simp[getElem!_pos,a0,Am,encStr]
  ·unfold Blk at hB;simp[World.frozen?,hB]
  ·subst hw;refine⟨by simp,.inr ⟨g,cap,sp,rfl,?_,hn,a1,a2⟩⟩;unfold Blk at hB ⊢;have e:=WY l.reverse (l.map Am) sp Ae7;simp only[putRow,mapBlock,Sort.ahead,AdQ,if_true,hB,AbZ,onCells];rw[show(encStr:List UInt8→Value)=λs=>Am s from rfl,e]
  ·subst hw;exact⟨rfl,rfl,rfl,(K0 (Sort.ahead w n) g _).size,(K0 (Sort.ahead w n) g _).block⟩
theorem QN.low{lo lo':Nat}{w:World}{v:Value}{ss:List BP}(h:QN lo w v ss)(hl:lo'≤lo):QN lo' w v ss:=by
 obtain⟨css,h1,h2,h3,h4⟩:=h;exact⟨css,h1,h2,h3.low hl,λi x cs hi hc=>let ⟨rv,cv,e,o1,o2,n1,n2⟩:=h4 i x cs hi hc;⟨rv,cv,e,o1.low hl,o2.low hl,n1,n2⟩⟩
theorem Dk.book{w:World}{a:Addr}{k:Nat}{l:A7}(h:Dk w (.slice (some a) l.length k) l){i:Nat}{c:A9}(hi:l[i]?=some c){v:Value}(hc:w.cell? ((a.add (((i:Nat):Int).toNat*4)).add 2)=some v):∃bp bc,v=.slice bp c.book.length bc∧B5 w (.slice bp c.book.length bc) c.book∧A5 c.book=true:=by
 obtain⟨a',q,n,bp,bc,e,-,h1,-,h2,h3⟩:=Dk.at h hi;obtain rfl:=Aa5 e;have:=(h3 2 _ rfl).symm.trans hc;exact⟨bp,bc,(Aa5 this).symm,h1,h2⟩
theorem Rj(c:A9)(q bp:Option Addr)(m n bc:Nat)(w:World)(g:Dg w)(h:B5 w (.slice bp c.book.length bc) c.book):AF prog 24 [.agg ⟨Bl c (.slice q m n) (.slice bp c.book.length bc)⟩] w (λv w'=>v=.bool (!A5 c.book)∧Ae w w'):=by
 refine AQ func24 ntmps24 ?_;apply CW.seq;apply CW.region;refine Sl ?_;refine Dq λX w1 a2 a0 hX=>?_;replace hX:Blk w1 X (Bl c (.slice q m n) (.slice bp c.book.length bc)) 31:=hX;refine Sa ?_;refine LW.load_cells rfl (Hf (i:=2) hX rfl) rfl rfl rfl rfl ?_;refine Sa ?_;refine Ax rfl rfl (X8 c.book _ _ (g.ext a0) (Ak.ext h a0)) ?_;rintro v w2 ⟨rfl,a1⟩;refine Sa ?_;exact QW.body1 rfl rfl ⟨rfl,a0.trans a1⟩
theorem PR(l:A7)(lv:Value)(w:World)(g:Dg w)(h:Dk w lv l):AF prog 23 [lv,.func (.func 24) ⟨[]⟩ ⟨[]⟩] w (λv w'=>v=.bool false∧Ae w w'):=by
 obtain⟨p,c,rfl⟩:=C8.slice h;refine AQ func23 ntmps23 ?_;refine Sa ?_;refine Ax rfl rfl (GP l _ (λc=>!A5 c.book) 24 [] w h.past λw' hx i cm q n bp bn bc a k hi hs a0=>?_) ?_
 ·obtain⟨rfl,-,rfl⟩:=Acd hs;obtain⟨bp',bc',e,h1,h2⟩:=Dk.book (h.ext hx) hi (a0 2 _ rfl);obtain⟨rfl,rfl,rfl⟩:=Acd e;exact Rj cm q bp _ n bc w' (g.ext hx) h1
 rintro v w1 ⟨rfl,a1⟩;rw[L5 λj d _ hd=>by rw[(h.may d (Aa9 hd)).1];rfl];refine Sa ?_;exact QW.body1 rfl rfl ⟨rfl,a1⟩
theorem Rk(cm:A9)(q bp:Option Addr)(m n bn bc A:Nat)(x:List UInt8)(w:World)(hA:Blk w A [Am x] 9):AF prog 29 [.agg ⟨Bl cm (.slice q m n) (.slice bp bn bc)⟩,.pointer (some ⟨A,0,none⟩)] w (λv w'=>v=.bool (decide (cm.id=x))∧Ae w w'):=by
 refine AQ func29 ntmps29 ?_;refine Sa ?_;refine Dq λX w1 a1 a0 hX=>?_;replace hX:Blk w1 X (Bl cm (.slice q m n) (.slice bp bn bc)) 31:=hX;replace hA:=hA.ext a0;refine Sa ?_;exact QW.body1 rfl rfl ⟨by simp,a0⟩
set_option maxRecDepth 8000 in
set_option maxHeartbeats 8000000 in
theorem JC(l:A7)(v:Value)(id:List UInt8)(w:World)(g:Dg w)(h:Dk w v l)(hcap:∀p n c,v=.slice p n c→n≤c)(hm:EJ l=true)(hl:l.length≤1000):AF prog 13 [v,Am id] w (λr w'=>∃rv f,Ck w.heap.size w' r (Gc l id) rv f∧Ae w w'):=by
 obtain⟨p,c,rfl⟩:=C8.slice h;have cv:=Po hm id;have c5:=W9 l id;have c6:=Uv h id;refine AQ func13 ntmps13 ?_;refine Sw ?_;refine Ax rfl rfl (YG l _ w h.past hcap) ?_;rintro v w1 ⟨rfl,bb⟩;rw[hm];refine Sw ?_;refine Ax rfl rfl (PR l _ w1 (g.ext bb) (h.ext bb)) ?_;rintro v w2 ⟨rfl,c7⟩;have af:=bb.trans c7;refine Sw ?_;refine Ax rfl rfl (WQ l _ id w2 (h.past.ext af) hm hl) ?_;rintro v w3 ⟨hO,c8⟩;have bd:=af.trans c8;refine Sw ?_;refine Ax rfl rfl (QX (CA l id) _ _ w3 hO Aez) ?_;rintro v0 w4 ⟨rfl,bu,c9⟩;have ag:Ae w w4:=bd.step c9 λb hb=>by have:=(hO.lt hb).1;have:=af.size;omega
 have ca:CD w4 v (CA l id).reverse:=Gi (by rw[AdX];exact bu) (by rw[AdX];omega) (λs hs=>c6 s (List.mem_reverse.1 hs));obtain⟨lp,lc,rfl⟩:=bu.slice;have cw:=ag.size;refine Sw ?_;refine BX λA w5 cx be hA=>?_;have cb:=ag.trans be;have cy:=hA.lt;have cz:=be.size;refine Sw ?_;refine CW.loop (ι:=Nat×Value×Value) (λx w'=>x.1≤(CA l id).length∧Chg [A] w5 w'∧Blk w' A [x.2.2] 29∧(∃rv f,Ck w4.heap.size w' x.2.1 (Gg (F7 l id ((CA l id).length - x.1))) rv f)∧(∀k c,0<x.1→(Cq l id)[(CA l id).length - x.1]?=some k→l[k]?=some c→∃bp bc,x.2.2=.slice bp c.book.length bc∧B5 w (.slice bp c.book.length bc) c.book)) (λx=>[(0,.slice p l.length c),(6,x.2.1),(7,.pointer (some ⟨A,0,none⟩)),(27,.slice lp (CA l id).length lc),(28,.int .i64 (CA l id).length),(29,.int .i64 x.1)]) (λx=>(CA l id).length - x.1) (0,.slice none 0 0,.slice none 0 0) ⟨Ac8 _,Chg.refl _ _,hA,⟨λ_=>.slice none 0 0,λ_ _=>0,?_⟩,λ_ _ h=>by omega⟩ DL ?_
 ·show Ck _ _ _ (Gg (F7 l id ((CA l id).length - 0))) _ _;rw[AdZ,F7,c5,Ad1];exact Zg
 rintro⟨n,ov,bv⟩ w6 ⟨hn,b5,b6,⟨rv,f,ak⟩,bw⟩;dsimp only at hn b6 ak bw;show CW _ _ _ _ _ [(0,.slice p l.length c),(6,ov),(7,.pointer (some ⟨A,0,none⟩)),(27,.slice lp (CA l id).length lc),(28,.int .i64 (CA l id).length),(29,.int .i64 (n:Int))] _;have far:∀w',Chg [A] w5 w'→Ae w4 w':=λw' h=>be.step h Ae0;have ah:=far _ b5;have a3:=ag.trans ah;have d0:=ah.size;have cc:=b5.size;refine Sw ?_;refine Av (λh1=>?_) λh1=>?_;rotate_left
 ·have h1:n=(CA l id).length:=by simp at h1;omega
  subst h1;rw[Adc] at ak;refine Sw ?_;exact QW.body1 rfl rfl ⟨rv,f,ak.low Aez,a3⟩
 have h1:n<(CA l id).length:=by simp at h1;omega
 obtain⟨i,hi⟩:∃i,i=(CA l id).length - 1 - n:=⟨_,rfl⟩;obtain⟨ki,al⟩:∃k,(Cq l id)[i]?=some k:=⟨_,Aak Aez⟩;obtain⟨CC,am,bf,an⟩:=Vt hm al;have cd:=HB an;have ce:(CA l id).reverse[n]?=some CC.id:=by
  rw[List.getElem?_reverse h1,←hi];exact bf
 have bg:=A4.ext ca ah;obtain⟨la,eqa,-,-,d1⟩:=A4.at (p:=lp) (c:=lc) (by rw[AdX];exact bg) ce;subst eqa;refine Sw ?_;refine BX λB w7 d2 cf hB=>?_;have d4:=hB.lt;refine Sw ?_;refine BO λw8 cg hB=>?_;replace hB:Blk w8 B [Am CC.id] 9:=hB;have ao:Ae w6 w8:=cf.step cg Ae0;have ap:=a3.trans ao;refine Sw ?_;refine Ax rfl rfl (GP l _ (λc=>decide (c.id=CC.id)) 29 [.pointer (some ⟨B,0,none⟩)] w8 (h.past.ext ap) λw' hx i cm q n bp bn bc a k _ _ _=>Rk cm q bp _ n bn bc B CC.id w' (hB.ext hx)) ?_;rintro v w9 ⟨rfl,bh⟩;rw[Rf,an,show Qk (some ki)=(ki:Int) from rfl];replace hB:=hB.ext bh;have aq:=ao.trans bh;have ai:=ap.trans bh;obtain⟨a,q1,qn1,bp1,bc1,eqb,-,a4,bi,ar,a1⟩:=Dk.at h am;subst eqb;have bj:=Ak.ext a4 ai;have d5:∀j u,([.slice bp1 CC.book.length bc1]:List Value)[j]?=some u→w9.cell? (((a.add (((ki:Nat):Int).toNat*4)).add 2).add j)=some u:=λj u hj=>by
  match j,hj with
  | 0,hj=>exact Aw ai (a1 2 u hj)
 have d6:=b6.ext aq;refine Sw ?_;refine CW.drawG (Ae w9) 7 (λw' h=>h) Ae1 λwa bx=>?_;refine BD ?_;refine DR 6 λhS=>?_;refine Ax rfl rfl (XK CC.book _ CC.id _ (Ak.ext bj hS) bi) ?_;rintro nv aj ⟨rv2,f2,aa,a2⟩;have ci:=hS.size;have bk:=hS.trans a2;clear hS;apply LW.nil;refine QW.headed bk ?_;refine GW.tail rfl Ae1 (λhS=>?_);clear hS;generalize d7:wa=wb at bx a2 aa ci;obtain⟨op,oc,rfl⟩:=aa.slice;have au:Ae w9 wb:=bx;have ab:=aq.trans au;have ac:=ai.trans au;have a0:=ab.trans a2;have av:=ac.trans a2;have cj:=a2.size;have ck:=ab.size;have a5:=b6.ext a0;have bz:∀j u,([.slice bp1 CC.book.length bc1]:List Value)[j]?=some u→aj.cell? (((a.add (((ki:Nat):Int).toNat*4)).add 2).add j)=some u:=λj u hj=>by
  match j,hj with
  | 0,hj=>exact Aw av (a1 2 u hj)
 have b7:(CA l id).length - (n+1)=i:=Aez
 refine Sa ?_;refine Av (λh2=>?_) λh2=>?_;rotate_left
 ·have h2:n=0:=by have:¬(0:Int)<(n:Int):=of_decide_eq_false h2;omega
  subst h2;refine Sa ?_;refine CW.drawG (Ae aj) 7 (λw' h=>h) Ae1 λwc c0=>?_;refine BD ?_;refine GW.tail rfl Ae1 (λhS=>?_);replace a5:=a5.ext hS;refine Sa ?_;refine AR λb8 aw a5=>?_;have ax:Chg [A] w6 b8:=(a0.trans hS).chg.same aw;have bl:=(aa.ext hS).old aw Ae0;refine Sw ?_;refine QW.again (0+1,_,_) ⟨by show 0+1≤_;omega,b5.same ax,a5,⟨rv2,f2,?_⟩,λk c _ hk hc=>?_⟩ DL (by show _ - (0+1)<_ - 0;omega)
  ·show Ck _ _ _ (Gg (F7 l id ((CA l id).length - (0+1)))) _ _;rw[b7,Wt al Aez,IZ am];exact bl.low Aez
  ·have hk:(Cq l id)[(CA l id).length - (0+1)]?=some k:=hk;rw[b7,al] at hk;obtain rfl:=Aa5 hk;rw[am] at hc;obtain rfl:=Aa5 hc;exact⟨bp1,bc1,rfl,a4⟩
 have h2:0<n:=by have:(0:Int)<(n:Int):=of_decide_eq_true h2;omega
 obtain⟨kp,b9⟩:∃k,(Cq l id)[i+1]?=some k:=⟨_,Aak Aez⟩;obtain⟨PP,ba,cl,cn⟩:=Vt hm b9;have c1:(CA l id).length - n=i+1:=Aez
 obtain⟨bp2,bc2,rfl,ay⟩:=bw kp PP h2 (by rw[c1];exact b9) ba;have az:=(h.may PP (Aa9 ba)).1;rw[c1] at ak;have d8:∀j u,([.slice bp2 PP.book.length bc2]:List Value)[j]?=some u→aj.cell? ((⟨A,0,none⟩:Addr).add j)=some u:=Hf (i:=0) a5 rfl;refine Sa ?_;refine CW.drawG (Ae aj) 7 (λw' h=>h) Ae1 λwc c0=>?_;refine BD ?_;refine GW.tail rfl Ae1 (λhS=>?_);have co:=a0.trans hS;clear hS;refine Sa ?_;refine Dq λD b8 d9 b0 hD=>?_;replace hD:Blk b8 D [.slice bp2 PP.book.length bc2,.slice bp1 CC.book.length bc1,.slice none 0 0] 58:=hD;have a6:Ae aj wc:=c0;have c2:=a6.size;have cp:=b0.size;have a7:=a6.trans b0;have b1:=a0.trans a7;have b2:=a3.trans b1;have cq:=a3.trans (a0.trans a6);have da:=hD.lt;have db:=a3.size;refine Sw ?_;refine LW.call (fs:=[.pointer (some ⟨D,0,none⟩)]) (cs:=[]) rfl rfl rfl (TU PP.book CC.book bp2 bp1 bc2 bc1 D w b8 b2 Aez ay a4 az ar hD) ?_;rintro v c3 ⟨rfl,sp,sc,cr,bm,bo⟩;have a8:Ae aj c3:=a7.step bo Ae0;refine Sw ?_;refine LW.call (fs:=[.pointer (some ⟨D,0,none⟩)]) (cs:=[]) rfl rfl rfl (We PP.book CC.book bp2 bp1 sp bc2 bc1 sc D (Gg (F7 l id (i+1))) (JA CC.book CC.id) ov _ rv2 f2 wb aj c3 (g.ext ac) a2 a8 (Ak.ext ay ac) (Ak.ext a4 ac) az ar bm Aez (ak.ext ab).list (Np b9 ba) aa (FL _ _) (cr.low Aez)) ?_;rintro v bq ⟨rfl,br,S,hS,bs⟩;have ae:Ae wb bq:=(a2.trans a8).step bs λb hb=>(hS b hb).1;have a9:=ab.trans ae;have ad:=b6.ext a9;have ct:=ae.size;have c4:∀j u,([.slice bp1 CC.book.length bc1]:List Value)[j]?=some u→bq.cell? (((a.add (((ki:Nat):Int).toNat*4)).add 2).add j)=some u:=λj u hj=>by
  match j,hj with
  | 0,hj=>exact Aw (a3.trans a9) (a1 2 u hj)
 refine Sw ?_;refine CW.drawG (Ae bq) 7 (λw' h=>h) Ae1 λwd dc=>?_;refine BD ?_;refine GW.tail rfl Ae1 (λhS=>?_);replace ad:=ad.ext hS;refine Sa ?_;refine AR λcu b3 ad=>?_;have b4:Chg [A] w6 cu:=(a9.trans hS).chg.same b3;have bt:=(br.ext hS).old b3 Ae0;refine Sw ?_;refine QW.again (n+1,_,_) ⟨by show n+1≤_;omega,b5.same b4,ad,⟨rv2,f2,?_⟩,λk c _ hk hc=>?_⟩ DL (by show _ - (n+1)<_ - n;omega)
 ·show Ck _ _ _ (Gg (F7 l id ((CA l id).length - (n+1)))) _ _;rw[b7,TS al b9 am ba];exact bt.low Aez
 ·have hk:(Cq l id)[(CA l id).length - (n+1)]?=some k:=hk;rw[b7,al] at hk;obtain rfl:=Aa5 hk;rw[am] at hc;obtain rfl:=Aa5 hc;exact⟨bp1,bc1,rfl,a4⟩
def exB:Ag:=[⟨[65],1,[[[49]]]⟩]
def exP:A7:=[⟨[97],[],exB,[]⟩]
theorem ZA:A5 exB=true:=by decide +kernel
theorem ZB:EJ exP=true:=by decide +kernel
theorem Wp:Gc exP [97]=[[[[97]]]]:=rfl
theorem CK{w:World}{A m:Nat}{cs:List Value}{T:TypeId}(h:Blk w A cs T):∀j u,cs[j]?=some u→w.cell? (((⟨A,0,none⟩:Addr).add (0*m)).add j)=some u:=λj u hj=>by
 rw[Ad3,An,An];refine h.cell ?_
 simpa using hj
set_option maxRecDepth 8000 in
set_option maxHeartbeats 4000000 in
theorem Gz(w:World)(g:Dg w):AF prog 9 [] w (λv w'=>v=.bool true∧Ae w w'):=by
 refine AQ func9 ntmps9 ?_;refine Sa ?_;refine Cx λR w1 ae a5 hR=>?_;replace hR:Blk w1 R [Am [49]] 9:=hR;refine Sa ?_;refine Cx λU w2 af a4 hU=>?_;replace hU:Blk w2 U [.slice (some ⟨R,0,none⟩) 1 1] 26:=hU;refine Sa ?_;refine Cx λB w3 ag a6 hB=>?_;replace hB:Blk w3 B [Am [65],.int .i64 1,.slice (some ⟨U,0,none⟩) 1 1] 41:=hB;refine Sa ?_;refine BX λA w4 ah a7 hA=>?_;refine Sa ?_;refine AR λw5 a8 hA=>?_;replace hA:Blk w5 A [.slice (some ⟨B,0,none⟩) 1 1] 29:=hA;have a3:Ae w3 w5:=a7.step a8 Ae0;refine Sa ?_;refine Cx λC w6 ai a9 hC=>?_;replace hC:Blk w6 C [Am [97],.slice none 0 0,.slice (some ⟨B,0,none⟩) 1 1,Am []] 31:=hC;have a1:=a3.trans a9;have a0:=a6.trans a1;have a2:=a5.trans (a4.trans a0);have aa:=(hR.ext a4).ext a0;have ab:=hU.ext a0;have ac:=hB.ext a1;have hP:Dk w6 (.slice (some ⟨C,0,none⟩) 1 1) exP:=⟨by decide,.inr ⟨_,1,rfl,λi x hi=>by
  match i,hi with
  | 0,hi=>
   obtain rfl:=Aa5 hi;refine⟨_,rfl,⟨.slice none 0 0,.slice (some ⟨B,0,none⟩) 1 1,rfl,⟨by decide,.inl ⟨rfl,rfl⟩⟩,by decide,⟨by decide,.inr ⟨_,1,rfl,λ_=>trivial,λi x hi=>?_⟩⟩,ZA⟩,CK hC⟩
   match i,hi with
   | 0,hi=>
    obtain rfl:=Aa5 hi;refine⟨_,rfl,⟨.slice (some ⟨U,0,none⟩) 1 1,rfl,by decide,⟨by decide,.inr ⟨_,1,rfl,λ_=>trivial,λi x hi=>?_⟩⟩⟩,CK ac⟩
    match i,hi with
    | 0,hi=>
     obtain rfl:=Aa5 hi;refine⟨_,rfl,⟨.slice (some ⟨R,0,none⟩) 1 1,rfl,⟨by decide,.inr ⟨_,1,rfl,λ_=>trivial,λi x hi=>?_⟩⟩⟩,CK ab⟩
     match i,hi with
     | 0,hi=>
      obtain rfl:=Aa5 hi;exact⟨_,rfl,⟨rfl,by decide⟩,CK aa⟩⟩⟩
 refine Sa ?_;refine Ax rfl rfl (JC exP _ [97] w6 (g.ext a2) hP (λp n c e=>by obtain⟨-,rfl,rfl⟩:=Acd e;exact Ab9 _) ZB Ae2) ?_;rintro v w7 ⟨rv,f,hT,ad⟩;rw[Wp] at hT;obtain⟨T,ct,M,cm,cx,hv,h1,h2,-,sp,h3⟩:=hT.at (i:=0) (row:=0) rfl rfl Ae2;have hv:v=.slice (some ⟨T,0,none⟩) 1 ct:=hv;subst hv;have aj:w7.cell? ((⟨T,0,none⟩:Addr).add ((0:Int).toNat*1))=some (.slice (some ⟨M,0,none⟩) 1 cm):=h1;have ak:w7.cell? ((⟨M,0,none⟩:Addr).add ((0:Int).toNat*1))=some (.slice (some ⟨f 0 0,0,none⟩) 1 cx):=h2;have al:w7.cell? ((⟨f 0 0,0,none⟩:Addr).add ((0:Int).toNat*1))=some (Am [97]):=by
  rw[An];exact h3.cell rfl
 clear h1 h2;refine Sw ?_;exact QW.body1 rfl rfl ⟨rfl,a2.trans ad⟩
theorem Vw{α:Type}{l m:List α}{k:Nat}(h:∀j,j<k→l[j]?=m[j]?)(hk:l[k]?=m[k]?):∀j,j<k+1→l[j]?=m[j]?:=λj hj=>by
 by_cases e:j=k
 ·rw[e];exact hk
 ·exact h j Aez
theorem Vu{α:Type}{l m:List α}(hl:l.length=m.length)(h:∀j,j<l.length→l[j]?=m[j]?):l=m:=by
 apply Ack;intro j;by_cases hj:j<l.length
 ·exact h j hj
 ·rw[AbK Aez,AbK Aez]
theorem Vv{α:Type}{l m:List α}(h:l.length≠m.length):¬l=m:=λe=>h (by rw[e])
theorem Qx{α:Type}{l m:List α}{k:Nat}{x y:α}(hx:l[k]?=some x)(hy:m[k]?=some y)(h:¬x=y):¬l=m:=λe=>by
 rw[e,hy] at hx;exact h (Aa5 hx).symm
set_option maxRecDepth 8000 in
set_option maxHeartbeats 4000000 in
theorem PL(t t':AB)(v u:Value)(w:World)(h:GZ w v t)(h':GZ w u t'):AF prog 12 [v,u] w (λr w'=>r=.bool (decide (t=t'))∧Ae w w'):=by
 obtain⟨p,c,rfl⟩:=h.slice;obtain⟨q,d,rfl⟩:=h'.slice;have hl:=h.1;have ai:=h'.1;refine AQ func12 ntmps12 ?_;refine Sw ?_;refine Av (λh1=>?_) λh1=>?_
 ·have h1:t.length≠t'.length:=by simp at h1;omega
  refine Sw ?_;exact QW.body1 rfl rfl ⟨by rw[decide_eq_false (Vv h1)],Chg.refl _ _⟩
 have h1:t.length=t'.length:=by simp at h1;omega
 refine Sw ?_;refine CW.loop (ι:=Nat) (λi w'=>i≤t.length∧Ae w w'∧∀j,j<i→t[j]?=t'[j]?) (λi=>[(0,.slice p t.length c),(1,.slice q t'.length d),(5,.int .i64 i)]) (λi=>t.length - i) 0 ⟨Ac8 _,Chg.refl _ _,λ_ h=>by omega⟩ Bh ?_;rintro i w1 ⟨hi,a6,a8⟩;replace h:=h.ext a6;replace h':=h'.ext a6;refine Sw ?_;refine Av (λh2=>?_) λh2=>?_;rotate_left
 ·have h2:i=t.length:=by simp at h2;omega
  subst h2;refine Sw ?_;exact QW.body1 rfl rfl ⟨by rw[decide_eq_true (Vu h1 a8)],a6⟩
 have h2:i<t.length:=by simp at h2;omega
 obtain⟨rows,a1⟩:∃x,t[i]?=some x:=⟨_,Aak h2⟩;obtain⟨rows',a0⟩:∃x,t'[i]?=some x:=⟨_,Aak Aez⟩;obtain⟨a,rp,rc,rfl,hR,hc⟩:=GZ.at h a1;obtain⟨b,sp,sc,rfl,a9,ac⟩:=GZ.at h' a0;have aj:=hR.1;have ad:=a9.1;refine Sw ?_;refine CW.drawG (Ae w1) 10 (λw' h=>h) Ae1 λwa ak=>?_;refine BD ?_;refine GW.tail rfl Ae1 (λhS=>?_);have aa:=a6.trans hS;generalize wa=w2 at hS aa;refine Sa ?_;refine Av (λh3=>?_) λh3=>?_
 ·have h3:rows.length≠rows'.length:=by simp at h3;omega
  refine Sw ?_;exact QW.body1 rfl rfl ⟨by rw[decide_eq_false (Qx a1 a0 (Vv h3))],aa⟩
 have h3:rows.length=rows'.length:=by simp at h3;omega
 refine Sw ?_;refine CW.loop (ι:=Nat) (λk w'=>k≤rows.length∧Ae w1 w'∧∀j,j<k→rows[j]?=rows'[j]?) (λk=>[(0,.slice (some a) t.length c),(1,.slice (some b) t'.length d),(5,.int .i64 i),(6,.int .i64 k)]) (λk=>rows.length - k) 0 ⟨Ac8 _,hS,λ_ h=>by omega⟩ B9 ?_;rintro k w3 ⟨hk,a5,ab⟩;have al:=Aw a5 hc;have ae:=Aw a5 ac;have a7:=a6.trans a5;refine Sw ?_;refine Av (λh4=>?_) λh4=>?_;rotate_left
 ·have h4:k=rows.length:=by simp at h4;omega
  subst h4;refine Sw ?_;exact QW.again (i+1) ⟨by omega,a7,Vw a8 (by rw[a1,a0,Vu h3 ab])⟩ Bh Aez
 have h4:k<rows.length:=by simp at h4;omega
 obtain⟨row,a4⟩:∃x,rows[k]?=some x:=⟨_,Aak h4⟩;obtain⟨row',a3⟩:∃x,rows'[k]?=some x:=⟨_,Aak Aez⟩;obtain⟨a2,tp,tc,rfl,-,hT,hd⟩:=AO.at (AO.ext hR a5) a4;obtain⟨b2,up,uc,rfl,-,af,am⟩:=AO.at (AO.ext a9 a5) a3;have an:k<rows'.length:=Aez
 refine Sw ?_;refine CW.drawG (Ae w3) 15 (λw' h=>h) Ae1 λwb ao=>?_;clear hS;refine BD ?_;refine DR 14 λhS=>?_;refine Ax rfl rfl (VY row row' _ _ _ (A4.ext hT hS) (A4.ext af hS)) ?_;rintro v w4 ⟨rfl,ag⟩;have ah:=hS.trans ag;clear hS;apply LW.nil;refine QW.headed ah ?_;refine GW.tail rfl Ae1 (λhS=>?_);refine Sa ?_;refine Av (λh5=>?_) λh5=>?_
 ·have h5:¬row=row':=by simpa using h5
  refine Sw ?_;exact QW.body1 rfl rfl ⟨by rw[decide_eq_false (Qx a1 a0 (Qx a4 a3 h5))],a7.trans hS⟩
 ·have h5:row=row':=by simpa using h5
  refine Sw ?_;exact QW.again (k+1) ⟨by omega,a5.trans hS,Vw ab (by rw[a4,a3,h5])⟩ B9 Aez
end Go.Proofs.YtefaigjfkddelaaGreatDoor
