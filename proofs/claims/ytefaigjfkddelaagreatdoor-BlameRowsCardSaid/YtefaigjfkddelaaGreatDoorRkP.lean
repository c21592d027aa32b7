/-
  Joined by program out of the texts Pas2 Pas3 Pas4 She2 Rev Blb3 Hea BlaW Tol2 TextP BlrP.
-/
import Derived.Test.YtefaigjfkddelaaGreatDoorRkO
import Derived.Test.YtefaigjfkddelaaGreatDoorRkE
import Derived.Test.YtefaigjfkddelaaGreatDoorShelf
import Derived.Shelf.Slices.ReverseS
import Derived.Shelf.Slices.Cells
import Derived.Test.YtefaigjfkddelaaGreatDoorProg
import Derived.Test.YtefaigjfkddelaaGreatDoorRkA
import Derived.Test.YtefaigjfkddelaaGreatDoorRkH
import Derived.Test.YtefaigjfkddelaaGreatDoorRkQ
import Derived.Test.YtefaigjfkddelaaGreatDoorRkK
import Derived.Test.YtefaigjfkddelaaGreatDoorRkJ
import Derived.Test.YtefaigjfkddelaaGreatDoorRkL
import Derived.Test.YtefaigjfkddelaaGreatDoorRkG
namespace Go.Proofs.YtefaigjfkddelaaGreatDoor
open Go Go.E
theorem O8 {P:AV→Bool}:∀{l:AC} {k:Nat} {c:AV},l[k]?=some c→P c=true→(∀j d,j<k→l[j]?=some d→P d=false)→l.findIdx? P=some k
 | [],_,_,h,_,_=>by simp at h
 | c::l,0,d,h,hp,_=>by
  simp at h;subst h
  simp [List.findIdx?_cons,hp]
 | c::l,k+1,d,h,hp,hn=>by
  rw [List.findIdx?_cons,hn 0 c (by omega) rfl,O8 (k:=k) (by simpa using h) hp λj u hj hu=>hn (j+1) u (by omega) (by simpa using hu)];rfl
theorem Ka {P:AV→Bool} {l:AC} (h:∀j d,j<l.length→l[j]?=some d→P d=false):l.findIdx? P=none:=by
 rw [List.findIdx?_eq_none_iff];intro c hc;obtain ⟨j,hj⟩:=List.getElem?_of_mem hc;exact h j c (List.getElem?_eq_some_iff.1 hj).1 hj
theorem Pk (l:AC) (id:List UInt8):l.findIdx? (λc=>decide (c.id=id))=Ep l id:=by
 cases e:Ep l id with
 | none=>
  exact Ka λj d _ hd=>by have:=Jh e d (List.mem_of_getElem? hd);simp [this]
 | some k=>
  obtain ⟨c,h1,h2,h3⟩:=Gi e;exact O8 h1 (by simp [h2]) λj d hj hd=>by have:=h3 j d hj hd;simp [this]
theorem Gd (l:AC) (lv:Value) (P:AV→Bool) (g:FuncId) (cs:List Value) (w:World) (h:Dw w lv l)
  (hg:∀w',Ae w w'→∀i c q n bp bn bc a k,l[i]?=some c→lv=.slice (some a) l.length k→(∀j u,(BR c (.slice q c.parents.length n) (.slice bp bn bc))[j]?=some u→w'.cell? ((a.add (((i:Nat):Int).toNat*4)).add j)=some u)→AA Tryz.prog g (.agg ⟨BR c (.slice q c.parents.length n) (.slice bp bn bc)⟩::cs) w' (λv w''=>v=.bool (P c)∧Ae w' w'')) :
  AA Tryz.prog 28 [lv,.func (.func g) ⟨[]⟩ ⟨cs⟩] w (λv w'=>v=.int .i64 (Eo (l.findIdx? P))∧Ae w w'):=by
 obtain ⟨p,c,rfl⟩:=h.slice;have hl:=h.1;refine AL Tryz.func28 Tryz.ntmps28 ?_;refine Sa ?_;refine CW.loop (ι:=Nat) (λk w'=>k≤l.length∧Ae w w'∧∀i u,i<k→l[i]?=some u→P u=false) (λk=>[(0,.slice p l.length c),(1,.func (.func g) ⟨[]⟩ ⟨cs⟩),(7,.int .i64 l.length),(8,.int .i64 k)]) (λk=>l.length - k) 0 ⟨by omega,Chg.refl _ _,λi u h=>by omega⟩ BN ?_;rintro k w1 ⟨hk,hx,a1⟩;replace h:=h.ext hx;refine Sa ?_;refine Am (λh2=>?_) λh2=>?_
 ·have h2:k<l.length:=by simp at h2;omega
  obtain ⟨cm,hs⟩:∃s,l[k]?=some s:=⟨_,List.getElem?_eq_getElem h2⟩;obtain ⟨a,q,n,bp,bn,bc,rfl,-,a0⟩:=Dw.at' h hs;refine Sa ?_;refine Lo ?_;refine LW.load_cells rfl a0 rfl rfl rfl rfl ?_;refine Sa ?_;refine LW.call (fs:=[]) (cs:=cs) rfl rfl rfl (hg w1 hx k cm q n bp bn bc a c hs rfl a0) ?_;rintro v w2 ⟨rfl,a2⟩;refine Sa ?_;refine Am (λh3=>?_) λh3=>?_
  ·refine Sa ?_;exact QW.body1 Tryz.results28 rfl ⟨by rw [O8 hs h3 a1];rfl,hx.trans a2⟩
  ·refine Sa ?_;refine QW.again (k+1) ⟨by omega,hx.trans a2,λi u hi hu=>?_⟩ BN (by omega);rcases Nat.lt_or_ge i k with h4 | h4
   ·exact a1 i u h4 hu
   ·obtain rfl:i=k:=by omega
    rw [hs] at hu;obtain rfl:=Option.some.inj hu;exact h3
 ·have h2:k=l.length:=by simp at h2;omega
  subst h2;refine Sa ?_;refine QW.body1 Tryz.results28 rfl ⟨?_,hx⟩;rw [Ka a1];rfl
theorem R4 (cm:AV) (q bp:Option Addr) (m n bn bc A:Nat) (x:List UInt8) (w:World) (hA:Blk w A [Aj x] 9):AA Tryz.prog 59 [.agg ⟨BR cm (.slice q m n) (.slice bp bn bc)⟩,.pointer (some ⟨A,0,none⟩)] w (λv w'=>v=.bool (decide (cm.id=x))∧Ae w w'):=by
 refine AL Tryz.func59 Tryz.ntmps59 ?_;refine Sa ?_;refine CZ λX w1 a1 a0 hX=>?_;replace hX:Blk w1 X (BR cm (.slice q m n) (.slice bp bn bc)) 31:=hX;replace hA:=hA.ext a0;refine Sa ?_;exact QW.body1 Tryz.results59 rfl ⟨by simp,a0⟩
theorem Ik (l:AC) (lv:Value) (x:List UInt8) (w:World) (h:Dw w lv l):AA Tryz.prog 42 [lv,Aj x] w (λv w'=>v=.int .i64 (Eo (Ep l x))∧Ae w w'):=by
 obtain ⟨p,c,rfl⟩:=h.slice;refine AL Tryz.func42 Tryz.ntmps42 ?_;refine Sa ?_;refine CZ λA w1 a2 a0 hA=>?_;replace hA:Blk w1 A [Aj x] 9:=hA;refine Sa ?_;refine Ap rfl rfl (Gd l _ (λc=>decide (c.id=x)) 59 [.pointer (some ⟨A,0,none⟩)] w1 (h.ext a0) λw' hx i cm q n bp bn bc a k _ _ _=>R4 cm q bp _ n bn bc A x w' (hA.ext hx)) ?_;rintro v w2 ⟨rfl,a1⟩;refine Sa ?_;exact QW.body1 Tryz.results42 rfl ⟨by rw [Pk],a0.trans a1⟩
set_option maxRecDepth 8000 in
set_option maxHeartbeats 2000000 in
theorem TG (l:AC) (v:Value) (id:List UInt8) (w:World) (h:Dw w v l) (hm:GK l=true) (hl:l.length≤1000):AA Tryz.prog 26 [v,Aj id] w (λr w'=>E.Ax w' w.heap.size 9 1 r (Bt l id).length ((Bt l id).map Aj)∧Ae w w'):=by
 obtain ⟨p,c,rfl⟩:=h.slice;have ah:=Ib hm id;have h0:=h;refine AL Tryz.func26 Tryz.ntmps26 ?_;refine Sa ?_;refine Ap rfl rfl (Ik l _ id w h) ?_;rintro v w1 ⟨rfl,aa⟩;refine Sa ?_;refine CW.loop (ι:=List Nat×List UInt8×Value) (λx w'=>x.1++Ee l l.length (Ep l x.2.1)=Cp l id∧Ae w w'∧E.Ax w' w.heap.size 9 1 x.2.2 x.1.length ((x.1.map (Rn l)).map Aj)) (λx=>[(0,.slice p l.length c),(1,Aj x.2.1),(5,x.2.2),(6,.int .i64 (Eo (Ep l x.2.1)))]) (λx=>NJ (Ep l x.2.1)) ([],id,.slice none 0 0) ⟨rfl,aa,E.Ax.nil _ _ _ _⟩ BN ?_;rintro ⟨dn,cur,ov⟩ w2 ⟨a0,a4,a5⟩;dsimp only at a0 a5;show CW _ _ _ _ _ [(0,.slice p l.length c),(1,Aj cur),(5,ov),(6,.int .i64 (Eo (Ep l cur)))] _;replace h:=h.ext a4;have ai:=a4.size
 cases ho:Ep l cur with
 | none=>
  rw [ho,IB,List.append_nil] at a0;refine Sw ?_;refine QW.body1 Tryz.results26 rfl ⟨?_,a4⟩;rw [Bt,←a0,List.length_map]
  exact a5
 | some k=>
  have hk:=Ga ho;obtain ⟨cm,hc,a7,-⟩:=Gi ho;rw [ho,IC hm hc] at a0;have aj:dn.length<l.length:=by
   have e:=congrArg List.length a0;simp only [List.length_append,List.length_cons] at e;omega
  show CW _ _ _ _ _ [(0,.slice p l.length c),(1,Aj cur),(5,ov),(6,.int .i64 (k:Int))] _;refine Sw ?_;refine Cl λC w3 ak a8 hC=>?_;have al:=a8.size;refine Sa ?_;refine LW.append (lo:=w.heap.size) (k:=dn.length) rfl rfl rfl rfl rfl rfl (a5.ext a8) (by omega) hC rfl rfl rfl (by show (_+1)*17≤_;omega) rfl ?_;intro v4 w4 ab ac _;have a3:E.Ax w4 w.heap.size 9 1 v4 (dn++[k]).length (((dn++[k]).map (Rn l)).map Aj):=by
   rw [List.length_append,List.map_append,List.map_append];simp only [List.map_cons,List.map_nil,KZ hc,a7];exact ac
  have a1:=(a4.trans a8).step ab (λb hb=>(a5.lt hb).1);obtain ⟨a,q',n',bv',rfl,ad,a2⟩:=Dw.at (h0.ext a1) hc;have ae:=a2 1 _ rfl;refine Sw ?_;refine Am (λh2=>?_) λh2=>?_
  ·have h2:cm.parents=[]:=by
    cases e:cm.parents with
    | nil=>rfl
    | cons p r=>rw [e] at h2;simp at h2;omega
   rw [h2] at a0;refine Sw ?_;refine QW.body1 Tryz.results26 rfl ⟨?_,a1⟩;rw [Bt,←a0,List.length_map];exact a3
  obtain ⟨pp,pr,a6⟩:∃s r,cm.parents=s::r:=by
   cases e:cm.parents with
   | nil=>rw [e] at h2;simp at h2
   | cons p r=>exact ⟨p,r,rfl⟩
  obtain ⟨j,hj,am⟩:=EC hm hc (p:=pp) (by rw [a6];exact List.mem_cons_self ..);have an:0<cm.parents.length:=by rw [a6];simp
  obtain ⟨qa,rfl,-,af⟩:=ad.at (i:=0) (s:=pp) (by rw [a6];rfl);rw [a6] at a0;simp only at a0;have ag:w4.cell? (qa.add 0)=some (Aj pp):=af;refine Sw ?_;refine Ap rfl rfl (Ik l _ pp w4 (h0.ext a1)) ?_;rintro v w5 ⟨rfl,a9⟩;refine Sa ?_;refine QW.again (dn++[k],pp,v4) ⟨by show (dn++[k])++Ee l l.length (Ep l pp)=_;rw [List.append_assoc];exact a0,a1.trans a9,a3.ext a9⟩ BN ?_;show NJ (Ep l pp)<NJ (some k);rw [hj];show j+1<k+1;omega
theorem NM {l:AC} {i:Nat} {c:AV} (hi:l[i]?=some c) (h:Jz l i c=false):GK l=false:=by
 rw [GK,List.all_eq_false];refine ⟨i,List.mem_range.2 (List.getElem?_eq_some_iff.1 hi).1,?_⟩;rw [hi];simp [h]
theorem Wa {l:AC} (h:∀i c,i<l.length→l[i]?=some c→Jz l i c=true):GK l=true:=by
 rw [GK,List.all_eq_true];intro i hi
 cases e:l[i]? with
 | none=>rfl
 | some c=>exact h i c (List.mem_range.1 hi) e
def KP (l:AC) (k:Nat) (c:AV):Bool:=(Ep (l.take k) c.id).isSome||decide (2<c.parents.length)||(decide (c.parents.length=2)&&decide (c.parents[0]?=c.parents[1]?))
theorem Mz (l:AC) (k:Nat) (c:AV):Jz l k c=(!KP l k c&&c.parents.all λp=>(Ep (l.take k) p).isSome):=by
 unfold Jz KP
 congr 1
 cases (Ep (l.take k) c.id)<;>by_cases h:c.parents.length≤2<;>simp [h]<;>omega
theorem Eu.two {w:World} {p:Option Addr} {c:Nat} {l:List (List UInt8)} (h:Eu w (.slice p l.length c) l) (h2:l.length=2):∃a s t,p=some a∧l[0]?=some s∧l[1]?=some t∧w.cell? (a.add 0)=some (Aj s)∧w.cell? (a.add 1)=some (Aj t):=by
 obtain ⟨s,hs⟩:∃s,l[0]?=some s:=⟨_,List.getElem?_eq_getElem (by omega)⟩;obtain ⟨t,ht⟩:∃s,l[1]?=some s:=⟨_,List.getElem?_eq_getElem (by omega)⟩;obtain ⟨a,rfl,-,h0⟩:=h.at hs;obtain ⟨b,e,-,h1⟩:=h.at ht;obtain rfl:=Option.some.inj e;exact ⟨a,s,t,rfl,hs,ht,h0,h1⟩
theorem TF {l:AC} {k:Nat} {c:AV} (hc:l[k]?=some c):(Ep (l.take k) c.id).isSome=!decide (Eo (Ep l c.id)=(k:Int)):=by
 cases e:Ep (l.take k) c.id with
 | some j=>
  obtain ⟨h1,h2⟩:=Pm e;rw [h1];have:¬((j:Nat):Int)=(k:Int):=by omega
  simp [Eo,this]
 | none=>
  have:Ep l c.id=some k:=LK hc rfl λj d hj hd=>Jh e d (List.mem_of_getElem? (i:=j) (by rw [List.getElem?_take_of_lt hj];exact hd));rw [this];simp [Eo]
set_option maxRecDepth 8000 in
set_option maxHeartbeats 40000000 in
theorem Vm (l:AC) (v:Value) (w:World) (h:Dw w v l) (hcap:∀p n c,v=.slice p n c→n≤c):AA Tryz.prog 22 [v] w (λr w'=>r=.bool (GK l)∧Ae w w'):=by
 obtain ⟨p,c,rfl⟩:=h.slice;have hl:=h.1;have ae:=hcap _ _ _ rfl;refine AL Tryz.func22 Tryz.ntmps22 ?_;refine Sa ?_;refine CW.loop (ι:=Nat) (λk w'=>k≤l.length∧Ae w w'∧∀i c,i<k→l[i]?=some c→Jz l i c=true) (λk=>[(0,.slice p l.length c),(7,.slice p l.length c),(8,.int .i64 l.length),(9,.int .i64 k)]) (λk=>l.length - k) 0 ⟨by omega,Chg.refl _ _,λ_ _ h=>by omega⟩ BN ?_;rintro k w1 ⟨hk,hx,a8⟩;replace h:=h.ext hx;refine Sa ?_;refine Am (λh2=>?_) λh2=>?_;rotate_left
 ·have h2:k=l.length:=by simp at h2;omega
  subst h2;refine Sa ?_;exact QW.body1 Tryz.results22 rfl ⟨by rw [Wa a8],hx⟩
 have h2:k<l.length:=by simp at h2;omega
 obtain ⟨cm,hc⟩:∃s,l[k]?=some s:=⟨_,List.getElem?_eq_getElem h2⟩;obtain ⟨a,q,n,bp,bn,bc,rfl,hp,a2⟩:=Dw.at' h hc;have af:=hp.1;have hT:=Cw.take (i:=k) h rfl (by omega);have ag:(l.take k).length=k:=by simp;omega
 refine Sa ?_;refine Lo ?_;refine LW.load_cells rfl a2 rfl rfl rfl rfl ?_;refine Sa ?_;refine BP λX w2 ah ab hX=>?_;have ai:=hX.lt;refine Sa ?_;refine AM λw3 ac hX=>?_;replace hX:Blk w3 X (BR cm (.slice q cm.parents.length n) (.slice bp bn bc)) 31:=hX;have a0:Ae w1 w3:=ab.step ac (by simp;omega);replace h:=h.ext a0;replace hp:=hp.ext a0;replace hT:=Dw.ext hT a0;refine Sw ?_;refine CW.cut (ι:=Unit) (λ_ w'=>Ae w3 w') (λ_=>[(0,.slice (some a) l.length c),(7,.slice (some a) l.length c),(8,.int .i64 l.length),(9,.int .i64 k),(3,.int .i64 k),(4,.pointer (some ⟨X,0,none⟩)),(42,.bool (KP l k cm))]) ?_ ?_
 ·refine CW.drawG (Ae w3) 28 (λw' h=>h) (by kernel_rfl) λwa aj=>?_;refine Bp ?_;refine CX 3 λhS=>?_;refine Ap rfl rfl (Ik l _ cm.id _ (h.ext hS)) ?_;rintro v w4 ⟨rfl,a3⟩;have ad:=hS.trans a3;clear hS;apply LW.nil;refine QW.headed ad ?_;have a6:=TF hc
  cases ho:Ep (l.take k) cm.id with
  | some j=>
   have hb:KP l k cm=true:=by simp [KP,ho]
   refine Bp ?_;refine GW.know (t:=20) (c:=true) rfl (by rw [ho] at a6;simpa using a6) ?_;refine Bp ?_;refine GW.know (t:=26) (c:=true) rfl (by simp) ?_;refine Bp ?_;refine GW.tail rfl (by kernel_rfl) (λhS=>?_);refine Sa ?_
   exact QW.head () hS (by rw [hb];exact ((Ad.cons rfl (Ad.cons rfl (Ad.cons rfl (Ad.cons rfl (Ad.cons rfl (Ad.cons rfl (Ad.cons rfl (Ad.nil))))))))))
  | none=>
   refine Bp ?_;refine GW.know (t:=20) (c:=false) rfl (by rw [ho] at a6;simpa using a6) ?_;refine Bp ?_;by_cases h3:2<cm.parents.length
   ·have hb:KP l k cm=true:=by simp [KP,ho,h3]
    refine GW.know (t:=26) (c:=true) rfl (by simp;omega) ?_;refine Bp ?_;refine GW.tail rfl (by kernel_rfl) (λhS=>?_);refine Sa ?_;exact QW.head () hS (by rw [hb];exact ((Ad.cons rfl (Ad.cons rfl (Ad.cons rfl (Ad.cons rfl (Ad.cons rfl (Ad.cons rfl (Ad.cons rfl (Ad.nil))))))))))
   refine GW.know (t:=26) (c:=false) rfl (by simp;omega) ?_;refine Bp ?_;by_cases h4:cm.parents.length=2;rotate_left
   ·have hb:KP l k cm=false:=by simp [KP,ho,h3,h4]
    refine GW.know (t:=31) (c:=false) rfl (by simp;omega) ?_;refine Bp ?_;refine GW.tail rfl (by kernel_rfl) (λhS=>?_);refine Sa ?_;exact QW.head () hS (by rw [hb];exact ((Ad.cons rfl (Ad.cons rfl (Ad.cons rfl (Ad.cons rfl (Ad.cons rfl (Ad.cons rfl (Ad.cons rfl (Ad.nil))))))))))
   obtain ⟨qa,s,t,rfl,hs,ht,ak,al⟩:=Eu.two hp h4;have hb:KP l k cm=decide (s=t):=by rw [KP,ho,hs,ht,h4];simp
   refine GW.know (t:=31) (c:=true) rfl (by simp;omega) ?_;refine Bp ?_;refine GW.tail rfl (by kernel_rfl) (λhS=>?_);refine Sa ?_;exact QW.head () hS (by rw [hb];exact ((Ad.cons rfl (Ad.cons rfl (Ad.cons rfl (Ad.cons rfl (Ad.cons rfl (Ad.cons rfl (Ad.cons rfl (Ad.nil))))))))))
 rintro ⟨⟩ w4 a3;show CW _ _ _ _ _ [(0,.slice (some a) l.length c),(7,.slice (some a) l.length c),(8,.int .i64 l.length),(9,.int .i64 k),(3,.int .i64 k),(4,.pointer (some ⟨X,0,none⟩)),(42,.bool (KP l k cm))] _;have a4:=(hx.trans a0).trans a3;replace hX:=hX.ext a3;refine Sa ?_;refine Am (λh3=>?_) λh3=>?_
 ·refine Sa ?_;exact QW.body1 Tryz.results22 rfl ⟨by rw [NM hc (by rw [Mz,h3];rfl)],a4⟩
 refine Sa ?_;refine CW.loop (ι:=Nat) (λj w'=>j≤cm.parents.length∧Ae w4 w'∧∀i s,i<j→cm.parents[i]?=some s→(Ep (l.take k) s).isSome=true) (λj=>[(0,.slice (some a) l.length c),(7,.slice (some a) l.length c),(8,.int .i64 l.length),(9,.int .i64 k),(3,.int .i64 k),(44,.slice q cm.parents.length n),(45,.int .i64 cm.parents.length),(46,.int .i64 j)]) (λj=>cm.parents.length - j) 0 ⟨by omega,Chg.refl _ _,λ_ _ h=>by omega⟩ LE ?_;rintro j w5 ⟨hj,a7,a9⟩;have a1:=a3.trans a7;have a5:=a4.trans a7;replace h:=h.ext a1;replace hp:=hp.ext a1;replace hT:=Dw.ext hT a1;refine Sw ?_;refine Am (λh4=>?_) λh4=>?_;rotate_left
 ·have h4:j=cm.parents.length:=by simp at h4;omega
  subst h4;refine Sw ?_;refine QW.again (k+1) ⟨by omega,a5,λi d hi hd=>?_⟩ BN (by omega);by_cases e:i=k
  ·subst e;rw [hc] at hd;obtain rfl:=Option.some.inj hd;rw [Mz,h3,List.all_eq_true.2 λs hs=>?_]
   ·rfl
   ·obtain ⟨i,hi⟩:=List.getElem?_of_mem hs;exact a9 i s (List.getElem?_eq_some_iff.1 hi).1 hi
  ·exact a8 i d (by omega) hd
 have h4:j<cm.parents.length:=by simp at h4;omega
 obtain ⟨s,hs⟩:∃s,cm.parents[j]?=some s:=⟨_,List.getElem?_eq_getElem h4⟩;obtain ⟨qa,rfl,-,am⟩:=hp.at hs;refine Sw ?_;refine LW.slice_hi (j:=k) rfl rfl rfl rfl rfl (by omega) rfl ?_;refine Sw ?_;refine Ap rfl rfl (Ik (l.take k) _ s _ hT) ?_;rintro v w6 ⟨rfl,aa⟩;refine Sa ?_;refine Am (λh5=>?_) λh5=>?_
 ·have h5:(Ep (l.take k) s).isSome=false:=by
   cases ho:Ep (l.take k) s with
   | none=>rfl
   | some i=>
    rw [ho] at h5;have h6:((i:Nat):Int)<0:=of_decide_eq_true h5;omega
  refine Sa ?_;refine QW.body1 Tryz.results22 rfl ⟨?_,a5.trans aa⟩;rw [NM hc];rw [Mz,Bool.and_eq_false_iff];exact .inr (List.all_eq_false.2 ⟨s,List.mem_of_getElem? hs,by rw [h5];simp⟩)
 ·have h5:(Ep (l.take k) s).isSome=true:=by
   cases ho:Ep (l.take k) s with
   | none=>
    rw [ho] at h5
    exact absurd (show (-1:Int)<0 by omega) (of_decide_eq_false h5)
   | some j=>rfl
  refine Sa ?_;refine QW.again (j+1) ⟨by omega,a7.trans aa,λi t hi ht=>?_⟩ LE (by omega);by_cases e:i=j
  ·subst e;rw [hs] at ht;obtain rfl:=Option.some.inj ht;exact h5
  ·exact a9 i t (by omega) ht
end Go.Proofs.YtefaigjfkddelaaGreatDoor
namespace Go.Proofs
open Go.Shelf
def Tryz.laysNm217_ren:Go.Shelf.Ren:=⟨λ| 17=>27 | n=>n,λ| 24=>26 | 9=>9 | 3=>3 | 4=>4 | 0=>0 | n=>n,λ| n=>n⟩
theorem Tryz.laysNm217:Go.Proofs.Lays2.n17 Tryz.prog Tryz.laysNm217_ren:={
 mixed:=by kernel_rfl
 f17:=Tryz.func27.trans (congrArg some (by kernel_rfl))
 t0:=Tryz.underlying0
 a0:=Tryz.isAgg0
 z0:=Tryz.sizeOf0
 v0:=Tryz.zeroValue0
 t3:=Tryz.underlying3
 a3:=Tryz.isAgg3
 z3:=Tryz.sizeOf3
 v3:=Tryz.zeroValue3
 t4:=Tryz.underlying4
 a4:=Tryz.isAgg4
 z4:=Tryz.sizeOf4
 v4:=Tryz.zeroValue4
 t9:=Tryz.underlying9
 a9:=Tryz.isAgg9
 z9:=Tryz.sizeOf9
 v9:=Tryz.zeroValue9
 t24:=Tryz.underlying26
 a24:=Tryz.isAgg26
 z24:=Tryz.sizeOf26
 v24:=Tryz.zeroValue26}
open Go.RowKit Go.Lib Go.Sort in
theorem Tryz.slices_Reverse_string (blk off cap:Nat) (zs:List (List UInt8)) (w:World) (hH:Holds encStr w blk off zs.toArray) (hsz:zs.length≤9223372036854775807) :
  Calls Tryz.prog 27 #[.slice (some ⟨blk,off,none⟩) zs.length cap] w λe w'=>e=.returned (.tuple #[])∧∃n,w'=putRow encStr (Sort.ahead w n) blk off zs.reverse.toArray:=Any.slices_Reverse_string Tryz.laysNm217 blk off cap zs w hH hsz
open Go.RowKit Go.Lib Go.Sort in
theorem Tryz.slices_Reverse_string_empty (a:Option Addr) (cap:Nat) (w:World) :
  Calls Tryz.prog 27 #[.slice a 0 cap] w λe w'=>e=.returned (.tuple #[])∧w'=w:=Any.slices_Reverse_string_empty Tryz.laysNm217 a cap w
end Go.Proofs
namespace Go.Proofs.YtefaigjfkddelaaGreatDoor
open Go Go.E Go.Sort
theorem Jv (w:World) (g:Nat) (f:Array Value→Array Value):Chg [g] w (mapBlock w g f):=
 ⟨rfl,rfl,rfl,by simp [mapBlock],λk _ hk=>by
  have:¬g=k:=λe=>hk (by simp [e]);simp [mapBlock,Array.getElem?_modify,this]⟩
theorem TO (l:List (List UInt8)) (xs sp:List Value) (h:xs.length=l.length):putCells (λs:List UInt8=>Aj s) 0 l.toArray ⟨xs++sp⟩=⟨l.map Aj++sp⟩:=by
 apply Array.ext_getElem?;intro j;simp only [putCells,Array.getElem?_mapIdx,List.getElem?_toArray,List.size_toArray,Nat.zero_add,Nat.zero_le,true_and,Nat.sub_zero];by_cases hj:j<l.length
 ·rw [List.getElem?_append_left (by omega),List.getElem?_append_left (by simpa using hj),List.getElem?_map,List.getElem?_eq_getElem (by omega),List.getElem?_eq_getElem hj];simp [hj]
 ·rw [List.getElem?_append_right (by omega),List.getElem?_append_right (by simp;omega),List.length_map,h];cases sp[j - l.length]?<;>simp [hj]
theorem Pf (l:List (List UInt8)) (v:Value) (lo:Nat) (w:World) (h:E.Ax w lo 9 1 v l.length (l.map Aj)) (hl:l.length≤1000000):AA Tryz.prog 27 [v] w (λr w'=>r=.tuple #[]∧E.Ax w' lo 9 1 v l.length (l.reverse.map Aj)∧Chg (Af v) w w'):=by
 obtain ⟨a3,⟨rfl,h0⟩ | ⟨g,cap,sp,rfl,hB,hn,a1,a2⟩⟩:=h
 ·refine FA (by kernel_rfl) (Tryz.slices_Reverse_string_empty none 0 w) λe w' ⟨he,hw⟩=>⟨_,he,rfl,?_,?_⟩
  ·have:l=[]:=List.eq_nil_of_length_eq_zero h0;subst this;exact E.Ax.nil _ _ _ _
  ·subst hw;exact Chg.refl _ _
 ·refine FA (by kernel_rfl) (Tryz.slices_Reverse_string g 0 cap l w (λj hj=>⟨?_,?_⟩) (by omega)) λe w' ⟨he,n,hw⟩=>⟨_,he,rfl,?_,?_⟩
  ·have a0:j<l.length:=by simpa using hj
   rw [Nat.zero_add];refine hB.cell ?_;rw [List.getElem?_append_left (by simpa using a0),List.getElem?_map,List.getElem?_eq_getElem a0];simp [getElem!_pos,a0,Aj,encStr]
  ·unfold Blk at hB;simp [World.frozen?,hB]
  ·subst hw;refine ⟨by simp,.inr ⟨g,cap,sp,rfl,?_,hn,a1,a2⟩⟩;unfold Blk at hB ⊢;have e:=TO l.reverse (l.map Aj) sp (by simp);simp only [putRow,mapBlock,Sort.ahead,Array.getElem?_modify,if_true,hB,Option.map_some,onCells];rw [show (encStr:List UInt8→Value)=λs=>Aj s from rfl,e]
  ·subst hw;exact ⟨rfl,rfl,rfl,(Jv (Sort.ahead w n) g _).size,(Jv (Sort.ahead w n) g _).block⟩
open Go Go.E
theorem Nm.low {lo lo':Nat} {w:World} {v:Value} {ss:List CB} (h:Nm lo w v ss) (hl:lo'≤lo):Nm lo' w v ss:=by
 obtain ⟨css,h1,h2,h3,h4⟩:=h;exact ⟨css,h1,h2,h3.low hl,λi x cs hi hc=>let ⟨rv,cv,e,o1,o2,n1,n2⟩:=h4 i x cs hi hc;⟨rv,cv,e,o1.low hl,o2.low hl,n1,n2⟩⟩
theorem Da.book {w:World} {a:Addr} {k:Nat} {l:AC} (h:Da w (.slice (some a) l.length k) l) {i:Nat} {c:AV} (hi:l[i]?=some c) {v:Value} (hc:w.cell? ((a.add (((i:Nat):Int).toNat*4)).add 2)=some v):∃bp bc,v=.slice bp c.book.length bc∧Cs w (.slice bp c.book.length bc) c.book∧Bu c.book=true:=by
 obtain ⟨a',q,n,bp,bc,e,-,h1,-,h2,h3⟩:=Da.at h hi;obtain rfl:=Option.some.inj e;have:=(h3 2 _ rfl).symm.trans hc;exact ⟨bp,bc,(Option.some.inj this).symm,h1,h2⟩
theorem Pp (c:AV) (q bp:Option Addr) (m n bc:Nat) (w:World) (g:CU w) (h:Cs w (.slice bp c.book.length bc) c.book):AA Tryz.prog 24 [.agg ⟨BR c (.slice q m n) (.slice bp c.book.length bc)⟩] w (λv w'=>v=.bool (!Bu c.book)∧Ae w w'):=by
 refine AL Tryz.func24 Tryz.ntmps24 ?_;apply CW.seq;apply CW.region;refine Sl ?_;refine CZ λX w1 a2 a0 hX=>?_;replace hX:Blk w1 X (BR c (.slice q m n) (.slice bp c.book.length bc)) 31:=hX;refine Sa ?_;refine LW.load_cells rfl (HT (i:=2) hX rfl) rfl rfl rfl rfl ?_;refine Sa ?_;refine Ap rfl rfl (Uu c.book _ _ (g.ext a0) (Ak.ext h a0)) ?_;rintro v w2 ⟨rfl,a1⟩;refine Sa ?_;exact QW.body1 Tryz.results24 rfl ⟨rfl,a0.trans a1⟩
theorem O5 (l:AC) (lv:Value) (w:World) (g:CU w) (h:Da w lv l):AA Tryz.prog 23 [lv,.func (.func 24) ⟨[]⟩ ⟨[]⟩] w (λv w'=>v=.bool false∧Ae w w'):=by
 obtain ⟨p,c,rfl⟩:=Cw.slice h;refine AL Tryz.func23 Tryz.ntmps23 ?_;refine Sa ?_;refine Ap rfl rfl (Gd l _ (λc=>!Bu c.book) 24 [] w h.past λw' hx i cm q n bp bn bc a k hi hs a0=>?_) ?_
 ·obtain ⟨rfl,-,rfl⟩:=Value.slice.inj hs;obtain ⟨bp',bc',e,h1,h2⟩:=Da.book (h.ext hx) hi (a0 2 _ rfl);obtain ⟨rfl,rfl,rfl⟩:=Value.slice.inj e;exact Pp cm q bp _ n bc w' (g.ext hx) h1
 rintro v w1 ⟨rfl,a1⟩;rw [Ka λj d _ hd=>by rw [(h.may d (List.mem_of_getElem? hd)).1];rfl];refine Sa ?_;exact QW.body1 Tryz.results23 rfl ⟨rfl,a1⟩
theorem Pq (cm:AV) (q bp:Option Addr) (m n bn bc A:Nat) (x:List UInt8) (w:World) (hA:Blk w A [Aj x] 9):AA Tryz.prog 29 [.agg ⟨BR cm (.slice q m n) (.slice bp bn bc)⟩,.pointer (some ⟨A,0,none⟩)] w (λv w'=>v=.bool (decide (cm.id=x))∧Ae w w'):=by
 refine AL Tryz.func29 Tryz.ntmps29 ?_;refine Sa ?_;refine CZ λX w1 a1 a0 hX=>?_;replace hX:Blk w1 X (BR cm (.slice q m n) (.slice bp bn bc)) 31:=hX;replace hA:=hA.ext a0;refine Sa ?_;exact QW.body1 Tryz.results29 rfl ⟨by simp,a0⟩
set_option maxRecDepth 8000 in
set_option maxHeartbeats 8000000 in
theorem LL (l:AC) (v:Value) (id:List UInt8) (w:World) (g:CU w) (h:Da w v l) (hcap:∀p n c,v=.slice p n c→n≤c) (hm:GK l=true) (hl:l.length≤1000):AA Tryz.prog 13 [v,Aj id] w (λr w'=>∃rv f,Bk w.heap.size w' r (GE l id) rv f∧Ae w w'):=by
 obtain ⟨p,c,rfl⟩:=Cw.slice h;have cv:=Ib hm id;have c5:=NK l id;have c6:=Mv h id;refine AL Tryz.func13 Tryz.ntmps13 ?_;refine Sw ?_;refine Ap rfl rfl (Vm l _ w h.past hcap) ?_;rintro v w1 ⟨rfl,bb⟩;rw [hm];refine Sw ?_;refine Ap rfl rfl (O5 l _ w1 (g.ext bb) (h.ext bb)) ?_;rintro v w2 ⟨rfl,c7⟩;have af:=bb.trans c7;refine Sw ?_;refine Ap rfl rfl (TG l _ id w2 (h.past.ext af) hm hl) ?_;rintro v w3 ⟨hO,c8⟩;have bd:=af.trans c8;refine Sw ?_;refine Ap rfl rfl (Pf (Bt l id) _ _ w3 hO (by omega)) ?_;rintro v0 w4 ⟨rfl,bu,c9⟩;have ag:Ae w w4:=bd.step c9 λb hb=>by have:=(hO.lt hb).1;have:=af.size;omega
 have ca:BE w4 v (Bt l id).reverse:=CR (by rw [List.length_reverse];exact bu) (by rw [List.length_reverse];omega) (λs hs=>c6 s (List.mem_reverse.1 hs));obtain ⟨lp,lc,rfl⟩:=bu.slice;have cw:=ag.size;refine Sw ?_;refine BP λA w5 cx be hA=>?_;have cb:=ag.trans be;have cy:=hA.lt;have cz:=be.size;refine Sw ?_;refine CW.loop (ι:=Nat×Value×Value) (λx w'=>x.1≤(Bt l id).length∧Chg [A] w5 w'∧Blk w' A [x.2.2] 29∧(∃rv f,Bk w4.heap.size w' x.2.1 (Ed (Ea l id ((Bt l id).length - x.1))) rv f)∧(∀k c,0<x.1→(Cp l id)[(Bt l id).length - x.1]?=some k→l[k]?=some c→∃bp bc,x.2.2=.slice bp c.book.length bc∧Cs w (.slice bp c.book.length bc) c.book)) (λx=>[(0,.slice p l.length c),(6,x.2.1),(7,.pointer (some ⟨A,0,none⟩)),(27,.slice lp (Bt l id).length lc),(28,.int .i64 (Bt l id).length),(29,.int .i64 x.1)]) (λx=>(Bt l id).length - x.1) (0,.slice none 0 0,.slice none 0 0) ⟨Nat.zero_le _,Chg.refl _ _,hA,⟨λ_=>.slice none 0 0,λ_ _=>0,?_⟩,λ_ _ h=>by omega⟩ BQ ?_
 ·show Bk _ _ _ (Ed (Ea l id ((Bt l id).length - 0))) _ _;rw [Nat.sub_zero,Ea,c5,List.drop_length];exact QK
 rintro ⟨n,ov,bv⟩ w6 ⟨hn,b5,b6,⟨rv,f,ak⟩,bw⟩;dsimp only at hn b6 ak bw;show CW _ _ _ _ _ [(0,.slice p l.length c),(6,ov),(7,.pointer (some ⟨A,0,none⟩)),(27,.slice lp (Bt l id).length lc),(28,.int .i64 (Bt l id).length),(29,.int .i64 (n:Int))] _;have far:∀w',Chg [A] w5 w'→Ae w4 w':=λw' h=>be.step h (by simp;omega);have ah:=far _ b5;have a3:=ag.trans ah;have d0:=ah.size;have cc:=b5.size;refine Sw ?_;refine Am (λh1=>?_) λh1=>?_;rotate_left
 ·have h1:n=(Bt l id).length:=by simp at h1;omega
  subst h1;rw [Nat.sub_self] at ak;refine Sw ?_;exact QW.body1 Tryz.results13 rfl ⟨rv,f,ak.low (by omega),a3⟩
 have h1:n<(Bt l id).length:=by simp at h1;omega
 obtain ⟨i,hi⟩:∃i,i=(Bt l id).length - 1 - n:=⟨_,rfl⟩;obtain ⟨ki,al⟩:∃k,(Cp l id)[i]?=some k:=⟨_,List.getElem?_eq_getElem (by omega)⟩;obtain ⟨CC,am,bf,an⟩:=Ju hm al;have cd:=Ga an;have ce:(Bt l id).reverse[n]?=some CC.id:=by
  rw [List.getElem?_reverse h1,←hi];exact bf
 have bg:=Av.ext ca ah;obtain ⟨la,eqa,-,-,d1⟩:=Av.at (p:=lp) (c:=lc) (by rw [List.length_reverse];exact bg) ce;subst eqa;refine Sw ?_;refine BP λB w7 d2 cf hB=>?_;have d4:=hB.lt;refine Sw ?_;refine BS λw8 cg hB=>?_;replace hB:Blk w8 B [Aj CC.id] 9:=hB;have ao:Ae w6 w8:=cf.step cg (by simp;omega);have ap:=a3.trans ao;refine Sw ?_;refine Ap rfl rfl (Gd l _ (λc=>decide (c.id=CC.id)) 29 [.pointer (some ⟨B,0,none⟩)] w8 (h.past.ext ap) λw' hx i cm q n bp bn bc a k _ _ _=>Pq cm q bp _ n bn bc B CC.id w' (hB.ext hx)) ?_;rintro v w9 ⟨rfl,bh⟩;rw [Pk,an,show Eo (some ki)=(ki:Int) from rfl];replace hB:=hB.ext bh;have aq:=ao.trans bh;have ai:=ap.trans bh;obtain ⟨a,q1,qn1,bp1,bc1,eqb,-,a4,bi,ar,a1⟩:=Da.at h am;subst eqb;have bj:=Ak.ext a4 ai;have d5:∀j u,([.slice bp1 CC.book.length bc1]:List Value)[j]?=some u→w9.cell? (((a.add (((ki:Nat):Int).toNat*4)).add 2).add j)=some u:=λj u hj=>by
  match j,hj with
  | 0,hj=>exact Aw ai (a1 2 u hj)
 have d6:=b6.ext aq;refine Sw ?_;refine CW.drawG (Ae w9) 7 (λw' h=>h) (by kernel_rfl) λwa bx=>?_;refine Bp ?_;refine CX 6 λhS=>?_;refine Ap rfl rfl (U5 CC.book _ CC.id _ (Ak.ext bj hS) bi) ?_;rintro nv aj ⟨rv2,f2,aa,a2⟩;have ci:=hS.size;have bk:=hS.trans a2;clear hS;apply LW.nil;refine QW.headed bk ?_;refine GW.tail rfl (by kernel_rfl) (λhS=>?_);clear hS;generalize d7:wa=wb at bx a2 aa ci;obtain ⟨op,oc,rfl⟩:=aa.slice;have au:Ae w9 wb:=bx;have ab:=aq.trans au;have ac:=ai.trans au;have a0:=ab.trans a2;have av:=ac.trans a2;have cj:=a2.size;have ck:=ab.size;have a5:=b6.ext a0;have bz:∀j u,([.slice bp1 CC.book.length bc1]:List Value)[j]?=some u→aj.cell? (((a.add (((ki:Nat):Int).toNat*4)).add 2).add j)=some u:=λj u hj=>by
  match j,hj with
  | 0,hj=>exact Aw av (a1 2 u hj)
 have b7:(Bt l id).length - (n+1)=i:=by omega
 refine Sa ?_;refine Am (λh2=>?_) λh2=>?_;rotate_left
 ·have h2:n=0:=by have:¬(0:Int)<(n:Int):=of_decide_eq_false h2;omega
  subst h2;refine Sa ?_;refine CW.drawG (Ae aj) 7 (λw' h=>h) (by kernel_rfl) λwc c0=>?_;refine Bp ?_;refine GW.tail rfl (by kernel_rfl) (λhS=>?_);replace a5:=a5.ext hS;refine Sa ?_;refine AM λb8 aw a5=>?_;have ax:Chg [A] w6 b8:=(a0.trans hS).chg.same aw;have bl:=(aa.ext hS).old aw (by simp;omega);refine Sw ?_;refine QW.again (0+1,_,_) ⟨by show 0+1≤_;omega,b5.same ax,a5,⟨rv2,f2,?_⟩,λk c _ hk hc=>?_⟩ BQ (by show _ - (0+1)<_ - 0;omega)
  ·show Bk _ _ _ (Ed (Ea l id ((Bt l id).length - (0+1)))) _ _;rw [b7,NG al (by omega),Jl am];exact bl.low (by omega)
  ·have hk:(Cp l id)[(Bt l id).length - (0+1)]?=some k:=hk;rw [b7,al] at hk;obtain rfl:=Option.some.inj hk;rw [am] at hc;obtain rfl:=Option.some.inj hc;exact ⟨bp1,bc1,rfl,a4⟩
 have h2:0<n:=by have:(0:Int)<(n:Int):=of_decide_eq_true h2;omega
 obtain ⟨kp,b9⟩:∃k,(Cp l id)[i+1]?=some k:=⟨_,List.getElem?_eq_getElem (by omega)⟩;obtain ⟨PP,ba,cl,cn⟩:=Ju hm b9;have c1:(Bt l id).length - n=i+1:=by omega
 obtain ⟨bp2,bc2,rfl,ay⟩:=bw kp PP h2 (by rw [c1];exact b9) ba;have az:=(h.may PP (List.mem_of_getElem? ba)).1;rw [c1] at ak;have d8:∀j u,([.slice bp2 PP.book.length bc2]:List Value)[j]?=some u→aj.cell? ((⟨A,0,none⟩:Addr).add j)=some u:=HT (i:=0) a5 rfl;refine Sa ?_;refine CW.drawG (Ae aj) 7 (λw' h=>h) (by kernel_rfl) λwc c0=>?_;refine Bp ?_;refine GW.tail rfl (by kernel_rfl) (λhS=>?_);have co:=a0.trans hS;clear hS;refine Sa ?_;refine CZ λD b8 d9 b0 hD=>?_;replace hD:Blk b8 D [.slice bp2 PP.book.length bc2,.slice bp1 CC.book.length bc1,.slice none 0 0] 58:=hD;have a6:Ae aj wc:=c0;have c2:=a6.size;have cp:=b0.size;have a7:=a6.trans b0;have b1:=a0.trans a7;have b2:=a3.trans b1;have cq:=a3.trans (a0.trans a6);have da:=hD.lt;have db:=a3.size;refine Sw ?_;refine LW.call (fs:=[.pointer (some ⟨D,0,none⟩)]) (cs:=[]) rfl rfl rfl (Rf PP.book CC.book bp2 bp1 bc2 bc1 D w b8 b2 (by omega) ay a4 az ar hD) ?_;rintro v c3 ⟨rfl,sp,sc,cr,bm,bo⟩;have a8:Ae aj c3:=a7.step bo (by simp;omega);refine Sw ?_;refine LW.call (fs:=[.pointer (some ⟨D,0,none⟩)]) (cs:=[]) rfl rfl rfl (SX PP.book CC.book bp2 bp1 sp bc2 bc1 sc D (Ed (Ea l id (i+1))) (GD CC.book CC.id) ov _ rv2 f2 wb aj c3 (g.ext ac) a2 a8 (Ak.ext ay ac) (Ak.ext a4 ac) az ar bm (by omega) (ak.ext ab).list (LO b9 ba) aa (HS _ _) (cr.low (by omega))) ?_;rintro v bq ⟨rfl,br,S,hS,bs⟩;have ae:Ae wb bq:=(a2.trans a8).step bs λb hb=>(hS b hb).1;have a9:=ab.trans ae;have ad:=b6.ext a9;have ct:=ae.size;have c4:∀j u,([.slice bp1 CC.book.length bc1]:List Value)[j]?=some u→bq.cell? (((a.add (((ki:Nat):Int).toNat*4)).add 2).add j)=some u:=λj u hj=>by
  match j,hj with
  | 0,hj=>exact Aw (a3.trans a9) (a1 2 u hj)
 refine Sw ?_;refine CW.drawG (Ae bq) 7 (λw' h=>h) (by kernel_rfl) λwd dc=>?_;refine Bp ?_;refine GW.tail rfl (by kernel_rfl) (λhS=>?_);replace ad:=ad.ext hS;refine Sa ?_;refine AM λcu b3 ad=>?_;have b4:Chg [A] w6 cu:=(a9.trans hS).chg.same b3;have bt:=(br.ext hS).old b3 (by simp;omega);refine Sw ?_;refine QW.again (n+1,_,_) ⟨by show n+1≤_;omega,b5.same b4,ad,⟨rv2,f2,?_⟩,λk c _ hk hc=>?_⟩ BQ (by show _ - (n+1)<_ - n;omega)
 ·show Bk _ _ _ (Ed (Ea l id ((Bt l id).length - (n+1)))) _ _;rw [b7,LP al b9 am ba];exact bt.low (by omega)
 ·have hk:(Cp l id)[(Bt l id).length - (n+1)]?=some k:=hk;rw [b7,al] at hk;obtain rfl:=Option.some.inj hk;rw [am] at hc;obtain rfl:=Option.some.inj hc;exact ⟨bp1,bc1,rfl,a4⟩
def XU:A1:=[⟨[65],1,[[[49]]]⟩]
def X8:AC:=[⟨[97],[],XU,[]⟩]
theorem VP:Bu XU=true:=by decide +kernel
theorem VQ:GK X8=true:=by decide +kernel
theorem Td:GE X8 [97]=[[[[97]]]]:=rfl
theorem Ew {w:World} {A m:Nat} {cs:List Value} {T:TypeId} (h:Blk w A cs T):∀j u,cs[j]?=some u→w.cell? (((⟨A,0,none⟩:Addr).add (0*m)).add j)=some u:=λj u hj=>by
 rw [Nat.zero_mul,A0,A0];refine h.cell ?_
 simpa using hj
set_option maxRecDepth 8000 in
set_option maxHeartbeats 4000000 in
theorem Po (w:World) (g:CU w):AA Tryz.prog 9 [] w (λv w'=>v=.bool true∧Ae w w'):=by
 refine AL Tryz.func9 Tryz.ntmps9 ?_;refine Sa ?_;refine Cl λR w1 ae a5 hR=>?_;replace hR:Blk w1 R [Aj [49]] 9:=hR;refine Sa ?_;refine Cl λU w2 af a4 hU=>?_;replace hU:Blk w2 U [.slice (some ⟨R,0,none⟩) 1 1] 26:=hU;refine Sa ?_;refine Cl λB w3 ag a6 hB=>?_;replace hB:Blk w3 B [Aj [65],.int .i64 1,.slice (some ⟨U,0,none⟩) 1 1] 41:=hB;refine Sa ?_;refine BP λA w4 ah a7 hA=>?_;refine Sa ?_;refine AM λw5 a8 hA=>?_;replace hA:Blk w5 A [.slice (some ⟨B,0,none⟩) 1 1] 29:=hA;have a3:Ae w3 w5:=a7.step a8 (by simp;omega);refine Sa ?_;refine Cl λC w6 ai a9 hC=>?_;replace hC:Blk w6 C [Aj [97],.slice none 0 0,.slice (some ⟨B,0,none⟩) 1 1,Aj []] 31:=hC;have a1:=a3.trans a9;have a0:=a6.trans a1;have a2:=a5.trans (a4.trans a0);have aa:=(hR.ext a4).ext a0;have ab:=hU.ext a0;have ac:=hB.ext a1;have hP:Da w6 (.slice (some ⟨C,0,none⟩) 1 1) X8:=⟨by decide,.inr ⟨_,1,rfl,λi x hi=>by
  match i,hi with
  | 0,hi=>
   obtain rfl:=Option.some.inj hi;refine ⟨_,rfl,⟨.slice none 0 0,.slice (some ⟨B,0,none⟩) 1 1,rfl,⟨by decide,.inl ⟨rfl,rfl⟩⟩,by decide,⟨by decide,.inr ⟨_,1,rfl,λ_=>trivial,λi x hi=>?_⟩⟩,VP⟩,Ew hC⟩
   match i,hi with
   | 0,hi=>
    obtain rfl:=Option.some.inj hi;refine ⟨_,rfl,⟨.slice (some ⟨U,0,none⟩) 1 1,rfl,by decide,⟨by decide,.inr ⟨_,1,rfl,λ_=>trivial,λi x hi=>?_⟩⟩⟩,Ew ac⟩
    match i,hi with
    | 0,hi=>
     obtain rfl:=Option.some.inj hi;refine ⟨_,rfl,⟨.slice (some ⟨R,0,none⟩) 1 1,rfl,⟨by decide,.inr ⟨_,1,rfl,λ_=>trivial,λi x hi=>?_⟩⟩⟩,Ew ab⟩
     match i,hi with
     | 0,hi=>
      obtain rfl:=Option.some.inj hi;exact ⟨_,rfl,⟨rfl,by decide⟩,Ew aa⟩⟩⟩
 refine Sa ?_;refine Ap rfl rfl (LL X8 _ [97] w6 (g.ext a2) hP (λp n c e=>by obtain ⟨-,rfl,rfl⟩:=Value.slice.inj e;exact Nat.le_refl _) VQ (by decide)) ?_;rintro v w7 ⟨rv,f,hT,ad⟩;rw [Td] at hT;obtain ⟨T,ct,M,cm,cx,hv,h1,h2,-,sp,h3⟩:=hT.at (i:=0) (row:=0) rfl rfl (by decide);have hv:v=.slice (some ⟨T,0,none⟩) 1 ct:=hv;subst hv;have aj:w7.cell? ((⟨T,0,none⟩:Addr).add ((0:Int).toNat*1))=some (.slice (some ⟨M,0,none⟩) 1 cm):=h1;have ak:w7.cell? ((⟨M,0,none⟩:Addr).add ((0:Int).toNat*1))=some (.slice (some ⟨f 0 0,0,none⟩) 1 cx):=h2;have al:w7.cell? ((⟨f 0 0,0,none⟩:Addr).add ((0:Int).toNat*1))=some (Aj [97]):=by
  rw [A0];exact h3.cell rfl
 clear h1 h2;refine Sw ?_;exact QW.body1 Tryz.results9 rfl ⟨rfl,a2.trans ad⟩
theorem Sx {α:Type} {l m:List α} {k:Nat} (h:∀j,j<k→l[j]?=m[j]?) (hk:l[k]?=m[k]?):∀j,j<k+1→l[j]?=m[j]?:=λj hj=>by
 by_cases e:j=k
 ·rw [e];exact hk
 ·exact h j (by omega)
theorem St {α:Type} {l m:List α} (hl:l.length=m.length) (h:∀j,j<l.length→l[j]?=m[j]?):l=m:=by
 apply List.ext_getElem?;intro j;by_cases hj:j<l.length
 ·exact h j hj
 ·rw [List.getElem?_eq_none (by omega),List.getElem?_eq_none (by omega)]
theorem Sv {α:Type} {l m:List α} (h:l.length≠m.length):¬l=m:=λe=>h (by rw [e])
theorem OD {α:Type} {l m:List α} {k:Nat} {x y:α} (hx:l[k]?=some x) (hy:m[k]?=some y) (h:¬x=y):¬l=m:=λe=>by
 rw [e,hy] at hx;exact h (Option.some.inj hx).symm
set_option maxRecDepth 8000 in
set_option maxHeartbeats 4000000 in
theorem Oz (t t':AD) (v u:Value) (w:World) (h:ET w v t) (h':ET w u t'):AA Tryz.prog 12 [v,u] w (λr w'=>r=.bool (decide (t=t'))∧Ae w w'):=by
 obtain ⟨p,c,rfl⟩:=h.slice;obtain ⟨q,d,rfl⟩:=h'.slice;have hl:=h.1;have ai:=h'.1;refine AL Tryz.func12 Tryz.ntmps12 ?_;refine Sw ?_;refine Am (λh1=>?_) λh1=>?_
 ·have h1:t.length≠t'.length:=by simp at h1;omega
  refine Sw ?_;exact QW.body1 Tryz.results12 rfl ⟨by rw [decide_eq_false (Sv h1)],Chg.refl _ _⟩
 have h1:t.length=t'.length:=by simp at h1;omega
 refine Sw ?_;refine CW.loop (ι:=Nat) (λi w'=>i≤t.length∧Ae w w'∧∀j,j<i→t[j]?=t'[j]?) (λi=>[(0,.slice p t.length c),(1,.slice q t'.length d),(5,.int .i64 i)]) (λi=>t.length - i) 0 ⟨Nat.zero_le _,Chg.refl _ _,λ_ h=>by omega⟩ Bh ?_;rintro i w1 ⟨hi,a6,a8⟩;replace h:=h.ext a6;replace h':=h'.ext a6;refine Sw ?_;refine Am (λh2=>?_) λh2=>?_;rotate_left
 ·have h2:i=t.length:=by simp at h2;omega
  subst h2;refine Sw ?_;exact QW.body1 Tryz.results12 rfl ⟨by rw [decide_eq_true (St h1 a8)],a6⟩
 have h2:i<t.length:=by simp at h2;omega
 obtain ⟨rows,a1⟩:∃x,t[i]?=some x:=⟨_,List.getElem?_eq_getElem h2⟩;obtain ⟨rows',a0⟩:∃x,t'[i]?=some x:=⟨_,List.getElem?_eq_getElem (by omega)⟩;obtain ⟨a,rp,rc,rfl,hR,hc⟩:=ET.at h a1;obtain ⟨b,sp,sc,rfl,a9,ac⟩:=ET.at h' a0;have aj:=hR.1;have ad:=a9.1;refine Sw ?_;refine CW.drawG (Ae w1) 10 (λw' h=>h) (by kernel_rfl) λwa ak=>?_;refine Bp ?_;refine GW.tail rfl (by kernel_rfl) (λhS=>?_);have aa:=a6.trans hS;generalize wa=w2 at hS aa;refine Sa ?_;refine Am (λh3=>?_) λh3=>?_
 ·have h3:rows.length≠rows'.length:=by simp at h3;omega
  refine Sw ?_;exact QW.body1 Tryz.results12 rfl ⟨by rw [decide_eq_false (OD a1 a0 (Sv h3))],aa⟩
 have h3:rows.length=rows'.length:=by simp at h3;omega
 refine Sw ?_;refine CW.loop (ι:=Nat) (λk w'=>k≤rows.length∧Ae w1 w'∧∀j,j<k→rows[j]?=rows'[j]?) (λk=>[(0,.slice (some a) t.length c),(1,.slice (some b) t'.length d),(5,.int .i64 i),(6,.int .i64 k)]) (λk=>rows.length - k) 0 ⟨Nat.zero_le _,hS,λ_ h=>by omega⟩ BN ?_;rintro k w3 ⟨hk,a5,ab⟩;have al:=Aw a5 hc;have ae:=Aw a5 ac;have a7:=a6.trans a5;refine Sw ?_;refine Am (λh4=>?_) λh4=>?_;rotate_left
 ·have h4:k=rows.length:=by simp at h4;omega
  subst h4;refine Sw ?_;exact QW.again (i+1) ⟨by omega,a7,Sx a8 (by rw [a1,a0,St h3 ab])⟩ Bh (by omega)
 have h4:k<rows.length:=by simp at h4;omega
 obtain ⟨row,a4⟩:∃x,rows[k]?=some x:=⟨_,List.getElem?_eq_getElem h4⟩;obtain ⟨row',a3⟩:∃x,rows'[k]?=some x:=⟨_,List.getElem?_eq_getElem (by omega)⟩;obtain ⟨a2,tp,tc,rfl,-,hT,hd⟩:=AJ.at (AJ.ext hR a5) a4;obtain ⟨b2,up,uc,rfl,-,af,am⟩:=AJ.at (AJ.ext a9 a5) a3;have an:k<rows'.length:=by omega
 refine Sw ?_;refine CW.drawG (Ae w3) 15 (λw' h=>h) (by kernel_rfl) λwb ao=>?_;clear hS;refine Bp ?_;refine CX 14 λhS=>?_;refine Ap rfl rfl (SQ row row' _ _ _ (Av.ext hT hS) (Av.ext af hS)) ?_;rintro v w4 ⟨rfl,ag⟩;have ah:=hS.trans ag;clear hS;apply LW.nil;refine QW.headed ah ?_;refine GW.tail rfl (by kernel_rfl) (λhS=>?_);refine Sa ?_;refine Am (λh5=>?_) λh5=>?_
 ·have h5:¬row=row':=by simpa using h5
  refine Sw ?_;exact QW.body1 Tryz.results12 rfl ⟨by rw [decide_eq_false (OD a1 a0 (OD a4 a3 h5))],a7.trans hS⟩
 ·have h5:row=row':=by simpa using h5
  refine Sw ?_;exact QW.again (k+1) ⟨by omega,a5.trans hS,Sx ab (by rw [a4,a3,h5])⟩ BN (by omega)
def Tr.fitB:{b:Bool}→Tr b→Bool
 | _,.leaf n=>decide (1≤n.kind)&&decide (n.kind≤6)&&decide (n.kids=[])&&Ar n
 | _,.neg a=>a.fitB
 | _,.two k a b=>decide (9≤k)&&decide (k≤19)&&a.fitB&&b.fitB
 | _,.call x ks=>Cu x&&ks.fitB
 | _,.nil=>true
 | _,.snoc ks a=>ks.fitB&&a.fitB
theorem Tr.fit_of:∀{b:Bool} (t:Tr b),t.fitB=true→t.Fit
 | _,.leaf n,h=>by
  simp only [Tr.fitB,Bool.and_eq_true,decide_eq_true_eq] at h
  exact ⟨h.1.1.1,h.1.1.2,h.1.2,h.2⟩
 | _,.neg a,h=>Tr.fit_of a h
 | _,.two k a b,h=>by
  simp only [Tr.fitB,Bool.and_eq_true,decide_eq_true_eq] at h
  exact ⟨h.1.1.1,h.1.1.2,Tr.fit_of a h.1.2,Tr.fit_of b h.2⟩
 | _,.call x ks,h=>by
  simp only [Tr.fitB,Bool.and_eq_true] at h
  exact ⟨h.1,Tr.fit_of ks h.2⟩
 | _,.nil,_=>trivial
 | _,.snoc ks a,h=>by
  simp only [Tr.fitB,Bool.and_eq_true] at h;exact ⟨Tr.fit_of ks h.1,Tr.fit_of a h.2⟩
def Tr.numB {b:Bool} (t:Tr b):Bool:=t.toks.all λk=>decide (k.num≤9223372036854775807)
theorem Tr.num_of' {b:Bool} {t:Tr b} (h:t.numB=true):t.Num:=λk hk=>by
 have:=List.all_eq_true.1 h k hk
 simpa using this
def Tr.okB (t:Tr false):Bool:=t.fitB&&t.numB&&decide (t.text.length<300)&&decide (t.need≤12)
theorem V5 {t:Tr false} (hf:t.Fit) (hn:t.Num) (hl:t.text.length<300) (hd:t.need≤12):Cv (61::t.text)=true:=by
 have hp:AH t.text=.ok (t.flat 0):=by rw [HA t hf hn,if_neg (by omega),if_pos hd]
 rw [Cv,if_neg (by simp;omega),if_neg (by simp [Ab]),if_pos (by simp [Ab])];show (match AH t.text with | .error _=>false | .ok l=>decide (BF l=t.text))=true;rw [hp];simp only;rw [Gz hf];simp
theorem Wc {t:Tr false} (h:t.okB=true):Cv (61::t.text)=true:=by
 simp only [Tr.okB,Bool.and_eq_true,decide_eq_true_eq] at h;exact V5 (t.fit_of h.1.1.1) (Tr.num_of' h.1.1.2) h.1.2 h.2
theorem PQ (n:Int) (b0:-9223372036854775808≤n) (b1:n≤9223372036854775807):Cv (Lib.itoa n)=true:=by
 obtain ⟨c1,c2,c3⟩:=T7 b0 b1;have a0:=Lib.itoa_length_le n b0 b1;have n39:¬(Lib.itoa n=[]∨Ab (Lib.itoa n) 0=39):=by
  rintro (h | h)
  ·exact c2 h
  ·omega
 rw [Cv,if_neg (by omega),if_neg n39,if_neg (by omega),c1];simp
def Ym (c r:Int):Co:=⟨[],c,r,false,false⟩
def Yl (x:Co):Tr false:=.leaf {kind:=5,ref:=x}
def Yk (z:Int):Tr false:=.leaf {kind:=1,num:=z}
def Se (t:Nat):List UInt8:=[61,65]++Lib.itoa (t:Int)++[43,49]
def Wp (r:Nat):List (List UInt8):=[Lib.itoa ((100+r:Nat):Int),Se (r+1)]
def Xa (i r:Nat):Nat:=if i≤r then r+1 else r
def Q5 (i r:Nat):List (List UInt8):=[Lib.itoa ((100+r:Nat):Int),Se (Xa i r+1)]
def OQ:List (List UInt8):=[[55],[]]
def HH (k:Nat):List (List (List UInt8)):=(List.range k).map Wp
def Dn (i n:Nat):List (List (List UInt8)):=(List.range n).flatMap λr=>(if r=i then [OQ] else [])++[Q5 i r]
theorem MY (k:Nat):HH (k+1)=HH k++[Wp k]:=by rw [HH,List.range_succ,List.map_append];rfl
theorem Du (k:Nat):(HH k).length=k:=by simp [HH]
theorem IV (i n:Nat):Dn i (n+1)=Dn i n++((if n=i then [OQ] else [])++[Q5 i n]):=by rw [Dn,List.range_succ,List.flatMap_append];simp [Dn]
theorem G3 (i:Nat):∀n,(Dn i n).length=n+(if i<n then 1 else 0)
 | 0=>by simp [Dn]
 | n+1=>by
  rw [IV,List.length_append,G3 i n,List.length_append];by_cases h:n=i
  ·subst h;simp
  ·by_cases h2:i<n
   ·have:i<n+1:=by omega
    simp [h,h2,this]
   ·have:¬i<n+1:=by omega
    simp [h,h2,this]
theorem T4 (r:Nat) (h:r<8):Cv (Lib.itoa ((100+r:Nat):Int))=true:=PQ _ (by omega) (by omega)
def XW (t:Nat):Tr false:=.two 16 (Yl (Ym 0 ((t - 1:Nat):Int))) (Yk 1)
theorem Xc:∀t,t<10→1≤t→(XW t).okB=true∧61::(XW t).text=Se t:=by decide +kernel
theorem T3 (t:Nat) (h:t<10) (h1:1≤t):Cv (Se t)=true:=by
 obtain ⟨h2,h3⟩:=Xc t h h1;rw [←h3];exact Wc h2
theorem M0:Cv [55]=true∧Cv []=true:=⟨by have h:=PQ 7 (by omega) (by omega);rwa [show Lib.itoa 7=[55] by decide +kernel] at h,by decide +kernel⟩
def Mh (r:List (List UInt8)):Prop:=(r.length:Int)=2∧∀t∈r,Cv t=true
theorem Kq {i r:Nat} (hr:r<8):Mh (Q5 i r):=⟨rfl,λt ht=>by
 simp only [Q5,List.mem_cons,List.not_mem_nil,or_false] at ht;rcases ht with rfl | rfl
 ·exact T4 r hr
 ·exact T3 _ (by unfold Xa;split<;>omega) (by omega)⟩
theorem Io:Mh OQ:=⟨rfl,λt ht=>by
 simp only [OQ,List.mem_cons,List.not_mem_nil,or_false] at ht;rcases ht with rfl | rfl
 ·exact M0.1
 ·exact M0.2⟩
theorem MZ {i:Nat}:∀n,n≤8→∀r∈Dn i n,Mh r
 | 0,_,r,h=>by simp [Dn] at h
 | n+1,hn,r,h=>by
  rw [IV,List.mem_append,List.mem_append] at h;rcases h with h | h | h
  ·exact MZ n (by omega) r h
  ·split at h
   ·simp only [List.mem_singleton] at h;rw [h];exact Io
   ·simp at h
  ·simp only [List.mem_singleton] at h;rw [h];exact Kq (by omega)
theorem MX {k:Nat} (hk:k≤8):∀r∈HH k,Mh r:=λr h=>by
 obtain ⟨j,hj,rfl⟩:=List.mem_map.1 h;have hj:=List.mem_range.1 hj;have:=Kq (i:=100) (r:=j) (by omega)
 rwa [Q5,Xa,if_neg (by omega)] at this
theorem Nf {rows:List (List (List UInt8))} (hl:rows.length≤24) (h:∀r∈rows,Mh r):Bu [⟨[65],2,rows⟩]=true:=by
 refine CM.2 ⟨by simp,λs hs=>?_,List.pairwise_singleton _ _⟩;simp only [List.mem_singleton] at hs;subst hs;simp only [CG,Bool.and_eq_true,List.all_eq_true,decide_eq_true_eq];exact ⟨⟨⟨⟨by decide +kernel,by decide⟩,by decide⟩,hl⟩,λr hr=>⟨(h r hr).1,(h r hr).2⟩⟩
theorem BT.snoc {lo:Nat} {w0 w1 w':World} {v v':Value} {rows:List (List (List UInt8))} {row:List (List UInt8)} {xs:List Value} {g:Nat→Nat} {C k:Nat} {sp:List Value} (hs:rows.length+1≤1000000) (hO0:E.Ax w0 lo 26 1 v rows.length xs) (hX:C8 lo w0 xs rows g (Af v)) (x:Ae w0 w1) (_hr:row≠[]) (hrl:row.length≤1000000∧∀t∈row,t.length≤1000000) (hC:Blk w1 C (row.map Aj++sp) 9) (hC0:w0.heap.size≤C) (hlo:lo≤w0.heap.size)
  (hch:Chg (Af v) w1 w') (hv:∀j,j∈Af v'→j∈Af v∨w1.heap.size≤j) (hO:E.Ax w' lo 26 1 v' (rows.length+1) (xs++[.slice (some ⟨C,0,none⟩) row.length k])):∃g',C8 lo w' (xs++[.slice (some ⟨C,0,none⟩) row.length k]) (rows++[row]) g' (Af v')∧BT lo w' v' (rows++[row]) g':=by
 have hz:=x.size;have a3:Av (λa=>a=⟨C,0,none⟩) w1 (.slice (some ⟨C,0,none⟩) row.length k) row:=⟨hrl.1,.inr ⟨⟨C,0,none⟩,k,rfl,λ_=>rfl,λi t hi=>⟨[Aj t],rfl,⟨rfl,hrl.2 t (List.mem_of_getElem? hi)⟩,λj u hj=>by
  match j,hj with
  | 0,hj=>
   obtain rfl:=Option.some.inj hj;rw [A0,A0];refine hC.cell ?_;have a4:=(List.getElem?_eq_some_iff.1 hi).1;rw [show 0+i*1+0=i by omega,List.getElem?_append_left (by simpa using a4),List.getElem?_map,hi];rfl⟩⟩⟩
 have a1:=(hX.ext x).push a3 (λ_=>⟨by omega,λhb=>by have:=(hO0.lt hb).2;omega,λr' y a0 hy hf=>by
  obtain ⟨_,_,sp',h9⟩:=hX.blk r' y a0 hy;have:=h9.lt;omega,sp,hC⟩)
 have a2:=(a1.over hv).chg hch (λr' y a0 hy=>(a1.blk r' y a0 hy).2.1);exact ⟨_,a2,⟨⟨_,by simpa using hO,a2⟩,by simpa using hs⟩⟩
end Go.Proofs.YtefaigjfkddelaaGreatDoor
