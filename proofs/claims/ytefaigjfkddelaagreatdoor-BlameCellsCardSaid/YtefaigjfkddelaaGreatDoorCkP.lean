/-
  Joined by program out of the texts Pas2 Pas3 Pas4 She2 Rev Blb3 Hea BlaW Tol2 TextP BlrP BookA.
-/
import Derived.Test.YtefaigjfkddelaaGreatDoorCkO
import Derived.Test.YtefaigjfkddelaaGreatDoorCkE
import Derived.Test.YtefaigjfkddelaaGreatDoorShelf
import Derived.Shelf.Slices.ReverseS
import Derived.Shelf.Slices.Cells
import Derived.Test.YtefaigjfkddelaaGreatDoorProg
import Derived.Test.YtefaigjfkddelaaGreatDoorCkA
import Derived.Test.YtefaigjfkddelaaGreatDoorCkH
import Derived.Test.YtefaigjfkddelaaGreatDoorCkK
import Derived.Test.YtefaigjfkddelaaGreatDoorCkJ
import Derived.Test.YtefaigjfkddelaaGreatDoorCkL
import Derived.Test.YtefaigjfkddelaaGreatDoorCkG
namespace Go.Proofs.YtefaigjfkddelaaGreatDoor
open Go Go.E
theorem Mr {P:Ax→Bool}:∀{l:As} {k:Nat} {c:Ax},l[k]?=some c→P c=true→(∀j d,j<k→l[j]?=some d→P d=false)→l.findIdx? P=some k
 | [],_,_,h,_,_=>by simp at h
 | c::l,0,d,h,hp,_=>by
  simp at h;subst h
  simp [List.findIdx?_cons,hp]
 | c::l,k+1,d,h,hp,hn=>by
  rw [List.findIdx?_cons,hn 0 c (by omega) rfl,Mr (k:=k) (by simpa using h) hp λj u hj hu=>hn (j+1) u (by omega) (by simpa using hu)];rfl
theorem It {P:Ax→Bool} {l:As} (h:∀j d,j<l.length→l[j]?=some d→P d=false):l.findIdx? P=none:=by
 rw [List.findIdx?_eq_none_iff];intro c hc;obtain ⟨j,hj⟩:=List.getElem?_of_mem hc;exact h j c (List.getElem?_eq_some_iff.1 hj).1 hj
theorem MV (l:As) (id:List UInt8):l.findIdx? (λc=>decide (c.id=id))=D6 l id:=by
 cases e:D6 l id with
 | none=>
  exact It λj d _ hd=>by have:=H6 e d (List.mem_of_getElem? hd);simp [this]
 | some k=>
  obtain ⟨c,h1,h2,h3⟩:=Es e;exact Mr h1 (by simp [h2]) λj d hj hd=>by have:=h3 j d hj hd;simp [this]
theorem EP (l:As) (lv:Value) (P:Ax→Bool) (g:FuncId) (cs:List Value) (w:World) (h:DK w lv l)
  (hg:∀w',Ag w w'→∀i c q n bp bn bc a k,l[i]?=some c→lv=.slice (some a) l.length k→(∀j u,(Cw c (.slice q c.parents.length n) (.slice bp bn bc))[j]?=some u→w'.cell? ((a.add (((i:Nat):Int).toNat*4)).add j)=some u)→AL Tryz.prog g (.agg ⟨Cw c (.slice q c.parents.length n) (.slice bp bn bc)⟩::cs) w' (λv w''=>v=.bool (P c)∧Ag w' w'')) :
  AL Tryz.prog 28 [lv,.func (.func g) ⟨[]⟩ ⟨cs⟩] w (λv w'=>v=.int .i64 (Nt (l.findIdx? P))∧Ag w w'):=by
 obtain ⟨p,c,rfl⟩:=h.slice;have hl:=h.1;refine Br Tryz.func28 Tryz.ntmps28 ?_;refine Sa ?_;refine CW.loop (ι:=Nat) (λk w'=>k≤l.length∧Ag w w'∧∀i u,i<k→l[i]?=some u→P u=false) (λk=>[(0,.slice p l.length c),(1,.func (.func g) ⟨[]⟩ ⟨cs⟩),(7,.int .i64 l.length),(8,.int .i64 k)]) (λk=>l.length - k) 0 ⟨by omega,Chg.refl _ _,λi u h=>by omega⟩ BU ?_;rintro k w1 ⟨hk,hx,a1⟩;replace h:=h.ext hx;refine Sa ?_;refine A4 (λh2=>?_) λh2=>?_
 ·have h2:k<l.length:=by simp at h2;omega
  obtain ⟨cm,hs⟩:∃s,l[k]?=some s:=⟨_,List.getElem?_eq_getElem h2⟩;obtain ⟨a,q,n,bp,bn,bc,rfl,-,a0⟩:=DK.at' h hs;refine Sa ?_;refine Lo ?_;refine LW.load_cells rfl a0 rfl rfl rfl rfl ?_;refine Sa ?_;refine LW.call (fs:=[]) (cs:=cs) rfl rfl rfl (hg w1 hx k cm q n bp bn bc a c hs rfl a0) ?_;rintro v w2 ⟨rfl,a2⟩;refine Sa ?_;refine A4 (λh3=>?_) λh3=>?_
  ·refine Sa ?_;exact QW.body1 Tryz.results28 rfl ⟨by rw [Mr hs h3 a1];rfl,hx.trans a2⟩
  ·refine Sa ?_;refine QW.again (k+1) ⟨by omega,hx.trans a2,λi u hi hu=>?_⟩ BU (by omega);rcases Nat.lt_or_ge i k with h4 | h4
   ·exact a1 i u h4 hu
   ·obtain rfl:i=k:=by omega
    rw [hs] at hu;obtain rfl:=Option.some.inj hu;exact h3
 ·have h2:k=l.length:=by simp at h2;omega
  subst h2;refine Sa ?_;refine QW.body1 Tryz.results28 rfl ⟨?_,hx⟩;rw [It a1];rfl
theorem Pk (cm:Ax) (q bp:Option Addr) (m n bn bc A:Nat) (x:List UInt8) (w:World) (hA:Blk w A [Ap x] 9):AL Tryz.prog 59 [.agg ⟨Cw cm (.slice q m n) (.slice bp bn bc)⟩,.pointer (some ⟨A,0,none⟩)] w (λv w'=>v=.bool (decide (cm.id=x))∧Ag w w'):=by
 refine Br Tryz.func59 Tryz.ntmps59 ?_;refine Sa ?_;refine Ei λX w1 a1 a0 hX=>?_;replace hX:Blk w1 X (Cw cm (.slice q m n) (.slice bp bn bc)) 31:=hX;replace hA:=hA.ext a0;refine Sa ?_;exact QW.body1 Tryz.results59 rfl ⟨by simp,a0⟩
theorem GB (l:As) (lv:Value) (x:List UInt8) (w:World) (h:DK w lv l):AL Tryz.prog 42 [lv,Ap x] w (λv w'=>v=.int .i64 (Nt (D6 l x))∧Ag w w'):=by
 obtain ⟨p,c,rfl⟩:=h.slice;refine Br Tryz.func42 Tryz.ntmps42 ?_;refine Sa ?_;refine Ei λA w1 a2 a0 hA=>?_;replace hA:Blk w1 A [Ap x] 9:=hA;refine Sa ?_;refine AE rfl rfl (EP l _ (λc=>decide (c.id=x)) 59 [.pointer (some ⟨A,0,none⟩)] w1 (h.ext a0) λw' hx i cm q n bp bn bc a k _ _ _=>Pk cm q bp _ n bn bc A x w' (hA.ext hx)) ?_;rintro v w2 ⟨rfl,a1⟩;refine Sa ?_;exact QW.body1 Tryz.results42 rfl ⟨by rw [MV],a0.trans a1⟩
set_option maxRecDepth 8000 in
set_option maxHeartbeats 2000000 in
theorem R0 (l:As) (v:Value) (id:List UInt8) (w:World) (h:DK w v l) (hm:Ew l=true) (hl:l.length≤1000):AL Tryz.prog 26 [v,Ap id] w (λr w'=>E.Ay w' w.heap.size 9 1 r (BC l id).length ((BC l id).map Ap)∧Ag w w'):=by
 obtain ⟨p,c,rfl⟩:=h.slice;have ah:=LG hm id;have h0:=h;refine Br Tryz.func26 Tryz.ntmps26 ?_;refine Sa ?_;refine AE rfl rfl (GB l _ id w h) ?_;rintro v w1 ⟨rfl,aa⟩;refine Sa ?_;refine CW.loop (ι:=List Nat×List UInt8×Value) (λx w'=>x.1++CF l l.length (D6 l x.2.1)=Bz l id∧Ag w w'∧E.Ay w' w.heap.size 9 1 x.2.2 x.1.length ((x.1.map (SL l)).map Ap)) (λx=>[(0,.slice p l.length c),(1,Ap x.2.1),(5,x.2.2),(6,.int .i64 (Nt (D6 l x.2.1)))]) (λx=>SW (D6 l x.2.1)) ([],id,.slice none 0 0) ⟨rfl,aa,E.Ay.nil _ _ _ _⟩ BU ?_;rintro ⟨dn,cur,ov⟩ w2 ⟨a0,a4,a5⟩;dsimp only at a0 a5;show CW _ _ _ _ _ [(0,.slice p l.length c),(1,Ap cur),(5,ov),(6,.int .i64 (Nt (D6 l cur)))] _;replace h:=h.ext a4;have ai:=a4.size
 cases ho:D6 l cur with
 | none=>
  rw [ho,Kg,List.append_nil] at a0;refine Sw ?_;refine QW.body1 Tryz.results26 rfl ⟨?_,a4⟩;rw [BC,←a0,List.length_map]
  exact a5
 | some k=>
  have hk:=GT ho;obtain ⟨cm,hc,a7,-⟩:=Es ho;rw [ho,Kh hm hc] at a0;have aj:dn.length<l.length:=by
   have e:=congrArg List.length a0;simp only [List.length_append,List.length_cons] at e;omega
  show CW _ _ _ _ _ [(0,.slice p l.length c),(1,Ap cur),(5,ov),(6,.int .i64 (k:Int))] _;refine Sw ?_;refine DG λC w3 ak a8 hC=>?_;have al:=a8.size;refine Sa ?_;refine LW.append (lo:=w.heap.size) (k:=dn.length) rfl rfl rfl rfl rfl rfl (a5.ext a8) (by omega) hC rfl rfl rfl (by show (_+1)*17≤_;omega) rfl ?_;intro v4 w4 ab ac _;have a3:E.Ay w4 w.heap.size 9 1 v4 (dn++[k]).length (((dn++[k]).map (SL l)).map Ap):=by
   rw [List.length_append,List.map_append,List.map_append];simp only [List.map_cons,List.map_nil,Mv hc,a7];exact ac
  have a1:=(a4.trans a8).step ab (λb hb=>(a5.lt hb).1);obtain ⟨a,q',n',bv',rfl,ad,a2⟩:=DK.at (h0.ext a1) hc;have ae:=a2 1 _ rfl;refine Sw ?_;refine A4 (λh2=>?_) λh2=>?_
  ·have h2:cm.parents=[]:=by
    cases e:cm.parents with
    | nil=>rfl
    | cons p r=>rw [e] at h2;simp at h2;omega
   rw [h2] at a0;refine Sw ?_;refine QW.body1 Tryz.results26 rfl ⟨?_,a1⟩;rw [BC,←a0,List.length_map];exact a3
  obtain ⟨pp,pr,a6⟩:∃s r,cm.parents=s::r:=by
   cases e:cm.parents with
   | nil=>rw [e] at h2;simp at h2
   | cons p r=>exact ⟨p,r,rfl⟩
  obtain ⟨j,hj,am⟩:=DO hm hc (p:=pp) (by rw [a6];exact List.mem_cons_self ..);have an:0<cm.parents.length:=by rw [a6];simp
  obtain ⟨qa,rfl,-,af⟩:=ad.at (i:=0) (s:=pp) (by rw [a6];rfl);rw [a6] at a0;simp only at a0;have ag:w4.cell? (qa.add 0)=some (Ap pp):=af;refine Sw ?_;refine AE rfl rfl (GB l _ pp w4 (h0.ext a1)) ?_;rintro v w5 ⟨rfl,a9⟩;refine Sa ?_;refine QW.again (dn++[k],pp,v4) ⟨by show (dn++[k])++CF l l.length (D6 l pp)=_;rw [List.append_assoc];exact a0,a1.trans a9,a3.ext a9⟩ BU ?_;show SW (D6 l pp)<SW (some k);rw [hj];show j+1<k+1;omega
theorem LJ {l:As} {i:Nat} {c:Ax} (hi:l[i]?=some c) (h:FW l i c=false):Ew l=false:=by
 rw [Ew,List.all_eq_false];refine ⟨i,List.mem_range.2 (List.getElem?_eq_some_iff.1 hi).1,?_⟩;rw [hi];simp [h]
theorem PX {l:As} (h:∀i c,i<l.length→l[i]?=some c→FW l i c=true):Ew l=true:=by
 rw [Ew,List.all_eq_true];intro i hi
 cases e:l[i]? with
 | none=>rfl
 | some c=>exact h i c (List.mem_range.1 hi) e
def Jf (l:As) (k:Nat) (c:Ax):Bool:=(D6 (l.take k) c.id).isSome||decide (2<c.parents.length)||(decide (c.parents.length=2)&&decide (c.parents[0]?=c.parents[1]?))
theorem Kl (l:As) (k:Nat) (c:Ax):FW l k c=(!Jf l k c&&c.parents.all λp=>(D6 (l.take k) p).isSome):=by
 unfold FW Jf
 congr 1
 cases (D6 (l.take k) c.id)<;>by_cases h:c.parents.length≤2<;>simp [h]<;>omega
theorem D5.two {w:World} {p:Option Addr} {c:Nat} {l:List (List UInt8)} (h:D5 w (.slice p l.length c) l) (h2:l.length=2):∃a s t,p=some a∧l[0]?=some s∧l[1]?=some t∧w.cell? (a.add 0)=some (Ap s)∧w.cell? (a.add 1)=some (Ap t):=by
 obtain ⟨s,hs⟩:∃s,l[0]?=some s:=⟨_,List.getElem?_eq_getElem (by omega)⟩;obtain ⟨t,ht⟩:∃s,l[1]?=some s:=⟨_,List.getElem?_eq_getElem (by omega)⟩;obtain ⟨a,rfl,-,h0⟩:=h.at hs;obtain ⟨b,e,-,h1⟩:=h.at ht;obtain rfl:=Option.some.inj e;exact ⟨a,s,t,rfl,hs,ht,h0,h1⟩
theorem Ry {l:As} {k:Nat} {c:Ax} (hc:l[k]?=some c):(D6 (l.take k) c.id).isSome=!decide (Nt (D6 l c.id)=(k:Int)):=by
 cases e:D6 (l.take k) c.id with
 | some j=>
  obtain ⟨h1,h2⟩:=MX e;rw [h1];have:¬((j:Nat):Int)=(k:Int):=by omega
  simp [Nt,this]
 | none=>
  have:D6 l c.id=some k:=JB hc rfl λj d hj hd=>H6 e d (List.mem_of_getElem? (i:=j) (by rw [List.getElem?_take_of_lt hj];exact hd));rw [this];simp [Nt]
set_option maxRecDepth 8000 in
set_option maxHeartbeats 40000000 in
theorem Tq (l:As) (v:Value) (w:World) (h:DK w v l) (hcap:∀p n c,v=.slice p n c→n≤c):AL Tryz.prog 22 [v] w (λr w'=>r=.bool (Ew l)∧Ag w w'):=by
 obtain ⟨p,c,rfl⟩:=h.slice;have hl:=h.1;have ae:=hcap _ _ _ rfl;refine Br Tryz.func22 Tryz.ntmps22 ?_;refine Sa ?_;refine CW.loop (ι:=Nat) (λk w'=>k≤l.length∧Ag w w'∧∀i c,i<k→l[i]?=some c→FW l i c=true) (λk=>[(0,.slice p l.length c),(7,.slice p l.length c),(8,.int .i64 l.length),(9,.int .i64 k)]) (λk=>l.length - k) 0 ⟨by omega,Chg.refl _ _,λ_ _ h=>by omega⟩ BU ?_;rintro k w1 ⟨hk,hx,a8⟩;replace h:=h.ext hx;refine Sa ?_;refine A4 (λh2=>?_) λh2=>?_;rotate_left
 ·have h2:k=l.length:=by simp at h2;omega
  subst h2;refine Sa ?_;exact QW.body1 Tryz.results22 rfl ⟨by rw [PX a8],hx⟩
 have h2:k<l.length:=by simp at h2;omega
 obtain ⟨cm,hc⟩:∃s,l[k]?=some s:=⟨_,List.getElem?_eq_getElem h2⟩;obtain ⟨a,q,n,bp,bn,bc,rfl,hp,a2⟩:=DK.at' h hc;have af:=hp.1;have hT:=BE.take (i:=k) h rfl (by omega);have ag:(l.take k).length=k:=by simp;omega
 refine Sa ?_;refine Lo ?_;refine LW.load_cells rfl a2 rfl rfl rfl rfl ?_;refine Sa ?_;refine D4 λX w2 ah ab hX=>?_;have ai:=hX.lt;refine Sa ?_;refine Cj λw3 ac hX=>?_;replace hX:Blk w3 X (Cw cm (.slice q cm.parents.length n) (.slice bp bn bc)) 31:=hX;have a0:Ag w1 w3:=ab.step ac (by simp;omega);replace h:=h.ext a0;replace hp:=hp.ext a0;replace hT:=DK.ext hT a0;refine Sw ?_;refine CW.cut (ι:=Unit) (λ_ w'=>Ag w3 w') (λ_=>[(0,.slice (some a) l.length c),(7,.slice (some a) l.length c),(8,.int .i64 l.length),(9,.int .i64 k),(3,.int .i64 k),(4,.pointer (some ⟨X,0,none⟩)),(42,.bool (Jf l k cm))]) ?_ ?_
 ·refine CW.drawG (Ag w3) 28 (λw' h=>h) (by kernel_rfl) λwa aj=>?_;refine Cy ?_;refine Fu 3 λhS=>?_;refine AE rfl rfl (GB l _ cm.id _ (h.ext hS)) ?_;rintro v w4 ⟨rfl,a3⟩;have ad:=hS.trans a3;clear hS;apply LW.nil;refine QW.headed ad ?_;have a6:=Ry hc
  cases ho:D6 (l.take k) cm.id with
  | some j=>
   have hb:Jf l k cm=true:=by simp [Jf,ho]
   refine Cy ?_;refine GW.know (t:=20) (c:=true) rfl (by rw [ho] at a6;simpa using a6) ?_;refine Cy ?_;refine GW.know (t:=26) (c:=true) rfl (by simp) ?_;refine Cy ?_;refine GW.tail rfl (by kernel_rfl) (λhS=>?_);refine Sa ?_
   exact QW.head () hS (by rw [hb];exact ((Af.cons rfl (Af.cons rfl (Af.cons rfl (Af.cons rfl (Af.cons rfl (Af.cons rfl (Af.cons rfl (Af.nil))))))))))
  | none=>
   refine Cy ?_;refine GW.know (t:=20) (c:=false) rfl (by rw [ho] at a6;simpa using a6) ?_;refine Cy ?_;by_cases h3:2<cm.parents.length
   ·have hb:Jf l k cm=true:=by simp [Jf,ho,h3]
    refine GW.know (t:=26) (c:=true) rfl (by simp;omega) ?_;refine Cy ?_;refine GW.tail rfl (by kernel_rfl) (λhS=>?_);refine Sa ?_;exact QW.head () hS (by rw [hb];exact ((Af.cons rfl (Af.cons rfl (Af.cons rfl (Af.cons rfl (Af.cons rfl (Af.cons rfl (Af.cons rfl (Af.nil))))))))))
   refine GW.know (t:=26) (c:=false) rfl (by simp;omega) ?_;refine Cy ?_;by_cases h4:cm.parents.length=2;rotate_left
   ·have hb:Jf l k cm=false:=by simp [Jf,ho,h3,h4]
    refine GW.know (t:=31) (c:=false) rfl (by simp;omega) ?_;refine Cy ?_;refine GW.tail rfl (by kernel_rfl) (λhS=>?_);refine Sa ?_;exact QW.head () hS (by rw [hb];exact ((Af.cons rfl (Af.cons rfl (Af.cons rfl (Af.cons rfl (Af.cons rfl (Af.cons rfl (Af.cons rfl (Af.nil))))))))))
   obtain ⟨qa,s,t,rfl,hs,ht,ak,al⟩:=D5.two hp h4;have hb:Jf l k cm=decide (s=t):=by rw [Jf,ho,hs,ht,h4];simp
   refine GW.know (t:=31) (c:=true) rfl (by simp;omega) ?_;refine Cy ?_;refine GW.tail rfl (by kernel_rfl) (λhS=>?_);refine Sa ?_;exact QW.head () hS (by rw [hb];exact ((Af.cons rfl (Af.cons rfl (Af.cons rfl (Af.cons rfl (Af.cons rfl (Af.cons rfl (Af.cons rfl (Af.nil))))))))))
 rintro ⟨⟩ w4 a3;show CW _ _ _ _ _ [(0,.slice (some a) l.length c),(7,.slice (some a) l.length c),(8,.int .i64 l.length),(9,.int .i64 k),(3,.int .i64 k),(4,.pointer (some ⟨X,0,none⟩)),(42,.bool (Jf l k cm))] _;have a4:=(hx.trans a0).trans a3;replace hX:=hX.ext a3;refine Sa ?_;refine A4 (λh3=>?_) λh3=>?_
 ·refine Sa ?_;exact QW.body1 Tryz.results22 rfl ⟨by rw [LJ hc (by rw [Kl,h3];rfl)],a4⟩
 refine Sa ?_;refine CW.loop (ι:=Nat) (λj w'=>j≤cm.parents.length∧Ag w4 w'∧∀i s,i<j→cm.parents[i]?=some s→(D6 (l.take k) s).isSome=true) (λj=>[(0,.slice (some a) l.length c),(7,.slice (some a) l.length c),(8,.int .i64 l.length),(9,.int .i64 k),(3,.int .i64 k),(44,.slice q cm.parents.length n),(45,.int .i64 cm.parents.length),(46,.int .i64 j)]) (λj=>cm.parents.length - j) 0 ⟨by omega,Chg.refl _ _,λ_ _ h=>by omega⟩ Q9 ?_;rintro j w5 ⟨hj,a7,a9⟩;have a1:=a3.trans a7;have a5:=a4.trans a7;replace h:=h.ext a1;replace hp:=hp.ext a1;replace hT:=DK.ext hT a1;refine Sw ?_;refine A4 (λh4=>?_) λh4=>?_;rotate_left
 ·have h4:j=cm.parents.length:=by simp at h4;omega
  subst h4;refine Sw ?_;refine QW.again (k+1) ⟨by omega,a5,λi d hi hd=>?_⟩ BU (by omega);by_cases e:i=k
  ·subst e;rw [hc] at hd;obtain rfl:=Option.some.inj hd;rw [Kl,h3,List.all_eq_true.2 λs hs=>?_]
   ·rfl
   ·obtain ⟨i,hi⟩:=List.getElem?_of_mem hs;exact a9 i s (List.getElem?_eq_some_iff.1 hi).1 hi
  ·exact a8 i d (by omega) hd
 have h4:j<cm.parents.length:=by simp at h4;omega
 obtain ⟨s,hs⟩:∃s,cm.parents[j]?=some s:=⟨_,List.getElem?_eq_getElem h4⟩;obtain ⟨qa,rfl,-,am⟩:=hp.at hs;refine Sw ?_;refine LW.slice_hi (j:=k) rfl rfl rfl rfl rfl (by omega) rfl ?_;refine Sw ?_;refine AE rfl rfl (GB (l.take k) _ s _ hT) ?_;rintro v w6 ⟨rfl,aa⟩;refine Sa ?_;refine A4 (λh5=>?_) λh5=>?_
 ·have h5:(D6 (l.take k) s).isSome=false:=by
   cases ho:D6 (l.take k) s with
   | none=>rfl
   | some i=>
    rw [ho] at h5;have h6:((i:Nat):Int)<0:=of_decide_eq_true h5;omega
  refine Sa ?_;refine QW.body1 Tryz.results22 rfl ⟨?_,a5.trans aa⟩;rw [LJ hc];rw [Kl,Bool.and_eq_false_iff];exact .inr (List.all_eq_false.2 ⟨s,List.mem_of_getElem? hs,by rw [h5];simp⟩)
 ·have h5:(D6 (l.take k) s).isSome=true:=by
   cases ho:D6 (l.take k) s with
   | none=>
    rw [ho] at h5
    exact absurd (show (-1:Int)<0 by omega) (of_decide_eq_false h5)
   | some j=>rfl
  refine Sa ?_;refine QW.again (j+1) ⟨by omega,a7.trans aa,λi t hi ht=>?_⟩ Q9 (by omega);by_cases e:i=j
  ·subst e;rw [hs] at ht;obtain rfl:=Option.some.inj ht;exact h5
  ·exact a9 i t (by omega) ht
end Go.Proofs.YtefaigjfkddelaaGreatDoor
namespace Go.Proofs
open Go.Shelf
def Tryz.laysNm217_ren:Go.Shelf.Ren:=⟨λ| 17=>27 | n=>n,λ| 24=>26 | 9=>9 | 3=>3 | 4=>4 | 0=>0 | n=>n,λ| n=>n⟩
theorem Tryz.laysNm217:Go.Proofs.Lays2.n17 Tryz.prog Tryz.laysNm217_ren:={
 mixed:=by kernel_rfl
 f17:=Tryz.func27.trans (congrArg some (by kernel_rfl))
 t0:=Tryz.underlying0
 a0:=Tryz.isAgg0
 z0:=Tryz.sizeOf0
 v0:=Tryz.zeroValue0
 t3:=Tryz.underlying3
 a3:=Tryz.isAgg3
 z3:=Tryz.sizeOf3
 v3:=Tryz.zeroValue3
 t4:=Tryz.underlying4
 a4:=Tryz.isAgg4
 z4:=Tryz.sizeOf4
 v4:=Tryz.zeroValue4
 t9:=Tryz.underlying9
 a9:=Tryz.isAgg9
 z9:=Tryz.sizeOf9
 v9:=Tryz.zeroValue9
 t24:=Tryz.underlying26
 a24:=Tryz.isAgg26
 z24:=Tryz.sizeOf26
 v24:=Tryz.zeroValue26}
open Go.RowKit Go.Lib Go.Sort in
theorem Tryz.slices_Reverse_string (blk off cap:Nat) (zs:List (List UInt8)) (w:World) (hH:Holds encStr w blk off zs.toArray) (hsz:zs.length≤9223372036854775807) :
  Calls Tryz.prog 27 #[.slice (some ⟨blk,off,none⟩) zs.length cap] w λe w'=>e=.returned (.tuple #[])∧∃n,w'=putRow encStr (Sort.ahead w n) blk off zs.reverse.toArray:=Any.slices_Reverse_string Tryz.laysNm217 blk off cap zs w hH hsz
open Go.RowKit Go.Lib Go.Sort in
theorem Tryz.slices_Reverse_string_empty (a:Option Addr) (cap:Nat) (w:World) :
  Calls Tryz.prog 27 #[.slice a 0 cap] w λe w'=>e=.returned (.tuple #[])∧w'=w:=Any.slices_Reverse_string_empty Tryz.laysNm217 a cap w
end Go.Proofs
namespace Go.Proofs.YtefaigjfkddelaaGreatDoor
open Go Go.E Go.Sort
theorem HI (w:World) (g:Nat) (f:Array Value→Array Value):Chg [g] w (mapBlock w g f):=
 ⟨rfl,rfl,rfl,by simp [mapBlock],λk _ hk=>by
  have:¬g=k:=λe=>hk (by simp [e]);simp [mapBlock,Array.getElem?_modify,this]⟩
theorem R8 (l:List (List UInt8)) (xs sp:List Value) (h:xs.length=l.length):putCells (λs:List UInt8=>Ap s) 0 l.toArray ⟨xs++sp⟩=⟨l.map Ap++sp⟩:=by
 apply Array.ext_getElem?;intro j;simp only [putCells,Array.getElem?_mapIdx,List.getElem?_toArray,List.size_toArray,Nat.zero_add,Nat.zero_le,true_and,Nat.sub_zero];by_cases hj:j<l.length
 ·rw [List.getElem?_append_left (by omega),List.getElem?_append_left (by simpa using hj),List.getElem?_map,List.getElem?_eq_getElem (by omega),List.getElem?_eq_getElem hj];simp [hj]
 ·rw [List.getElem?_append_right (by omega),List.getElem?_append_right (by simp;omega),List.length_map,h];cases sp[j - l.length]?<;>simp [hj]
theorem MQ (l:List (List UInt8)) (v:Value) (lo:Nat) (w:World) (h:E.Ay w lo 9 1 v l.length (l.map Ap)) (hl:l.length≤1000000):AL Tryz.prog 27 [v] w (λr w'=>r=.tuple #[]∧E.Ay w' lo 9 1 v l.length (l.reverse.map Ap)∧Chg (Ad v) w w'):=by
 obtain ⟨a3,⟨rfl,h0⟩ | ⟨g,cap,sp,rfl,hB,hn,a1,a2⟩⟩:=h
 ·refine Ez (by kernel_rfl) (Tryz.slices_Reverse_string_empty none 0 w) λe w' ⟨he,hw⟩=>⟨_,he,rfl,?_,?_⟩
  ·have:l=[]:=List.eq_nil_of_length_eq_zero h0;subst this;exact E.Ay.nil _ _ _ _
  ·subst hw;exact Chg.refl _ _
 ·refine Ez (by kernel_rfl) (Tryz.slices_Reverse_string g 0 cap l w (λj hj=>⟨?_,?_⟩) (by omega)) λe w' ⟨he,n,hw⟩=>⟨_,he,rfl,?_,?_⟩
  ·have a0:j<l.length:=by simpa using hj
   rw [Nat.zero_add];refine hB.cell ?_;rw [List.getElem?_append_left (by simpa using a0),List.getElem?_map,List.getElem?_eq_getElem a0];simp [getElem!_pos,a0,Ap,encStr]
  ·unfold Blk at hB;simp [World.frozen?,hB]
  ·subst hw;refine ⟨by simp,.inr ⟨g,cap,sp,rfl,?_,hn,a1,a2⟩⟩;unfold Blk at hB ⊢;have e:=R8 l.reverse (l.map Ap) sp (by simp);simp only [putRow,mapBlock,Sort.ahead,Array.getElem?_modify,if_true,hB,Option.map_some,onCells];rw [show (encStr:List UInt8→Value)=λs=>Ap s from rfl,e]
  ·subst hw;exact ⟨rfl,rfl,rfl,(HI (Sort.ahead w n) g _).size,(HI (Sort.ahead w n) g _).block⟩
open Go Go.E
theorem MI.low {lo lo':Nat} {w:World} {v:Value} {ss:List BQ} (h:MI lo w v ss) (hl:lo'≤lo):MI lo' w v ss:=by
 obtain ⟨css,h1,h2,h3,h4⟩:=h;exact ⟨css,h1,h2,h3.low hl,λi x cs hi hc=>let ⟨rv,cv,e,o1,o2,n1,n2⟩:=h4 i x cs hi hc;⟨rv,cv,e,o1.low hl,o2.low hl,n1,n2⟩⟩
theorem CB.book {w:World} {a:Addr} {k:Nat} {l:As} (h:CB w (.slice (some a) l.length k) l) {i:Nat} {c:Ax} (hi:l[i]?=some c) {v:Value} (hc:w.cell? ((a.add (((i:Nat):Int).toNat*4)).add 2)=some v):∃bp bc,v=.slice bp c.book.length bc∧BR w (.slice bp c.book.length bc) c.book∧AX c.book=true:=by
 obtain ⟨a',q,n,bp,bc,e,-,h1,-,h2,h3⟩:=CB.at h hi;obtain rfl:=Option.some.inj e;have:=(h3 2 _ rfl).symm.trans hc;exact ⟨bp,bc,(Option.some.inj this).symm,h1,h2⟩
theorem MZ (c:Ax) (q bp:Option Addr) (m n bc:Nat) (w:World) (g:Cm w) (h:BR w (.slice bp c.book.length bc) c.book):AL Tryz.prog 24 [.agg ⟨Cw c (.slice q m n) (.slice bp c.book.length bc)⟩] w (λv w'=>v=.bool (!AX c.book)∧Ag w w'):=by
 refine Br Tryz.func24 Tryz.ntmps24 ?_;apply CW.seq;apply CW.region;refine Sl ?_;refine Ei λX w1 a2 a0 hX=>?_;replace hX:Blk w1 X (Cw c (.slice q m n) (.slice bp c.book.length bc)) 31:=hX;refine Sa ?_;refine LW.load_cells rfl (EX (i:=2) hX rfl) rfl rfl rfl rfl ?_;refine Sa ?_;refine AE rfl rfl (Sf c.book _ _ (g.ext a0) (AB.ext h a0)) ?_;rintro v w2 ⟨rfl,a1⟩;refine Sa ?_;exact QW.body1 Tryz.results24 rfl ⟨rfl,a0.trans a1⟩
theorem Mp (l:As) (lv:Value) (w:World) (g:Cm w) (h:CB w lv l):AL Tryz.prog 23 [lv,.func (.func 24) ⟨[]⟩ ⟨[]⟩] w (λv w'=>v=.bool false∧Ag w w'):=by
 obtain ⟨p,c,rfl⟩:=BE.slice h;refine Br Tryz.func23 Tryz.ntmps23 ?_;refine Sa ?_;refine AE rfl rfl (EP l _ (λc=>!AX c.book) 24 [] w h.past λw' hx i cm q n bp bn bc a k hi hs a0=>?_) ?_
 ·obtain ⟨rfl,-,rfl⟩:=Value.slice.inj hs;obtain ⟨bp',bc',e,h1,h2⟩:=CB.book (h.ext hx) hi (a0 2 _ rfl);obtain ⟨rfl,rfl,rfl⟩:=Value.slice.inj e;exact MZ cm q bp _ n bc w' (g.ext hx) h1
 rintro v w1 ⟨rfl,a1⟩;rw [It λj d _ hd=>by rw [(h.may d (List.mem_of_getElem? hd)).1];rfl];refine Sa ?_;exact QW.body1 Tryz.results23 rfl ⟨rfl,a1⟩
theorem Na (cm:Ax) (q bp:Option Addr) (m n bn bc A:Nat) (x:List UInt8) (w:World) (hA:Blk w A [Ap x] 9):AL Tryz.prog 29 [.agg ⟨Cw cm (.slice q m n) (.slice bp bn bc)⟩,.pointer (some ⟨A,0,none⟩)] w (λv w'=>v=.bool (decide (cm.id=x))∧Ag w w'):=by
 refine Br Tryz.func29 Tryz.ntmps29 ?_;refine Sa ?_;refine Ei λX w1 a1 a0 hX=>?_;replace hX:Blk w1 X (Cw cm (.slice q m n) (.slice bp bn bc)) 31:=hX;replace hA:=hA.ext a0;refine Sa ?_;exact QW.body1 Tryz.results29 rfl ⟨by simp,a0⟩
set_option maxRecDepth 8000 in
set_option maxHeartbeats 8000000 in
theorem JC (l:As) (v:Value) (id:List UInt8) (w:World) (g:Cm w) (h:CB w v l) (hcap:∀p n c,v=.slice p n c→n≤c) (hm:Ew l=true) (hl:l.length≤1000):AL Tryz.prog 13 [v,Ap id] w (λr w'=>∃rv f,Bl w.heap.size w' r (GV l id) rv f∧Ag w w'):=by
 obtain ⟨p,c,rfl⟩:=BE.slice h;have cv:=LG hm id;have c5:=Rl l id;have c6:=OZ h id;refine Br Tryz.func13 Tryz.ntmps13 ?_;refine Sw ?_;refine AE rfl rfl (Tq l _ w h.past hcap) ?_;rintro v w1 ⟨rfl,bb⟩;rw [hm];refine Sw ?_;refine AE rfl rfl (Mp l _ w1 (g.ext bb) (h.ext bb)) ?_;rintro v w2 ⟨rfl,c7⟩;have af:=bb.trans c7;refine Sw ?_;refine AE rfl rfl (R0 l _ id w2 (h.past.ext af) hm hl) ?_;rintro v w3 ⟨hO,c8⟩;have bd:=af.trans c8;refine Sw ?_;refine AE rfl rfl (MQ (BC l id) _ _ w3 hO (by omega)) ?_;rintro v0 w4 ⟨rfl,bu,c9⟩;have ag:Ag w w4:=bd.step c9 λb hb=>by have:=(hO.lt hb).1;have:=af.size;omega
 have ca:Dg w4 v (BC l id).reverse:=Ex (by rw [List.length_reverse];exact bu) (by rw [List.length_reverse];omega) (λs hs=>c6 s (List.mem_reverse.1 hs));obtain ⟨lp,lc,rfl⟩:=bu.slice;have cw:=ag.size;refine Sw ?_;refine D4 λA w5 cx be hA=>?_;have cb:=ag.trans be;have cy:=hA.lt;have cz:=be.size;refine Sw ?_;refine CW.loop (ι:=Nat×Value×Value) (λx w'=>x.1≤(BC l id).length∧Chg [A] w5 w'∧Blk w' A [x.2.2] 29∧(∃rv f,Bl w4.heap.size w' x.2.1 (Ev (DX l id ((BC l id).length - x.1))) rv f)∧(∀k c,0<x.1→(Bz l id)[(BC l id).length - x.1]?=some k→l[k]?=some c→∃bp bc,x.2.2=.slice bp c.book.length bc∧BR w (.slice bp c.book.length bc) c.book)) (λx=>[(0,.slice p l.length c),(6,x.2.1),(7,.pointer (some ⟨A,0,none⟩)),(27,.slice lp (BC l id).length lc),(28,.int .i64 (BC l id).length),(29,.int .i64 x.1)]) (λx=>(BC l id).length - x.1) (0,.slice none 0 0,.slice none 0 0) ⟨Nat.zero_le _,Chg.refl _ _,hA,⟨λ_=>.slice none 0 0,λ_ _=>0,?_⟩,λ_ _ h=>by omega⟩ GF ?_
 ·show Bl _ _ _ (Ev (DX l id ((BC l id).length - 0))) _ _;rw [Nat.sub_zero,DX,c5,List.drop_length];exact TJ
 rintro ⟨n,ov,bv⟩ w6 ⟨hn,b5,b6,⟨rv,f,ak⟩,bw⟩;dsimp only at hn b6 ak bw;show CW _ _ _ _ _ [(0,.slice p l.length c),(6,ov),(7,.pointer (some ⟨A,0,none⟩)),(27,.slice lp (BC l id).length lc),(28,.int .i64 (BC l id).length),(29,.int .i64 (n:Int))] _;have far:∀w',Chg [A] w5 w'→Ag w4 w':=λw' h=>be.step h (by simp;omega);have ah:=far _ b5;have a3:=ag.trans ah;have d0:=ah.size;have cc:=b5.size;refine Sw ?_;refine A4 (λh1=>?_) λh1=>?_;rotate_left
 ·have h1:n=(BC l id).length:=by simp at h1;omega
  subst h1;rw [Nat.sub_self] at ak;refine Sw ?_;exact QW.body1 Tryz.results13 rfl ⟨rv,f,ak.low (by omega),a3⟩
 have h1:n<(BC l id).length:=by simp at h1;omega
 obtain ⟨i,hi⟩:∃i,i=(BC l id).length - 1 - n:=⟨_,rfl⟩;obtain ⟨ki,al⟩:∃k,(Bz l id)[i]?=some k:=⟨_,List.getElem?_eq_getElem (by omega)⟩;obtain ⟨CC,am,bf,an⟩:=PW hm al;have cd:=GT an;have ce:(BC l id).reverse[n]?=some CC.id:=by
  rw [List.getElem?_reverse h1,←hi];exact bf
 have bg:=Au.ext ca ah;obtain ⟨la,eqa,-,-,d1⟩:=Au.at (p:=lp) (c:=lc) (by rw [List.length_reverse];exact bg) ce;subst eqa;refine Sw ?_;refine D4 λB w7 d2 cf hB=>?_;have d4:=hB.lt;refine Sw ?_;refine CH λw8 cg hB=>?_;replace hB:Blk w8 B [Ap CC.id] 9:=hB;have ao:Ag w6 w8:=cf.step cg (by simp;omega);have ap:=a3.trans ao;refine Sw ?_;refine AE rfl rfl (EP l _ (λc=>decide (c.id=CC.id)) 29 [.pointer (some ⟨B,0,none⟩)] w8 (h.past.ext ap) λw' hx i cm q n bp bn bc a k _ _ _=>Na cm q bp _ n bn bc B CC.id w' (hB.ext hx)) ?_;rintro v w9 ⟨rfl,bh⟩;rw [MV,an,show Nt (some ki)=(ki:Int) from rfl];replace hB:=hB.ext bh;have aq:=ao.trans bh;have ai:=ap.trans bh;obtain ⟨a,q1,qn1,bp1,bc1,eqb,-,a4,bi,ar,a1⟩:=CB.at h am;subst eqb;have bj:=AB.ext a4 ai;have d5:∀j u,([.slice bp1 CC.book.length bc1]:List Value)[j]?=some u→w9.cell? (((a.add (((ki:Nat):Int).toNat*4)).add 2).add j)=some u:=λj u hj=>by
  match j,hj with
  | 0,hj=>exact Aw ai (a1 2 u hj)
 have d6:=b6.ext aq;refine Sw ?_;refine CW.drawG (Ag w9) 7 (λw' h=>h) (by kernel_rfl) λwa bx=>?_;refine Cy ?_;refine Fu 6 λhS=>?_;refine AE rfl rfl (St CC.book _ CC.id _ (AB.ext bj hS) bi) ?_;rintro nv aj ⟨rv2,f2,aa,a2⟩;have ci:=hS.size;have bk:=hS.trans a2;clear hS;apply LW.nil;refine QW.headed bk ?_;refine GW.tail rfl (by kernel_rfl) (λhS=>?_);clear hS;generalize d7:wa=wb at bx a2 aa ci;obtain ⟨op,oc,rfl⟩:=aa.slice;have au:Ag w9 wb:=bx;have ab:=aq.trans au;have ac:=ai.trans au;have a0:=ab.trans a2;have av:=ac.trans a2;have cj:=a2.size;have ck:=ab.size;have a5:=b6.ext a0;have bz:∀j u,([.slice bp1 CC.book.length bc1]:List Value)[j]?=some u→aj.cell? (((a.add (((ki:Nat):Int).toNat*4)).add 2).add j)=some u:=λj u hj=>by
  match j,hj with
  | 0,hj=>exact Aw av (a1 2 u hj)
 have b7:(BC l id).length - (n+1)=i:=by omega
 refine Sa ?_;refine A4 (λh2=>?_) λh2=>?_;rotate_left
 ·have h2:n=0:=by have:¬(0:Int)<(n:Int):=of_decide_eq_false h2;omega
  subst h2;refine Sa ?_;refine CW.drawG (Ag aj) 7 (λw' h=>h) (by kernel_rfl) λwc c0=>?_;refine Cy ?_;refine GW.tail rfl (by kernel_rfl) (λhS=>?_);replace a5:=a5.ext hS;refine Sa ?_;refine Cj λb8 aw a5=>?_;have ax:Chg [A] w6 b8:=(a0.trans hS).chg.same aw;have bl:=(aa.ext hS).old aw (by simp;omega);refine Sw ?_;refine QW.again (0+1,_,_) ⟨by show 0+1≤_;omega,b5.same ax,a5,⟨rv2,f2,?_⟩,λk c _ hk hc=>?_⟩ GF (by show _ - (0+1)<_ - 0;omega)
  ·show Bl _ _ _ (Ev (DX l id ((BC l id).length - (0+1)))) _ _;rw [b7,QV al (by omega),Gv am];exact bl.low (by omega)
  ·have hk:(Bz l id)[(BC l id).length - (0+1)]?=some k:=hk;rw [b7,al] at hk;obtain rfl:=Option.some.inj hk;rw [am] at hc;obtain rfl:=Option.some.inj hc;exact ⟨bp1,bc1,rfl,a4⟩
 have h2:0<n:=by have:(0:Int)<(n:Int):=of_decide_eq_true h2;omega
 obtain ⟨kp,b9⟩:∃k,(Bz l id)[i+1]?=some k:=⟨_,List.getElem?_eq_getElem (by omega)⟩;obtain ⟨PP,ba,cl,cn⟩:=PW hm b9;have c1:(BC l id).length - n=i+1:=by omega
 obtain ⟨bp2,bc2,rfl,ay⟩:=bw kp PP h2 (by rw [c1];exact b9) ba;have az:=(h.may PP (List.mem_of_getElem? ba)).1;rw [c1] at ak;have d8:∀j u,([.slice bp2 PP.book.length bc2]:List Value)[j]?=some u→aj.cell? ((⟨A,0,none⟩:Addr).add j)=some u:=EX (i:=0) a5 rfl;refine Sa ?_;refine CW.drawG (Ag aj) 7 (λw' h=>h) (by kernel_rfl) λwc c0=>?_;refine Cy ?_;refine GW.tail rfl (by kernel_rfl) (λhS=>?_);have co:=a0.trans hS;clear hS;refine Sa ?_;refine Ei λD b8 d9 b0 hD=>?_;replace hD:Blk b8 D [.slice bp2 PP.book.length bc2,.slice bp1 CC.book.length bc1,.slice none 0 0] 58:=hD;have a6:Ag aj wc:=c0;have c2:=a6.size;have cp:=b0.size;have a7:=a6.trans b0;have b1:=a0.trans a7;have b2:=a3.trans b1;have cq:=a3.trans (a0.trans a6);have da:=hD.lt;have db:=a3.size;refine Sw ?_;refine LW.call (fs:=[.pointer (some ⟨D,0,none⟩)]) (cs:=[]) rfl rfl rfl (OH PP.book CC.book bp2 bp1 bc2 bc1 D w b8 b2 (by omega) ay a4 az ar hD) ?_;rintro v c3 ⟨rfl,sp,sc,cr,bm,bo⟩;have a8:Ag aj c3:=a7.step bo (by simp;omega);refine Sw ?_;refine LW.call (fs:=[.pointer (some ⟨D,0,none⟩)]) (cs:=[]) rfl rfl rfl (QG PP.book CC.book bp2 bp1 sp bc2 bc1 sc D (Ev (DX l id (i+1))) (FI CC.book CC.id) ov _ rv2 f2 wb aj c3 (g.ext ac) a2 a8 (AB.ext ay ac) (AB.ext a4 ac) az ar bm (by omega) (ak.ext ab).list (OE b9 ba) aa (Io _ _) (cr.low (by omega))) ?_;rintro v bq ⟨rfl,br,S,hS,bs⟩;have ae:Ag wb bq:=(a2.trans a8).step bs λb hb=>(hS b hb).1;have a9:=ab.trans ae;have ad:=b6.ext a9;have ct:=ae.size;have c4:∀j u,([.slice bp1 CC.book.length bc1]:List Value)[j]?=some u→bq.cell? (((a.add (((ki:Nat):Int).toNat*4)).add 2).add j)=some u:=λj u hj=>by
  match j,hj with
  | 0,hj=>exact Aw (a3.trans a9) (a1 2 u hj)
 refine Sw ?_;refine CW.drawG (Ag bq) 7 (λw' h=>h) (by kernel_rfl) λwd dc=>?_;refine Cy ?_;refine GW.tail rfl (by kernel_rfl) (λhS=>?_);replace ad:=ad.ext hS;refine Sa ?_;refine Cj λcu b3 ad=>?_;have b4:Chg [A] w6 cu:=(a9.trans hS).chg.same b3;have bt:=(br.ext hS).old b3 (by simp;omega);refine Sw ?_;refine QW.again (n+1,_,_) ⟨by show n+1≤_;omega,b5.same b4,ad,⟨rv2,f2,?_⟩,λk c _ hk hc=>?_⟩ GF (by show _ - (n+1)<_ - n;omega)
 ·show Bl _ _ _ (Ev (DX l id ((BC l id).length - (n+1)))) _ _;rw [b7,OG al b9 am ba];exact bt.low (by omega)
 ·have hk:(Bz l id)[(BC l id).length - (n+1)]?=some k:=hk;rw [b7,al] at hk;obtain rfl:=Option.some.inj hk;rw [am] at hc;obtain rfl:=Option.some.inj hc;exact ⟨bp1,bc1,rfl,a4⟩
def W2:Ah:=[⟨[65],1,[[[49]]]⟩]
def Wb:As:=[⟨[97],[],W2,[]⟩]
theorem Uf:AX W2=true:=by decide +kernel
theorem Ug:Ew Wb=true:=by decide +kernel
theorem QP:GV Wb [97]=[[[[97]]]]:=rfl
theorem D8 {w:World} {A m:Nat} {cs:List Value} {T:TypeId} (h:Blk w A cs T):∀j u,cs[j]?=some u→w.cell? (((⟨A,0,none⟩:Addr).add (0*m)).add j)=some u:=λj u hj=>by
 rw [Nat.zero_mul,Ao,Ao];refine h.cell ?_
 simpa using hj
set_option maxRecDepth 8000 in
set_option maxHeartbeats 4000000 in
theorem IE (w:World) (g:Cm w):AL Tryz.prog 9 [] w (λv w'=>v=.bool true∧Ag w w'):=by
 refine Br Tryz.func9 Tryz.ntmps9 ?_;refine Sa ?_;refine DG λR w1 ae a5 hR=>?_;replace hR:Blk w1 R [Ap [49]] 9:=hR;refine Sa ?_;refine DG λU w2 af a4 hU=>?_;replace hU:Blk w2 U [.slice (some ⟨R,0,none⟩) 1 1] 26:=hU;refine Sa ?_;refine DG λB w3 ag a6 hB=>?_;replace hB:Blk w3 B [Ap [65],.int .i64 1,.slice (some ⟨U,0,none⟩) 1 1] 41:=hB;refine Sa ?_;refine D4 λA w4 ah a7 hA=>?_;refine Sa ?_;refine Cj λw5 a8 hA=>?_;replace hA:Blk w5 A [.slice (some ⟨B,0,none⟩) 1 1] 29:=hA;have a3:Ag w3 w5:=a7.step a8 (by simp;omega);refine Sa ?_;refine DG λC w6 ai a9 hC=>?_;replace hC:Blk w6 C [Ap [97],.slice none 0 0,.slice (some ⟨B,0,none⟩) 1 1,Ap []] 31:=hC;have a1:=a3.trans a9;have a0:=a6.trans a1;have a2:=a5.trans (a4.trans a0);have aa:=(hR.ext a4).ext a0;have ab:=hU.ext a0;have ac:=hB.ext a1;have hP:CB w6 (.slice (some ⟨C,0,none⟩) 1 1) Wb:=⟨by decide,.inr ⟨_,1,rfl,λi x hi=>by
  match i,hi with
  | 0,hi=>
   obtain rfl:=Option.some.inj hi;refine ⟨_,rfl,⟨.slice none 0 0,.slice (some ⟨B,0,none⟩) 1 1,rfl,⟨by decide,.inl ⟨rfl,rfl⟩⟩,by decide,⟨by decide,.inr ⟨_,1,rfl,λ_=>trivial,λi x hi=>?_⟩⟩,Uf⟩,D8 hC⟩
   match i,hi with
   | 0,hi=>
    obtain rfl:=Option.some.inj hi;refine ⟨_,rfl,⟨.slice (some ⟨U,0,none⟩) 1 1,rfl,by decide,⟨by decide,.inr ⟨_,1,rfl,λ_=>trivial,λi x hi=>?_⟩⟩⟩,D8 ac⟩
    match i,hi with
    | 0,hi=>
     obtain rfl:=Option.some.inj hi;refine ⟨_,rfl,⟨.slice (some ⟨R,0,none⟩) 1 1,rfl,⟨by decide,.inr ⟨_,1,rfl,λ_=>trivial,λi x hi=>?_⟩⟩⟩,D8 ab⟩
     match i,hi with
     | 0,hi=>
      obtain rfl:=Option.some.inj hi;exact ⟨_,rfl,⟨rfl,by decide⟩,D8 aa⟩⟩⟩
 refine Sa ?_;refine AE rfl rfl (JC Wb _ [97] w6 (g.ext a2) hP (λp n c e=>by obtain ⟨-,rfl,rfl⟩:=Value.slice.inj e;exact Nat.le_refl _) Ug (by decide)) ?_;rintro v w7 ⟨rv,f,hT,ad⟩;rw [QP] at hT;obtain ⟨T,ct,M,cm,cx,hv,h1,h2,-,sp,h3⟩:=hT.at (i:=0) (row:=0) rfl rfl (by decide);have hv:v=.slice (some ⟨T,0,none⟩) 1 ct:=hv;subst hv;have aj:w7.cell? ((⟨T,0,none⟩:Addr).add ((0:Int).toNat*1))=some (.slice (some ⟨M,0,none⟩) 1 cm):=h1;have ak:w7.cell? ((⟨M,0,none⟩:Addr).add ((0:Int).toNat*1))=some (.slice (some ⟨f 0 0,0,none⟩) 1 cx):=h2;have al:w7.cell? ((⟨f 0 0,0,none⟩:Addr).add ((0:Int).toNat*1))=some (Ap [97]):=by
  rw [Ao];exact h3.cell rfl
 clear h1 h2;refine Sw ?_;exact QW.body1 Tryz.results9 rfl ⟨rfl,a2.trans ad⟩
theorem HM (n:Int) (b0:-9223372036854775808≤n) (b1:n≤9223372036854775807):Dc (Lib.itoa n)=true:=by
 obtain ⟨c1,c2,c3⟩:=Rr b0 b1;have a0:=Lib.itoa_length_le n b0 b1;have n39:¬(Lib.itoa n=[]∨Ae (Lib.itoa n) 0=39):=by
  rintro (h | h)
  ·exact c2 h
  ·omega
 rw [Dc,if_neg (by omega),if_neg n39,if_neg (by omega),c1];simp
theorem Rn (r:Nat) (h:r<8):Dc (Lib.itoa ((100+r:Nat):Int))=true:=HM _ (by omega) (by omega)
def SK (r:List (List UInt8)):Prop:=(r.length:Int)=2∧∀t∈r,Dc t=true
theorem Pw {rows:List (List (List UInt8))} (hl:rows.length≤24) (h:∀r∈rows,SK r):AX [⟨[65],2,rows⟩]=true:=by
 refine CY.2 ⟨by simp,λs hs=>?_,List.pairwise_singleton _ _⟩;simp only [List.mem_singleton] at hs;subst hs;simp only [BX,Bool.and_eq_true,List.all_eq_true,decide_eq_true_eq];exact ⟨⟨⟨⟨by decide +kernel,by decide⟩,by decide⟩,hl⟩,λr hr=>⟨(h r hr).1,(h r hr).2⟩⟩
theorem BB.snoc {lo:Nat} {w0 w1 w':World} {v v':Value} {rows:List (List (List UInt8))} {row:List (List UInt8)} {xs:List Value} {g:Nat→Nat} {C k:Nat} {sp:List Value} (hs:rows.length+1≤1000000) (hO0:E.Ay w0 lo 26 1 v rows.length xs) (hX:BN lo w0 xs rows g (Ad v)) (x:Ag w0 w1) (_hr:row≠[]) (hrl:row.length≤1000000∧∀t∈row,t.length≤1000000) (hC:Blk w1 C (row.map Ap++sp) 9) (hC0:w0.heap.size≤C) (hlo:lo≤w0.heap.size)
  (hch:Chg (Ad v) w1 w') (hv:∀j,j∈Ad v'→j∈Ad v∨w1.heap.size≤j) (hO:E.Ay w' lo 26 1 v' (rows.length+1) (xs++[.slice (some ⟨C,0,none⟩) row.length k])):∃g',BN lo w' (xs++[.slice (some ⟨C,0,none⟩) row.length k]) (rows++[row]) g' (Ad v')∧BB lo w' v' (rows++[row]) g':=by
 have hz:=x.size;have a3:Au (λa=>a=⟨C,0,none⟩) w1 (.slice (some ⟨C,0,none⟩) row.length k) row:=⟨hrl.1,.inr ⟨⟨C,0,none⟩,k,rfl,λ_=>rfl,λi t hi=>⟨[Ap t],rfl,⟨rfl,hrl.2 t (List.mem_of_getElem? hi)⟩,λj u hj=>by
  match j,hj with
  | 0,hj=>
   obtain rfl:=Option.some.inj hj;rw [Ao,Ao];refine hC.cell ?_;have a4:=(List.getElem?_eq_some_iff.1 hi).1;rw [show 0+i*1+0=i by omega,List.getElem?_append_left (by simpa using a4),List.getElem?_map,hi];rfl⟩⟩⟩
 have a1:=(hX.ext x).push a3 (λ_=>⟨by omega,λhb=>by have:=(hO0.lt hb).2;omega,λr' y a0 hy hf=>by
  obtain ⟨_,_,sp',h9⟩:=hX.blk r' y a0 hy;have:=h9.lt;omega,sp,hC⟩)
 have a2:=(a1.over hv).chg hch (λr' y a0 hy=>(a1.blk r' y a0 hy).2.1);exact ⟨_,a2,⟨⟨_,by simpa using hO,a2⟩,by simpa using hs⟩⟩
theorem Dv.old {S:List Nat} {lo:Nat} {w w':World} {v:Value} {b:Ah} {rv:Nat→Value} {f:Nat→Nat→Nat} (h:Dv lo w v b rv f) (x:Chg S w w') (hs:∀y,y∈S→y<lo):Dv lo w' v b rv f:=
 ⟨h.own.chg x (λy hy he=>by have:=(h.own.lt hy).1;have:=hs y he;omega),h.names,h.small,h.sub.chg x (λi s hi hs' y hy he=>by have:=((h.sub.rows i s hi hs').lt hy).1;have:=hs y he;omega)⟩
end Go.Proofs.YtefaigjfkddelaaGreatDoor
