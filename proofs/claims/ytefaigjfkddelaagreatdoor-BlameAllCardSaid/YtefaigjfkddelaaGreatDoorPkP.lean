/-
  Joined by program out of the texts Pas2 Pas3 Pas4 She2 Rev Blb3 Hea BlaW Tol2 Law26A.
-/
import Derived.Test.YtefaigjfkddelaaGreatDoorPkO
import Derived.Test.YtefaigjfkddelaaGreatDoorPkE
import Derived.Test.YtefaigjfkddelaaGreatDoorShelf
import Derived.Shelf.Slices.ReverseS
import Derived.Shelf.Slices.Cells
import Derived.Test.YtefaigjfkddelaaGreatDoorProg
import Derived.Test.YtefaigjfkddelaaGreatDoorPkA
import Derived.Test.YtefaigjfkddelaaGreatDoorPkH
import Derived.Test.YtefaigjfkddelaaGreatDoorPkK
import Derived.Test.YtefaigjfkddelaaGreatDoorPkJ
import Derived.Test.YtefaigjfkddelaaGreatDoorPkL
namespace Go.Proofs.YtefaigjfkddelaaGreatDoor
open Go Go.E
theorem O6 {P:AF→Bool}:∀{l:AA} {k:Nat} {c:AF},l[k]?=some c→P c=true→(∀j d,j<k→l[j]?=some d→P d=false)→l.findIdx? P=some k
 | [],_,_,h,_,_=>by simp at h
 | c::l,0,d,h,hp,_=>by
  simp at h;subst h
  simp [List.findIdx?_cons,hp]
 | c::l,k+1,d,h,hp,hn=>by
  rw [List.findIdx?_cons,hn 0 c (by omega) rfl,O6 (k:=k) (by simpa using h) hp λj u hj hu=>hn (j+1) u (by omega) (by simpa using hu)];rfl
theorem Ka {P:AF→Bool} {l:AA} (h:∀j d,j<l.length→l[j]?=some d→P d=false):l.findIdx? P=none:=by
 rw [List.findIdx?_eq_none_iff];intro c hc;obtain ⟨j,hj⟩:=List.getElem?_of_mem hc;exact h j c (List.getElem?_eq_some_iff.1 hj).1 hj
theorem Ph (l:AA) (id:List UInt8):l.findIdx? (λc=>decide (c.id=id))=DI l id:=by
 cases e:DI l id with
 | none=>
  exact Ka λj d _ hd=>by have:=Jh e d (List.mem_of_getElem? hd);simp [this]
 | some k=>
  obtain ⟨c,h1,h2,h3⟩:=Gk e;exact O6 h1 (by simp [h2]) λj d hj hd=>by have:=h3 j d hj hd;simp [this]
theorem Gd (l:AA) (lv:Value) (P:AF→Bool) (g:FuncId) (cs:List Value) (w:World) (h:C6 w lv l)
  (hg:∀w',Ae w w'→∀i c q n bp bn bc a k,l[i]?=some c→lv=.slice (some a) l.length k→(∀j u,(B7 c (.slice q c.parents.length n) (.slice bp bn bc))[j]?=some u→w'.cell? ((a.add (((i:Nat):Int).toNat*4)).add j)=some u)→AB Tryz.prog g (.agg ⟨B7 c (.slice q c.parents.length n) (.slice bp bn bc)⟩::cs) w' (λv w''=>v=.bool (P c)∧Ae w' w'')) :
  AB Tryz.prog 28 [lv,.func (.func g) ⟨[]⟩ ⟨cs⟩] w (λv w'=>v=.int .i64 (DT (l.findIdx? P))∧Ae w w'):=by
 obtain ⟨p,c,rfl⟩:=h.slice;have hl:=h.1;refine AJ Tryz.func28 Tryz.ntmps28 ?_;refine Sa ?_;refine CW.loop (ι:=Nat) (λk w'=>k≤l.length∧Ae w w'∧∀i u,i<k→l[i]?=some u→P u=false) (λk=>[(0,.slice p l.length c),(1,.func (.func g) ⟨[]⟩ ⟨cs⟩),(7,.int .i64 l.length),(8,.int .i64 k)]) (λk=>l.length - k) 0 ⟨by omega,Chg.refl _ _,λi u h=>by omega⟩ B6 ?_;rintro k w1 ⟨hk,hx,a1⟩;replace h:=h.ext hx;refine Sa ?_;refine Am (λh2=>?_) λh2=>?_
 ·have h2:k<l.length:=by simp at h2;omega
  obtain ⟨cm,hs⟩:∃s,l[k]?=some s:=⟨_,List.getElem?_eq_getElem h2⟩;obtain ⟨a,q,n,bp,bn,bc,rfl,-,a0⟩:=C6.at' h hs;refine Sa ?_;refine Lo ?_;refine LW.load_cells rfl a0 rfl rfl rfl rfl ?_;refine Sa ?_;refine LW.call (fs:=[]) (cs:=cs) rfl rfl rfl (hg w1 hx k cm q n bp bn bc a c hs rfl a0) ?_;rintro v w2 ⟨rfl,a2⟩;refine Sa ?_;refine Am (λh3=>?_) λh3=>?_
  ·refine Sa ?_;exact QW.body1 Tryz.results28 rfl ⟨by rw [O6 hs h3 a1];rfl,hx.trans a2⟩
  ·refine Sa ?_;refine QW.again (k+1) ⟨by omega,hx.trans a2,λi u hi hu=>?_⟩ B6 (by omega);rcases Nat.lt_or_ge i k with h4 | h4
   ·exact a1 i u h4 hu
   ·obtain rfl:i=k:=by omega
    rw [hs] at hu;obtain rfl:=Option.some.inj hu;exact h3
 ·have h2:k=l.length:=by simp at h2;omega
  subst h2;refine Sa ?_;refine QW.body1 Tryz.results28 rfl ⟨?_,hx⟩;rw [Ka a1];rfl
theorem R3 (cm:AF) (q bp:Option Addr) (m n bn bc A:Nat) (x:List UInt8) (w:World) (hA:Blk w A [Aj x] 9):AB Tryz.prog 59 [.agg ⟨B7 cm (.slice q m n) (.slice bp bn bc)⟩,.pointer (some ⟨A,0,none⟩)] w (λv w'=>v=.bool (decide (cm.id=x))∧Ae w w'):=by
 refine AJ Tryz.func59 Tryz.ntmps59 ?_;refine Sa ?_;refine CU λX w1 a1 a0 hX=>?_;replace hX:Blk w1 X (B7 cm (.slice q m n) (.slice bp bn bc)) 31:=hX;replace hA:=hA.ext a0;refine Sa ?_;exact QW.body1 Tryz.results59 rfl ⟨by simp,a0⟩
theorem Il (l:AA) (lv:Value) (x:List UInt8) (w:World) (h:C6 w lv l):AB Tryz.prog 42 [lv,Aj x] w (λv w'=>v=.int .i64 (DT (DI l x))∧Ae w w'):=by
 obtain ⟨p,c,rfl⟩:=h.slice;refine AJ Tryz.func42 Tryz.ntmps42 ?_;refine Sa ?_;refine CU λA w1 a2 a0 hA=>?_;replace hA:Blk w1 A [Aj x] 9:=hA;refine Sa ?_;refine Ap rfl rfl (Gd l _ (λc=>decide (c.id=x)) 59 [.pointer (some ⟨A,0,none⟩)] w1 (h.ext a0) λw' hx i cm q n bp bn bc a k _ _ _=>R3 cm q bp _ n bn bc A x w' (hA.ext hx)) ?_;rintro v w2 ⟨rfl,a1⟩;refine Sa ?_;exact QW.body1 Tryz.results42 rfl ⟨by rw [Ph],a0.trans a1⟩
set_option maxRecDepth 8000 in
set_option maxHeartbeats 2000000 in
theorem TC (l:AA) (v:Value) (id:List UInt8) (w:World) (h:C6 w v l) (hm:Gw l=true) (hl:l.length≤1000):AB Tryz.prog 26 [v,Aj id] w (λr w'=>E.Ay w' w.heap.size 9 1 r (Bv l id).length ((Bv l id).map Aj)∧Ae w w'):=by
 obtain ⟨p,c,rfl⟩:=h.slice;have ah:=Ib hm id;have h0:=h;refine AJ Tryz.func26 Tryz.ntmps26 ?_;refine Sa ?_;refine Ap rfl rfl (Il l _ id w h) ?_;rintro v w1 ⟨rfl,aa⟩;refine Sa ?_;refine CW.loop (ι:=List Nat×List UInt8×Value) (λx w'=>x.1++Ej l l.length (DI l x.2.1)=Cm l id∧Ae w w'∧E.Ay w' w.heap.size 9 1 x.2.2 x.1.length ((x.1.map (Rm l)).map Aj)) (λx=>[(0,.slice p l.length c),(1,Aj x.2.1),(5,x.2.2),(6,.int .i64 (DT (DI l x.2.1)))]) (λx=>NA (DI l x.2.1)) ([],id,.slice none 0 0) ⟨rfl,aa,E.Ay.nil _ _ _ _⟩ B6 ?_;rintro ⟨dn,cur,ov⟩ w2 ⟨a0,a4,a5⟩;dsimp only at a0 a5;show CW _ _ _ _ _ [(0,.slice p l.length c),(1,Aj cur),(5,ov),(6,.int .i64 (DT (DI l cur)))] _;replace h:=h.ext a4;have ai:=a4.size
 cases ho:DI l cur with
 | none=>
  rw [ho,IC,List.append_nil] at a0;refine Sw ?_;refine QW.body1 Tryz.results26 rfl ⟨?_,a4⟩;rw [Bv,←a0,List.length_map]
  exact a5
 | some k=>
  have hk:=Ga ho;obtain ⟨cm,hc,a7,-⟩:=Gk ho;rw [ho,ID hm hc] at a0;have aj:dn.length<l.length:=by
   have e:=congrArg List.length a0;simp only [List.length_append,List.length_cons] at e;omega
  show CW _ _ _ _ _ [(0,.slice p l.length c),(1,Aj cur),(5,ov),(6,.int .i64 (k:Int))] _;refine Sw ?_;refine C0 λC w3 ak a8 hC=>?_;have al:=a8.size;refine Sa ?_;refine LW.append (lo:=w.heap.size) (k:=dn.length) rfl rfl rfl rfl rfl rfl (a5.ext a8) (by omega) hC rfl rfl rfl (by show (_+1)*17≤_;omega) rfl ?_;intro v4 w4 ab ac _;have a3:E.Ay w4 w.heap.size 9 1 v4 (dn++[k]).length (((dn++[k]).map (Rm l)).map Aj):=by
   rw [List.length_append,List.map_append,List.map_append];simp only [List.map_cons,List.map_nil,Ls hc,a7];exact ac
  have a1:=(a4.trans a8).step ab (λb hb=>(a5.lt hb).1);obtain ⟨a,q',n',bv',rfl,ad,a2⟩:=C6.at (h0.ext a1) hc;have ae:=a2 1 _ rfl;refine Sw ?_;refine Am (λh2=>?_) λh2=>?_
  ·have h2:cm.parents=[]:=by
    cases e:cm.parents with
    | nil=>rfl
    | cons p r=>rw [e] at h2;simp at h2;omega
   rw [h2] at a0;refine Sw ?_;refine QW.body1 Tryz.results26 rfl ⟨?_,a1⟩;rw [Bv,←a0,List.length_map];exact a3
  obtain ⟨pp,pr,a6⟩:∃s r,cm.parents=s::r:=by
   cases e:cm.parents with
   | nil=>rw [e] at h2;simp at h2
   | cons p r=>exact ⟨p,r,rfl⟩
  obtain ⟨j,hj,am⟩:=EC hm hc (p:=pp) (by rw [a6];exact List.mem_cons_self ..);have an:0<cm.parents.length:=by rw [a6];simp
  obtain ⟨qa,rfl,-,af⟩:=ad.at (i:=0) (s:=pp) (by rw [a6];rfl);rw [a6] at a0;simp only at a0;have ag:w4.cell? (qa.add 0)=some (Aj pp):=af;refine Sw ?_;refine Ap rfl rfl (Il l _ pp w4 (h0.ext a1)) ?_;rintro v w5 ⟨rfl,a9⟩;refine Sa ?_;refine QW.again (dn++[k],pp,v4) ⟨by show (dn++[k])++Ej l l.length (DI l pp)=_;rw [List.append_assoc];exact a0,a1.trans a9,a3.ext a9⟩ B6 ?_;show NA (DI l pp)<NA (some k);rw [hj];show j+1<k+1;omega
theorem Ig {l:AA} {i:Nat} {c:AF} (hi:l[i]?=some c) (h:I1 l i c=false):Gw l=false:=by
 rw [Gw,List.all_eq_false];refine ⟨i,List.mem_range.2 (List.getElem?_eq_some_iff.1 hi).1,?_⟩;rw [hi];simp [h]
theorem Sv {l:AA} (h:∀i c,i<l.length→l[i]?=some c→I1 l i c=true):Gw l=true:=by
 rw [Gw,List.all_eq_true];intro i hi
 cases e:l[i]? with
 | none=>rfl
 | some c=>exact h i c (List.mem_range.1 hi) e
def FE (l:AA) (k:Nat) (c:AF):Bool:=(DI (l.take k) c.id).isSome||decide (2<c.parents.length)||(decide (c.parents.length=2)&&decide (c.parents[0]?=c.parents[1]?))
theorem Gu (l:AA) (k:Nat) (c:AF):I1 l k c=(!FE l k c&&c.parents.all λp=>(DI (l.take k) p).isSome):=by
 unfold I1 FE
 congr 1
 cases (DI (l.take k) c.id)<;>by_cases h:c.parents.length≤2<;>simp [h]<;>omega
theorem CD.two {w:World} {p:Option Addr} {c:Nat} {l:List (List UInt8)} (h:CD w (.slice p l.length c) l) (h2:l.length=2):∃a s t,p=some a∧l[0]?=some s∧l[1]?=some t∧w.cell? (a.add 0)=some (Aj s)∧w.cell? (a.add 1)=some (Aj t):=by
 obtain ⟨s,hs⟩:∃s,l[0]?=some s:=⟨_,List.getElem?_eq_getElem (by omega)⟩;obtain ⟨t,ht⟩:∃s,l[1]?=some s:=⟨_,List.getElem?_eq_getElem (by omega)⟩;obtain ⟨a,rfl,-,h0⟩:=h.at hs;obtain ⟨b,e,-,h1⟩:=h.at ht;obtain rfl:=Option.some.inj e;exact ⟨a,s,t,rfl,hs,ht,h0,h1⟩
set_option maxRecDepth 8000 in
set_option maxHeartbeats 40000000 in
theorem OY (l:AA) (v:Value) (w:World) (h:C6 w v l) (hcap:∀p n c,v=.slice p n c→n≤c):AB Tryz.prog 8 [v] w (λr w'=>r=.bool (Gw l)∧Ae w w'):=by
 obtain ⟨p,c,rfl⟩:=h.slice;have hl:=h.1;have ac:=hcap _ _ _ rfl;refine AJ Tryz.func8 Tryz.ntmps8 ?_;refine Sa ?_;refine CW.loop (ι:=Nat) (λk w'=>k≤l.length∧Ae w w'∧∀i c,i<k→l[i]?=some c→I1 l i c=true) (λk=>[(0,.slice p l.length c),(3,.int .i64 k)]) (λk=>l.length - k) 0 ⟨by omega,Chg.refl _ _,λ_ _ h=>by omega⟩ D5 ?_;rintro k w1 ⟨hk,hx,a6⟩;replace h:=h.ext hx;refine Sa ?_;refine Am (λh2=>?_) λh2=>?_;rotate_left
 ·have h2:k=l.length:=by simp at h2;omega
  subst h2;refine Sa ?_;exact QW.body1 Tryz.results8 rfl ⟨by rw [Sv a6],hx⟩
 have h2:k<l.length:=by simp at h2;omega
 obtain ⟨cm,hc⟩:∃s,l[k]?=some s:=⟨_,List.getElem?_eq_getElem h2⟩;obtain ⟨a,q,n,bv,rfl,hp,a0⟩:=C6.at h hc;have ad:=a0 0 _ rfl;have ae:=a0 1 _ rfl;have af:=hp.1;have hT:=Bg.take (i:=k) h rfl (by omega);have ag:(l.take k).length=k:=by simp;omega
 refine Sw ?_;refine CW.cut (ι:=Unit) (λ_ w'=>Ae w1 w') (λ_=>[(0,.slice (some a) l.length c),(3,.int .i64 k),(4,.slice q cm.parents.length n),(45,.bool (FE l k cm))]) ?_ ?_
 ·refine CW.drawG (Ae w1) 28 (λw' h=>h) (by kernel_rfl) λwa a8=>?_;refine Bl ?_;refine Dp 8 λhS=>?_;refine Ap rfl rfl (Cy (l.take k) _ cm.id _ (C6.ext hT hS)) ?_;rintro v w2 ⟨rfl,a4⟩;have a9:=hS.trans a4;clear hS;apply LW.nil;refine QW.headed a9 ?_
  cases ho:DI (l.take k) cm.id with
  | some j=>
   have hb:FE l k cm=true:=by simp [FE,ho]
   refine Bl ?_;refine GW.know (t:=27) (c:=true) rfl (by simp [DT]) ?_;refine Bl ?_;refine GW.know (t:=32) (c:=true) rfl (by simp) ?_;refine Bl ?_;refine GW.tail rfl (by kernel_rfl) (λhS=>?_);refine Sa ?_
   exact QW.head () hS (by rw [hb];exact ((Ad.cons rfl (Ad.cons rfl (Ad.cons rfl (Ad.cons rfl (Ad.nil)))))))
  | none=>
   refine Bl ?_;refine GW.know (t:=27) (c:=false) rfl (by simp [DT]) ?_;refine Bl ?_;by_cases h3:2<cm.parents.length
   ·have hb:FE l k cm=true:=by simp [FE,ho,h3]
    refine GW.know (t:=32) (c:=true) rfl (by simp;omega) ?_;refine Bl ?_;refine GW.tail rfl (by kernel_rfl) (λhS=>?_);refine Sa ?_;exact QW.head () hS (by rw [hb];exact ((Ad.cons rfl (Ad.cons rfl (Ad.cons rfl (Ad.cons rfl (Ad.nil)))))))
   refine GW.know (t:=32) (c:=false) rfl (by simp;omega) ?_;refine Bl ?_;by_cases h4:cm.parents.length=2;rotate_left
   ·have hb:FE l k cm=false:=by simp [FE,ho,h3,h4]
    refine GW.know (t:=36) (c:=false) rfl (by simp;omega) ?_;refine Bl ?_;refine GW.tail rfl (by kernel_rfl) (λhS=>?_);refine Sa ?_;exact QW.head () hS (by rw [hb];exact ((Ad.cons rfl (Ad.cons rfl (Ad.cons rfl (Ad.cons rfl (Ad.nil)))))))
   obtain ⟨qa,s,t,rfl,hs,ht,ah,ai⟩:=CD.two hp h4;have hb:FE l k cm=decide (s=t):=by rw [FE,ho,hs,ht,h4];simp
   refine GW.know (t:=36) (c:=true) rfl (by simp;omega) ?_;refine Bl ?_;refine GW.tail rfl (by kernel_rfl) (λhS=>?_);refine Sa ?_;exact QW.head () hS (by rw [hb];exact ((Ad.cons rfl (Ad.cons rfl (Ad.cons rfl (Ad.cons rfl (Ad.nil)))))))
 rintro ⟨⟩ w2 a4;show CW _ _ _ _ _ [(0,.slice (some a) l.length c),(3,.int .i64 (k:Int)),(4,.slice q cm.parents.length n),(45,.bool (FE l k cm))] _;have a2:=hx.trans a4;refine Sa ?_;refine Am (λh3=>?_) λh3=>?_
 ·refine Sa ?_;exact QW.body1 Tryz.results8 rfl ⟨by rw [Ig hc (by rw [Gu,h3];rfl)],a2⟩
 refine Sa ?_;refine CW.loop (ι:=Nat) (λj w'=>j≤cm.parents.length∧Ae w2 w'∧∀i s,i<j→cm.parents[i]?=some s→(DI (l.take k) s).isSome=true) (λj=>[(0,.slice (some a) l.length c),(3,.int .i64 k),(4,.slice q cm.parents.length n),(5,.int .i64 j)]) (λj=>cm.parents.length - j) 0 ⟨by omega,Chg.refl _ _,λ_ _ h=>by omega⟩ B6 ?_;rintro j w3 ⟨hj,a5,a7⟩;have a1:=a4.trans a5;have a3:=a2.trans a5;replace h:=h.ext a1;replace hp:=hp.ext a1;replace hT:=C6.ext hT a1;refine Sw ?_;refine Am (λh4=>?_) λh4=>?_;rotate_left
 ·have h4:j=cm.parents.length:=by simp at h4;omega
  subst h4;refine Sw ?_;refine QW.again (k+1) ⟨by omega,a3,λi d hi hd=>?_⟩ D5 (by omega);by_cases e:i=k
  ·subst e;rw [hc] at hd;obtain rfl:=Option.some.inj hd;rw [Gu,h3,List.all_eq_true.2 λs hs=>?_]
   ·rfl
   ·obtain ⟨i,hi⟩:=List.getElem?_of_mem hs;exact a7 i s (List.getElem?_eq_some_iff.1 hi).1 hi
  ·exact a6 i d (by omega) hd
 have h4:j<cm.parents.length:=by simp at h4;omega
 obtain ⟨s,hs⟩:∃s,cm.parents[j]?=some s:=⟨_,List.getElem?_eq_getElem h4⟩;obtain ⟨qa,rfl,-,aj⟩:=hp.at hs;refine Sw ?_;refine CW.drawG (Ae w3) 8 (λw' h=>h) (by kernel_rfl) λwa a8=>?_;refine Bl ?_;refine Dp 7 λhS=>?_;refine Ap rfl rfl (Cy (l.take k) _ s _ (C6.ext hT hS)) ?_;rintro v w4 ⟨rfl,aa⟩;have ab:=hS.trans aa;clear hS;apply LW.nil;refine QW.headed ab ?_;refine GW.tail rfl (by kernel_rfl) (λhS=>?_);refine Sa ?_;refine Am (λh5=>?_) λh5=>?_
 ·have h5:(DI (l.take k) s).isSome=false:=by
   cases ho:DI (l.take k) s with
   | none=>rfl
   | some i=>
    rw [ho] at h5;have h6:((i:Nat):Int)<0:=of_decide_eq_true h5;omega
  refine Sa ?_;refine QW.body1 Tryz.results8 rfl ⟨?_,a3.trans hS⟩;rw [Ig hc];rw [Gu,Bool.and_eq_false_iff];exact .inr (List.all_eq_false.2 ⟨s,List.mem_of_getElem? hs,by rw [h5];simp⟩)
 ·have h5:(DI (l.take k) s).isSome=true:=by
   cases ho:DI (l.take k) s with
   | none=>
    rw [ho] at h5
    exact absurd (show (-1:Int)<0 by omega) (of_decide_eq_false h5)
   | some j=>rfl
  refine Sa ?_;refine QW.again (j+1) ⟨by omega,a5.trans hS,λi t hi ht=>?_⟩ B6 (by omega);by_cases e:i=j
  ·subst e;rw [hs] at ht;obtain rfl:=Option.some.inj ht;exact h5
  ·exact a7 i t (by omega) ht
theorem TA {l:AA} {k:Nat} {c:AF} (hc:l[k]?=some c):(DI (l.take k) c.id).isSome=!decide (DT (DI l c.id)=(k:Int)):=by
 cases e:DI (l.take k) c.id with
 | some j=>
  obtain ⟨h1,h2⟩:=Pj e;rw [h1];have:¬((j:Nat):Int)=(k:Int):=by omega
  simp [DT,this]
 | none=>
  have:DI l c.id=some k:=LG hc rfl λj d hj hd=>Jh e d (List.mem_of_getElem? (i:=j) (by rw [List.getElem?_take_of_lt hj];exact hd));rw [this];simp [DT]
set_option maxRecDepth 8000 in
set_option maxHeartbeats 40000000 in
theorem Vg (l:AA) (v:Value) (w:World) (h:C6 w v l) (hcap:∀p n c,v=.slice p n c→n≤c):AB Tryz.prog 22 [v] w (λr w'=>r=.bool (Gw l)∧Ae w w'):=by
 obtain ⟨p,c,rfl⟩:=h.slice;have hl:=h.1;have ae:=hcap _ _ _ rfl;refine AJ Tryz.func22 Tryz.ntmps22 ?_;refine Sa ?_;refine CW.loop (ι:=Nat) (λk w'=>k≤l.length∧Ae w w'∧∀i c,i<k→l[i]?=some c→I1 l i c=true) (λk=>[(0,.slice p l.length c),(7,.slice p l.length c),(8,.int .i64 l.length),(9,.int .i64 k)]) (λk=>l.length - k) 0 ⟨by omega,Chg.refl _ _,λ_ _ h=>by omega⟩ B6 ?_;rintro k w1 ⟨hk,hx,a8⟩;replace h:=h.ext hx;refine Sa ?_;refine Am (λh2=>?_) λh2=>?_;rotate_left
 ·have h2:k=l.length:=by simp at h2;omega
  subst h2;refine Sa ?_;exact QW.body1 Tryz.results22 rfl ⟨by rw [Sv a8],hx⟩
 have h2:k<l.length:=by simp at h2;omega
 obtain ⟨cm,hc⟩:∃s,l[k]?=some s:=⟨_,List.getElem?_eq_getElem h2⟩;obtain ⟨a,q,n,bp,bn,bc,rfl,hp,a2⟩:=C6.at' h hc;have af:=hp.1;have hT:=Bg.take (i:=k) h rfl (by omega);have ag:(l.take k).length=k:=by simp;omega
 refine Sa ?_;refine Lo ?_;refine LW.load_cells rfl a2 rfl rfl rfl rfl ?_;refine Sa ?_;refine BQ λX w2 ah ab hX=>?_;have ai:=hX.lt;refine Sa ?_;refine AP λw3 ac hX=>?_;replace hX:Blk w3 X (B7 cm (.slice q cm.parents.length n) (.slice bp bn bc)) 31:=hX;have a0:Ae w1 w3:=ab.step ac (by simp;omega);replace h:=h.ext a0;replace hp:=hp.ext a0;replace hT:=C6.ext hT a0;refine Sw ?_;refine CW.cut (ι:=Unit) (λ_ w'=>Ae w3 w') (λ_=>[(0,.slice (some a) l.length c),(7,.slice (some a) l.length c),(8,.int .i64 l.length),(9,.int .i64 k),(3,.int .i64 k),(4,.pointer (some ⟨X,0,none⟩)),(42,.bool (FE l k cm))]) ?_ ?_
 ·refine CW.drawG (Ae w3) 28 (λw' h=>h) (by kernel_rfl) λwa aj=>?_;refine Bl ?_;refine Dp 3 λhS=>?_;refine Ap rfl rfl (Il l _ cm.id _ (h.ext hS)) ?_;rintro v w4 ⟨rfl,a3⟩;have ad:=hS.trans a3;clear hS;apply LW.nil;refine QW.headed ad ?_;have a6:=TA hc
  cases ho:DI (l.take k) cm.id with
  | some j=>
   have hb:FE l k cm=true:=by simp [FE,ho]
   refine Bl ?_;refine GW.know (t:=20) (c:=true) rfl (by rw [ho] at a6;simpa using a6) ?_;refine Bl ?_;refine GW.know (t:=26) (c:=true) rfl (by simp) ?_;refine Bl ?_;refine GW.tail rfl (by kernel_rfl) (λhS=>?_);refine Sa ?_
   exact QW.head () hS (by rw [hb];exact ((Ad.cons rfl (Ad.cons rfl (Ad.cons rfl (Ad.cons rfl (Ad.cons rfl (Ad.cons rfl (Ad.cons rfl (Ad.nil))))))))))
  | none=>
   refine Bl ?_;refine GW.know (t:=20) (c:=false) rfl (by rw [ho] at a6;simpa using a6) ?_;refine Bl ?_;by_cases h3:2<cm.parents.length
   ·have hb:FE l k cm=true:=by simp [FE,ho,h3]
    refine GW.know (t:=26) (c:=true) rfl (by simp;omega) ?_;refine Bl ?_;refine GW.tail rfl (by kernel_rfl) (λhS=>?_);refine Sa ?_;exact QW.head () hS (by rw [hb];exact ((Ad.cons rfl (Ad.cons rfl (Ad.cons rfl (Ad.cons rfl (Ad.cons rfl (Ad.cons rfl (Ad.cons rfl (Ad.nil))))))))))
   refine GW.know (t:=26) (c:=false) rfl (by simp;omega) ?_;refine Bl ?_;by_cases h4:cm.parents.length=2;rotate_left
   ·have hb:FE l k cm=false:=by simp [FE,ho,h3,h4]
    refine GW.know (t:=31) (c:=false) rfl (by simp;omega) ?_;refine Bl ?_;refine GW.tail rfl (by kernel_rfl) (λhS=>?_);refine Sa ?_;exact QW.head () hS (by rw [hb];exact ((Ad.cons rfl (Ad.cons rfl (Ad.cons rfl (Ad.cons rfl (Ad.cons rfl (Ad.cons rfl (Ad.cons rfl (Ad.nil))))))))))
   obtain ⟨qa,s,t,rfl,hs,ht,ak,al⟩:=CD.two hp h4;have hb:FE l k cm=decide (s=t):=by rw [FE,ho,hs,ht,h4];simp
   refine GW.know (t:=31) (c:=true) rfl (by simp;omega) ?_;refine Bl ?_;refine GW.tail rfl (by kernel_rfl) (λhS=>?_);refine Sa ?_;exact QW.head () hS (by rw [hb];exact ((Ad.cons rfl (Ad.cons rfl (Ad.cons rfl (Ad.cons rfl (Ad.cons rfl (Ad.cons rfl (Ad.cons rfl (Ad.nil))))))))))
 rintro ⟨⟩ w4 a3;show CW _ _ _ _ _ [(0,.slice (some a) l.length c),(7,.slice (some a) l.length c),(8,.int .i64 l.length),(9,.int .i64 k),(3,.int .i64 k),(4,.pointer (some ⟨X,0,none⟩)),(42,.bool (FE l k cm))] _;have a4:=(hx.trans a0).trans a3;replace hX:=hX.ext a3;refine Sa ?_;refine Am (λh3=>?_) λh3=>?_
 ·refine Sa ?_;exact QW.body1 Tryz.results22 rfl ⟨by rw [Ig hc (by rw [Gu,h3];rfl)],a4⟩
 refine Sa ?_;refine CW.loop (ι:=Nat) (λj w'=>j≤cm.parents.length∧Ae w4 w'∧∀i s,i<j→cm.parents[i]?=some s→(DI (l.take k) s).isSome=true) (λj=>[(0,.slice (some a) l.length c),(7,.slice (some a) l.length c),(8,.int .i64 l.length),(9,.int .i64 k),(3,.int .i64 k),(44,.slice q cm.parents.length n),(45,.int .i64 cm.parents.length),(46,.int .i64 j)]) (λj=>cm.parents.length - j) 0 ⟨by omega,Chg.refl _ _,λ_ _ h=>by omega⟩ LD ?_;rintro j w5 ⟨hj,a7,a9⟩;have a1:=a3.trans a7;have a5:=a4.trans a7;replace h:=h.ext a1;replace hp:=hp.ext a1;replace hT:=C6.ext hT a1;refine Sw ?_;refine Am (λh4=>?_) λh4=>?_;rotate_left
 ·have h4:j=cm.parents.length:=by simp at h4;omega
  subst h4;refine Sw ?_;refine QW.again (k+1) ⟨by omega,a5,λi d hi hd=>?_⟩ B6 (by omega);by_cases e:i=k
  ·subst e;rw [hc] at hd;obtain rfl:=Option.some.inj hd;rw [Gu,h3,List.all_eq_true.2 λs hs=>?_]
   ·rfl
   ·obtain ⟨i,hi⟩:=List.getElem?_of_mem hs;exact a9 i s (List.getElem?_eq_some_iff.1 hi).1 hi
  ·exact a8 i d (by omega) hd
 have h4:j<cm.parents.length:=by simp at h4;omega
 obtain ⟨s,hs⟩:∃s,cm.parents[j]?=some s:=⟨_,List.getElem?_eq_getElem h4⟩;obtain ⟨qa,rfl,-,am⟩:=hp.at hs;refine Sw ?_;refine LW.slice_hi (j:=k) rfl rfl rfl rfl rfl (by omega) rfl ?_;refine Sw ?_;refine Ap rfl rfl (Il (l.take k) _ s _ hT) ?_;rintro v w6 ⟨rfl,aa⟩;refine Sa ?_;refine Am (λh5=>?_) λh5=>?_
 ·have h5:(DI (l.take k) s).isSome=false:=by
   cases ho:DI (l.take k) s with
   | none=>rfl
   | some i=>
    rw [ho] at h5;have h6:((i:Nat):Int)<0:=of_decide_eq_true h5;omega
  refine Sa ?_;refine QW.body1 Tryz.results22 rfl ⟨?_,a5.trans aa⟩;rw [Ig hc];rw [Gu,Bool.and_eq_false_iff];exact .inr (List.all_eq_false.2 ⟨s,List.mem_of_getElem? hs,by rw [h5];simp⟩)
 ·have h5:(DI (l.take k) s).isSome=true:=by
   cases ho:DI (l.take k) s with
   | none=>
    rw [ho] at h5
    exact absurd (show (-1:Int)<0 by omega) (of_decide_eq_false h5)
   | some j=>rfl
  refine Sa ?_;refine QW.again (j+1) ⟨by omega,a7.trans aa,λi t hi ht=>?_⟩ LD (by omega);by_cases e:i=j
  ·subst e;rw [hs] at ht;obtain rfl:=Option.some.inj ht;exact h5
  ·exact a9 i t (by omega) ht
end Go.Proofs.YtefaigjfkddelaaGreatDoor
namespace Go.Proofs
open Go.Shelf
def Tryz.laysNm217_ren:Go.Shelf.Ren:=⟨λ| 17=>27 | n=>n,λ| 24=>26 | 9=>9 | 3=>3 | 4=>4 | 0=>0 | n=>n,λ| n=>n⟩
theorem Tryz.laysNm217:Go.Proofs.Lays2.n17 Tryz.prog Tryz.laysNm217_ren:={
 mixed:=by kernel_rfl
 f17:=Tryz.func27.trans (congrArg some (by kernel_rfl))
 t0:=Tryz.underlying0
 a0:=Tryz.isAgg0
 z0:=Tryz.sizeOf0
 v0:=Tryz.zeroValue0
 t3:=Tryz.underlying3
 a3:=Tryz.isAgg3
 z3:=Tryz.sizeOf3
 v3:=Tryz.zeroValue3
 t4:=Tryz.underlying4
 a4:=Tryz.isAgg4
 z4:=Tryz.sizeOf4
 v4:=Tryz.zeroValue4
 t9:=Tryz.underlying9
 a9:=Tryz.isAgg9
 z9:=Tryz.sizeOf9
 v9:=Tryz.zeroValue9
 t24:=Tryz.underlying26
 a24:=Tryz.isAgg26
 z24:=Tryz.sizeOf26
 v24:=Tryz.zeroValue26}
open Go.RowKit Go.Lib Go.Sort in
theorem Tryz.slices_Reverse_string (blk off cap:Nat) (zs:List (List UInt8)) (w:World) (hH:Holds encStr w blk off zs.toArray) (hsz:zs.length≤9223372036854775807) :
  Calls Tryz.prog 27 #[.slice (some ⟨blk,off,none⟩) zs.length cap] w λe w'=>e=.returned (.tuple #[])∧∃n,w'=putRow encStr (Sort.ahead w n) blk off zs.reverse.toArray:=Any.slices_Reverse_string Tryz.laysNm217 blk off cap zs w hH hsz
open Go.RowKit Go.Lib Go.Sort in
theorem Tryz.slices_Reverse_string_empty (a:Option Addr) (cap:Nat) (w:World) :
  Calls Tryz.prog 27 #[.slice a 0 cap] w λe w'=>e=.returned (.tuple #[])∧w'=w:=Any.slices_Reverse_string_empty Tryz.laysNm217 a cap w
end Go.Proofs
namespace Go.Proofs.YtefaigjfkddelaaGreatDoor
open Go Go.E Go.Sort
theorem Ju (w:World) (g:Nat) (f:Array Value→Array Value):Chg [g] w (mapBlock w g f):=
 ⟨rfl,rfl,rfl,by simp [mapBlock],λk _ hk=>by
  have:¬g=k:=λe=>hk (by simp [e]);simp [mapBlock,Array.getElem?_modify,this]⟩
theorem TI (l:List (List UInt8)) (xs sp:List Value) (h:xs.length=l.length):putCells (λs:List UInt8=>Aj s) 0 l.toArray ⟨xs++sp⟩=⟨l.map Aj++sp⟩:=by
 apply Array.ext_getElem?;intro j;simp only [putCells,Array.getElem?_mapIdx,List.getElem?_toArray,List.size_toArray,Nat.zero_add,Nat.zero_le,true_and,Nat.sub_zero];by_cases hj:j<l.length
 ·rw [List.getElem?_append_left (by omega),List.getElem?_append_left (by simpa using hj),List.getElem?_map,List.getElem?_eq_getElem (by omega),List.getElem?_eq_getElem hj];simp [hj]
 ·rw [List.getElem?_append_right (by omega),List.getElem?_append_right (by simp;omega),List.length_map,h];cases sp[j - l.length]?<;>simp [hj]
theorem Pd (l:List (List UInt8)) (v:Value) (lo:Nat) (w:World) (h:E.Ay w lo 9 1 v l.length (l.map Aj)) (hl:l.length≤1000000):AB Tryz.prog 27 [v] w (λr w'=>r=.tuple #[]∧E.Ay w' lo 9 1 v l.length (l.reverse.map Aj)∧Chg (Af v) w w'):=by
 obtain ⟨a3,⟨rfl,h0⟩ | ⟨g,cap,sp,rfl,hB,hn,a1,a2⟩⟩:=h
 ·refine F7 (by kernel_rfl) (Tryz.slices_Reverse_string_empty none 0 w) λe w' ⟨he,hw⟩=>⟨_,he,rfl,?_,?_⟩
  ·have:l=[]:=List.eq_nil_of_length_eq_zero h0;subst this;exact E.Ay.nil _ _ _ _
  ·subst hw;exact Chg.refl _ _
 ·refine F7 (by kernel_rfl) (Tryz.slices_Reverse_string g 0 cap l w (λj hj=>⟨?_,?_⟩) (by omega)) λe w' ⟨he,n,hw⟩=>⟨_,he,rfl,?_,?_⟩
  ·have a0:j<l.length:=by simpa using hj
   rw [Nat.zero_add];refine hB.cell ?_;rw [List.getElem?_append_left (by simpa using a0),List.getElem?_map,List.getElem?_eq_getElem a0];simp [getElem!_pos,a0,Aj,encStr]
  ·unfold Blk at hB;simp [World.frozen?,hB]
  ·subst hw;refine ⟨by simp,.inr ⟨g,cap,sp,rfl,?_,hn,a1,a2⟩⟩;unfold Blk at hB ⊢;have e:=TI l.reverse (l.map Aj) sp (by simp);simp only [putRow,mapBlock,Sort.ahead,Array.getElem?_modify,if_true,hB,Option.map_some,onCells];rw [show (encStr:List UInt8→Value)=λs=>Aj s from rfl,e]
  ·subst hw;exact ⟨rfl,rfl,rfl,(Ju (Sort.ahead w n) g _).size,(Ju (Sort.ahead w n) g _).block⟩
open Go Go.E
theorem Na.low {lo lo':Nat} {w:World} {v:Value} {ss:List CA} (h:Na lo w v ss) (hl:lo'≤lo):Na lo' w v ss:=by
 obtain ⟨css,h1,h2,h3,h4⟩:=h;exact ⟨css,h1,h2,h3.low hl,λi x cs hi hc=>let ⟨rv,cv,e,o1,o2,n1,n2⟩:=h4 i x cs hi hc;⟨rv,cv,e,o1.low hl,o2.low hl,n1,n2⟩⟩
theorem CX.book {w:World} {a:Addr} {k:Nat} {l:AA} (h:CX w (.slice (some a) l.length k) l) {i:Nat} {c:AF} (hi:l[i]?=some c) {v:Value} (hc:w.cell? ((a.add (((i:Nat):Int).toNat*4)).add 2)=some v):∃bp bc,v=.slice bp c.book.length bc∧Cp w (.slice bp c.book.length bc) c.book∧Bd c.book=true:=by
 obtain ⟨a',q,n,bp,bc,e,-,h1,-,h2,h3⟩:=CX.at h hi;obtain rfl:=Option.some.inj e;have:=(h3 2 _ rfl).symm.trans hc;exact ⟨bp,bc,(Option.some.inj this).symm,h1,h2⟩
theorem Pm (c:AF) (q bp:Option Addr) (m n bc:Nat) (w:World) (g:CV w) (h:Cp w (.slice bp c.book.length bc) c.book):AB Tryz.prog 24 [.agg ⟨B7 c (.slice q m n) (.slice bp c.book.length bc)⟩] w (λv w'=>v=.bool (!Bd c.book)∧Ae w w'):=by
 refine AJ Tryz.func24 Tryz.ntmps24 ?_;apply CW.seq;apply CW.region;refine Sl ?_;refine CU λX w1 a2 a0 hX=>?_;replace hX:Blk w1 X (B7 c (.slice q m n) (.slice bp c.book.length bc)) 31:=hX;refine Sa ?_;refine LW.load_cells rfl (HS (i:=2) hX rfl) rfl rfl rfl rfl ?_;refine Sa ?_;refine Ap rfl rfl (Up c.book _ _ (g.ext a0) (Al.ext h a0)) ?_;rintro v w2 ⟨rfl,a1⟩;refine Sa ?_;exact QW.body1 Tryz.results24 rfl ⟨rfl,a0.trans a1⟩
theorem O3 (l:AA) (lv:Value) (w:World) (g:CV w) (h:CX w lv l):AB Tryz.prog 23 [lv,.func (.func 24) ⟨[]⟩ ⟨[]⟩] w (λv w'=>v=.bool false∧Ae w w'):=by
 obtain ⟨p,c,rfl⟩:=Bg.slice h;refine AJ Tryz.func23 Tryz.ntmps23 ?_;refine Sa ?_;refine Ap rfl rfl (Gd l _ (λc=>!Bd c.book) 24 [] w h.past λw' hx i cm q n bp bn bc a k hi hs a0=>?_) ?_
 ·obtain ⟨rfl,-,rfl⟩:=Value.slice.inj hs;obtain ⟨bp',bc',e,h1,h2⟩:=CX.book (h.ext hx) hi (a0 2 _ rfl);obtain ⟨rfl,rfl,rfl⟩:=Value.slice.inj e;exact Pm cm q bp _ n bc w' (g.ext hx) h1
 rintro v w1 ⟨rfl,a1⟩;rw [Ka λj d _ hd=>by rw [(h.may d (List.mem_of_getElem? hd)).1];rfl];refine Sa ?_;exact QW.body1 Tryz.results23 rfl ⟨rfl,a1⟩
theorem Pn (cm:AF) (q bp:Option Addr) (m n bn bc A:Nat) (x:List UInt8) (w:World) (hA:Blk w A [Aj x] 9):AB Tryz.prog 29 [.agg ⟨B7 cm (.slice q m n) (.slice bp bn bc)⟩,.pointer (some ⟨A,0,none⟩)] w (λv w'=>v=.bool (decide (cm.id=x))∧Ae w w'):=by
 refine AJ Tryz.func29 Tryz.ntmps29 ?_;refine Sa ?_;refine CU λX w1 a1 a0 hX=>?_;replace hX:Blk w1 X (B7 cm (.slice q m n) (.slice bp bn bc)) 31:=hX;replace hA:=hA.ext a0;refine Sa ?_;exact QW.body1 Tryz.results29 rfl ⟨by simp,a0⟩
set_option maxRecDepth 8000 in
set_option maxHeartbeats 8000000 in
theorem LH (l:AA) (v:Value) (id:List UInt8) (w:World) (g:CV w) (h:CX w v l) (hcap:∀p n c,v=.slice p n c→n≤c) (hm:Gw l=true) (hl:l.length≤1000):AB Tryz.prog 13 [v,Aj id] w (λr w'=>∃rv f,Bn w.heap.size w' r (GE l id) rv f∧Ae w w'):=by
 obtain ⟨p,c,rfl⟩:=Bg.slice h;have cv:=Ib hm id;have c5:=NB l id;have c6:=Mr h id;refine AJ Tryz.func13 Tryz.ntmps13 ?_;refine Sw ?_;refine Ap rfl rfl (Vg l _ w h.past hcap) ?_;rintro v w1 ⟨rfl,bb⟩;rw [hm];refine Sw ?_;refine Ap rfl rfl (O3 l _ w1 (g.ext bb) (h.ext bb)) ?_;rintro v w2 ⟨rfl,c7⟩;have af:=bb.trans c7;refine Sw ?_;refine Ap rfl rfl (TC l _ id w2 (h.past.ext af) hm hl) ?_;rintro v w3 ⟨hO,c8⟩;have bd:=af.trans c8;refine Sw ?_;refine Ap rfl rfl (Pd (Bv l id) _ _ w3 hO (by omega)) ?_;rintro v0 w4 ⟨rfl,bu,c9⟩;have ag:Ae w w4:=bd.step c9 λb hb=>by have:=(hO.lt hb).1;have:=af.size;omega
 have ca:BF w4 v (Bv l id).reverse:=CQ (by rw [List.length_reverse];exact bu) (by rw [List.length_reverse];omega) (λs hs=>c6 s (List.mem_reverse.1 hs));obtain ⟨lp,lc,rfl⟩:=bu.slice;have cw:=ag.size;refine Sw ?_;refine BQ λA w5 cx be hA=>?_;have cb:=ag.trans be;have cy:=hA.lt;have cz:=be.size;refine Sw ?_;refine CW.loop (ι:=Nat×Value×Value) (λx w'=>x.1≤(Bv l id).length∧Chg [A] w5 w'∧Blk w' A [x.2.2] 29∧(∃rv f,Bn w4.heap.size w' x.2.1 (Ei (Ef l id ((Bv l id).length - x.1))) rv f)∧(∀k c,0<x.1→(Cm l id)[(Bv l id).length - x.1]?=some k→l[k]?=some c→∃bp bc,x.2.2=.slice bp c.book.length bc∧Cp w (.slice bp c.book.length bc) c.book)) (λx=>[(0,.slice p l.length c),(6,x.2.1),(7,.pointer (some ⟨A,0,none⟩)),(27,.slice lp (Bv l id).length lc),(28,.int .i64 (Bv l id).length),(29,.int .i64 x.1)]) (λx=>(Bv l id).length - x.1) (0,.slice none 0 0,.slice none 0 0) ⟨Nat.zero_le _,Chg.refl _ _,hA,⟨λ_=>.slice none 0 0,λ_ _=>0,?_⟩,λ_ _ h=>by omega⟩ BP ?_
 ·show Bn _ _ _ (Ei (Ef l id ((Bv l id).length - 0))) _ _;rw [Nat.sub_zero,Ef,c5,List.drop_length];exact QG
 rintro ⟨n,ov,bv⟩ w6 ⟨hn,b5,b6,⟨rv,f,ak⟩,bw⟩;dsimp only at hn b6 ak bw;show CW _ _ _ _ _ [(0,.slice p l.length c),(6,ov),(7,.pointer (some ⟨A,0,none⟩)),(27,.slice lp (Bv l id).length lc),(28,.int .i64 (Bv l id).length),(29,.int .i64 (n:Int))] _;have far:∀w',Chg [A] w5 w'→Ae w4 w':=λw' h=>be.step h (by simp;omega);have ah:=far _ b5;have a3:=ag.trans ah;have d0:=ah.size;have cc:=b5.size;refine Sw ?_;refine Am (λh1=>?_) λh1=>?_;rotate_left
 ·have h1:n=(Bv l id).length:=by simp at h1;omega
  subst h1;rw [Nat.sub_self] at ak;refine Sw ?_;exact QW.body1 Tryz.results13 rfl ⟨rv,f,ak.low (by omega),a3⟩
 have h1:n<(Bv l id).length:=by simp at h1;omega
 obtain ⟨i,hi⟩:∃i,i=(Bv l id).length - 1 - n:=⟨_,rfl⟩;obtain ⟨ki,al⟩:∃k,(Cm l id)[i]?=some k:=⟨_,List.getElem?_eq_getElem (by omega)⟩;obtain ⟨CC,am,bf,an⟩:=Jt hm al;have cd:=Ga an;have ce:(Bv l id).reverse[n]?=some CC.id:=by
  rw [List.getElem?_reverse h1,←hi];exact bf
 have bg:=Aw.ext ca ah;obtain ⟨la,eqa,-,-,d1⟩:=Aw.at (p:=lp) (c:=lc) (by rw [List.length_reverse];exact bg) ce;subst eqa;refine Sw ?_;refine BQ λB w7 d2 cf hB=>?_;have d4:=hB.lt;refine Sw ?_;refine BZ λw8 cg hB=>?_;replace hB:Blk w8 B [Aj CC.id] 9:=hB;have ao:Ae w6 w8:=cf.step cg (by simp;omega);have ap:=a3.trans ao;refine Sw ?_;refine Ap rfl rfl (Gd l _ (λc=>decide (c.id=CC.id)) 29 [.pointer (some ⟨B,0,none⟩)] w8 (h.past.ext ap) λw' hx i cm q n bp bn bc a k _ _ _=>Pn cm q bp _ n bn bc B CC.id w' (hB.ext hx)) ?_;rintro v w9 ⟨rfl,bh⟩;rw [Ph,an,show DT (some ki)=(ki:Int) from rfl];replace hB:=hB.ext bh;have aq:=ao.trans bh;have ai:=ap.trans bh;obtain ⟨a,q1,qn1,bp1,bc1,eqb,-,a4,bi,ar,a1⟩:=CX.at h am;subst eqb;have bj:=Al.ext a4 ai;have d5:∀j u,([.slice bp1 CC.book.length bc1]:List Value)[j]?=some u→w9.cell? (((a.add (((ki:Nat):Int).toNat*4)).add 2).add j)=some u:=λj u hj=>by
  match j,hj with
  | 0,hj=>exact An ai (a1 2 u hj)
 have d6:=b6.ext aq;refine Sw ?_;refine CW.drawG (Ae w9) 7 (λw' h=>h) (by kernel_rfl) λwa bx=>?_;refine Bl ?_;refine Dp 6 λhS=>?_;refine Ap rfl rfl (U0 CC.book _ CC.id _ (Al.ext bj hS) bi) ?_;rintro nv aj ⟨rv2,f2,aa,a2⟩;have ci:=hS.size;have bk:=hS.trans a2;clear hS;apply LW.nil;refine QW.headed bk ?_;refine GW.tail rfl (by kernel_rfl) (λhS=>?_);clear hS;generalize d7:wa=wb at bx a2 aa ci;obtain ⟨op,oc,rfl⟩:=aa.slice;have au:Ae w9 wb:=bx;have ab:=aq.trans au;have ac:=ai.trans au;have a0:=ab.trans a2;have av:=ac.trans a2;have cj:=a2.size;have ck:=ab.size;have a5:=b6.ext a0;have bz:∀j u,([.slice bp1 CC.book.length bc1]:List Value)[j]?=some u→aj.cell? (((a.add (((ki:Nat):Int).toNat*4)).add 2).add j)=some u:=λj u hj=>by
  match j,hj with
  | 0,hj=>exact An av (a1 2 u hj)
 have b7:(Bv l id).length - (n+1)=i:=by omega
 refine Sa ?_;refine Am (λh2=>?_) λh2=>?_;rotate_left
 ·have h2:n=0:=by have:¬(0:Int)<(n:Int):=of_decide_eq_false h2;omega
  subst h2;refine Sa ?_;refine CW.drawG (Ae aj) 7 (λw' h=>h) (by kernel_rfl) λwc c0=>?_;refine Bl ?_;refine GW.tail rfl (by kernel_rfl) (λhS=>?_);replace a5:=a5.ext hS;refine Sa ?_;refine AP λb8 aw a5=>?_;have ax:Chg [A] w6 b8:=(a0.trans hS).chg.same aw;have bl:=(aa.ext hS).old aw (by simp;omega);refine Sw ?_;refine QW.again (0+1,_,_) ⟨by show 0+1≤_;omega,b5.same ax,a5,⟨rv2,f2,?_⟩,λk c _ hk hc=>?_⟩ BP (by show _ - (0+1)<_ - 0;omega)
  ·show Bn _ _ _ (Ei (Ef l id ((Bv l id).length - (0+1)))) _ _;rw [b7,N6 al (by omega),Jl am];exact bl.low (by omega)
  ·have hk:(Cm l id)[(Bv l id).length - (0+1)]?=some k:=hk;rw [b7,al] at hk;obtain rfl:=Option.some.inj hk;rw [am] at hc;obtain rfl:=Option.some.inj hc;exact ⟨bp1,bc1,rfl,a4⟩
 have h2:0<n:=by have:(0:Int)<(n:Int):=of_decide_eq_true h2;omega
 obtain ⟨kp,b9⟩:∃k,(Cm l id)[i+1]?=some k:=⟨_,List.getElem?_eq_getElem (by omega)⟩;obtain ⟨PP,ba,cl,cn⟩:=Jt hm b9;have c1:(Bv l id).length - n=i+1:=by omega
 obtain ⟨bp2,bc2,rfl,ay⟩:=bw kp PP h2 (by rw [c1];exact b9) ba;have az:=(h.may PP (List.mem_of_getElem? ba)).1;rw [c1] at ak;have d8:∀j u,([.slice bp2 PP.book.length bc2]:List Value)[j]?=some u→aj.cell? ((⟨A,0,none⟩:Addr).add j)=some u:=HS (i:=0) a5 rfl;refine Sa ?_;refine CW.drawG (Ae aj) 7 (λw' h=>h) (by kernel_rfl) λwc c0=>?_;refine Bl ?_;refine GW.tail rfl (by kernel_rfl) (λhS=>?_);have co:=a0.trans hS;clear hS;refine Sa ?_;refine CU λD b8 d9 b0 hD=>?_;replace hD:Blk b8 D [.slice bp2 PP.book.length bc2,.slice bp1 CC.book.length bc1,.slice none 0 0] 58:=hD;have a6:Ae aj wc:=c0;have c2:=a6.size;have cp:=b0.size;have a7:=a6.trans b0;have b1:=a0.trans a7;have b2:=a3.trans b1;have cq:=a3.trans (a0.trans a6);have da:=hD.lt;have db:=a3.size;refine Sw ?_;refine LW.call (fs:=[.pointer (some ⟨D,0,none⟩)]) (cs:=[]) rfl rfl rfl (Rc PP.book CC.book bp2 bp1 bc2 bc1 D w b8 b2 (by omega) ay a4 az ar hD) ?_;rintro v c3 ⟨rfl,sp,sc,cr,bm,bo⟩;have a8:Ae aj c3:=a7.step bo (by simp;omega);refine Sw ?_;refine LW.call (fs:=[.pointer (some ⟨D,0,none⟩)]) (cs:=[]) rfl rfl rfl (SW PP.book CC.book bp2 bp1 sp bc2 bc1 sc D (Ei (Ef l id (i+1))) (GD CC.book CC.id) ov _ rv2 f2 wb aj c3 (g.ext ac) a2 a8 (Al.ext ay ac) (Al.ext a4 ac) az ar bm (by omega) (ak.ext ab).list (LL b9 ba) aa (HR _ _) (cr.low (by omega))) ?_;rintro v bq ⟨rfl,br,S,hS,bs⟩;have ae:Ae wb bq:=(a2.trans a8).step bs λb hb=>(hS b hb).1;have a9:=ab.trans ae;have ad:=b6.ext a9;have ct:=ae.size;have c4:∀j u,([.slice bp1 CC.book.length bc1]:List Value)[j]?=some u→bq.cell? (((a.add (((ki:Nat):Int).toNat*4)).add 2).add j)=some u:=λj u hj=>by
  match j,hj with
  | 0,hj=>exact An (a3.trans a9) (a1 2 u hj)
 refine Sw ?_;refine CW.drawG (Ae bq) 7 (λw' h=>h) (by kernel_rfl) λwd dc=>?_;refine Bl ?_;refine GW.tail rfl (by kernel_rfl) (λhS=>?_);replace ad:=ad.ext hS;refine Sa ?_;refine AP λcu b3 ad=>?_;have b4:Chg [A] w6 cu:=(a9.trans hS).chg.same b3;have bt:=(br.ext hS).old b3 (by simp;omega);refine Sw ?_;refine QW.again (n+1,_,_) ⟨by show n+1≤_;omega,b5.same b4,ad,⟨rv2,f2,?_⟩,λk c _ hk hc=>?_⟩ BP (by show _ - (n+1)<_ - n;omega)
 ·show Bn _ _ _ (Ei (Ef l id ((Bv l id).length - (n+1)))) _ _;rw [b7,LM al b9 am ba];exact bt.low (by omega)
 ·have hk:(Cm l id)[(Bv l id).length - (n+1)]?=some k:=hk;rw [b7,al] at hk;obtain rfl:=Option.some.inj hk;rw [am] at hc;obtain rfl:=Option.some.inj hc;exact ⟨bp1,bc1,rfl,a4⟩
def Ot (b:Ax):Prop:=b.length≤10∧∀s∈b,s.rows.length≤60∧s.name.length≤100∧∀r∈s.rows,r.length≤60
theorem Ot.book {b:Ax} (h:Ot b):Oq b:=⟨by have:=h.1;omega,λs hs=>by
 obtain ⟨h1,h2,h3⟩:=h.2 s hs;exact ⟨by omega,by omega,λr hr=>by have:=h3 r hr;omega⟩⟩
set_option maxRecDepth 8000 in
set_option maxHeartbeats 8000000 in
theorem QV (b:Ax) (sv:Value) (w:World) (h:Cq w sv b):AB Tryz.prog 19 [.agg ⟨[sv]⟩] w (λv w'=>(∃g,v=.bool g∧(g=false→Ot b))∧Ae w w'):=by
 obtain ⟨p,c,rfl⟩:=Bg.slice h;have hl:=h.1;refine AJ Tryz.func19 Tryz.ntmps19 ?_;refine Su ?_;refine CU λA w1 am ac hA=>?_;replace hA:Blk w1 A [.slice p b.length c] 29:=hA;refine Su ?_;refine CW.cutB (ι:=Int) (λ_ w'=>Ae w1 w'∧(b.length≤10→∀s∈b,s.rows.length≤60∧s.name.length≤100∧∀r∈s.rows,r.length≤60)) (λz=>[(1,.pointer (some ⟨A,0,none⟩)),(3,.int .i64 z)]) ?_ ?_
 ·refine CW.loop (ι:=Nat×Int) (λx w'=>x.1≤20∧x.1≤b.length∧Ae w1 w'∧∀(j:Nat) s,j<x.1→b[j]?=some s→s.rows.length≤60∧s.name.length≤100∧∀r∈s.rows,r.length≤60) (λx=>[(1,.pointer (some ⟨A,0,none⟩)),(3,.int .i64 x.2),(4,.int .i64 (x.1:Int))]) (λx=>20 - x.1) (0,0) ⟨by omega,by omega,Chg.refl _ _,λj s h=>by omega⟩ AX ?_;rintro ⟨i,z⟩ w2 ⟨hi,ae,a1,a8⟩;dsimp only at hi ae a8;show CW _ _ _ _ _ [(1,.pointer (some ⟨A,0,none⟩)),(3,.int .i64 z),(4,.int .i64 (i:Int))] _;have ad:=hA.ext a1;refine Su ?_;refine B1 (λh1=>?_) λh1=>?_;rotate_left
  ·refine Su ?_;have h1:i=b.length:=by simp at h1;omega
   refine QW.head z ⟨a1,λ_ s hs=>?_⟩ D5;obtain ⟨j,hj⟩:=List.getElem?_of_mem hs;exact a8 j s (by have:=(List.getElem?_eq_some_iff.1 hj).1;omega) hj
  have h1:i<b.length:=by simp at h1;omega
  refine Su ?_;refine Am (λh2=>?_) λh2=>?_;rotate_left
  ·have h2:¬((i:Int)<20):=by simpa using h2
   refine Su ?_;exact QW.head z ⟨a1,λh=>by omega⟩ D5
  have h2:i<20:=by simp at h2;omega
  have a0:=ac.trans a1;obtain ⟨s,hs⟩:∃s,b[i]?=some s:=⟨_,List.getElem?_eq_getElem h1⟩;obtain ⟨a,q,k,rfl,an,hr,a4⟩:=Cq.at (Cq.ext h a0) hs;have af:=a4 2 _ rfl;have ao:=a4 0 _ rfl;have ap:=hr.1;refine Sw ?_;refine B1 (λh3=>?_) λh3=>?_
  ·refine Sw ?_;exact QW.body1 Tryz.results19 rfl ⟨⟨_,rfl,λh=>by cases h⟩,a0⟩
  have h3:s.rows.length≤60:=by simp at h3;omega
  refine Sw ?_;refine Am (λh4=>?_) λh4=>?_
  ·refine Sw ?_;exact QW.body1 Tryz.results19 rfl ⟨⟨_,rfl,λh=>by cases h⟩,a0⟩
  have h4:s.name.length≤100:=by simp at h4;omega
  refine Sw ?_;refine CW.loop (ι:=Nat×Int) (λx w'=>x.1≤s.rows.length∧Ae w2 w'∧∀(j:Nat) r,j<x.1→s.rows[j]?=some r→r.length≤60) (λx=>[(1,.pointer (some ⟨A,0,none⟩)),(3,.int .i64 x.2),(4,.int .i64 (i:Int)),(5,.int .i64 (x.1:Int))]) (λx=>s.rows.length - x.1) (0,z) ⟨by omega,Chg.refl _ _,λj r h=>by omega⟩ B6 ?_;rintro ⟨r,y⟩ w3 ⟨ag,a5,a9⟩;dsimp only at ag a9;show CW _ _ _ _ _ [(1,.pointer (some ⟨A,0,none⟩)),(3,.int .i64 y),(4,.int .i64 (i:Int)),(5,.int .i64 (r:Int))] _;have ah:=ad.ext a5;have aa:=An a5 af;refine Sw ?_;refine Am (λh5=>?_) λh5=>?_;rotate_left
  ·have h5:r=s.rows.length:=by simp at h5;omega
   refine Sw ?_;refine QW.again (i+1,y) ⟨by show i+1≤20;omega,by show i+1≤b.length;omega,a1.trans a5,λj t hj ht=>?_⟩ AX (by show 20 - (i+1)<20 - i;omega);have hj:j<i+1:=hj;by_cases e:j=i
   ·subst e;rw [hs] at ht;obtain rfl:=Option.some.inj ht;refine ⟨h3,h4,λr hr=>?_⟩;obtain ⟨n,hn⟩:=List.getElem?_of_mem hr;exact a9 n r (by have:=(List.getElem?_eq_some_iff.1 hn).1;omega) hn
   ·exact a8 j t (by omega) ht
  have h5:r<s.rows.length:=by simp at h5;omega
  obtain ⟨row,a7⟩:∃x,s.rows[r]?=some x:=⟨_,List.getElem?_eq_getElem h5⟩;obtain ⟨a2,q2,k2,rfl,ht,ai⟩:=Hf.at (Hf.ext hr a5) a7;have aq:=ht.1;refine Sw ?_;refine Am (λh6=>?_) λh6=>?_
  ·refine Sw ?_;exact QW.body1 Tryz.results19 rfl ⟨⟨_,rfl,λh=>by cases h⟩,a0.trans a5⟩
  have h6:row.length≤60:=by simp at h6;omega
  refine Sw ?_;refine CW.loop (ι:=Nat×Int) (λx w'=>x.1≤row.length∧Ae w3 w') (λx=>[(1,.pointer (some ⟨A,0,none⟩)),(3,.int .i64 x.2),(4,.int .i64 (i:Int)),(5,.int .i64 (r:Int)),(6,.int .i64 (x.1:Int))]) (λx=>row.length - x.1) (0,y) ⟨by omega,Chg.refl _ _⟩ CB ?_;rintro ⟨m,x⟩ w4 ⟨hm,a6⟩;dsimp only at hm;show CW _ _ _ _ _ [(1,.pointer (some ⟨A,0,none⟩)),(3,.int .i64 x),(4,.int .i64 (i:Int)),(5,.int .i64 (r:Int)),(6,.int .i64 (m:Int))] _;have ar:=ah.ext a6;have aj:=An a6 aa;have ak:=An a6 ai;refine Sw ?_;refine Am (λh7=>?_) λh7=>?_;rotate_left
  ·have h7:m=row.length:=by simp at h7;omega
   refine Sw ?_;refine QW.again (r+1,x) ⟨by show r+1≤_;omega,a5.trans a6,λj t hj ht=>?_⟩ B6 (by show s.rows.length - (r+1)<s.rows.length - r;omega);have hj:j<r+1:=hj;by_cases e:j=r
   ·subst e;rw [a7] at ht;obtain rfl:=Option.some.inj ht;exact h6
   ·exact a9 j t (by omega) ht
  have h7:m<row.length:=by simp at h7;omega
  obtain ⟨tx,al⟩:∃x,row[m]?=some x:=⟨_,List.getElem?_eq_getElem h7⟩;obtain ⟨a3,rfl,au,av⟩:=CD.at (ht.ext a6) al;refine Sw ?_;refine LW.arith (op:=.add) rfl rfl rfl rfl rfl ?_;refine Sw ?_;refine LW.arith (op:=.add) rfl rfl rfl rfl rfl ?_;refine Sw ?_;exact QW.again (m+1,_) ⟨by show m+1≤_;omega,a6⟩ CB (by show row.length - (m+1)<row.length - m;omega)
 rintro z w2 ⟨a1,ab⟩;have ad:=hA.ext a1;have a0:=ac.trans a1;refine Su ?_;refine B1 (λh1=>?_) λh1=>?_
 ·refine Su ?_;exact QW.body1 Tryz.results19 rfl ⟨⟨_,rfl,λh=>by cases h⟩,a0⟩
 have h1:b.length≤10:=by simp at h1;omega
 refine Su ?_;exact QW.body1 Tryz.results19 rfl ⟨⟨_,rfl,λ_=>⟨h1,ab h1⟩⟩,a0⟩
set_option maxRecDepth 8000 in
set_option maxHeartbeats 8000000 in
theorem SJ (b:Ax) (sv:Value) (w:World) (h:Cq w sv b):AB Tryz.prog 10 [.agg ⟨[sv]⟩] w (λv w'=>(∃g,v=.bool g∧(g=false→Ot b))∧Ae w w'):=by
 obtain ⟨p,c,rfl⟩:=Bg.slice h;have hl:=h.1;refine AJ Tryz.func10 Tryz.ntmps10 ?_;refine Su ?_;refine CU λA w1 ab a6 hA=>?_;replace hA:Blk w1 A [.slice p b.length c] 29:=hA;refine Su ?_;refine CW.cutB (ι:=Int) (λ_ w'=>Ae w1 w') (λz=>[(1,.pointer (some ⟨A,0,none⟩)),(3,.int .i64 z)]) ?_ ?_
 ·refine CW.loop (ι:=Nat×Int) (λx w'=>x.1≤20∧Ae w1 w') (λx=>[(1,.pointer (some ⟨A,0,none⟩)),(3,.int .i64 x.2),(4,.int .i64 (x.1:Int))]) (λx=>20 - x.1) (0,0) ⟨by omega,Chg.refl _ _⟩ AX ?_;rintro ⟨i,z⟩ w2 ⟨hi,a1⟩;dsimp only at hi;show CW _ _ _ _ _ [(1,.pointer (some ⟨A,0,none⟩)),(3,.int .i64 z),(4,.int .i64 (i:Int))] _;have a7:=hA.ext a1;refine Su ?_;refine B1 (λh1=>?_) λh1=>?_;rotate_left
  ·refine Su ?_;exact QW.head z a1 D5
  have h1:i<b.length:=by simp at h1;omega
  refine Su ?_;refine Am (λh2=>?_) λh2=>?_;rotate_left
  ·refine Su ?_;exact QW.head z a1 D5
  have h2:i<20:=by simp at h2;omega
  have a0:=a6.trans a1;obtain ⟨s,hs⟩:∃s,b[i]?=some s:=⟨_,List.getElem?_eq_getElem h1⟩;obtain ⟨a,q,k,rfl,ac,hr,a4⟩:=Cq.at (Cq.ext h a0) hs;have a8:=a4 2 _ rfl;have ad:=hr.1;refine Su ?_;refine CW.loop (ι:=Nat×Int) (λx w'=>x.1≤60∧Ae w2 w') (λx=>[(1,.pointer (some ⟨A,0,none⟩)),(3,.int .i64 x.2),(4,.int .i64 (i:Int)),(5,.int .i64 (x.1:Int))]) (λx=>60 - x.1) (0,z) ⟨by omega,Chg.refl _ _⟩ B6 ?_;rintro ⟨r,y⟩ w3 ⟨a9,a3⟩;dsimp only at a9;show CW _ _ _ _ _ [(1,.pointer (some ⟨A,0,none⟩)),(3,.int .i64 y),(4,.int .i64 (i:Int)),(5,.int .i64 (r:Int))] _;have ae:=a7.ext a3;have aa:=An a3 a8;refine Sw ?_;refine B1 (λh3=>?_) λh3=>?_;rotate_left
  ·refine Sw ?_;exact QW.again (i+1,y) ⟨by show i+1≤20;omega,a1.trans a3⟩ AX (by show 20 - (i+1)<20 - i;omega)
  have h3:r<s.rows.length:=by simp at h3;omega
  refine Sw ?_;refine Am (λh4=>?_) λh4=>?_;rotate_left
  ·refine Sw ?_;exact QW.again (i+1,y) ⟨by show i+1≤20;omega,a1.trans a3⟩ AX (by show 20 - (i+1)<20 - i;omega)
  have h4:r<60:=by simp at h4;omega
  obtain ⟨row,a5⟩:∃x,s.rows[r]?=some x:=⟨_,List.getElem?_eq_getElem h3⟩;obtain ⟨a2,q2,k2,rfl,ht,af⟩:=Hf.at (Hf.ext hr a3) a5;have ag:=ht.1;refine Sw ?_;refine LW.arith (op:=.add) rfl rfl rfl rfl rfl ?_;refine Sw ?_;exact QW.again (r+1,_) ⟨by show r+1≤60;omega,a3⟩ B6 (by show 60 - (r+1)<60 - r;omega)
 rintro z w2 a1;have a7:=hA.ext a1;have a0:=a6.trans a1;refine Su ?_;refine Ap rfl rfl (QV b _ _ (Cq.ext h a0)) ?_;rintro v w3 ⟨⟨g,rfl,hg⟩,a3⟩
 cases g with
 | true=>
  refine Su ?_
  exact QW.body1 Tryz.results10 rfl ⟨⟨_,rfl,λh=>by cases h⟩,a0.trans a3⟩
 | false=>
  refine Su ?_;exact QW.body1 Tryz.results10 rfl ⟨⟨_,rfl,λ_=>hg rfl⟩,a0.trans a3⟩
def XR:Ax:=[⟨[65],1,[[[49]]]⟩]
def X3:AA:=[⟨[97],[],XR,[]⟩]
theorem VK:Bd XR=true:=by decide +kernel
theorem VL:Gw X3=true:=by decide +kernel
theorem Tc:GE X3 [97]=[[[[97]]]]:=rfl
theorem GF {w:World} {A m:Nat} {cs:List Value} {T:TypeId} (h:Blk w A cs T):∀j u,cs[j]?=some u→w.cell? (((⟨A,0,none⟩:Addr).add (0*m)).add j)=some u:=λj u hj=>by
 rw [Nat.zero_mul,A3,A3];refine h.cell ?_
 simpa using hj
set_option maxRecDepth 8000 in
set_option maxHeartbeats 4000000 in
theorem DJ (w:World) (g:CV w):AB Tryz.prog 9 [] w (λv w'=>v=.bool true∧Ae w w'):=by
 refine AJ Tryz.func9 Tryz.ntmps9 ?_;refine Sa ?_;refine C0 λR w1 ae a5 hR=>?_;replace hR:Blk w1 R [Aj [49]] 9:=hR;refine Sa ?_;refine C0 λU w2 af a4 hU=>?_;replace hU:Blk w2 U [.slice (some ⟨R,0,none⟩) 1 1] 26:=hU;refine Sa ?_;refine C0 λB w3 ag a6 hB=>?_;replace hB:Blk w3 B [Aj [65],.int .i64 1,.slice (some ⟨U,0,none⟩) 1 1] 41:=hB;refine Sa ?_;refine BQ λA w4 ah a7 hA=>?_;refine Sa ?_;refine AP λw5 a8 hA=>?_;replace hA:Blk w5 A [.slice (some ⟨B,0,none⟩) 1 1] 29:=hA;have a3:Ae w3 w5:=a7.step a8 (by simp;omega);refine Sa ?_;refine C0 λC w6 ai a9 hC=>?_;replace hC:Blk w6 C [Aj [97],.slice none 0 0,.slice (some ⟨B,0,none⟩) 1 1,Aj []] 31:=hC;have a1:=a3.trans a9;have a0:=a6.trans a1;have a2:=a5.trans (a4.trans a0);have aa:=(hR.ext a4).ext a0;have ab:=hU.ext a0;have ac:=hB.ext a1;have hP:CX w6 (.slice (some ⟨C,0,none⟩) 1 1) X3:=⟨by decide,.inr ⟨_,1,rfl,λi x hi=>by
  match i,hi with
  | 0,hi=>
   obtain rfl:=Option.some.inj hi;refine ⟨_,rfl,⟨.slice none 0 0,.slice (some ⟨B,0,none⟩) 1 1,rfl,⟨by decide,.inl ⟨rfl,rfl⟩⟩,by decide,⟨by decide,.inr ⟨_,1,rfl,λ_=>trivial,λi x hi=>?_⟩⟩,VK⟩,GF hC⟩
   match i,hi with
   | 0,hi=>
    obtain rfl:=Option.some.inj hi;refine ⟨_,rfl,⟨.slice (some ⟨U,0,none⟩) 1 1,rfl,by decide,⟨by decide,.inr ⟨_,1,rfl,λ_=>trivial,λi x hi=>?_⟩⟩⟩,GF ac⟩
    match i,hi with
    | 0,hi=>
     obtain rfl:=Option.some.inj hi;refine ⟨_,rfl,⟨.slice (some ⟨R,0,none⟩) 1 1,rfl,⟨by decide,.inr ⟨_,1,rfl,λ_=>trivial,λi x hi=>?_⟩⟩⟩,GF ab⟩
     match i,hi with
     | 0,hi=>
      obtain rfl:=Option.some.inj hi;exact ⟨_,rfl,⟨rfl,by decide⟩,GF aa⟩⟩⟩
 refine Sa ?_;refine Ap rfl rfl (LH X3 _ [97] w6 (g.ext a2) hP (λp n c e=>by obtain ⟨-,rfl,rfl⟩:=Value.slice.inj e;exact Nat.le_refl _) VL (by decide)) ?_;rintro v w7 ⟨rv,f,hT,ad⟩;rw [Tc] at hT;obtain ⟨T,ct,M,cm,cx,hv,h1,h2,-,sp,h3⟩:=hT.at (i:=0) (row:=0) rfl rfl (by decide);have hv:v=.slice (some ⟨T,0,none⟩) 1 ct:=hv;subst hv;have aj:w7.cell? ((⟨T,0,none⟩:Addr).add ((0:Int).toNat*1))=some (.slice (some ⟨M,0,none⟩) 1 cm):=h1;have ak:w7.cell? ((⟨M,0,none⟩:Addr).add ((0:Int).toNat*1))=some (.slice (some ⟨f 0 0,0,none⟩) 1 cx):=h2;have al:w7.cell? ((⟨f 0 0,0,none⟩:Addr).add ((0:Int).toNat*1))=some (Aj [97]):=by
  rw [A3];exact h3.cell rfl
 clear h1 h2;refine Sw ?_;exact QW.body1 Tryz.results9 rfl ⟨rfl,a2.trans ad⟩
theorem Ss {α:Type} {l m:List α} {k:Nat} (h:∀j,j<k→l[j]?=m[j]?) (hk:l[k]?=m[k]?):∀j,j<k+1→l[j]?=m[j]?:=λj hj=>by
 by_cases e:j=k
 ·rw [e];exact hk
 ·exact h j (by omega)
theorem So {α:Type} {l m:List α} (hl:l.length=m.length) (h:∀j,j<l.length→l[j]?=m[j]?):l=m:=by
 apply List.ext_getElem?;intro j;by_cases hj:j<l.length
 ·exact h j hj
 ·rw [List.getElem?_eq_none (by omega),List.getElem?_eq_none (by omega)]
theorem Sr {α:Type} {l m:List α} (h:l.length≠m.length):¬l=m:=λe=>h (by rw [e])
theorem OB {α:Type} {l m:List α} {k:Nat} {x y:α} (hx:l[k]?=some x) (hy:m[k]?=some y) (h:¬x=y):¬l=m:=λe=>by
 rw [e,hy] at hx;exact h (Option.some.inj hx).symm
set_option maxRecDepth 8000 in
set_option maxHeartbeats 4000000 in
theorem Ow (t t':AD) (v u:Value) (w:World) (h:ES w v t) (h':ES w u t'):AB Tryz.prog 12 [v,u] w (λr w'=>r=.bool (decide (t=t'))∧Ae w w'):=by
 obtain ⟨p,c,rfl⟩:=h.slice;obtain ⟨q,d,rfl⟩:=h'.slice;have hl:=h.1;have ai:=h'.1;refine AJ Tryz.func12 Tryz.ntmps12 ?_;refine Sw ?_;refine Am (λh1=>?_) λh1=>?_
 ·have h1:t.length≠t'.length:=by simp at h1;omega
  refine Sw ?_;exact QW.body1 Tryz.results12 rfl ⟨by rw [decide_eq_false (Sr h1)],Chg.refl _ _⟩
 have h1:t.length=t'.length:=by simp at h1;omega
 refine Sw ?_;refine CW.loop (ι:=Nat) (λi w'=>i≤t.length∧Ae w w'∧∀j,j<i→t[j]?=t'[j]?) (λi=>[(0,.slice p t.length c),(1,.slice q t'.length d),(5,.int .i64 i)]) (λi=>t.length - i) 0 ⟨Nat.zero_le _,Chg.refl _ _,λ_ h=>by omega⟩ AX ?_;rintro i w1 ⟨hi,a6,a8⟩;replace h:=h.ext a6;replace h':=h'.ext a6;refine Sw ?_;refine Am (λh2=>?_) λh2=>?_;rotate_left
 ·have h2:i=t.length:=by simp at h2;omega
  subst h2;refine Sw ?_;exact QW.body1 Tryz.results12 rfl ⟨by rw [decide_eq_true (So h1 a8)],a6⟩
 have h2:i<t.length:=by simp at h2;omega
 obtain ⟨rows,a1⟩:∃x,t[i]?=some x:=⟨_,List.getElem?_eq_getElem h2⟩;obtain ⟨rows',a0⟩:∃x,t'[i]?=some x:=⟨_,List.getElem?_eq_getElem (by omega)⟩;obtain ⟨a,rp,rc,rfl,hR,hc⟩:=ES.at h a1;obtain ⟨b,sp,sc,rfl,a9,ac⟩:=ES.at h' a0;have aj:=hR.1;have ad:=a9.1;refine Sw ?_;refine CW.drawG (Ae w1) 10 (λw' h=>h) (by kernel_rfl) λwa ak=>?_;refine Bl ?_;refine GW.tail rfl (by kernel_rfl) (λhS=>?_);have aa:=a6.trans hS;generalize wa=w2 at hS aa;refine Sa ?_;refine Am (λh3=>?_) λh3=>?_
 ·have h3:rows.length≠rows'.length:=by simp at h3;omega
  refine Sw ?_;exact QW.body1 Tryz.results12 rfl ⟨by rw [decide_eq_false (OB a1 a0 (Sr h3))],aa⟩
 have h3:rows.length=rows'.length:=by simp at h3;omega
 refine Sw ?_;refine CW.loop (ι:=Nat) (λk w'=>k≤rows.length∧Ae w1 w'∧∀j,j<k→rows[j]?=rows'[j]?) (λk=>[(0,.slice (some a) t.length c),(1,.slice (some b) t'.length d),(5,.int .i64 i),(6,.int .i64 k)]) (λk=>rows.length - k) 0 ⟨Nat.zero_le _,hS,λ_ h=>by omega⟩ B6 ?_;rintro k w3 ⟨hk,a5,ab⟩;have al:=An a5 hc;have ae:=An a5 ac;have a7:=a6.trans a5;refine Sw ?_;refine Am (λh4=>?_) λh4=>?_;rotate_left
 ·have h4:k=rows.length:=by simp at h4;omega
  subst h4;refine Sw ?_;exact QW.again (i+1) ⟨by omega,a7,Ss a8 (by rw [a1,a0,So h3 ab])⟩ AX (by omega)
 have h4:k<rows.length:=by simp at h4;omega
 obtain ⟨row,a4⟩:∃x,rows[k]?=some x:=⟨_,List.getElem?_eq_getElem h4⟩;obtain ⟨row',a3⟩:∃x,rows'[k]?=some x:=⟨_,List.getElem?_eq_getElem (by omega)⟩;obtain ⟨a2,tp,tc,rfl,-,hT,hd⟩:=AM.at (AM.ext hR a5) a4;obtain ⟨b2,up,uc,rfl,-,af,am⟩:=AM.at (AM.ext a9 a5) a3;have an:k<rows'.length:=by omega
 refine Sw ?_;refine CW.drawG (Ae w3) 15 (λw' h=>h) (by kernel_rfl) λwb ao=>?_;clear hS;refine Bl ?_;refine Dp 14 λhS=>?_;refine Ap rfl rfl (SP row row' _ _ _ (Aw.ext hT hS) (Aw.ext af hS)) ?_;rintro v w4 ⟨rfl,ag⟩;have ah:=hS.trans ag;clear hS;apply LW.nil;refine QW.headed ah ?_;refine GW.tail rfl (by kernel_rfl) (λhS=>?_);refine Sa ?_;refine Am (λh5=>?_) λh5=>?_
 ·have h5:¬row=row':=by simpa using h5
  refine Sw ?_;exact QW.body1 Tryz.results12 rfl ⟨by rw [decide_eq_false (OB a1 a0 (OB a4 a3 h5))],a7.trans hS⟩
 ·have h5:row=row':=by simpa using h5
  refine Sw ?_;exact QW.again (k+1) ⟨by omega,a5.trans hS,Ss ab (by rw [a4,a3,h5])⟩ B6 (by omega)
def Xj (c:AF):Prop:=Oq c.book∧Bd c.book=true∧c.id.length≤1000000
set_option maxRecDepth 8000 in
set_option maxHeartbeats 4000000 in
theorem V8 (l:AA) (v:Value) (id:List UInt8) (w:World) (g:CV w) (h:He w v l) (hcap:∀p n c,v=.slice p n c→n≤c):AB Tryz.prog 3 [v,Aj id] w (λr w'=>r=.bool true∧Ae w w'):=by
 obtain ⟨p,c,rfl⟩:=Bg.slice h;have hl:=h.1;refine AJ Tryz.func3 Tryz.ntmps3 ?_;refine Sw ?_;refine B1 (λh1=>?_) λh1=>?_
 ·refine Sw ?_;refine Ap rfl rfl (DJ _ g) ?_;rintro v w1 ⟨rfl,hx⟩;refine Sw ?_;exact QW.body1 Tryz.results3 rfl ⟨rfl,hx⟩
 have h1:l.length≤12:=by have:¬(12:Int)<(l.length:Int):=of_decide_eq_false h1;omega
 refine Sw ?_;refine Ap rfl rfl (OY l _ w h.past hcap) ?_;rintro v w1 ⟨rfl,a7⟩
 cases hm:Gw l with
 | false=>
  refine Sw ?_;refine Ap rfl rfl (DJ _ (g.ext a7)) ?_;rintro v w2 ⟨rfl,hx⟩;refine Sw ?_
  exact QW.body1 Tryz.results3 rfl ⟨rfl,a7.trans hx⟩
 | true=>
  refine Sw ?_;refine CW.loop (ι:=Nat) (λi w'=>i≤l.length∧Ae w w'∧∀(j:Nat) d,j<i→l[j]?=some d→Xj d) (λi=>[(0,.slice p l.length c),(1,Aj id),(5,.int .i64 i)]) (λi=>l.length - i) 0 ⟨Nat.zero_le _,a7,λj d h=>by omega⟩ AX ?_;rintro i w2 ⟨hi,a4,a9⟩;refine Sw ?_;refine Am (λh2=>?_) λh2=>?_;rotate_left
  ·have h2:i=l.length:=by simp at h2;omega
   subst h2;have hR:CX w (.slice p l.length c) l:=h.fine λd hd=>by
    obtain ⟨j,hj⟩:=List.getElem?_of_mem hd;exact a9 j d (List.getElem?_eq_some_iff.1 hj).1 hj
   refine Sw ?_;refine Ap rfl rfl (LH l _ id w2 (g.ext a4) (hR.ext a4) hcap hm (by omega)) ?_;rintro v w3 ⟨rv,f,ac,a3⟩;have a1:=a4.trans a3;refine Sw ?_;refine Ap rfl rfl (R6 l _ id w3 (hR.ext a1) hm (by omega)) ?_;rintro u w4 ⟨rv',f',ad,a5⟩;have a0:=a1.trans a5;refine Sw ?_;refine Ap rfl rfl (Ow (GE l id) (GE l id) _ _ w4 (ac.ext a5).list ad.list) ?_;rintro u w5 ⟨rfl,ae⟩;have a6:=a0.trans ae;rw [decide_eq_true (rfl:GE l id=GE l id)];refine Sw ?_;refine Ap rfl rfl (DJ _ (g.ext a6)) ?_;rintro v w6 ⟨rfl,af⟩;refine Sw ?_;exact QW.body1 Tryz.results3 rfl ⟨rfl,a6.trans af⟩
  have h2:i<l.length:=by simp at h2;omega
  obtain ⟨C,hC⟩:∃s,l[i]?=some s:=⟨_,List.getElem?_eq_getElem h2⟩;obtain ⟨a,q,n,bp,bc,rfl,hq,aa,ag,a2⟩:=He.at (h.ext a4) hC;have ah:∀j u,([.slice bp C.book.length bc]:List Value)[j]?=some u→w2.cell? (((a.add (((i:Nat):Int).toNat*4)).add 2).add j)=some u:=λj u hj=>by
   match j,hj with
   | 0,hj=>exact a2 2 u hj
  have ai:=a2 0 _ rfl;refine Sw ?_;refine Ap rfl rfl (SJ C.book _ w2 aa) ?_;rintro v w3 ⟨⟨b,rfl,hb⟩,a3⟩;have a1:=a4.trans a3;have al:∀j u,([.slice bp C.book.length bc]:List Value)[j]?=some u→w3.cell? (((a.add (((i:Nat):Int).toNat*4)).add 2).add j)=some u:=λj u hj=>An a3 (ah j u hj);have a8:=An a3 ai
  cases b with
  | true=>
   refine Sw ?_;refine Ap rfl rfl (DJ _ (g.ext a1)) ?_;rintro v w4 ⟨rfl,hx⟩;refine Sw ?_
   exact QW.body1 Tryz.results3 rfl ⟨rfl,a1.trans hx⟩
  | false=>
   have ab:=hb rfl;refine Sw ?_;refine Ap rfl rfl (Nl C.book _ w3 (C8.ext (aa.loose ab.book) a3)) ?_;rintro v w4 ⟨rfl,a5⟩;have a0:=a1.trans a5;have aj:=An a5 a8
   cases ak:Bd C.book with
   | false=>
    refine Sw ?_;refine Ap rfl rfl (DJ _ (g.ext a0)) ?_;rintro v w5 ⟨rfl,hx⟩;refine Sw ?_
    exact QW.body1 Tryz.results3 rfl ⟨rfl,a0.trans hx⟩
   | true=>
    refine Sw ?_;refine Am (λh3=>?_) λh3=>?_
    ·refine Sw ?_;refine Ap rfl rfl (DJ _ (g.ext a0)) ?_;rintro v w5 ⟨rfl,hx⟩;refine Sw ?_;exact QW.body1 Tryz.results3 rfl ⟨rfl,a0.trans hx⟩
    have h3:C.id.length≤100:=by have:¬(100:Int)<(C.id.length:Int):=of_decide_eq_false h3;omega
    refine Sw ?_;refine QW.again (i+1) ⟨by omega,a0,λj d hj hd=>?_⟩ AX (by omega);by_cases e:j=i
    ·subst e;rw [hC] at hd;obtain rfl:=Option.some.inj hd;exact ⟨ab.book,ak,by omega⟩
    ·exact a9 j d (by omega) hd
end Go.Proofs.YtefaigjfkddelaaGreatDoor
