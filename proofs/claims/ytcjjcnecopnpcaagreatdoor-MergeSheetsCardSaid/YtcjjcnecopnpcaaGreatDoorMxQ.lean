/-
  Joined by program out of the texts Mge4 Mge5 MgeN.
-/
import Derived.Test.YtcjjcnecopnpcaaGreatDoorMxP
import Derived.Test.YtcjjcnecopnpcaaGreatDoorMxK
import Derived.Test.YtcjjcnecopnpcaaGreatDoorMxM
import Derived.Test.YtcjjcnecopnpcaaGreatDoorMxA
import Derived.Sort.Walk0
namespace Go.Proofs.YtcjjcnecopnpcaaGreatDoor
open Tryz
open Go Go.E
theorem U4{w:World}{lo T n:Nat}{zs:List Int}(h:Blk w T (Af zs) 3)(hn:zs.length=n)(hl:lo≤T):E.Own w lo 3 1 (.slice (some ⟨T,0,none⟩) n n) zs.length (Af zs):=by
 subst hn;exact⟨by rw[A9];simp,.inr ⟨T,zs.length,[],rfl,by simpa using h,Abi _,by simp,hl⟩⟩
theorem LX{w:World}{A i:Nat}{cs:List Value}{T:TypeId}{u v:Value}(h:Blk w A cs T)(h1:cs[i]?=some u)(h2:cs[i+1]?=some v):∀j x,([u,v]:List Value)[j]?=some x→w.cell? ((⟨A,i,none⟩:Addr).add j)=some x:=λj x hj=>by
 rw[Au]
 match j,hj with
 | 0,hj=>
  obtain rfl:=Abm hj
  exact h.cell h1
 | 1,hj=>
  obtain rfl:=Abm hj;exact h.cell h2
structure Zz(lo:Nat)(w:World)(f:D0)(O X Y A B C:Nat):Prop where
 o:Blk w O (Af f.o) 3
 x:Blk w X (Af f.x) 3
 y:Blk w Y (Af f.y) 3
 lo:lo≤O∧lo≤X∧lo≤Y
 a:Blk w A [.slice (some ⟨O,0,none⟩) f.o.length f.o.length,.int .i64 (f.now:Int)] 77
 b:Blk w B [.slice (some ⟨X,0,none⟩) f.x.length f.x.length,.int .i64 (f.now:Int)] 77
 c:Blk w C [.slice (some ⟨Y,0,none⟩) f.y.length f.y.length,.int .i64 (f.now:Int)] 77
theorem Zz.ext{lo:Nat}{w w':World}{f:D0}{O X Y A B C:Nat}(h:Zz lo w f O X Y A B C)(e:Ai w w'):Zz lo w' f O X Y A B C:=
 ⟨h.o.ext e,h.x.ext e,h.y.ext e,h.lo,h.a.ext e,h.b.ext e,h.c.ext e⟩
theorem Zz.chg{K:World→Prop}{w0 w w':World}{M:Nat}{S:Fin 3→Nat}{bk:Fin 3→An}{bv sv:Fin 3→Value}{out:Value}{l:Fin 3→List Bg}{ps:List A1}{lo:Nat}{f:D0}{O X Y A B C:Nat}(h:Zz lo w f O X Y A B C)(k:FN K w0 w M S bk bv sv out l ps)(e:Chg (Bw M S sv out) w w'):Zz lo w' f O X Y A B C:=
 ⟨h.o.chg e (k.other h.o),h.x.chg e (k.other h.x),h.y.chg e (k.other h.y),h.lo,h.a.chg e (k.other h.a),h.b.chg e (k.other h.b),h.c.chg e (k.other h.c)⟩
theorem Po{K:World→Prop}{w0 w:World}{M:Nat}{S:Fin 3→Nat}{bk:Fin 3→An}{bv sv:Fin 3→Value}{out:Value}{l:Fin 3→List Bg}{ps:List A1}(k:FN K w0 w M S bk bv sv out l ps){A B:Nat}{s:Bg}(h1:Blk w A (Af s.rows.to) 3)(h2:Blk w B (Af s.cols.to) 3)(b1:s.rows.to.length≤1000000)(b2:s.cols.to.length≤1000000) :
  ET (Bw M S sv out) w λw'=>shR w' (J7 s (.slice (some ⟨A,0,none⟩) s.rows.to.length s.rows.to.length) (.slice (some ⟨B,0,none⟩) s.cols.to.length s.cols.to.length)) s:=
 N6 (lo:=0) (U4 h1 rfl (Acn _)) (U4 h2 rfl (Acn _)) b1 b2 (λb hb=>by
  simp only[Ac,Aad] at hb;subst hb;exact k.other h1) (λb hb=>by
  simp only[Ac,Aad] at hb;subst hb;exact k.other h2)
section
variable {K:World→Prop} {w0 w:World} {M:Nat} {S:Fin 3→Nat} {bk:Fin 3→An} {bv sv:Fin 3→Value} {out:Value} {l:Fin 3→List Bg} {ps:List A1}
def SN(l:Fin 3→List Bg)(P:A1):Fin 3→List Bg
 | 0=>l 0++[P.o]
 | 1=>l 1++[P.a]
 | 2=>l 2++[P.b]
theorem Hq{s t:Ae}(hs:A7 s=true)(ht:A7 t=true):(Ag s t).rows.to.length≤200∧(Ag s t).cols.to.length≤200∧(Ag s t).rows.new≤200∧(Ag s t).cols.new≤200:=by
 obtain⟨_,h2,h3,h4,_⟩:=AZ.1 hs;obtain⟨_,k2,k3,k4,_⟩:=AZ.1 ht;have l1:=Cv s t;have l2:=Ct s t (AO s t);refine⟨?_,?_,?_,?_⟩
 ·show(AO s t).length≤200;omega
 ·show(CT s t (AO s t)).length≤200;omega
 ·show((t.rows.length:Nat):Int)≤200;omega
 ·show((t.cols.toNat:Nat):Int)≤200;omega
set_option maxRecDepth 8000 in
set_option maxHeartbeats 8000000 in
theorem Vu(h:FN K w0 w M S bk bv sv out l ps)(o a b:Ae)(nm:List UInt8)(ho:A7 o=true)(ha:A7 a=true)(hb:A7 b=true)(eo:Bh (bk 0) nm=some o)(ea:Bh (bk 1) nm=some a)(eb:Bh (bk 2) nm=some b)(q1 q2 q3:Option Addr)(k1 k2 k3:Nat)(r1:BA w0 (.slice q1 o.rows.length k1) o.rows)(r2:BA w0 (.slice q2 a.rows.length k2) a.rows)(r3:BA w0 (.slice q3 b.rows.length k3) b.rows)(hl:∀i,(l i).length≤900)(hp:ps.length≤900) :
  AF prog 49 [.pointer (some ⟨M,0,none⟩),.agg ⟨Am o (.slice q1 o.rows.length k1)⟩,.agg ⟨Am a (.slice q2 a.rows.length k2)⟩,.agg ⟨Am b (.slice q3 b.rows.length k3)⟩] w (λv w'=>v=.tuple #[]∧∃sv' out',FN K w0 w' M S bk bv sv' out' (SN l (AQ nm o a b)) (ps++[AQ nm o a b])):=by
 refine Bj func49 ntmps49 ?_;apply CW.seq;apply CW.region;refine Sl ?_;refine CM λX w1 cr b1 hX=>?_;replace hX:Blk w1 X (Am o (.slice q1 o.rows.length k1)) 46:=hX;refine Sl ?_;refine CM λV w2 cs ax hV=>?_;replace hV:Blk w2 V (Am a (.slice q2 a.rows.length k2)) 46:=hV;refine Sl ?_;refine CM λZ w3 ct an hZ=>?_;replace hZ:Blk w3 Z (Am b (.slice q3 b.rows.length k3)) 46:=hZ;replace hX:=(hX.ext ax).ext an;replace hV:=hV.ext an;have ag:=(b1.trans ax).trans an;have hH:=h.later ag;refine Sl ?_;apply LW.nil;apply QW.then_n;refine CW.seq_cut (ι:=Nat×Nat×(Option Addr×Nat)×(Option Addr×Nat)×(Option Addr×Nat)×(Option Addr×Nat)) (λx w'=>Ai w3 w'∧Blk w' x.1 (J7 (Ag o a) (.slice x.2.2.1.1 o.rows.length x.2.2.1.2) (.slice x.2.2.2.1.1 o.cols.toNat x.2.2.2.1.2)) 79∧Blk w' x.2.1 (J7 (Ag o b) (.slice x.2.2.2.2.1.1 o.rows.length x.2.2.2.2.1.2) (.slice x.2.2.2.2.2.1 o.cols.toNat x.2.2.2.2.2.2)) 79∧AY w' (.slice x.2.2.1.1 o.rows.length x.2.2.1.2) (AO o a)∧AY w' (.slice x.2.2.2.1.1 o.cols.toNat x.2.2.2.1.2) (CT o a (AO o a))∧AY w' (.slice x.2.2.2.2.1.1 o.rows.length x.2.2.2.2.1.2) (AO o b)∧AY w' (.slice x.2.2.2.2.2.1 o.cols.toNat x.2.2.2.2.2.2) (CT o b (AO o b))) (λx=>[(0,.pointer (some ⟨M,0,none⟩)),(5,.pointer (some ⟨X,0,none⟩)),(8,.pointer (some ⟨x.1,0,none⟩)),(9,.pointer (some ⟨x.2.1,0,none⟩))]) ?_ ?_
 ·have la1:=Cv o a;have la2:=Ct o a (AO o a);have lb1:=Cv o b;have lb2:=Ct o b (AO o b);have so:=(G4 ho);have ao:=λw (hx:Ai w3 w)=>HJ o a _ _ w (Bb.ext r1 (hH.ext.trans hx)) (Bb.ext r2 (hH.ext.trans hx)) (Fv ho) (Fv ha);have ad:=λw (hx:Ai w3 w)=>HJ o b _ _ w (Bb.ext r1 (hH.ext.trans hx)) (Bb.ext r3 (hH.ext.trans hx)) (Fv ho) (Fv hb);clear h hH r1 r2 r3 hl hp b1 ax an ag;refine CW.drawG (Ai w3) 9 (λw' h=>h) AdF λwa a9=>?_;have hE:=a9;refine AJ ?_;refine GW.three 2 6 7 AdF rfl rfl rfl rfl rfl rfl rfl rfl rfl (λhS=>?_) (λhS=>?_) (λhS=>?_)
  ·refine Ay rfl rfl (ao _ hE) ?_;rintro v wt ⟨rv1,cv1,rfl,o1,o2,a0⟩;obtain⟨pa,ca,rfl⟩:=o1.slice;obtain⟨pb,cb,rfl⟩:=o2.slice;have c1:=a0.size;have hE:=hE.trans a0;clear hS;apply LW.nil;refine QW.headed hE ?_;refine AJ ?_;refine GW.three 5 6 7 AdF rfl rfl rfl rfl rfl rfl rfl rfl rfl (λhS=>?_) (λhS=>?_) (λhS=>?_)
   ·refine Ay rfl rfl (ad _ hE) ?_;rintro v wt ⟨rv2,cv2,rfl,o3,o4,a0⟩;obtain⟨pc,cc,rfl⟩:=o3.slice;obtain⟨pd,cd,rfl⟩:=o4.slice;replace o1:=by first | exact o1.ext a0 | exact Ab.ext' o1 a0 (λ_ _ _ _ h=>h) | exact Aa.ext o1 a0
    replace o2:=by first | exact o2.ext a0 | exact Ab.ext' o2 a0 (λ_ _ _ _ h=>h) | exact Aa.ext o2 a0
    have c2:=a0.size;have hE:=hE.trans a0;clear hS;apply LW.nil;refine QW.headed hE ?_;refine AJ ?_;refine GW.two 6 7 AdF rfl rfl rfl rfl rfl rfl (λhS=>?_) (λhS=>?_)
    ·refine Bo λD1 wl a7 a0 a1=>?_;have hD1lt:=a1.lt;have hD1W:w3.heap.size≤D1:=by rw[a7];exact hE.size
     replace o1:=by first | exact o1.ext a0 | exact Ab.ext' o1 a0 (λ_ _ _ _ h=>h) | exact Aa.ext o1 a0
     replace o2:=by first | exact o2.ext a0 | exact Ab.ext' o2 a0 (λ_ _ _ _ h=>h) | exact Aa.ext o2 a0
     replace o3:=by first | exact o3.ext a0 | exact Ab.ext' o3 a0 (λ_ _ _ _ h=>h) | exact Aa.ext o3 a0
     replace o4:=by first | exact o4.ext a0 | exact Ab.ext' o4 a0 (λ_ _ _ _ h=>h) | exact Aa.ext o4 a0
     have c3:=a0.size;have hE:=hE.trans a0;clear hS;apply LW.nil;refine QW.headed hE ?_;refine AJ ?_;refine BE 7 λhS=>?_;refine Bo λD2 wl a8 a0 a2=>?_;have hD2lt:=a2.lt;have hD2W:w3.heap.size≤D2:=by rw[a8];exact hE.size
     replace o1:=by first | exact o1.ext a0 | exact Ab.ext' o1 a0 (λ_ _ _ _ h=>h) | exact Aa.ext o1 a0
     replace o2:=by first | exact o2.ext a0 | exact Ab.ext' o2 a0 (λ_ _ _ _ h=>h) | exact Aa.ext o2 a0
     replace o3:=by first | exact o3.ext a0 | exact Ab.ext' o3 a0 (λ_ _ _ _ h=>h) | exact Aa.ext o3 a0
     replace o4:=by first | exact o4.ext a0 | exact Ab.ext' o4 a0 (λ_ _ _ _ h=>h) | exact Aa.ext o4 a0
     replace a1:=by first | exact a1.ext a0 | exact Ab.ext' a1 a0 (λ_ _ _ _ h=>h) | exact Aa.ext a1 a0
     have c4:=a0.size;have hE:=hE.trans a0;clear hS;apply LW.nil;refine QW.headed hE ?_;refine AJ ?_;refine BE 8 λhS=>?_;have a5:=a1;refine AD λwe a3 a1=>?_;have n12:D2≠D1:=AdE
     replace a2:=a2.chg a3 Aec;have hE:=hE.step a3 AdG;replace o1:=o1.chg a3 λb hb hm=>absurd (Own.type o1 hb AdJ) AdH;replace o2:=o2.chg a3 λb hb hm=>absurd (Own.type o2 hb AdJ) AdH;replace o3:=o3.chg a3 λb hb hm=>absurd (Own.type o3 hb AdJ) AdH;replace o4:=o4.chg a3 λb hb hm=>absurd (Own.type o4 hb AdJ) AdH;clear hS;apply LW.nil;refine QW.headed hE ?_;refine GW.tail rfl AdF (λhS=>?_);have a6:=a2;refine AD λwf a4 a2=>?_;replace a1:=a1.chg a4 AdU;have hE:=hE.step a4 AdG;replace o1:=o1.chg a4 λb hb hm=>absurd (Own.type o1 hb AdK) AdH;replace o2:=o2.chg a4 λb hb hm=>absurd (Own.type o2 hb AdK) AdH;replace o3:=o3.chg a4 λb hb hm=>absurd (Own.type o3 hb AdK) AdH;replace o4:=o4.chg a4 λb hb hm=>absurd (Own.type o4 hb AdK) AdH;refine Sw ?_;exact QW.head (D1,D2,(pa,ca),(pb,cb),(pc,cc),(pd,cd)) ⟨hE,a1,a2,Own.ints o1 la1 AdE,Own.ints o2 la2 AdE,Own.ints o3 lb1 AdE,Own.ints o4 lb2 AdE⟩ Bx
    ·refine Bo λD2 wl a8 a0 a2=>?_;have hD2lt:=a2.lt;have hD2W:w3.heap.size≤D2:=by rw[a8];exact hE.size
     replace o1:=by first | exact o1.ext a0 | exact Ab.ext' o1 a0 (λ_ _ _ _ h=>h) | exact Aa.ext o1 a0
     replace o2:=by first | exact o2.ext a0 | exact Ab.ext' o2 a0 (λ_ _ _ _ h=>h) | exact Aa.ext o2 a0
     replace o3:=by first | exact o3.ext a0 | exact Ab.ext' o3 a0 (λ_ _ _ _ h=>h) | exact Aa.ext o3 a0
     replace o4:=by first | exact o4.ext a0 | exact Ab.ext' o4 a0 (λ_ _ _ _ h=>h) | exact Aa.ext o4 a0
     have c5:=a0.size;have hE:=hE.trans a0;clear hS;apply LW.nil;refine QW.headed hE ?_;refine AJ ?_;refine BE 6 λhS=>?_;refine Bo λD1 wl a7 a0 a1=>?_;have hD1lt:=a1.lt;have hD1W:w3.heap.size≤D1:=by rw[a7];exact hE.size
     replace o1:=by first | exact o1.ext a0 | exact Ab.ext' o1 a0 (λ_ _ _ _ h=>h) | exact Aa.ext o1 a0
     replace o2:=by first | exact o2.ext a0 | exact Ab.ext' o2 a0 (λ_ _ _ _ h=>h) | exact Aa.ext o2 a0
     replace o3:=by first | exact o3.ext a0 | exact Ab.ext' o3 a0 (λ_ _ _ _ h=>h) | exact Aa.ext o3 a0
     replace o4:=by first | exact o4.ext a0 | exact Ab.ext' o4 a0 (λ_ _ _ _ h=>h) | exact Aa.ext o4 a0
     replace a2:=by first | exact a2.ext a0 | exact Ab.ext' a2 a0 (λ_ _ _ _ h=>h) | exact Aa.ext a2 a0
     have c6:=a0.size;have hE:=hE.trans a0;clear hS;apply LW.nil;refine QW.headed hE ?_;refine AJ ?_;refine BE 8 λhS=>?_;have a5:=a1;refine AD λwe a3 a1=>?_;have n12:D2≠D1:=AdE
     replace a2:=a2.chg a3 Aec;have hE:=hE.step a3 AdG;replace o1:=o1.chg a3 λb hb hm=>absurd (Own.type o1 hb AdJ) AdH;replace o2:=o2.chg a3 λb hb hm=>absurd (Own.type o2 hb AdJ) AdH;replace o3:=o3.chg a3 λb hb hm=>absurd (Own.type o3 hb AdJ) AdH;replace o4:=o4.chg a3 λb hb hm=>absurd (Own.type o4 hb AdJ) AdH;clear hS;apply LW.nil;refine QW.headed hE ?_;refine GW.tail rfl AdF (λhS=>?_);have a6:=a2;refine AD λwf a4 a2=>?_;replace a1:=a1.chg a4 AdU;have hE:=hE.step a4 AdG;replace o1:=o1.chg a4 λb hb hm=>absurd (Own.type o1 hb AdK) AdH;replace o2:=o2.chg a4 λb hb hm=>absurd (Own.type o2 hb AdK) AdH;replace o3:=o3.chg a4 λb hb hm=>absurd (Own.type o3 hb AdK) AdH;replace o4:=o4.chg a4 λb hb hm=>absurd (Own.type o4 hb AdK) AdH;refine Sw ?_;exact QW.head (D1,D2,(pa,ca),(pb,cb),(pc,cc),(pd,cd)) ⟨hE,a1,a2,Own.ints o1 la1 AdE,Own.ints o2 la2 AdE,Own.ints o3 lb1 AdE,Own.ints o4 lb2 AdE⟩ Bx
   ·refine Bo λD1 wl a7 a0 a1=>?_;have hD1lt:=a1.lt;have hD1W:w3.heap.size≤D1:=by rw[a7];exact hE.size
    replace o1:=by first | exact o1.ext a0 | exact Ab.ext' o1 a0 (λ_ _ _ _ h=>h) | exact Aa.ext o1 a0
    replace o2:=by first | exact o2.ext a0 | exact Ab.ext' o2 a0 (λ_ _ _ _ h=>h) | exact Aa.ext o2 a0
    have c7:=a0.size;have hE:=hE.trans a0;clear hS;apply LW.nil;refine QW.headed hE ?_;refine AJ ?_;refine GW.two 5 7 AdF rfl rfl rfl rfl rfl rfl (λhS=>?_) (λhS=>?_)
    ·refine Ay rfl rfl (ad _ hE) ?_;rintro v wt ⟨rv2,cv2,rfl,o3,o4,a0⟩;obtain⟨pc,cc,rfl⟩:=o3.slice;obtain⟨pd,cd,rfl⟩:=o4.slice;replace o1:=by first | exact o1.ext a0 | exact Ab.ext' o1 a0 (λ_ _ _ _ h=>h) | exact Aa.ext o1 a0
     replace o2:=by first | exact o2.ext a0 | exact Ab.ext' o2 a0 (λ_ _ _ _ h=>h) | exact Aa.ext o2 a0
     replace a1:=by first | exact a1.ext a0 | exact Ab.ext' a1 a0 (λ_ _ _ _ h=>h) | exact Aa.ext a1 a0
     have c9:=a0.size;have hE:=hE.trans a0;clear hS;apply LW.nil;refine QW.headed hE ?_;refine AJ ?_;refine BE 7 λhS=>?_;refine Bo λD2 wl a8 a0 a2=>?_;have hD2lt:=a2.lt;have hD2W:w3.heap.size≤D2:=by rw[a8];exact hE.size
     replace o1:=by first | exact o1.ext a0 | exact Ab.ext' o1 a0 (λ_ _ _ _ h=>h) | exact Aa.ext o1 a0
     replace o2:=by first | exact o2.ext a0 | exact Ab.ext' o2 a0 (λ_ _ _ _ h=>h) | exact Aa.ext o2 a0
     replace o3:=by first | exact o3.ext a0 | exact Ab.ext' o3 a0 (λ_ _ _ _ h=>h) | exact Aa.ext o3 a0
     replace o4:=by first | exact o4.ext a0 | exact Ab.ext' o4 a0 (λ_ _ _ _ h=>h) | exact Aa.ext o4 a0
     replace a1:=by first | exact a1.ext a0 | exact Ab.ext' a1 a0 (λ_ _ _ _ h=>h) | exact Aa.ext a1 a0
     have ce:=a0.size;have hE:=hE.trans a0;clear hS;apply LW.nil;refine QW.headed hE ?_;refine AJ ?_;refine BE 8 λhS=>?_;have a5:=a1;refine AD λwe a3 a1=>?_;have n12:D2≠D1:=AdE
     replace a2:=a2.chg a3 Aec;have hE:=hE.step a3 AdG;replace o1:=o1.chg a3 λb hb hm=>absurd (Own.type o1 hb AdJ) AdH;replace o2:=o2.chg a3 λb hb hm=>absurd (Own.type o2 hb AdJ) AdH;replace o3:=o3.chg a3 λb hb hm=>absurd (Own.type o3 hb AdJ) AdH;replace o4:=o4.chg a3 λb hb hm=>absurd (Own.type o4 hb AdJ) AdH;clear hS;apply LW.nil;refine QW.headed hE ?_;refine GW.tail rfl AdF (λhS=>?_);have a6:=a2;refine AD λwf a4 a2=>?_;replace a1:=a1.chg a4 AdU;have hE:=hE.step a4 AdG;replace o1:=o1.chg a4 λb hb hm=>absurd (Own.type o1 hb AdK) AdH;replace o2:=o2.chg a4 λb hb hm=>absurd (Own.type o2 hb AdK) AdH;replace o3:=o3.chg a4 λb hb hm=>absurd (Own.type o3 hb AdK) AdH;replace o4:=o4.chg a4 λb hb hm=>absurd (Own.type o4 hb AdK) AdH;refine Sw ?_;exact QW.head (D1,D2,(pa,ca),(pb,cb),(pc,cc),(pd,cd)) ⟨hE,a1,a2,Own.ints o1 la1 AdE,Own.ints o2 la2 AdE,Own.ints o3 lb1 AdE,Own.ints o4 lb2 AdE⟩ Bx
    ·refine Bo λD2 wl a8 a0 a2=>?_;have hD2lt:=a2.lt;have hD2W:w3.heap.size≤D2:=by rw[a8];exact hE.size
     replace o1:=by first | exact o1.ext a0 | exact Ab.ext' o1 a0 (λ_ _ _ _ h=>h) | exact Aa.ext o1 a0
     replace o2:=by first | exact o2.ext a0 | exact Ab.ext' o2 a0 (λ_ _ _ _ h=>h) | exact Aa.ext o2 a0
     replace a1:=by first | exact a1.ext a0 | exact Ab.ext' a1 a0 (λ_ _ _ _ h=>h) | exact Aa.ext a1 a0
     have b6:=a0.size;have hE:=hE.trans a0;clear hS;apply LW.nil;refine QW.headed hE ?_;refine AJ ?_;refine BE 5 λhS=>?_;refine Ay rfl rfl (ad _ hE) ?_;rintro v wt ⟨rv2,cv2,rfl,o3,o4,a0⟩;obtain⟨pc,cc,rfl⟩:=o3.slice;obtain⟨pd,cd,rfl⟩:=o4.slice;replace o1:=by first | exact o1.ext a0 | exact Ab.ext' o1 a0 (λ_ _ _ _ h=>h) | exact Aa.ext o1 a0
     replace o2:=by first | exact o2.ext a0 | exact Ab.ext' o2 a0 (λ_ _ _ _ h=>h) | exact Aa.ext o2 a0
     replace a1:=by first | exact a1.ext a0 | exact Ab.ext' a1 a0 (λ_ _ _ _ h=>h) | exact Aa.ext a1 a0
     replace a2:=by first | exact a2.ext a0 | exact Ab.ext' a2 a0 (λ_ _ _ _ h=>h) | exact Aa.ext a2 a0
     have b7:=a0.size;have hE:=hE.trans a0;clear hS;apply LW.nil;refine QW.headed hE ?_;refine AJ ?_;refine BE 8 λhS=>?_;have a5:=a1;refine AD λwe a3 a1=>?_;have n12:D2≠D1:=AdE
     replace a2:=a2.chg a3 Aec;have hE:=hE.step a3 AdG;replace o1:=o1.chg a3 λb hb hm=>absurd (Own.type o1 hb AdJ) AdH;replace o2:=o2.chg a3 λb hb hm=>absurd (Own.type o2 hb AdJ) AdH;replace o3:=o3.chg a3 λb hb hm=>absurd (Own.type o3 hb AdJ) AdH;replace o4:=o4.chg a3 λb hb hm=>absurd (Own.type o4 hb AdJ) AdH;clear hS;apply LW.nil;refine QW.headed hE ?_;refine GW.tail rfl AdF (λhS=>?_);have a6:=a2;refine AD λwf a4 a2=>?_;replace a1:=a1.chg a4 AdU;have hE:=hE.step a4 AdG;replace o1:=o1.chg a4 λb hb hm=>absurd (Own.type o1 hb AdK) AdH;replace o2:=o2.chg a4 λb hb hm=>absurd (Own.type o2 hb AdK) AdH;replace o3:=o3.chg a4 λb hb hm=>absurd (Own.type o3 hb AdK) AdH;replace o4:=o4.chg a4 λb hb hm=>absurd (Own.type o4 hb AdK) AdH;refine Sw ?_;exact QW.head (D1,D2,(pa,ca),(pb,cb),(pc,cc),(pd,cd)) ⟨hE,a1,a2,Own.ints o1 la1 AdE,Own.ints o2 la2 AdE,Own.ints o3 lb1 AdE,Own.ints o4 lb2 AdE⟩ Bx
   ·refine Bo λD2 wl a8 a0 a2=>?_;have hD2lt:=a2.lt;have hD2W:w3.heap.size≤D2:=by rw[a8];exact hE.size
    replace o1:=by first | exact o1.ext a0 | exact Ab.ext' o1 a0 (λ_ _ _ _ h=>h) | exact Aa.ext o1 a0
    replace o2:=by first | exact o2.ext a0 | exact Ab.ext' o2 a0 (λ_ _ _ _ h=>h) | exact Aa.ext o2 a0
    have b8:=a0.size;have hE:=hE.trans a0;clear hS;apply LW.nil;refine QW.headed hE ?_;refine AJ ?_;refine GW.two 5 6 AdF rfl rfl rfl rfl rfl rfl (λhS=>?_) (λhS=>?_)
    ·refine Ay rfl rfl (ad _ hE) ?_;rintro v wt ⟨rv2,cv2,rfl,o3,o4,a0⟩;obtain⟨pc,cc,rfl⟩:=o3.slice;obtain⟨pd,cd,rfl⟩:=o4.slice;replace o1:=by first | exact o1.ext a0 | exact Ab.ext' o1 a0 (λ_ _ _ _ h=>h) | exact Aa.ext o1 a0
     replace o2:=by first | exact o2.ext a0 | exact Ab.ext' o2 a0 (λ_ _ _ _ h=>h) | exact Aa.ext o2 a0
     replace a2:=by first | exact a2.ext a0 | exact Ab.ext' a2 a0 (λ_ _ _ _ h=>h) | exact Aa.ext a2 a0
     have b9:=a0.size;have hE:=hE.trans a0;clear hS;apply LW.nil;refine QW.headed hE ?_;refine AJ ?_;refine BE 6 λhS=>?_;refine Bo λD1 wl a7 a0 a1=>?_;have hD1lt:=a1.lt;have hD1W:w3.heap.size≤D1:=by rw[a7];exact hE.size
     replace o1:=by first | exact o1.ext a0 | exact Ab.ext' o1 a0 (λ_ _ _ _ h=>h) | exact Aa.ext o1 a0
     replace o2:=by first | exact o2.ext a0 | exact Ab.ext' o2 a0 (λ_ _ _ _ h=>h) | exact Aa.ext o2 a0
     replace o3:=by first | exact o3.ext a0 | exact Ab.ext' o3 a0 (λ_ _ _ _ h=>h) | exact Aa.ext o3 a0
     replace o4:=by first | exact o4.ext a0 | exact Ab.ext' o4 a0 (λ_ _ _ _ h=>h) | exact Aa.ext o4 a0
     replace a2:=by first | exact a2.ext a0 | exact Ab.ext' a2 a0 (λ_ _ _ _ h=>h) | exact Aa.ext a2 a0
     have ba:=a0.size;have hE:=hE.trans a0;clear hS;apply LW.nil;refine QW.headed hE ?_;refine AJ ?_;refine BE 8 λhS=>?_;have a5:=a1;refine AD λwe a3 a1=>?_;have n12:D2≠D1:=AdE
     replace a2:=a2.chg a3 Aec;have hE:=hE.step a3 AdG;replace o1:=o1.chg a3 λb hb hm=>absurd (Own.type o1 hb AdJ) AdH;replace o2:=o2.chg a3 λb hb hm=>absurd (Own.type o2 hb AdJ) AdH;replace o3:=o3.chg a3 λb hb hm=>absurd (Own.type o3 hb AdJ) AdH;replace o4:=o4.chg a3 λb hb hm=>absurd (Own.type o4 hb AdJ) AdH;clear hS;apply LW.nil;refine QW.headed hE ?_;refine GW.tail rfl AdF (λhS=>?_);have a6:=a2;refine AD λwf a4 a2=>?_;replace a1:=a1.chg a4 AdU;have hE:=hE.step a4 AdG;replace o1:=o1.chg a4 λb hb hm=>absurd (Own.type o1 hb AdK) AdH;replace o2:=o2.chg a4 λb hb hm=>absurd (Own.type o2 hb AdK) AdH;replace o3:=o3.chg a4 λb hb hm=>absurd (Own.type o3 hb AdK) AdH;replace o4:=o4.chg a4 λb hb hm=>absurd (Own.type o4 hb AdK) AdH;refine Sw ?_;exact QW.head (D1,D2,(pa,ca),(pb,cb),(pc,cc),(pd,cd)) ⟨hE,a1,a2,Own.ints o1 la1 AdE,Own.ints o2 la2 AdE,Own.ints o3 lb1 AdE,Own.ints o4 lb2 AdE⟩ Bx
    ·refine Bo λD1 wl a7 a0 a1=>?_;have hD1lt:=a1.lt;have hD1W:w3.heap.size≤D1:=by rw[a7];exact hE.size
     replace o1:=by first | exact o1.ext a0 | exact Ab.ext' o1 a0 (λ_ _ _ _ h=>h) | exact Aa.ext o1 a0
     replace o2:=by first | exact o2.ext a0 | exact Ab.ext' o2 a0 (λ_ _ _ _ h=>h) | exact Aa.ext o2 a0
     replace a2:=by first | exact a2.ext a0 | exact Ab.ext' a2 a0 (λ_ _ _ _ h=>h) | exact Aa.ext a2 a0
     have bb:=a0.size;have hE:=hE.trans a0;clear hS;apply LW.nil;refine QW.headed hE ?_;refine AJ ?_;refine BE 5 λhS=>?_;refine Ay rfl rfl (ad _ hE) ?_;rintro v wt ⟨rv2,cv2,rfl,o3,o4,a0⟩;obtain⟨pc,cc,rfl⟩:=o3.slice;obtain⟨pd,cd,rfl⟩:=o4.slice;replace o1:=by first | exact o1.ext a0 | exact Ab.ext' o1 a0 (λ_ _ _ _ h=>h) | exact Aa.ext o1 a0
     replace o2:=by first | exact o2.ext a0 | exact Ab.ext' o2 a0 (λ_ _ _ _ h=>h) | exact Aa.ext o2 a0
     replace a2:=by first | exact a2.ext a0 | exact Ab.ext' a2 a0 (λ_ _ _ _ h=>h) | exact Aa.ext a2 a0
     replace a1:=by first | exact a1.ext a0 | exact Ab.ext' a1 a0 (λ_ _ _ _ h=>h) | exact Aa.ext a1 a0
     have bc:=a0.size;have hE:=hE.trans a0;clear hS;apply LW.nil;refine QW.headed hE ?_;refine AJ ?_;refine BE 8 λhS=>?_;have a5:=a1;refine AD λwe a3 a1=>?_;have n12:D2≠D1:=AdE
     replace a2:=a2.chg a3 Aec;have hE:=hE.step a3 AdG;replace o1:=o1.chg a3 λb hb hm=>absurd (Own.type o1 hb AdJ) AdH;replace o2:=o2.chg a3 λb hb hm=>absurd (Own.type o2 hb AdJ) AdH;replace o3:=o3.chg a3 λb hb hm=>absurd (Own.type o3 hb AdJ) AdH;replace o4:=o4.chg a3 λb hb hm=>absurd (Own.type o4 hb AdJ) AdH;clear hS;apply LW.nil;refine QW.headed hE ?_;refine GW.tail rfl AdF (λhS=>?_);have a6:=a2;refine AD λwf a4 a2=>?_;replace a1:=a1.chg a4 AdU;have hE:=hE.step a4 AdG;replace o1:=o1.chg a4 λb hb hm=>absurd (Own.type o1 hb AdK) AdH;replace o2:=o2.chg a4 λb hb hm=>absurd (Own.type o2 hb AdK) AdH;replace o3:=o3.chg a4 λb hb hm=>absurd (Own.type o3 hb AdK) AdH;replace o4:=o4.chg a4 λb hb hm=>absurd (Own.type o4 hb AdK) AdH;refine Sw ?_;exact QW.head (D1,D2,(pa,ca),(pb,cb),(pc,cc),(pd,cd)) ⟨hE,a1,a2,Own.ints o1 la1 AdE,Own.ints o2 la2 AdE,Own.ints o3 lb1 AdE,Own.ints o4 lb2 AdE⟩ Bx
  ·refine Bo λD1 wl a7 a0 a1=>?_;have hD1lt:=a1.lt;have hD1W:w3.heap.size≤D1:=by rw[a7];exact hE.size
   have bd:=a0.size;have hE:=hE.trans a0;clear hS;apply LW.nil;refine QW.headed hE ?_;refine AJ ?_;refine GW.two 2 7 AdF rfl rfl rfl rfl rfl rfl (λhS=>?_) (λhS=>?_)
   ·refine Ay rfl rfl (ao _ hE) ?_;rintro v wt ⟨rv1,cv1,rfl,o1,o2,a0⟩;obtain⟨pa,ca,rfl⟩:=o1.slice;obtain⟨pb,cb,rfl⟩:=o2.slice;replace a1:=by first | exact a1.ext a0 | exact Ab.ext' a1 a0 (λ_ _ _ _ h=>h) | exact Aa.ext a1 a0
    have be:=a0.size;have hE:=hE.trans a0;clear hS;apply LW.nil;refine QW.headed hE ?_;refine AJ ?_;refine GW.two 5 7 AdF rfl rfl rfl rfl rfl rfl (λhS=>?_) (λhS=>?_)
    ·refine Ay rfl rfl (ad _ hE) ?_;rintro v wt ⟨rv2,cv2,rfl,o3,o4,a0⟩;obtain⟨pc,cc,rfl⟩:=o3.slice;obtain⟨pd,cd,rfl⟩:=o4.slice;replace o1:=by first | exact o1.ext a0 | exact Ab.ext' o1 a0 (λ_ _ _ _ h=>h) | exact Aa.ext o1 a0
     replace o2:=by first | exact o2.ext a0 | exact Ab.ext' o2 a0 (λ_ _ _ _ h=>h) | exact Aa.ext o2 a0
     replace a1:=by first | exact a1.ext a0 | exact Ab.ext' a1 a0 (λ_ _ _ _ h=>h) | exact Aa.ext a1 a0
     have bf:=a0.size;have hE:=hE.trans a0;clear hS;apply LW.nil;refine QW.headed hE ?_;refine AJ ?_;refine BE 7 λhS=>?_;refine Bo λD2 wl a8 a0 a2=>?_;have hD2lt:=a2.lt;have hD2W:w3.heap.size≤D2:=by rw[a8];exact hE.size
     replace o1:=by first | exact o1.ext a0 | exact Ab.ext' o1 a0 (λ_ _ _ _ h=>h) | exact Aa.ext o1 a0
     replace o2:=by first | exact o2.ext a0 | exact Ab.ext' o2 a0 (λ_ _ _ _ h=>h) | exact Aa.ext o2 a0
     replace o3:=by first | exact o3.ext a0 | exact Ab.ext' o3 a0 (λ_ _ _ _ h=>h) | exact Aa.ext o3 a0
     replace o4:=by first | exact o4.ext a0 | exact Ab.ext' o4 a0 (λ_ _ _ _ h=>h) | exact Aa.ext o4 a0
     replace a1:=by first | exact a1.ext a0 | exact Ab.ext' a1 a0 (λ_ _ _ _ h=>h) | exact Aa.ext a1 a0
     have bg:=a0.size;have hE:=hE.trans a0;clear hS;apply LW.nil;refine QW.headed hE ?_;refine AJ ?_;refine BE 8 λhS=>?_;have a5:=a1;refine AD λwe a3 a1=>?_;have n12:D2≠D1:=AdE
     replace a2:=a2.chg a3 Aec;have hE:=hE.step a3 AdG;replace o1:=o1.chg a3 λb hb hm=>absurd (Own.type o1 hb AdJ) AdH;replace o2:=o2.chg a3 λb hb hm=>absurd (Own.type o2 hb AdJ) AdH;replace o3:=o3.chg a3 λb hb hm=>absurd (Own.type o3 hb AdJ) AdH;replace o4:=o4.chg a3 λb hb hm=>absurd (Own.type o4 hb AdJ) AdH;clear hS;apply LW.nil;refine QW.headed hE ?_;refine GW.tail rfl AdF (λhS=>?_);have a6:=a2;refine AD λwf a4 a2=>?_;replace a1:=a1.chg a4 AdU;have hE:=hE.step a4 AdG;replace o1:=o1.chg a4 λb hb hm=>absurd (Own.type o1 hb AdK) AdH;replace o2:=o2.chg a4 λb hb hm=>absurd (Own.type o2 hb AdK) AdH;replace o3:=o3.chg a4 λb hb hm=>absurd (Own.type o3 hb AdK) AdH;replace o4:=o4.chg a4 λb hb hm=>absurd (Own.type o4 hb AdK) AdH;refine Sw ?_;exact QW.head (D1,D2,(pa,ca),(pb,cb),(pc,cc),(pd,cd)) ⟨hE,a1,a2,Own.ints o1 la1 AdE,Own.ints o2 la2 AdE,Own.ints o3 lb1 AdE,Own.ints o4 lb2 AdE⟩ Bx
    ·refine Bo λD2 wl a8 a0 a2=>?_;have hD2lt:=a2.lt;have hD2W:w3.heap.size≤D2:=by rw[a8];exact hE.size
     replace o1:=by first | exact o1.ext a0 | exact Ab.ext' o1 a0 (λ_ _ _ _ h=>h) | exact Aa.ext o1 a0
     replace o2:=by first | exact o2.ext a0 | exact Ab.ext' o2 a0 (λ_ _ _ _ h=>h) | exact Aa.ext o2 a0
     replace a1:=by first | exact a1.ext a0 | exact Ab.ext' a1 a0 (λ_ _ _ _ h=>h) | exact Aa.ext a1 a0
     have bh:=a0.size;have hE:=hE.trans a0;clear hS;apply LW.nil;refine QW.headed hE ?_;refine AJ ?_;refine BE 5 λhS=>?_;refine Ay rfl rfl (ad _ hE) ?_;rintro v wt ⟨rv2,cv2,rfl,o3,o4,a0⟩;obtain⟨pc,cc,rfl⟩:=o3.slice;obtain⟨pd,cd,rfl⟩:=o4.slice;replace o1:=by first | exact o1.ext a0 | exact Ab.ext' o1 a0 (λ_ _ _ _ h=>h) | exact Aa.ext o1 a0
     replace o2:=by first | exact o2.ext a0 | exact Ab.ext' o2 a0 (λ_ _ _ _ h=>h) | exact Aa.ext o2 a0
     replace a1:=by first | exact a1.ext a0 | exact Ab.ext' a1 a0 (λ_ _ _ _ h=>h) | exact Aa.ext a1 a0
     replace a2:=by first | exact a2.ext a0 | exact Ab.ext' a2 a0 (λ_ _ _ _ h=>h) | exact Aa.ext a2 a0
     have bi:=a0.size;have hE:=hE.trans a0;clear hS;apply LW.nil;refine QW.headed hE ?_;refine AJ ?_;refine BE 8 λhS=>?_;have a5:=a1;refine AD λwe a3 a1=>?_;have n12:D2≠D1:=AdE
     replace a2:=a2.chg a3 Aec;have hE:=hE.step a3 AdG;replace o1:=o1.chg a3 λb hb hm=>absurd (Own.type o1 hb AdJ) AdH;replace o2:=o2.chg a3 λb hb hm=>absurd (Own.type o2 hb AdJ) AdH;replace o3:=o3.chg a3 λb hb hm=>absurd (Own.type o3 hb AdJ) AdH;replace o4:=o4.chg a3 λb hb hm=>absurd (Own.type o4 hb AdJ) AdH;clear hS;apply LW.nil;refine QW.headed hE ?_;refine GW.tail rfl AdF (λhS=>?_);have a6:=a2;refine AD λwf a4 a2=>?_;replace a1:=a1.chg a4 AdU;have hE:=hE.step a4 AdG;replace o1:=o1.chg a4 λb hb hm=>absurd (Own.type o1 hb AdK) AdH;replace o2:=o2.chg a4 λb hb hm=>absurd (Own.type o2 hb AdK) AdH;replace o3:=o3.chg a4 λb hb hm=>absurd (Own.type o3 hb AdK) AdH;replace o4:=o4.chg a4 λb hb hm=>absurd (Own.type o4 hb AdK) AdH;refine Sw ?_;exact QW.head (D1,D2,(pa,ca),(pb,cb),(pc,cc),(pd,cd)) ⟨hE,a1,a2,Own.ints o1 la1 AdE,Own.ints o2 la2 AdE,Own.ints o3 lb1 AdE,Own.ints o4 lb2 AdE⟩ Bx
   ·refine Bo λD2 wl a8 a0 a2=>?_;have hD2lt:=a2.lt;have hD2W:w3.heap.size≤D2:=by rw[a8];exact hE.size
    replace a1:=by first | exact a1.ext a0 | exact Ab.ext' a1 a0 (λ_ _ _ _ h=>h) | exact Aa.ext a1 a0
    have bj:=a0.size;have hE:=hE.trans a0;clear hS;apply LW.nil;refine QW.headed hE ?_;refine AJ ?_;refine BE 2 λhS=>?_;refine Ay rfl rfl (ao _ hE) ?_;rintro v wt ⟨rv1,cv1,rfl,o1,o2,a0⟩;obtain⟨pa,ca,rfl⟩:=o1.slice;obtain⟨pb,cb,rfl⟩:=o2.slice;replace a1:=by first | exact a1.ext a0 | exact Ab.ext' a1 a0 (λ_ _ _ _ h=>h) | exact Aa.ext a1 a0
    replace a2:=by first | exact a2.ext a0 | exact Ab.ext' a2 a0 (λ_ _ _ _ h=>h) | exact Aa.ext a2 a0
    have bl:=a0.size;have hE:=hE.trans a0;clear hS;apply LW.nil;refine QW.headed hE ?_;refine AJ ?_;refine BE 5 λhS=>?_;refine Ay rfl rfl (ad _ hE) ?_;rintro v wt ⟨rv2,cv2,rfl,o3,o4,a0⟩;obtain⟨pc,cc,rfl⟩:=o3.slice;obtain⟨pd,cd,rfl⟩:=o4.slice;replace o1:=by first | exact o1.ext a0 | exact Ab.ext' o1 a0 (λ_ _ _ _ h=>h) | exact Aa.ext o1 a0
    replace o2:=by first | exact o2.ext a0 | exact Ab.ext' o2 a0 (λ_ _ _ _ h=>h) | exact Aa.ext o2 a0
    replace a1:=by first | exact a1.ext a0 | exact Ab.ext' a1 a0 (λ_ _ _ _ h=>h) | exact Aa.ext a1 a0
    replace a2:=by first | exact a2.ext a0 | exact Ab.ext' a2 a0 (λ_ _ _ _ h=>h) | exact Aa.ext a2 a0
    have bm:=a0.size;have hE:=hE.trans a0;clear hS;apply LW.nil;refine QW.headed hE ?_;refine AJ ?_;refine BE 8 λhS=>?_;have a5:=a1;refine AD λwe a3 a1=>?_;have n12:D2≠D1:=AdE
    replace a2:=a2.chg a3 Aec;have hE:=hE.step a3 AdG;replace o1:=o1.chg a3 λb hb hm=>absurd (Own.type o1 hb AdJ) AdH;replace o2:=o2.chg a3 λb hb hm=>absurd (Own.type o2 hb AdJ) AdH;replace o3:=o3.chg a3 λb hb hm=>absurd (Own.type o3 hb AdJ) AdH;replace o4:=o4.chg a3 λb hb hm=>absurd (Own.type o4 hb AdJ) AdH;clear hS;apply LW.nil;refine QW.headed hE ?_;refine GW.tail rfl AdF (λhS=>?_);have a6:=a2;refine AD λwf a4 a2=>?_;replace a1:=a1.chg a4 AdU;have hE:=hE.step a4 AdG;replace o1:=o1.chg a4 λb hb hm=>absurd (Own.type o1 hb AdK) AdH;replace o2:=o2.chg a4 λb hb hm=>absurd (Own.type o2 hb AdK) AdH;replace o3:=o3.chg a4 λb hb hm=>absurd (Own.type o3 hb AdK) AdH;replace o4:=o4.chg a4 λb hb hm=>absurd (Own.type o4 hb AdK) AdH;refine Sw ?_;exact QW.head (D1,D2,(pa,ca),(pb,cb),(pc,cc),(pd,cd)) ⟨hE,a1,a2,Own.ints o1 la1 AdE,Own.ints o2 la2 AdE,Own.ints o3 lb1 AdE,Own.ints o4 lb2 AdE⟩ Bx
  ·refine Bo λD2 wl a8 a0 a2=>?_;have hD2lt:=a2.lt;have hD2W:w3.heap.size≤D2:=by rw[a8];exact hE.size
   have bn:=a0.size;have hE:=hE.trans a0;clear hS;apply LW.nil;refine QW.headed hE ?_;refine AJ ?_;refine GW.two 2 6 AdF rfl rfl rfl rfl rfl rfl (λhS=>?_) (λhS=>?_)
   ·refine Ay rfl rfl (ao _ hE) ?_;rintro v wt ⟨rv1,cv1,rfl,o1,o2,a0⟩;obtain⟨pa,ca,rfl⟩:=o1.slice;obtain⟨pb,cb,rfl⟩:=o2.slice;replace a2:=by first | exact a2.ext a0 | exact Ab.ext' a2 a0 (λ_ _ _ _ h=>h) | exact Aa.ext a2 a0
    have bp:=a0.size;have hE:=hE.trans a0;clear hS;apply LW.nil;refine QW.headed hE ?_;refine AJ ?_;refine GW.two 5 6 AdF rfl rfl rfl rfl rfl rfl (λhS=>?_) (λhS=>?_)
    ·refine Ay rfl rfl (ad _ hE) ?_;rintro v wt ⟨rv2,cv2,rfl,o3,o4,a0⟩;obtain⟨pc,cc,rfl⟩:=o3.slice;obtain⟨pd,cd,rfl⟩:=o4.slice;replace o1:=by first | exact o1.ext a0 | exact Ab.ext' o1 a0 (λ_ _ _ _ h=>h) | exact Aa.ext o1 a0
     replace o2:=by first | exact o2.ext a0 | exact Ab.ext' o2 a0 (λ_ _ _ _ h=>h) | exact Aa.ext o2 a0
     replace a2:=by first | exact a2.ext a0 | exact Ab.ext' a2 a0 (λ_ _ _ _ h=>h) | exact Aa.ext a2 a0
     have bq:=a0.size;have hE:=hE.trans a0;clear hS;apply LW.nil;refine QW.headed hE ?_;refine AJ ?_;refine BE 6 λhS=>?_;refine Bo λD1 wl a7 a0 a1=>?_;have hD1lt:=a1.lt;have hD1W:w3.heap.size≤D1:=by rw[a7];exact hE.size
     replace o1:=by first | exact o1.ext a0 | exact Ab.ext' o1 a0 (λ_ _ _ _ h=>h) | exact Aa.ext o1 a0
     replace o2:=by first | exact o2.ext a0 | exact Ab.ext' o2 a0 (λ_ _ _ _ h=>h) | exact Aa.ext o2 a0
     replace o3:=by first | exact o3.ext a0 | exact Ab.ext' o3 a0 (λ_ _ _ _ h=>h) | exact Aa.ext o3 a0
     replace o4:=by first | exact o4.ext a0 | exact Ab.ext' o4 a0 (λ_ _ _ _ h=>h) | exact Aa.ext o4 a0
     replace a2:=by first | exact a2.ext a0 | exact Ab.ext' a2 a0 (λ_ _ _ _ h=>h) | exact Aa.ext a2 a0
     have br:=a0.size;have hE:=hE.trans a0;clear hS;apply LW.nil;refine QW.headed hE ?_;refine AJ ?_;refine BE 8 λhS=>?_;have a5:=a1;refine AD λwe a3 a1=>?_;have n12:D2≠D1:=AdE
     replace a2:=a2.chg a3 Aec;have hE:=hE.step a3 AdG;replace o1:=o1.chg a3 λb hb hm=>absurd (Own.type o1 hb AdJ) AdH;replace o2:=o2.chg a3 λb hb hm=>absurd (Own.type o2 hb AdJ) AdH;replace o3:=o3.chg a3 λb hb hm=>absurd (Own.type o3 hb AdJ) AdH;replace o4:=o4.chg a3 λb hb hm=>absurd (Own.type o4 hb AdJ) AdH;clear hS;apply LW.nil;refine QW.headed hE ?_;refine GW.tail rfl AdF (λhS=>?_);have a6:=a2;refine AD λwf a4 a2=>?_;replace a1:=a1.chg a4 AdU;have hE:=hE.step a4 AdG;replace o1:=o1.chg a4 λb hb hm=>absurd (Own.type o1 hb AdK) AdH;replace o2:=o2.chg a4 λb hb hm=>absurd (Own.type o2 hb AdK) AdH;replace o3:=o3.chg a4 λb hb hm=>absurd (Own.type o3 hb AdK) AdH;replace o4:=o4.chg a4 λb hb hm=>absurd (Own.type o4 hb AdK) AdH;refine Sw ?_;exact QW.head (D1,D2,(pa,ca),(pb,cb),(pc,cc),(pd,cd)) ⟨hE,a1,a2,Own.ints o1 la1 AdE,Own.ints o2 la2 AdE,Own.ints o3 lb1 AdE,Own.ints o4 lb2 AdE⟩ Bx
    ·refine Bo λD1 wl a7 a0 a1=>?_;have hD1lt:=a1.lt;have hD1W:w3.heap.size≤D1:=by rw[a7];exact hE.size
     replace o1:=by first | exact o1.ext a0 | exact Ab.ext' o1 a0 (λ_ _ _ _ h=>h) | exact Aa.ext o1 a0
     replace o2:=by first | exact o2.ext a0 | exact Ab.ext' o2 a0 (λ_ _ _ _ h=>h) | exact Aa.ext o2 a0
     replace a2:=by first | exact a2.ext a0 | exact Ab.ext' a2 a0 (λ_ _ _ _ h=>h) | exact Aa.ext a2 a0
     have bs:=a0.size;have hE:=hE.trans a0;clear hS;apply LW.nil;refine QW.headed hE ?_;refine AJ ?_;refine BE 5 λhS=>?_;refine Ay rfl rfl (ad _ hE) ?_;rintro v wt ⟨rv2,cv2,rfl,o3,o4,a0⟩;obtain⟨pc,cc,rfl⟩:=o3.slice;obtain⟨pd,cd,rfl⟩:=o4.slice;replace o1:=by first | exact o1.ext a0 | exact Ab.ext' o1 a0 (λ_ _ _ _ h=>h) | exact Aa.ext o1 a0
     replace o2:=by first | exact o2.ext a0 | exact Ab.ext' o2 a0 (λ_ _ _ _ h=>h) | exact Aa.ext o2 a0
     replace a2:=by first | exact a2.ext a0 | exact Ab.ext' a2 a0 (λ_ _ _ _ h=>h) | exact Aa.ext a2 a0
     replace a1:=by first | exact a1.ext a0 | exact Ab.ext' a1 a0 (λ_ _ _ _ h=>h) | exact Aa.ext a1 a0
     have bt:=a0.size;have hE:=hE.trans a0;clear hS;apply LW.nil;refine QW.headed hE ?_;refine AJ ?_;refine BE 8 λhS=>?_;have a5:=a1;refine AD λwe a3 a1=>?_;have n12:D2≠D1:=AdE
     replace a2:=a2.chg a3 Aec;have hE:=hE.step a3 AdG;replace o1:=o1.chg a3 λb hb hm=>absurd (Own.type o1 hb AdJ) AdH;replace o2:=o2.chg a3 λb hb hm=>absurd (Own.type o2 hb AdJ) AdH;replace o3:=o3.chg a3 λb hb hm=>absurd (Own.type o3 hb AdJ) AdH;replace o4:=o4.chg a3 λb hb hm=>absurd (Own.type o4 hb AdJ) AdH;clear hS;apply LW.nil;refine QW.headed hE ?_;refine GW.tail rfl AdF (λhS=>?_);have a6:=a2;refine AD λwf a4 a2=>?_;replace a1:=a1.chg a4 AdU;have hE:=hE.step a4 AdG;replace o1:=o1.chg a4 λb hb hm=>absurd (Own.type o1 hb AdK) AdH;replace o2:=o2.chg a4 λb hb hm=>absurd (Own.type o2 hb AdK) AdH;replace o3:=o3.chg a4 λb hb hm=>absurd (Own.type o3 hb AdK) AdH;replace o4:=o4.chg a4 λb hb hm=>absurd (Own.type o4 hb AdK) AdH;refine Sw ?_;exact QW.head (D1,D2,(pa,ca),(pb,cb),(pc,cc),(pd,cd)) ⟨hE,a1,a2,Own.ints o1 la1 AdE,Own.ints o2 la2 AdE,Own.ints o3 lb1 AdE,Own.ints o4 lb2 AdE⟩ Bx
   ·refine Bo λD1 wl a7 a0 a1=>?_;have hD1lt:=a1.lt;have hD1W:w3.heap.size≤D1:=by rw[a7];exact hE.size
    replace a2:=by first | exact a2.ext a0 | exact Ab.ext' a2 a0 (λ_ _ _ _ h=>h) | exact Aa.ext a2 a0
    have bu:=a0.size;have hE:=hE.trans a0;clear hS;apply LW.nil;refine QW.headed hE ?_;refine AJ ?_;refine BE 2 λhS=>?_;refine Ay rfl rfl (ao _ hE) ?_;rintro v wt ⟨rv1,cv1,rfl,o1,o2,a0⟩;obtain⟨pa,ca,rfl⟩:=o1.slice;obtain⟨pb,cb,rfl⟩:=o2.slice;replace a2:=by first | exact a2.ext a0 | exact Ab.ext' a2 a0 (λ_ _ _ _ h=>h) | exact Aa.ext a2 a0
    replace a1:=by first | exact a1.ext a0 | exact Ab.ext' a1 a0 (λ_ _ _ _ h=>h) | exact Aa.ext a1 a0
    have bw:=a0.size;have hE:=hE.trans a0;clear hS;apply LW.nil;refine QW.headed hE ?_;refine AJ ?_;refine BE 5 λhS=>?_;refine Ay rfl rfl (ad _ hE) ?_;rintro v wt ⟨rv2,cv2,rfl,o3,o4,a0⟩;obtain⟨pc,cc,rfl⟩:=o3.slice;obtain⟨pd,cd,rfl⟩:=o4.slice;replace o1:=by first | exact o1.ext a0 | exact Ab.ext' o1 a0 (λ_ _ _ _ h=>h) | exact Aa.ext o1 a0
    replace o2:=by first | exact o2.ext a0 | exact Ab.ext' o2 a0 (λ_ _ _ _ h=>h) | exact Aa.ext o2 a0
    replace a2:=by first | exact a2.ext a0 | exact Ab.ext' a2 a0 (λ_ _ _ _ h=>h) | exact Aa.ext a2 a0
    replace a1:=by first | exact a1.ext a0 | exact Ab.ext' a1 a0 (λ_ _ _ _ h=>h) | exact Aa.ext a1 a0
    have bz:=a0.size;have hE:=hE.trans a0;clear hS;apply LW.nil;refine QW.headed hE ?_;refine AJ ?_;refine BE 8 λhS=>?_;have a5:=a1;refine AD λwe a3 a1=>?_;have n12:D2≠D1:=AdE
    replace a2:=a2.chg a3 Aec;have hE:=hE.step a3 AdG;replace o1:=o1.chg a3 λb hb hm=>absurd (Own.type o1 hb AdJ) AdH;replace o2:=o2.chg a3 λb hb hm=>absurd (Own.type o2 hb AdJ) AdH;replace o3:=o3.chg a3 λb hb hm=>absurd (Own.type o3 hb AdJ) AdH;replace o4:=o4.chg a3 λb hb hm=>absurd (Own.type o4 hb AdJ) AdH;clear hS;apply LW.nil;refine QW.headed hE ?_;refine GW.tail rfl AdF (λhS=>?_);have a6:=a2;refine AD λwf a4 a2=>?_;replace a1:=a1.chg a4 AdU;have hE:=hE.step a4 AdG;replace o1:=o1.chg a4 λb hb hm=>absurd (Own.type o1 hb AdK) AdH;replace o2:=o2.chg a4 λb hb hm=>absurd (Own.type o2 hb AdK) AdH;replace o3:=o3.chg a4 λb hb hm=>absurd (Own.type o3 hb AdK) AdH;replace o4:=o4.chg a4 λb hb hm=>absurd (Own.type o4 hb AdK) AdH;refine Sw ?_;exact QW.head (D1,D2,(pa,ca),(pb,cb),(pc,cc),(pd,cd)) ⟨hE,a1,a2,Own.ints o1 la1 AdE,Own.ints o2 la2 AdE,Own.ints o3 lb1 AdE,Own.ints o4 lb2 AdE⟩ Bx
 rintro⟨A,B,⟨pa,ca⟩,⟨pb,cb⟩,⟨pc,cc⟩,⟨pd,cd⟩⟩ w4 ⟨b2,hA,hB,i1,i2,i3,i4⟩;dsimp only at hA hB i1 i2 i3 i4;show CW _ _ _ _ _ [(0,.pointer (some ⟨M,0,none⟩)),(5,.pointer (some ⟨X,0,none⟩)),(8,.pointer (some ⟨A,0,none⟩)),(9,.pointer (some ⟨B,0,none⟩))] _;obtain⟨m1,m2⟩:=E5 ho ha;obtain⟨m3,m4⟩:=E5 ho hb;obtain⟨s1,s2,s3,s4⟩:=Hq ho ha;obtain⟨t1,t2,t3,t4⟩:=Hq ho hb;have elr:(Ag o b).rows.to.length=(Ag o a).rows.to.length:=by
  show(AO o b).length=(AO o a).length;rw[Cv,Cv]
 have elc:(Ag o b).cols.to.length=(Ag o a).cols.to.length:=by
  show(CT o b (AO o b)).length=(CT o a (AO o a)).length;rw[Ct,Ct]
 replace hX:=hX.ext b2;replace hH:=hH.later b2;clear hV hZ b1 ax an ag b2;refine CW.seq_cut (ι:=Nat×Nat×Nat×Nat×Nat×Nat) (λx w'=>Ai w4 w'∧Zz w4.heap.size w' (A3 (Ag o a).rows (Ag o b).rows) x.1 x.2.1 x.2.2.1 x.2.2.2.1 x.2.2.2.2.1 x.2.2.2.2.2) (λx=>[(0,.pointer (some ⟨M,0,none⟩)),(5,.pointer (some ⟨X,0,none⟩)),(8,.pointer (some ⟨A,0,none⟩)),(9,.pointer (some ⟨B,0,none⟩)),(10,.pointer (some ⟨x.2.2.2.1,0,none⟩)),(11,.pointer (some ⟨x.2.2.2.2.1,0,none⟩)),(12,.pointer (some ⟨x.2.2.2.2.2,0,none⟩))]) ?_ ?_
 ·clear hH hX eo ea eb r1 r2 r3 hl hp;refine Sa ?_;refine LW.load_cells rfl (LX (i:=1) hA rfl rfl) rfl rfl rfl rfl ?_;refine Sa ?_;refine LW.load_cells rfl (LX (i:=1) hB rfl rfl) rfl rfl rfl rfl ?_;refine Sa ?_;refine Ay rfl rfl (PZ (Ag o a).rows (Ag o b).rows _ _ w4 ⟨_,rfl,i1⟩ ⟨_,rfl,i3⟩ m1 m3 elr s1 s3 t3) ?_;rintro v wa ⟨TO,TX,TY,rfl,bo,bx,by',lo,lx,ly,a9⟩;obtain⟨e1,e2,e3⟩:=Dw (Ag o a).rows (Ag o b).rows ((Ag o a).rows.to.length+1);rw[←A3] at e1 e2 e3;rw[←e1,←e2,←e3];generalize A3 (Ag o a).rows (Ag o b).rows=f at bo bx by' ⊢
  clear e1 e2 e3;have z1:=bo.lt;have z2:=bx.lt;have z3:=by'.lt
  refine Sa ?_;refine Bo λN1 wb cf ap aa=>?_;refine Sa ?_;refine Bo λN2 wc cg ah ab=>?_;refine Sa ?_;refine Bo λN3 wd ci ae ac=>?_;have y1:=aa.lt;have y2:=ab.lt;have u0:=a9.size;have u1:=ap.size;have u2:=ah.size;have u3:=ae.size;have aq:=(ap.trans ah).trans ae;replace aa:=(aa.ext ah).ext ae;replace ab:=ab.ext ae;refine Sa ?_;refine AD λwe a3 aa=>?_;replace ab:=ab.chg a3 AdG;replace ac:=ac.chg a3 AdG;refine Sa ?_;refine AD λwf a4 ab=>?_;replace aa:=aa.chg a4 AdG;replace ac:=ac.chg a4 AdG;refine Sa ?_;refine AD λwg ai ac=>?_;replace aa:=aa.chg ai AdG;replace ab:=ab.chg ai AdG;have cj:=aq.size;have af:Ai wa wg:=((aq.step a3 AdG).step a4 AdG).step ai AdG;refine Sa ?_;exact QW.head (TO,TX,TY,N1,N2,N3) ⟨a9.trans af,bo.ext af,bx.ext af,by'.ext af,⟨lo,lx,ly⟩,aa,ab,ac⟩ Ff
 rintro⟨RO,RX,RY,RA,RB,RC⟩ w5 ⟨aj,hR⟩;dsimp only at hR;show CW _ _ _ _ _ [(0,.pointer (some ⟨M,0,none⟩)),(5,.pointer (some ⟨X,0,none⟩)),(8,.pointer (some ⟨A,0,none⟩)),(9,.pointer (some ⟨B,0,none⟩)),(10,.pointer (some ⟨RA,0,none⟩)),(11,.pointer (some ⟨RB,0,none⟩)),(12,.pointer (some ⟨RC,0,none⟩))] _;replace hX:=hX.ext aj;replace hH:=hH.later aj;replace hA:=hA.ext aj;replace hB:=hB.ext aj;replace i2:=i2.ext aj;replace i4:=i4.ext aj;clear aj i1 i3;refine CW.seq_cut (ι:=Nat×Nat×Nat×Nat×Nat×Nat) (λx w'=>Ai w5 w'∧Zz w5.heap.size w' (A3 (Ag o a).cols (Ag o b).cols) x.1 x.2.1 x.2.2.1 x.2.2.2.1 x.2.2.2.2.1 x.2.2.2.2.2) (λx=>[(0,.pointer (some ⟨M,0,none⟩)),(5,.pointer (some ⟨X,0,none⟩)),(10,.pointer (some ⟨RA,0,none⟩)),(11,.pointer (some ⟨RB,0,none⟩)),(12,.pointer (some ⟨RC,0,none⟩)),(14,.pointer (some ⟨x.2.2.2.1,0,none⟩)),(15,.pointer (some ⟨x.2.2.2.2.1,0,none⟩)),(16,.pointer (some ⟨x.2.2.2.2.2,0,none⟩))]) ?_ ?_
 ·clear hR hH hX eo ea eb r1 r2 r3 hl hp;refine Sa ?_;refine LW.load_cells rfl (LX (i:=3) hA rfl rfl) rfl rfl rfl rfl ?_;refine Sa ?_;refine LW.load_cells rfl (LX (i:=3) hB rfl rfl) rfl rfl rfl rfl ?_;refine Sa ?_;refine Ay rfl rfl (PZ (Ag o a).cols (Ag o b).cols _ _ w5 ⟨_,rfl,i2⟩ ⟨_,rfl,i4⟩ m2 m4 elc s2 s4 t4) ?_;rintro v wa ⟨TO,TX,TY,rfl,bo,bx,by',lo,lx,ly,a9⟩;obtain⟨e1,e2,e3⟩:=Dw (Ag o a).cols (Ag o b).cols ((Ag o a).cols.to.length+1);rw[←A3] at e1 e2 e3;rw[←e1,←e2,←e3];generalize A3 (Ag o a).cols (Ag o b).cols=f at bo bx by' ⊢
  clear e1 e2 e3;have z1:=bo.lt;have z2:=bx.lt;have z3:=by'.lt
  refine Sa ?_;refine Bo λN1 wb cf ap aa=>?_;refine Sa ?_;refine Bo λN2 wc cg ah ab=>?_;refine Sa ?_;refine Bo λN3 wd ci ae ac=>?_;have y1:=aa.lt;have y2:=ab.lt;have u0:=a9.size;have u1:=ap.size;have u2:=ah.size;have u3:=ae.size;have aq:=(ap.trans ah).trans ae;replace aa:=(aa.ext ah).ext ae;replace ab:=ab.ext ae;refine Sa ?_;refine AD λwe a3 aa=>?_;replace ab:=ab.chg a3 AdG;replace ac:=ac.chg a3 AdG;refine Sa ?_;refine AD λwf a4 ab=>?_;replace aa:=aa.chg a4 AdG;replace ac:=ac.chg a4 AdG;refine Sa ?_;refine AD λwg ai ac=>?_;replace aa:=aa.chg ai AdG;replace ab:=ab.chg ai AdG;have cj:=aq.size;have af:Ai wa wg:=((aq.step a3 AdG).step a4 AdG).step ai AdG;refine Sa ?_;exact QW.head (TO,TX,TY,N1,N2,N3) ⟨a9.trans af,bo.ext af,bx.ext af,by'.ext af,⟨lo,lx,ly⟩,aa,ab,ac⟩ LO
 rintro⟨CO,CX,CY,CA,CB,CC⟩ w6 ⟨ay,hC⟩;dsimp only at hC;show CW _ _ _ _ _ [(0,.pointer (some ⟨M,0,none⟩)),(5,.pointer (some ⟨X,0,none⟩)),(10,.pointer (some ⟨RA,0,none⟩)),(11,.pointer (some ⟨RB,0,none⟩)),(12,.pointer (some ⟨RC,0,none⟩)),(14,.pointer (some ⟨CA,0,none⟩)),(15,.pointer (some ⟨CB,0,none⟩)),(16,.pointer (some ⟨CC,0,none⟩))] _;replace hX:=hX.ext ay;replace hH:=hH.later ay;replace hR:=hR.ext ay;clear ay i2 i4 hA hB;obtain rfl:o.name=nm:=(BD eo).1;have al:AQ o.name o a b=⟨o.name,((A3 (Ag o a).rows (Ag o b).rows).now:Int),((A3 (Ag o a).cols (Ag o b).cols).now:Int),0,false,false,⟨o.name,⟨(A3 (Ag o a).rows (Ag o b).rows).o,((A3 (Ag o a).rows (Ag o b).rows).now:Int)⟩,⟨(A3 (Ag o a).cols (Ag o b).cols).o,((A3 (Ag o a).cols (Ag o b).cols).now:Int)⟩,false⟩,⟨o.name,⟨(A3 (Ag o a).rows (Ag o b).rows).x,((A3 (Ag o a).rows (Ag o b).rows).now:Int)⟩,⟨(A3 (Ag o a).cols (Ag o b).cols).x,((A3 (Ag o a).cols (Ag o b).cols).now:Int)⟩,false⟩,⟨o.name,⟨(A3 (Ag o a).rows (Ag o b).rows).y,((A3 (Ag o a).rows (Ag o b).rows).now:Int)⟩,⟨(A3 (Ag o a).cols (Ag o b).cols).y,((A3 (Ag o a).cols (Ag o b).cols).now:Int)⟩,false⟩⟩:=rfl;obtain⟨lr1,lr2,lr3⟩:=Dw (Ag o a).rows (Ag o b).rows ((Ag o a).rows.to.length+1);obtain⟨lc1,lc2,lc3⟩:=Dw (Ag o a).cols (Ag o b).cols ((Ag o a).cols.to.length+1);rw[←A3] at lr1 lr2 lr3 lc1 lc2 lc3;have kr:(A3 (Ag o a).rows (Ag o b).rows).o.length≤1000000∧(A3 (Ag o a).rows (Ag o b).rows).x.length≤1000000∧(A3 (Ag o a).rows (Ag o b).rows).y.length≤1000000:=AdE
 have kc:(A3 (Ag o a).cols (Ag o b).cols).o.length≤1000000∧(A3 (Ag o a).cols (Ag o b).cols).x.length≤1000000∧(A3 (Ag o a).cols (Ag o b).cols).y.length≤1000000:=AdE
 clear lr1 lr2 lr3 lc1 lc2 lc3;generalize AQ o.name o a b=P at al ⊢;generalize A3 (Ag o a).rows (Ag o b).rows=f at hR al kr;generalize A3 (Ag o a).cols (Ag o b).cols=g at hC al kc;clear m1 m2 m3 m4 s1 s2 s3 s4 t1 t2 t3 t4 elr elc h r1 r2 r3;have hM:=hH.top;have cu:=hH.ext.size;obtain⟨po,co,eout⟩:∃po co,out=.slice po ps.length co:=Aq.slice hH.made;obtain⟨-,-,-,k4,-,-⟩:=hH.kinds;have nX:X∉Ac out:=λhm'=>absurd (by simp[Bw,hm']) (hH.other hX);have nR:RA∉Ac out:=λhm'=>absurd (by simp[Bw,hm']) (hH.other hR.a);have nC:CA∉Ac out:=λhm'=>absurd (by simp[Bw,hm']) (hH.other hC.a);have ck:=hR.a;have cl:=hC.a;obtain⟨css,g1,g2,g3,g4⟩:=hH.made;have emL:F9 S P=[Ao o.name,.int .i64 (f.now:Int),.int .i64 (g.now:Int),.pointer none,.bool false]:=by rw[al];rfl
 refine Sw ?_;refine CW.drawG (Chg (Ac out) w6) 14 (λw' h=>h.chg) AdF λwa a9=>?_;refine Sg ?_;refine AJ ?_;refine Sg ?_;refine AJ ?_;refine Sg ?_;refine AJ ?_;refine Sg ?_;refine AJ ?_;refine BE 12 λhS=>?_;refine Dt λD w7 cv am hD=>?_;have cw:=am.size;have cx:=a9.size;replace hD:Blk w7 D (F9 S P) 70:=by rw[emL];exact hD
 have hE:=hS.ext am;apply LW.nil;refine QW.headed hE ?_;refine BE 13 λhS=>?_;refine LW.append (lo:=w0.heap.size) (k:=ps.length) rfl rfl rfl rfl rfl rfl ((g3.ext a9).ext am) AdE hD rfl (by rw[emL];rfl) rfl (by show(_+1)*49≤_;omega) rfl ?_;intro v8 w8 az b3 c0;have hE:=hE.same az;apply LW.nil;refine QW.headed hE ?_;refine AJ ?_;refine GW.tail rfl AdF (λhS=>?_);have ar:=((hM.ext a9).ext am).chg az k4;obtain⟨p8,c8,rfl⟩:=b3.slice;refine Sw ?_;refine CR λw9 b4 ar=>?_;replace ar:Blk w9 M [ptr (S 0),ptr (S 1),ptr (S 2),.slice p8 (ps.length+1) c8] 66:=ar;have nM8:M∉Ac (Value.slice p8 (ps.length+1) c8):=λhm'=>by
  rcases c0 _ hm' with hm' | hm'
  ·exact k4 hm'
  ·have:=hH.lt.1;omega
 have ak:=a9.trans am;have cm:=ak.size;have b5:Chg (M::Ac out) w6 w9:=(Chg.trans (Chg.trans ak az) b4).mono λb hb _=>by
  simp only[Ab5,Abf,Aad] at hb;rcases hb with hb | rfl
  ·exact Abj _ hb
  ·exact Abo ..
 have b0:Chg (Bw M S sv out) w6 w9:=b5.mono λb hb _=>by
  rcases AaT.1 hb with rfl | hb
  ·simp[Bw]
  ·simp[Bw,hb]
 have hK:=hH.more (w1:=w9) (p:=P) b5 ar (λcss' _ cn=>by
   rw[Nc cn g3];exact b3.chg b4 λb hb hm'=>nM8 (by simp only[Aad] at hm';exact hm' ▸ hb)) λj hj=>by
   rcases c0 j hj with hj | hj
   ·exact .inl hj
   ·exact .inr AdE
 replace hX:=hX.chg b0 (hH.other hX);replace hR:=hR.chg hH b0;replace hC:=hC.chg hH b0;clear a9 am az b4 hD b3 hE hM ar hS g1 g2 g3 g4 b5 b0 ak ck cl nX nR nC hH;have hM:=hK.top;have au:=hK.side 0;have av:=hR.a;have aw:=hC.a;refine Sw ?_;refine CW.drawG (Ai w9) 9 (λw' h=>h) AdF λcy a9=>?_;refine AJ ?_;refine GW.tail rfl AdF (λhS=>?_);refine Ay rfl rfl (F5 (hK.later hS) 0 o.name ⟨[],⟨f.o,(f.now:Int)⟩,⟨g.o,(g.now:Int)⟩,false⟩ _ _ (by have:=hl 0;first | omega | (show(l 0).length≤1000;omega)) (Po (hK.later hS) (s:=⟨o.name,⟨f.o,(f.now:Int)⟩,⟨g.o,(g.now:Int)⟩,false⟩) (hR.o.ext hS) (hC.o.ext hS) (by show f.o.length≤_;omega) (by show g.o.length≤_;omega))) ?_;rintro v cp ⟨rfl,hc,sv0,hL⟩;replace hX:=(hX.ext hS).chg hc ((hK.later hS).other (hX.ext hS));replace hR:=(hR.ext hS).chg (hK.later hS) hc;replace hC:=(hC.ext hS).chg (hK.later hS) hc;rw[eo] at hL;clear hc hS hM au av aw a9 hK;have hM:=hL.top;have au:=hL.side 1;have av:=hR.b;have aw:=hC.b;refine Sw ?_;refine CW.drawG (Ai cp) 9 (λw' h=>h) AdF λcz a9=>?_;refine AJ ?_;refine GW.tail rfl AdF (λhS=>?_);refine Ay rfl rfl (F5 (hL.later hS) 1 o.name ⟨[],⟨f.x,(f.now:Int)⟩,⟨g.x,(g.now:Int)⟩,false⟩ _ _ (by have:=hl 1;first | omega | (show(l 1).length≤1000;omega)) (Po (hL.later hS) (s:=⟨o.name,⟨f.x,(f.now:Int)⟩,⟨g.x,(g.now:Int)⟩,false⟩) (hR.x.ext hS) (hC.x.ext hS) (by show f.x.length≤_;omega) (by show g.x.length≤_;omega))) ?_;rintro v cq ⟨rfl,hc,sv1,hN⟩;replace hX:=(hX.ext hS).chg hc ((hL.later hS).other (hX.ext hS));replace hR:=(hR.ext hS).chg (hL.later hS) hc;replace hC:=(hC.ext hS).chg (hL.later hS) hc;rw[ea] at hN;clear hc hS hM au av aw a9 hL;have hM:=hN.top;have au:=hN.side 2;have av:=hR.c;have aw:=hC.c;refine Sw ?_;refine CW.drawG (Ai cq) 9 (λw' h=>h) AdF λd0 a9=>?_;refine AJ ?_;refine GW.tail rfl AdF (λhS=>?_);refine Ay rfl rfl (F5 (hN.later hS) 2 o.name ⟨[],⟨f.y,(f.now:Int)⟩,⟨g.y,(g.now:Int)⟩,false⟩ _ _ (by have:=hl 2;first | omega | (show(l 2).length≤1000;omega)) (Po (hN.later hS) (s:=⟨o.name,⟨f.y,(f.now:Int)⟩,⟨g.y,(g.now:Int)⟩,false⟩) (hR.y.ext hS) (hC.y.ext hS) (by show f.y.length≤_;omega) (by show g.y.length≤_;omega))) ?_;rintro v d1 ⟨rfl,hc,sv2,hQ⟩
 replace hX:=(hX.ext hS).chg hc ((hN.later hS).other (hX.ext hS));replace hR:=(hR.ext hS).chg (hN.later hS) hc;replace hC:=(hC.ext hS).chg (hN.later hS) hc;rw[eb] at hQ;clear hc hS hM au av aw a9 hN;refine Sw ?_;refine QW.body_n (rs:=[]) (vs:=[]) results49 trivial rfl ⟨rfl,sv2,.slice p8 (ps.length+1) c8,?_⟩;have efin:Ky (Ky (Ky l 0 (l 0++[P.o])) 1 (Ky l 0 (l 0++[P.o]) 1++[P.a])) 2 (Ky (Ky l 0 (l 0++[P.o])) 1 (Ky l 0 (l 0++[P.o]) 1++[P.a]) 2++[P.b])=SN l P:=by
  funext j
  match j with
  | 0=>rfl
  | 1=>rfl
  | 2=>rfl
 rw[←efin,al];rw[al] at hQ;exact hQ
end
theorem AA.one{w:World}{D:Nat}{s:Ae}{rv:Value}(h:Blk w D (Am s rv) 46)(hn:s.name.length≤1000000)(hr:BA w rv s.rows):AA w (.slice (some ⟨D,0,none⟩) 1 1) [s]:=by
 refine⟨by simp,.inr ⟨⟨D,0,none⟩,1,rfl,λ_=>trivial,λi x hi=>?_⟩⟩
 match i,hi with
 | 0,hi=>
  obtain rfl:=Abm hi;exact⟨Am s rv,rfl,⟨rv,rfl,hn,hr⟩,λj u hj=>by
   rw[Au,Au];exact h.cell Ael⟩
theorem KK(s t:Ae)(q r:Option Addr)(k j:Nat)(w:World)(hs:s.name.length≤1000000)(ht:t.name.length≤1000000)(h:BA w (.slice q s.rows.length k) s.rows)(h':BA w (.slice r t.rows.length j) t.rows) :
  AF prog 47 [.agg ⟨Am s (.slice q s.rows.length k)⟩,.agg ⟨Am t (.slice r t.rows.length j)⟩] w (λv w'=>v=.bool (decide (s=t))∧Ai w w'):=by
 have g:=λv u w h h'=>UN [s] [t] v u w h h';rw[show decide ([s]=[t])=decide (s=t) by simp] at g;refine Bj func47 ntmps47 ?_;apply CW.seq;apply CW.region;refine Sl ?_;refine CM λA w1 a5 a3 hA=>?_;replace hA:Blk w1 A (Am s (.slice q s.rows.length k)) 46:=hA;refine Sl ?_;refine CM λB w2 a6 a0 hB=>?_;replace hB:Blk w2 B (Am t (.slice r t.rows.length j)) 46:=hB;replace hA:=hA.ext a0;refine Sa ?_;refine Dt λC w3 a7 a1 hC=>?_;replace hC:Blk w3 C (Am s (.slice q s.rows.length k)) 46:=hC;replace hB:=hB.ext a1;refine Sa ?_;refine Dt λD w4 a8 a2 hD=>?_;replace hD:Blk w4 D (Am t (.slice r t.rows.length j)) 46:=hD;have hx:=((a3.trans a0).trans a1).trans a2;refine Sa ?_;refine Ay rfl rfl (g _ _ w4 (AA.one (hC.ext a2) hs (h.ext hx)) (AA.one hD ht (h'.ext hx))) ?_;rintro v w5 ⟨rfl,a4⟩;refine Sa ?_;exact QW.body1 rfl rfl ⟨rfl,hx.trans a4⟩
section
variable {K:World→Prop} {w0 w:World} {M:Nat} {S:Fin 3→Nat} {bk:Fin 3→An} {bv sv:Fin 3→Value} {out:Value} {l:Fin 3→List Bg} {ps:List A1}
def H4(P:A1):List A1:=if P.gone=true then[] else[P]
def FJ(P:A1):Fin 3→Bg
 | 0=>P.o
 | 1=>P.a
 | 2=>P.b
def O6(bk:Fin 3→An)(l:Fin 3→List Bg)(nm:List UInt8)(P:A1):Fin 3→List Bg:=λi=>l i++if (Bh (bk i) nm).isSome=true then[FJ P i] else[]
theorem IA(nm:List UInt8)(P:A1)(h:P=D4 nm):O6 bk l nm P=λk=>l k++QJ (bk k) nm:=by
 subst h
 funext i
 match i with
 | 0=>rfl
 | 1=>rfl
 | 2=>rfl
theorem E1(t:Ae)(P:A1)(ho:∀u,Bh (bk 0) t.name=some u→P.o=Ag u t)(ha:∀u,Bh (bk 1) t.name=some u→P.a=Aw u)(hb:∀u,Bh (bk 2) t.name=some u→P.b=Aw u):O6 bk l t.name P=NF bk l t:=by
 funext i
 match i with
 | 0=>
  show l 0++_=l 0++Tx (bk 0) t.name t;unfold Tx
  cases e:Bh (bk 0) t.name with
  | none=>rfl
  | some u=>show l 0++[P.o]=_;rw[ho u e]
 | 1=>
  show l 1++_=l 1++EQ (bk 1) t.name;unfold EQ
  cases e:Bh (bk 1) t.name with
  | none=>rfl
  | some u=>show l 1++[P.a]=_;rw[ha u e]
 | 2=>
  show l 2++_=l 2++EQ (bk 2) t.name;unfold EQ
  cases e:Bh (bk 2) t.name with
  | none=>rfl
  | some u=>show l 2++[P.b]=_;rw[hb u e]
theorem Ts(nm:List UInt8)(P:A1)(ho:(Bh (bk 0) nm).isSome=true)(ha:(Bh (bk 1) nm).isSome=true)(hb:(Bh (bk 2) nm).isSome=true):O6 bk l nm P=SN l P:=by
 funext i
 match i with
 | 0=>show l 0++_=l 0++_;rw[if_pos ho];rfl
 | 1=>show l 1++_=l 1++_;rw[if_pos ha];rfl
 | 2=>show l 2++_=l 2++_;rw[if_pos hb];rfl
theorem G5{b:An}(hm:Av b=true){nm:List UInt8}{s:Ae}(h:Bh b nm=some s):s.name.length≤1000000:=by
 have:=(AZ.1 (B9 hm h).1).1;have:=(FB this).2.1;omega
set_option maxRecDepth 8000 in
set_option maxHeartbeats 4000000 in
theorem TF(h:FN K w0 w M S bk bv sv out l ps)(hm:∀i,Av (bk i)=true)(nm:List UInt8)(hl:∀i,(l i).length≤900)(hp:ps.length≤900) :
  AF prog 29 [.pointer (some ⟨M,0,none⟩),Ao nm] w (λv w'=>v=.tuple #[]∧∃sv' out',FN K w0 w' M S bk bv sv' out' (O6 bk l nm (A4 nm (Bh (bk 0) nm) (Bh (bk 1) nm) (Bh (bk 2) nm))) (ps++H4 (A4 nm (Bh (bk 0) nm) (Bh (bk 1) nm) (Bh (bk 2) nm)))):=by
 have hM:=h.top;refine Bj func29 ntmps29 ?_;refine Sa ?_;refine Ay rfl rfl (Hu (bk 0) (S 0) (bv 0) (sv 0) nm w0 w (h.side 0) (h.book 0) h.ext) ?_;rintro v w1 ⟨⟨n0,z0,p0,m0,k0,rfl,a9⟩,a2⟩;refine Sa ?_;refine Bo λA w2 ac a4 hA=>?_;have a0:=a2.trans a4;have hz:=a0.size;have a6:=hA.lt;refine Sa ?_;refine AD λw3 hc hA=>?_;have hx:=a0.step hc (by have:=a2.size;simp;omega);replace h:=h.later hx;replace hM:=hM.ext hx;clear a2 a4 a0 hc hz a6 hx;refine Sa ?_;refine Ay rfl rfl (Hu (bk 1) (S 1) (bv 1) (sv 1) nm w0 w3 (h.side 1) (h.book 1) h.ext) ?_;rintro v w4 ⟨⟨n1,z1,p1,m1,k1,rfl,aa⟩,a2⟩;refine Sa ?_;refine Bo λB w5 ac a4 hB=>?_;have a0:=a2.trans a4;have hz:=a0.size;have a6:=hB.lt;refine Sa ?_;refine AD λw6 hc hB=>?_;have hx:=a0.step hc (by have:=a2.size;simp;omega);replace h:=h.later hx;replace hM:=hM.ext hx;replace hA:=hA.ext hx;clear a2 a4 a0 hc hz a6 hx;refine Sa ?_;refine Ay rfl rfl (Hu (bk 2) (S 2) (bv 2) (sv 2) nm w0 w6 (h.side 2) (h.book 2) h.ext) ?_;rintro v w7 ⟨⟨n2,z2,p2,m2,k2,rfl,ab⟩,a2⟩;refine Sa ?_;refine Bo λC w8 ac a4 hC=>?_;have a0:=a2.trans a4;have hz:=a0.size;have a6:=hC.lt;refine Sa ?_;refine AD λw9 hc hC=>?_;have hx:=a0.step hc (by have:=a2.size;simp;omega);replace h:=h.later hx;replace hM:=hM.ext hx;replace hA:=hA.ext hx;replace hB:=hB.ext hx;clear a2 a4 a0 hc hz a6 hx;replace hA:Blk w9 A [Ao n0,.int .i64 z0,.slice p0 m0 k0] 46:=hA;replace hB:Blk w9 B [Ao n1,.int .i64 z1,.slice p1 m1 k1] 46:=hB;replace hC:Blk w9 C [Ao n2,.int .i64 z2,.slice p2 m2 k2] 46:=hC
 cases e1:Bh (bk 1) nm with
 | none=>
  cases e2:Bh (bk 2) nm with
  | none=>
   cases e0:Bh (bk 0) nm with
   | none=>
    refine Sa ?_;refine Ay rfl rfl (I8 h nm hl) ?_;rintro v wc ⟨rfl,sv',hN⟩;refine Sa ?_;refine QW.body_n (rs:=[]) (vs:=[]) results29 trivial rfl ⟨rfl,sv',out,?_⟩;rw[show A4 nm none none none=D4 nm by rfl,IA nm _ rfl,show H4 (D4 nm)=[] from rfl,Aby]
    exact hN
   | some u=>
    refine Sa ?_;refine Ay rfl rfl (I8 h nm hl) ?_;rintro v wc ⟨rfl,sv',hN⟩;refine Sa ?_;refine QW.body_n (rs:=[]) (vs:=[]) results29 trivial rfl ⟨rfl,sv',out,?_⟩;rw[show A4 nm (some u) none none=D4 nm by rfl,IA nm _ rfl,show H4 (D4 nm)=[] from rfl,Aby]
    exact hN
  | some t=>
   cases e0:Bh (bk 0) nm with
   | none=>
    obtain⟨rfl,rfl,rfl,a5⟩:=ab t e2;obtain rfl:=(BD e2).1;have eP:A4 t.name none none (some t)=Bv t.name none (C9 t.name) (Aw t) t 2 false:=by rfl
    rw[eP];refine Sw ?_;refine CW.drawG (Ai w9) 6 (λw' h=>h) AdF λwa a8=>?_;refine AJ ?_;refine GW.tail rfl AdF (λhS=>?_);refine Ay rfl rfl (E0 (h.later hS) hm t (B9 (hm 2) e2).1 _ _ 2 false (Bv t.name none (C9 t.name) (Aw t) t 2 false) ⟨rfl,rfl,rfl,rfl,rfl⟩ a5 hl hp) ?_;rintro v wc ⟨rfl,sv',out',hN⟩;refine Sa ?_;refine QW.body_n (rs:=[]) (vs:=[]) results29 trivial rfl ⟨rfl,sv',out',?_⟩;rw[E1 t _ (λu hu=>by rw[e0] at hu;cases hu<;>rfl) (λu hu=>by rw[e1] at hu;cases hu<;>rfl) (λu hu=>by rw[e2] at hu;cases hu<;>rfl)]
    exact hN
   | some u=>
    obtain⟨rfl,rfl,rfl,a5⟩:=ab t e2;obtain⟨rfl,rfl,rfl,a7⟩:=a9 u e0;refine Sa ?_;refine Ay rfl rfl (KK t u _ _ _ _ w9 (G5 (hm 2) e2) (G5 (hm 0) e0) (Bb.ext a5 h.ext) (Bb.ext a7 h.ext)) ?_;rintro v wb ⟨rfl,a1⟩;replace h:=h.later a1;replace hM:=hM.ext a1;replace hA:=hA.ext a1;replace hB:=hB.ext a1;replace hC:=hC.ext a1;by_cases c1:t=u
    ·rw[decide_eq_true c1];refine Sa ?_;refine Ay rfl rfl (I8 h nm hl) ?_;rintro v wc ⟨rfl,sv',hN⟩;refine Sa ?_;refine QW.body_n (rs:=[]) (vs:=[]) results29 trivial rfl ⟨rfl,sv',out,?_⟩;rw[show A4 nm (some u) none (some t)=D4 nm by subst c1;exact if_pos rfl,IA nm _ rfl,show H4 (D4 nm)=[] from rfl,Aby];exact hN
    ·rw[decide_eq_false c1];obtain rfl:=(BD e2).1;have eP:A4 t.name (some u) none (some t)=Bv t.name (some u) (C9 t.name) (Aw t) t 2 true:=by exact if_neg λe=>c1 (Abm e).symm
     rw[eP];refine Sw ?_;refine CW.drawG (Ai wb) 6 (λw' h=>h) AdF λwa a8=>?_;refine AJ ?_;refine GW.tail rfl AdF (λhS=>?_);refine Ay rfl rfl (E0 (h.later hS) hm t (B9 (hm 2) e2).1 _ _ 2 true (Bv t.name (some u) (C9 t.name) (Aw t) t 2 true) ⟨rfl,rfl,rfl,rfl,rfl⟩ a5 hl hp) ?_;rintro v wc ⟨rfl,sv',out',hN⟩;refine Sa ?_;refine QW.body_n (rs:=[]) (vs:=[]) results29 trivial rfl ⟨rfl,sv',out',?_⟩;rw[E1 t _ (λu hu=>by rw[e0] at hu;cases hu<;>rfl) (λu hu=>by rw[e1] at hu;cases hu<;>rfl) (λu hu=>by rw[e2] at hu;cases hu<;>rfl)]
     exact hN
 | some s=>
  cases e2:Bh (bk 2) nm with
  | none=>
   cases e0:Bh (bk 0) nm with
   | none=>
    obtain⟨rfl,rfl,rfl,a3⟩:=aa s e1;obtain rfl:=(BD e1).1;have eP:A4 s.name none (some s) none=Bv s.name none (Aw s) (C9 s.name) s 1 false:=by rfl
    rw[eP];refine Sw ?_;refine CW.drawG (Ai w9) 6 (λw' h=>h) AdF λwa a8=>?_;refine AJ ?_;refine GW.tail rfl AdF (λhS=>?_);refine Ay rfl rfl (E0 (h.later hS) hm s (B9 (hm 1) e1).1 _ _ 1 false (Bv s.name none (Aw s) (C9 s.name) s 1 false) ⟨rfl,rfl,rfl,rfl,rfl⟩ a3 hl hp) ?_;rintro v wc ⟨rfl,sv',out',hN⟩;refine Sa ?_;refine QW.body_n (rs:=[]) (vs:=[]) results29 trivial rfl ⟨rfl,sv',out',?_⟩;rw[E1 s _ (λu hu=>by rw[e0] at hu;cases hu<;>rfl) (λu hu=>by rw[e1] at hu;cases hu<;>rfl) (λu hu=>by rw[e2] at hu;cases hu<;>rfl)]
    exact hN
   | some u=>
    obtain⟨rfl,rfl,rfl,a3⟩:=aa s e1;obtain⟨rfl,rfl,rfl,a7⟩:=a9 u e0;refine Sa ?_;refine Ay rfl rfl (KK s u _ _ _ _ w9 (G5 (hm 1) e1) (G5 (hm 0) e0) (Bb.ext a3 h.ext) (Bb.ext a7 h.ext)) ?_;rintro v wb ⟨rfl,a1⟩;replace h:=h.later a1;replace hM:=hM.ext a1;replace hA:=hA.ext a1;replace hB:=hB.ext a1;replace hC:=hC.ext a1;by_cases c1:s=u
    ·rw[decide_eq_true c1];refine Sa ?_;refine Ay rfl rfl (I8 h nm hl) ?_;rintro v wc ⟨rfl,sv',hN⟩;refine Sa ?_;refine QW.body_n (rs:=[]) (vs:=[]) results29 trivial rfl ⟨rfl,sv',out,?_⟩;rw[show A4 nm (some u) (some s) none=D4 nm by subst c1;exact if_pos rfl,IA nm _ rfl,show H4 (D4 nm)=[] from rfl,Aby];exact hN
    ·rw[decide_eq_false c1];obtain rfl:=(BD e1).1;have eP:A4 s.name (some u) (some s) none=Bv s.name (some u) (Aw s) (C9 s.name) s 1 true:=by exact if_neg λe=>c1 (Abm e).symm
     rw[eP];refine Sw ?_;refine CW.drawG (Ai wb) 6 (λw' h=>h) AdF λwa a8=>?_;refine AJ ?_;refine GW.tail rfl AdF (λhS=>?_);refine Ay rfl rfl (E0 (h.later hS) hm s (B9 (hm 1) e1).1 _ _ 1 true (Bv s.name (some u) (Aw s) (C9 s.name) s 1 true) ⟨rfl,rfl,rfl,rfl,rfl⟩ a3 hl hp) ?_;rintro v wc ⟨rfl,sv',out',hN⟩;refine Sa ?_;refine QW.body_n (rs:=[]) (vs:=[]) results29 trivial rfl ⟨rfl,sv',out',?_⟩;rw[E1 s _ (λu hu=>by rw[e0] at hu;cases hu<;>rfl) (λu hu=>by rw[e1] at hu;cases hu<;>rfl) (λu hu=>by rw[e2] at hu;cases hu<;>rfl)]
     exact hN
  | some t=>
   obtain⟨rfl,rfl,rfl,a3⟩:=aa s e1;obtain⟨rfl,rfl,rfl,a5⟩:=ab t e2;refine Sa ?_;refine Ay rfl rfl (KK s t _ _ _ _ w9 (G5 (hm 1) e1) (G5 (hm 2) e2) (Bb.ext a3 h.ext) (Bb.ext a5 h.ext)) ?_;rintro v wb ⟨rfl,a1⟩;replace h:=h.later a1;replace hM:=hM.ext a1;replace hA:=hA.ext a1;replace hB:=hB.ext a1;replace hC:=hC.ext a1;by_cases c1:s=t
   ·rw[decide_eq_true c1];subst c1;obtain rfl:=(BD e1).1;refine Sa ?_;have eP:A4 s.name (Bh (bk 0) s.name) (some s) (some s)=Bv s.name (Bh (bk 0) s.name) (Aw s) (Aw s) s 0 false:=if_pos rfl;rw[eP];refine Ay rfl rfl (UU h hm s (B9 (hm 1) e1).1 _ _ (Bv s.name (Bh (bk 0) s.name) (Aw s) (Aw s) s 0 false) ⟨rfl,rfl,rfl,rfl,rfl⟩ a3 hl hp) ?_;rintro v wc ⟨rfl,sv',out',hN⟩;refine Sa ?_;refine QW.body_n (rs:=[]) (vs:=[]) results29 trivial rfl ⟨rfl,sv',out',?_⟩;rw[E1 s _ (λu hu=>by rw[hu];rfl) (λu hu=>by rw[e1] at hu;cases hu<;>rfl) (λu hu=>by rw[e2] at hu;cases hu<;>rfl)];exact hN
   ·rw[decide_eq_false c1]
    cases e0:Bh (bk 0) nm with
    | none=>
     obtain rfl:=(BD e1).1;have eP:A4 s.name none (some s) (some t)=Bv s.name none (Aw s) (Aw t) s 1 true:=by exact if_neg c1
     rw[eP];refine Sw ?_;refine CW.drawG (Ai wb) 6 (λw' h=>h) AdF λwa a8=>?_;refine AJ ?_;refine GW.tail rfl AdF (λhS=>?_);refine Ay rfl rfl (E0 (h.later hS) hm s (B9 (hm 1) e1).1 _ _ 1 true (Bv s.name none (Aw s) (Aw t) s 1 true) ⟨rfl,rfl,rfl,rfl,rfl⟩ a3 hl hp) ?_;rintro v wc ⟨rfl,sv',out',hN⟩;refine Sa ?_;refine QW.body_n (rs:=[]) (vs:=[]) results29 trivial rfl ⟨rfl,sv',out',?_⟩;rw[E1 s _ (λu hu=>by rw[e0] at hu;cases hu<;>rfl) (λu hu=>by rw[e1] at hu;cases hu<;>rfl) (λu hu=>by rw[e2] at hu;cases hu<;>rfl)]
     exact hN
    | some u=>
     obtain⟨rfl,rfl,rfl,a7⟩:=a9 u e0;have eP:A4 nm (some u) (some s) (some t)=AQ nm u s t:=if_neg c1;rw[eP];refine Sa ?_;refine Ay rfl rfl (Vu h u s t nm (B9 (hm 0) e0).1 (B9 (hm 1) e1).1 (B9 (hm 2) e2).1 e0 e1 e2 _ _ _ _ _ _ a7 a3 a5 hl hp) ?_;rintro v wc ⟨rfl,sv',out',hN⟩;refine Sa ?_;refine QW.body_n (rs:=[]) (vs:=[]) results29 trivial rfl ⟨rfl,sv',out',?_⟩;rw[Ts nm _ (by rw[e0];rfl) (by rw[e1];rfl) (by rw[e2];rfl)];exact hN
end
open Go Go.E Go.Sort
theorem Aaa(x y:List UInt8):decide (x≤y)=!Op.bytesLess y x:=by
 rw[bytesLess_eq];by_cases h:y<x
 ·rw[decide_eq_false (λh'=>h' h),decide_eq_true h];rfl
 ·rw[decide_eq_true (show x≤y from h),decide_eq_false h];rfl
theorem Wp(l:List (List UInt8)):(l.mergeSort λx y=>decide (x≤y)).Pairwise λx y=>Op.bytesLess y x=false:=by
 have e:(λx y:List UInt8=>decide (x≤y))=λx y=>!Op.bytesLess y x:=by
  funext x y
  exact Aaa x y
 rw[e];refine(List.pairwise_mergeSort (λa b c h1 h2=>?_) (λa b=>?_) l).imp λ{a b} h=>by simpa using h
 ·have h1:Op.bytesLess b a=false:=by simpa using h1
  have h2:Op.bytesLess c b=false:=by simpa using h2
  cases h:Op.bytesLess c a with
  | false=>rfl
  | true=>
   exfalso;by_cases e1:b=a
   ·subst e1;rw[h] at h2;cases h2
   ·have:=Ex h (F7 h1 e1);rw[h2] at this;cases this
 ·cases h:Op.bytesLess b a with
  | false=>rfl
  | true=>
   have:Op.bytesLess a b=false:=by
    cases k:Op.bytesLess a b with
    | false=>rfl
    | true=>exact absurd h (Jp _ _ k)
   simp[this]
theorem Pl{zs:List (List UInt8)}(h:zs.Pairwise λx y=>Op.bytesLess y x=false):(Lib.compact zs).Pairwise λx y=>Op.bytesLess x y=true:=by
 unfold Lib.compact Lib.compactUpTo;rw[Ad3];have h0:=(List.pairwise_lt_range (n:=zs.length)).filter (Lib.keeps zs.toArray);refine h0.imp_of_mem λ{i j} hi hj a2=>?_;obtain⟨_,_⟩:=Acj.1 hi;obtain⟨a0,a1⟩:=Acj.1 hj;have a0:=AbB.1 a0;have hk:j=0∨zs.toArray[j]!≠zs.toArray[j - 1]!:=by simpa[Lib.keeps] using a1
 have hk:zs.toArray[j]!≠zs.toArray[j - 1]!:=by
  rcases hk with hk | hk
  ·omega
  ·exact hk
 have e:∀k (hk:k<zs.length),zs.toArray[k]! = zs[k]:=λk hk=>by simp[getElem!_pos,hk]
 rw[e j a0,e (j - 1) AdE] at hk;rw[e i AdE,e j a0];have hp:=Ady.1 h;have h1:Op.bytesLess zs[j] zs[j - 1]=false:=hp (j - 1) j AdE a0 AdE;have h2:=F7 h1 hk;by_cases e2:i=j - 1
 ·subst e2;exact h2
 ·have h3:Op.bytesLess zs[j - 1] zs[i]=false:=hp i (j - 1) AdE AdE AdE;by_cases e3:zs[j - 1]=zs[i]
  ·rw[←e3];exact h2
  ·exact Ex (F7 h3 e3) h2
theorem Q5{zs:List (List UInt8)}{x:List UInt8}:x∈Lib.compact zs↔x∈zs:=by
 have e:∀k (hk:k<zs.length),zs.toArray[k]! = zs[k]:=λk hk=>by simp[getElem!_pos,hk]
 have key:∀j (hj:j<zs.length),zs[j]∈Lib.compact zs:=λj=>by
  induction j with
  | zero=>
   intro hj
   exact AbE.2 ⟨0,Acj.2 ⟨AbB.2 hj,by simp[Lib.keeps]⟩,e 0 hj⟩
  | succ j ih=>
   intro hj
   cases hk:Lib.keeps zs.toArray (j+1) with
   | true=>exact AbE.2 ⟨j+1,Acj.2 ⟨AbB.2 hj,hk⟩,e _ hj⟩
   | false=>
    have hk:zs.toArray[j+1]! = zs.toArray[j]!:=by
     have:=hk;simp only[Lib.keeps,decide_eq_false_iff_not,not_or,Adv] at this;exact Classical.not_not.1 this.2
    rw[e _ hj,e j AdE] at hk;rw[hk];exact ih AdE
 constructor
 ·intro h;obtain⟨j,hj,rfl⟩:=AbE.1 h;have hj:=AbB.1 (Acj.1 hj).1;rw[e j hj];exact AbL hj
 ·intro h;obtain⟨j,hj,rfl⟩:=AcL.1 h;exact key j hj
theorem NO(l:List (List UInt8)):Lib.compact (l.mergeSort λx y=>decide (x≤y))=HT l:=by
 obtain⟨h1,h2⟩:=LA l;refine Ki (r:=λx y=>Op.bytesLess x y=true) Jp (Pl (Wp l)) h1 λx=>?_;rw[Q5,h2,(List.mergeSort_perm l _).mem_iff]
theorem QV(w:World)(g:Nat)(f:Array Value→Array Value):Chg [g] w (mapBlock w g f):=
 ⟨rfl,rfl,rfl,by simp[mapBlock],λk _ hk=>by
  have:¬g=k:=λe=>hk (by simp[e]);simp[mapBlock,Adg,this]⟩
theorem T7(l:List (List UInt8))(xs sp:List Value)(h:xs.length=l.length):putCells (λs:List UInt8=>Ao s) 0 l.toArray ⟨xs++sp⟩=⟨l.map Ao++sp⟩:=by
 apply Array.ext_getElem?;intro j;simp only[putCells,Array.getElem?_mapIdx,AcD,Ad0,AbC,Acn,true_and,Ad6];by_cases hj:j<l.length
 ·rw[Abk AdE,Abk Ael,Ab1,Aap AdE,Aap hj];simp[hj]
 ·rw[Abx AdE,Abx AdG,AbA,h];cases sp[j - l.length]?<;>simp[hj]
theorem Ox{w:World}{l:List (List UInt8)}{g:Nat}{sp:List Value}{T:TypeId}(hB:Blk w g (l.map Ao++sp) T):Holds encStr w g 0 l.toArray:=λj hj=>by
 have hj':j<l.length:=by simpa using hj
 constructor
 ·rw[AbC];refine hB.cell ?_;rw[Abk (by simpa using hj'),Ab1,Aap hj'];simp[getElem!_pos,hj',Ao,encStr]
 ·unfold Blk at hB;simp[World.frozen?,hB]
theorem U8{w:World}{l m:List (List UInt8)}{g n:Nat}{sp:List Value}{T:TypeId}(hB:Blk w g (l.map Ao++sp) T)(h:l.length=m.length):Blk (putRow encStr (Sort.ahead w n) g 0 m.toArray) g (m.map Ao++sp) T:=by
 unfold Blk at hB ⊢;have e:=T7 m (l.map Ao) sp Aeu;simp only[putRow,mapBlock,Sort.ahead,Adg,if_true,hB,Ab3,onCells];rw[show(encStr:List UInt8→Value)=λs=>Ao s from rfl,e]
theorem U9(w:World)(n g:Nat)(d:Array (List UInt8)):Chg [g] w (putRow encStr (Sort.ahead w n) g 0 d):=
 ⟨rfl,rfl,rfl,(QV (Sort.ahead w n) g _).size,(QV (Sort.ahead w n) g _).block⟩
set_option maxRecDepth 100000 in
theorem SY(w:World):AF prog 124 [.int .u64 0] w (λv w'=>v=.int .i64 0∧Ai w w'):=by
 refine Bj func124 ntmps124 ?_;refine Sa ?_;refine LW.conv (j:=.u8) (p:=0) (k:=.i64) (z:=0) rfl rfl rfl rfl rfl rfl rfl ?_;refine Sa ?_;exact QW.body1 rfl rfl ⟨rfl,Chg.refl _ _⟩
set_option maxRecDepth 100000 in
theorem Xz(w:World):AF prog 77 [.int .u64 0] w (λv w'=>v=.int .i64 0∧Ai w w'):=by
 refine Bj func77 ntmps77 ?_;refine Sa ?_;refine Ay rfl rfl (SY _) ?_;rintro v w1 ⟨rfl,a0⟩;refine Sa ?_;exact QW.body1 rfl rfl ⟨rfl,a0⟩
set_option maxRecDepth 100000 in
theorem Xp(w:World):AF prog 114 [.slice none 0 0,.int .i64 0,.int .i64 0] w (λv w'=>v=.tuple #[]∧Ai w w'):=by
 refine Bj func114 ntmps114 ?_;refine Sa ?_;refine CW.loop (ι:=Unit) (λ_ w'=>w'=w) (λ_=>[(2,.int .i64 0),(6,.int .i64 1)]) (λ_=>0) () rfl LN ?_;rintro _ w1 rfl;refine Sa ?_;exact QW.body_n (rs:=[]) (vs:=[]) results114 trivial rfl ⟨rfl,Chg.refl _ _⟩
set_option maxRecDepth 100000 in
theorem XK(w:World):AF prog 76 [.slice none 0 0,.int .i64 0,.int .i64 0,.int .i64 0] w (λv w'=>v=.tuple #[]∧Ai w w'):=by
 refine Bj func76 ntmps76 ?_;refine Sa ?_;refine CW.loop (ι:=Unit) (λ_ w'=>w'=w) (λ_=>[(0,.slice none 0 0),(1,.int .i64 0),(2,.int .i64 0)]) (λ_=>0) () rfl CF ?_;rintro _ w1 rfl;refine Sa ?_;refine Ay rfl rfl (Xp _) ?_;rintro v w2 ⟨rfl,a0⟩;refine Sa ?_;exact QW.body (rs:=[]) (vs:=[]) results76 trivial rfl ⟨rfl,a0⟩
set_option maxRecDepth 100000 in
theorem Wo(w:World):AF prog 52 [.slice none 0 0] w (λv w'=>v=.tuple #[]∧Ai w w'):=by
 refine Bj func52 ntmps52 ?_;refine Sa ?_;refine Ay rfl rfl (Xz _) ?_;rintro v w1 ⟨rfl,a0⟩;refine Sa ?_;refine Ay rfl rfl (XK _) ?_;rintro v w2 ⟨rfl,a1⟩;refine Sa ?_;exact QW.body_n (rs:=[]) (vs:=[]) results52 trivial rfl ⟨rfl,a0.trans a1⟩
theorem WC(l:List (List UInt8))(v:Value)(lo:Nat)(w:World)(h:E.Own w lo 9 1 v l.length (l.map Ao))(hl:l.length≤1000000):AF prog 52 [v] w (λr w'=>r=.tuple #[]∧E.Own w' lo 9 1 v l.length ((l.mergeSort λx y=>decide (x≤y)).map Ao)∧Chg (Ac v) w w'):=by
 obtain⟨a2,⟨rfl,e⟩ | ⟨g,cap,sp,rfl,hB,hn,a0,a1⟩⟩:=h
 ·obtain rfl:=Abt e;exact(Wo w).mono λr w' ⟨hr,hx⟩=>⟨hr,by rw[List.mergeSort_nil];exact E.Own.nil _ _ _ _,hx.chg⟩
 ·refine FE AdF (slices_Sort_string g 0 cap l w (Ox hB) hB.lt AdE) λe w' ⟨he,n,os,hw⟩=>⟨_,he,rfl,?_,?_⟩
  ·subst hw;refine⟨by simp,.inr ⟨g,cap,sp,rfl,?_,hn,a0,a1⟩⟩;exact(U8 hB (by rw[AcF])).ext (Ai.grow _ _)
  ·subst hw;exact(Chg.trans (U9 w n g _) (Ai.grow _ os)).mono λb hb _=>by simpa[Ac] using hb
theorem PX(l:List (List UInt8))(v:Value)(lo:Nat)(w:World)(h:E.Own w lo 9 1 v l.length (l.map Ao))(hl:l.length≤1000000):AF prog 53 [v] w (λr w'=>E.Own w' lo 9 1 r (Lib.compact l).length ((Lib.compact l).map Ao)∧Chg (Ac v) w w'):=by
 obtain⟨a2,⟨rfl,e⟩ | ⟨g,cap,sp,rfl,hB,hn,a0,a1⟩⟩:=h
 ·obtain rfl:=Abt e;exact FE AdF (slices_Compact_string_empty none 0 w) λe w' ⟨he,hw⟩=>⟨_,he,by subst hw;exact⟨E.Own.nil _ _ _ _,Chg.refl _ _⟩⟩
 ·refine FE AdF (slices_Compact_string g 0 cap l w (Ox hB) AdE hn) λe w' ⟨he,n,hw⟩=>⟨_,he,?_,?_⟩
  ·subst hw;have hc:=Lib.compact_length_le l;refine⟨by simp,.inr ⟨g,cap,(List.replicate (l.length - (Lib.compact l).length) []).map Ao++sp,rfl,?_,by omega,by simp[a0];omega,a1⟩⟩;rw[←List.append_assoc,←List.map_append];exact U8 hB AdG
  ·subst hw;exact(U9 w n g _).mono λb hb _=>by simpa[Ac] using hb
def VG(bk:Fin 3→An):Nat→List (List UInt8)
 | 0=>[]
 | i+1=>VG bk i++if h:i<3 then(bk ⟨i,h⟩).map Ae.name else[]
theorem HV(bk:Fin 3→An){i:Nat}(h:i<3):VG bk (i+1)=VG bk i++(bk ⟨i,h⟩).map Ae.name:=by
 rw[VG,dif_pos h]
theorem YV(bk:Fin 3→An):HT (VG bk 3)=EV (bk 0) (bk 1) (bk 2):=by
 unfold EV;rw[HV bk AdE,HV bk AdE,HV bk AdE];rfl
theorem Pz{bk:Fin 3→An}(hm:∀i,Av (bk i)=true):∀i,i≤3→(VG bk i).length≤5*i
 | 0,_=>by simp[VG]
 | i+1,hi=>by
  have:=Pz hm i AdE;have h5:=(Bm.1 (hm ⟨i,by omega⟩)).1;rw[HV bk AdE,Aaq,AbA];omega
section
variable {K:World→Prop} {w0 w:World} {M:Nat} {S:Fin 3→Nat} {bk:Fin 3→An} {bv sv:Fin 3→Value} {out:Value} {l:Fin 3→List Bg} {ps:List A1}
set_option maxRecDepth 8000 in
set_option maxHeartbeats 2000000 in
theorem VD(h:FN K w0 w M S bk bv sv out l ps)(hm:∀i,Av (bk i)=true) :
  AF prog 30 [.pointer (some ⟨M,0,none⟩)] w (λv w'=>E.Own w' w.heap.size 9 1 v (EV (bk 0) (bk 1) (bk 2)).length ((EV (bk 0) (bk 1) (bk 2)).map Ao)∧Ai w w'):=by
 have hM:=h.top;refine Bj func30 ntmps30 ?_;apply CW.seq;apply CW.region;refine Sl ?_;apply LW.nil;apply QW.then_n;apply CW.seq;apply CW.region;refine Sl ?_;apply LW.nil;apply QW.then_n;apply CW.seq;refine CW.seq_cut (ι:=Nat) (λA w'=>Ai w w'∧Blk w' A [ptr (S 0),ptr (S 1),ptr (S 2)] 60∧w.heap.size≤A) (λA=>[(3,.slice none 0 0),(20,.slice (some ⟨A,0,none⟩) 3 3),(21,.int .i64 3),(22,.int .i64 0)]) ?_ ?_
 ·refine CW.drawHeld (λw'=>Ai w w') (λw' h=>h) AdF λwa an=>?_;refine HW.take 0 rfl rfl rfl rfl (λw _=>Y.pure rfl) rfl AdF AdF AdF (λ_ _ _ h=>h) ?_;refine HW.take 1 rfl rfl rfl rfl (λw _=>Y.pure rfl) rfl AdF AdF AdF (λ_ _ _ h=>h) ?_;refine HW.take 2 rfl rfl rfl rfl (λw _=>Y.pure rfl) rfl AdF AdF AdF (λ_ _ _ h=>h) ?_;refine HW.take 3 rfl rfl rfl rfl (λw' hw=>Y.load rfl (hM.ext hw) rfl rfl rfl) rfl AdF AdF AdF (λ_ _ _ h=>h) ?_;refine HW.take 4 rfl rfl rfl rfl (λw _=>Y.pure rfl) rfl AdF AdF AdF (λ_ _ _ h=>h) ?_;refine HW.take 5 rfl rfl rfl rfl (λw _=>Y.pure rfl) rfl AdF AdF AdF (λ_ _ _ h=>h) ?_;refine HW.take 6 rfl rfl rfl rfl (λw _=>Y.pure rfl) rfl AdF AdF AdF (λ_ _ _ h=>h) ?_;refine HW.take 7 rfl rfl rfl rfl (λw' hw=>Y.load rfl (hM.ext hw) rfl rfl rfl) rfl AdF AdF AdF (λ_ _ _ h=>h) ?_;refine HW.take 8 rfl rfl rfl rfl (λw _=>Y.pure rfl) rfl AdF AdF AdF (λ_ _ _ h=>h) ?_;refine HW.take 9 rfl rfl rfl rfl (λw _=>Y.pure rfl) rfl AdF AdF AdF (λ_ _ _ h=>h) ?_;refine HW.take 10 rfl rfl rfl rfl (λw _=>Y.pure rfl) rfl AdF AdF AdF (λ_ _ _ h=>h) ?_;refine HW.take 11 rfl rfl rfl rfl (λw' hw=>Y.load rfl (hM.ext hw) rfl rfl rfl) rfl AdF AdF AdF (λ_ _ _ h=>h) ?_;refine HW.take 14 rfl rfl rfl rfl (λw _=>Y.pure rfl) rfl AdF AdF AdF (λ_ _ _ h=>h) ?_;refine HW.one 12 AdF rfl rfl (λhS=>?_);refine Dt λA w1 ao a2 hA=>?_;replace hA:Blk w1 A [ptr (S 0),ptr (S 1),ptr (S 2)] 60:=hA;have hE:=hS.trans a2;have hz:=hS.size;apply LW.nil;refine QW.held hE ?_;refine HW.take 13 rfl rfl rfl rfl (λw _=>Y.pure rfl) rfl AdF AdF AdF (λ_ _ _ h=>h) ?_;refine HW.done AdF ?_;exact QW.head A ⟨hE,hA,by omega⟩ Bx
 rintro A w1 ⟨a2,hA,lA⟩;have ap:=hA.lt;have aq:=a2.size;refine Sw ?_;refine CW.loop (ι:=Nat×Value) (λx w'=>x.1≤3∧E.Own w' w1.heap.size 9 1 x.2 (VG bk x.1).length ((VG bk x.1).map Ao)∧Ai w1 w') (λx=>[(3,x.2),(20,.slice (some ⟨A,0,none⟩) 3 3),(21,.int .i64 3),(22,.int .i64 (x.1:Int))]) (λx=>3 - x.1) (0,.slice none 0 0) ⟨by omega,E.Own.nil _ _ _ _,Chg.refl _ _⟩ Bx ?_;rintro⟨i,v⟩ w2 ⟨hi,hO,a3⟩;dsimp only at hi hO;show CW _ _ _ _ _ [(3,v),(20,.slice (some ⟨A,0,none⟩) 3 3),(21,.int .i64 3),(22,.int .i64 (i:Int))] _;have ar:=a3.size;refine Sw ?_;refine A8 (λc1=>?_) λc1=>?_
 ·have c1:i<3:=by simp at c1;omega
  have a8:=hA.ext a3;have a9:w2.cell? ((⟨A,0,none⟩:Addr).add (((i:Nat):Int).toNat*1))=some (ptr (S ⟨i,c1⟩)):=by
   rw[Au];refine a8.cell ?_;rcases(show i=0∨i=1∨i=2 by omega) with rfl | rfl | rfl<;>rfl
  have hS:=(h.side ⟨i,c1⟩).ext (a2.trans a3);have a0:=h.book ⟨i,c1⟩;have au:=(h.ext.trans a2).trans a3;have h5:=(Bm.1 (hm ⟨i,c1⟩)).1;have ac:=(Bm.1 (hm ⟨i,c1⟩)).2.1;have hu:=Pz hm i AdE;obtain⟨p,c,ebv⟩:=a0.slice;rw[ebv] at hS a0;clear a8;refine Sw ?_;refine CW.loop (ι:=Nat×Value) (λx w'=>x.1≤(bk ⟨i,c1⟩).length∧E.Own w' w1.heap.size 9 1 x.2 ((VG bk i).length+x.1) ((VG bk i++((bk ⟨i,c1⟩).take x.1).map Ae.name).map Ao)∧Ai w1 w') (λx=>[(3,x.2),(20,.slice (some ⟨A,0,none⟩) 3 3),(21,.int .i64 3),(22,.int .i64 (i:Int)),(30,.slice p (bk ⟨i,c1⟩).length c),(31,.int .i64 ((bk ⟨i,c1⟩).length:Int)),(32,.int .i64 (x.1:Int))]) (λx=>(bk ⟨i,c1⟩).length - x.1) (0,v) ⟨by omega,by simpa using hO,a3⟩ Ff ?_;rintro⟨j,v2⟩ w3 ⟨hj,a1,a4⟩;dsimp only at hj a1;show CW _ _ _ _ _ [(3,v2),(20,.slice (some ⟨A,0,none⟩) 3 3),(21,.int .i64 3),(22,.int .i64 (i:Int)),(30,.slice p (bk ⟨i,c1⟩).length c),(31,.int .i64 ((bk ⟨i,c1⟩).length:Int)),(32,.int .i64 (j:Int))] _;have av:=a4.size;obtain⟨p3,c3,rfl⟩:=a1.slice;refine Sw ?_;refine A8 (λc2=>?_) λc2=>?_
  ·have c2:j<(bk ⟨i,c1⟩).length:=by simp at c2;omega
   have hs:(bk ⟨i,c1⟩)[j]?=some (bk ⟨i,c1⟩)[j]:=Aap c2;generalize (bk ⟨i,c1⟩)[j]=s at hs;obtain⟨a,q,k,rfl,-,aw,-,ad⟩:=Aa.at a0 hs;have ae:∀j' u,(Am s (.slice q s.rows.length k))[j']?=some u→w3.cell? ((a.add (((j:Nat):Int).toNat*3)).add j')=some u:=λj' u af=>A0 ((h.ext.trans a2).trans a4) (ad j' u af);refine Sw ?_;refine Bo λX w4 ax aa hX=>?_;refine Sa ?_;refine AD λw5 ag hX=>?_;have ay:=aa.size;replace hX:Blk w5 X (Am s (.slice q s.rows.length k)) 46:=hX;have a5:Ai w3 w5:=aa.step ag AdG;have ah:=a1.ext a5;have az:=a5.size;refine Sa ?_;refine Dt λD w6 b0 a6 hD=>?_;replace hD:Blk w6 D [Ao s.name] 9:=hD;refine Sa ?_;refine LW.append (lo:=w1.heap.size) (k:=(VG bk i).length+j) rfl rfl rfl rfl rfl rfl (ah.ext a6) (by have:=a6.size;omega) hD rfl rfl rfl (by show(_+1)*17≤_;omega) rfl ?_;intro v7 w7 ai aj b1;have ak:Ai w1 w7:=((a4.trans a5).trans a6).step ai λb hb=>(a1.lt hb).1;refine Sa ?_;refine QW.again (j+1,v7) ⟨by show j+1≤_;omega,?_,ak⟩ Ff (by show _ - (j+1)<_ - j;omega);rw[show(bk ⟨i,c1⟩).take (j+1)=(bk ⟨i,c1⟩).take j++[s] by rw[Ab7,hs];rfl,AbG (f:=Ae.name),←List.append_assoc,AbG];exact aj
  ·have c2:j=(bk ⟨i,c1⟩).length:=by simp at c2;omega
   subst c2;refine Sw ?_;refine QW.again (i+1,_) ⟨by show i+1≤3;omega,?_,a4⟩ Bx (by show 3 - (i+1)<3 - i;omega);rw[HV bk c1,Aaq,AbA];rw[AbH] at a1;exact a1
 ·have c1:i=3:=by simp at c1;omega
  subst c1;have hu:=Pz hm 3 AdE;have e3:=YV bk;generalize VG bk 3=us at *;obtain⟨p3,c3,rfl⟩:=hO.slice;have a7:=a2.trans a3;refine Sw ?_;refine Ay rfl rfl (WC us _ _ w2 hO AdE) ?_;rintro r w3 ⟨rfl,a1,al⟩;refine Sa ?_;refine Ay rfl rfl (PX (us.mergeSort λx y=>decide (x≤y)) _ _ w3 (by rw[AcF];exact a1) (by rw[AcF];omega)) ?_;rintro r w4 ⟨ab,am⟩;rw[NO,e3] at ab;refine Sa ?_;exact QW.body1 rfl rfl ⟨ab.low AdE,(a7.step al λb hb=>by have:=(hO.lt hb).1;omega).step am λb hb=>by have:=(hO.lt hb).1;omega⟩
end
end Go.Proofs.YtcjjcnecopnpcaaGreatDoor
