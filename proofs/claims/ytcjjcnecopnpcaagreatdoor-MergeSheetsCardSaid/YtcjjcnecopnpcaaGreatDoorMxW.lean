/-
  Joined by program out of the texts Txo OneP MerR Law20L0 MerG FarS MerS Law20S.
-/
import Derived.Test.YtcjjcnecopnpcaaGreatDoorMxT
import Derived.Test.YtcjjcnecopnpcaaGreatDoorMxM
import Derived.Test.YtcjjcnecopnpcaaGreatDoorMxJ
import Derived.Test.YtcjjcnecopnpcaaGreatDoorMxG
import Derived.Test.YtcjjcnecopnpcaaGreatDoorMxI
import Derived.Test.YtcjjcnecopnpcaaGreatDoorMxV
import Derived.Test.YtcjjcnecopnpcaaGreatDoorMxK
namespace Go.Proofs.YtcjjcnecopnpcaaGreatDoor
open Tryz
open Go Go.E
def Cj(t:List UInt8):Ae:=⟨[65],1,[[t]]⟩
def Dr(t:List UInt8):Ae:=⟨[66],1,[[t]]⟩
def GZ:List UInt8:=[39,111,116,104,101,114]
theorem Rf{b:An}(h:∀s∈b,∀r∈s.rows,∀t∈r,Aj t 0≠61)(ss:List Bg):C5 b ss=b:=by
 show b.map (KL _)=b
 conv=>rhs;rw[←List.map_id b]
 refine Ab0 λs hs=>?_;show KL _ s=s;unfold KL;have e:s.rows.map (Jh s.name (JZ b ss))=s.rows:=by
  conv=>rhs;rw[←List.map_id s.rows]
  refine Ab0 λr hr=>?_;show r.map _=r
  conv=>rhs;rw[←List.map_id r]
  refine Ab0 λt ht=>?_;exact DH (.inr (.inl (h s hs r hr t ht)))
 rw[e]
theorem Ty{n:UInt8}(hn:Do [n]=true){t:List UInt8}(h:BN t=true):A7 ⟨[n],1,[[t]]⟩=true:=by
 refine AZ.2 ⟨hn,by show(0:Int)≤1;decide,by show(1:Int)≤12;decide,by show 1≤24;decide,λr hr=>?_⟩;obtain rfl:=Aad.1 hr;exact⟨rfl,λu hu=>by rw[Aad.1 hu];exact h⟩
theorem FC{t:List UInt8}(h:BN t=true):Av [Cj t]=true:=
 Bm.2 ⟨by simp,λs hs=>by rw[Aad.1 hs];exact Ty AdH h,Adb _ _⟩
theorem PS{t u:List UInt8}(h:BN t=true)(k:BN u=true):Av [Cj t,Dr u]=true:=by
 refine Bm.2 ⟨by simp,λs hs=>?_,?_⟩
 ·simp only[AaT,Abu,or_false] at hs;rcases hs with rfl | rfl
  ·exact Ty AdH h
  ·exact Ty AdH k
 ·refine Ac4.2 ⟨λs hs=>?_,Adb _ _⟩;rw[Aad.1 hs];show Op.bytesLess [65] [66]=true
  decide
theorem Py:Av []=true:=Bm.2 ⟨by simp,λs hs=>(by cases hs),.nil⟩
theorem XL{t u:List UInt8}(t1:Aj t 0≠61)(u1:Aj u 0≠61)(ss:List Bg):C5 [Cj t,Dr u] ss=[Cj t,Dr u]:=Rf (λs hs r hr x hx=>by
 simp only[AaT,Abu,or_false] at hs;rcases hs with rfl | rfl
 ·rw[Aad.1 hr] at hx;rw[Aad.1 hx];exact t1
 ·rw[Aad.1 hr] at hx;rw[Aad.1 hx];exact u1) ss
theorem Aai{t:List UInt8}(t1:Aj t 0≠61)(ss:List Bg):C5 [Cj t] ss=[Cj t]:=Rf (λs hs r hr x hx=>by
 obtain rfl:=Aad.1 hs;rw[Aad.1 hr] at hx;rw[Aad.1 hx];exact t1) ss
theorem RQ{t u:List UInt8}(ht:BN t=true)(hu:BN u=true)(t1:Aj t 0≠61)(u1:Aj u 0≠61)(hne:t≠u) :
  Cs [Cj t] [] [Cj u]=⟨[Cj u],[⟨[65],-1,-1,[],[],[]⟩],0⟩∧Cs [Cj t] [] [Cj t,Dr t]=⟨[Dr t],[],0⟩∧Cs [Cj t] [] [Cj u,Dr t]=⟨[Cj u,Dr t],[⟨[65],-1,-1,[],[],[]⟩],0⟩:=by
 have nA:¬(some (Cj t)=some (Cj u)):=λh=>hne (by simpa[Cj] using h);have nB:¬((none:Option Ae)=some (Dr t)):=AdM
 have p1:A4 [65] (some (Cj t)) none (some (Cj u))=Bv [65] (some (Cj t)) (C9 [65]) (Aw (Cj u)) (Cj u) 2 true:=by rw[A4,if_neg nA];rfl
 have p2:A4 [65] (some (Cj t)) none (some (Cj t))=D4 [65]:=by rw[A4,if_pos rfl]
 have p3:A4 [66] none none (some (Dr t))=Bv [66] none (C9 [66]) (Aw (Dr t)) (Dr t) 2 false:=by rw[A4,if_neg nB];rfl
 have e1:AN [Cj t] [] [Cj u]=[Bv [65] (some (Cj t)) (C9 [65]) (Aw (Cj u)) (Cj u) 2 true]:=by
  have:AN [Cj t] [] [Cj u]=[A4 [65] (some (Cj t)) none (some (Cj u))]:=rfl;rw[this,p1]
 have e2:AN [Cj t] [] [Cj t,Dr t]=[D4 [65],Bv [66] none (C9 [66]) (Aw (Dr t)) (Dr t) 2 false]:=by
  have:AN [Cj t] [] [Cj t,Dr t]=[A4 [65] (some (Cj t)) none (some (Cj t)),A4 [66] none none (some (Dr t))]:=rfl;rw[this,p2,p3]
 have e3:AN [Cj t] [] [Cj u,Dr t]=[Bv [65] (some (Cj t)) (C9 [65]) (Aw (Cj u)) (Cj u) 2 true,Bv [66] none (C9 [66]) (Aw (Dr t)) (Dr t) 2 false]:=by
  have:AN [Cj t] [] [Cj u,Dr t]=[A4 [65] (some (Cj t)) none (some (Cj u)),A4 [66] none none (some (Dr t))]:=rfl;rw[this,p1,p3]
 refine⟨?_,?_,?_⟩
 ·rw[Cs,if_pos ⟨FC ht,Py,FC hu⟩,e1,if_neg (show ¬F6 [Bv [65] (some (Cj t)) (C9 [65]) (Aw (Cj u)) (Cj u) 2 true]=true from Adx),Gi,e1];rw[Aai u1];generalize C5 [Cj t] _=mo;generalize C5 [] _=ma;rfl
 ·rw[Cs,if_pos ⟨FC ht,Py,PS ht ht⟩,e2,if_neg (show ¬F6 [D4 [65],Bv [66] none (C9 [66]) (Aw (Dr t)) (Dr t) 2 false]=true from Adx),Gi,e2];rw[XL t1 t1];generalize C5 [Cj t] _=mo;generalize C5 [] _=ma;rfl
 ·rw[Cs,if_pos ⟨FC ht,Py,PS hu ht⟩,e3,if_neg (show ¬F6 [Bv [65] (some (Cj t)) (C9 [65]) (Aw (Cj u)) (Cj u) 2 true,Bv [66] none (C9 [66]) (Aw (Dr t)) (Dr t) 2 false]=true from Adx),Gi,e3];rw[XL u1 t1];generalize C5 [Cj t] _=mo;generalize C5 [] _=ma;rfl
theorem Pi{w:World}{b:Nat}{l l':List Value}{T T':TypeId}(h:Blk w b l T)(h':Blk w b l' T'):T=T':=by
 have h:w.heap[b]?=some (.cells ⟨l⟩ T (0,0)):=h;have h':w.heap[b]?=some (.cells ⟨l'⟩ T' (0,0)):=h';rw[h] at h';injection Abm h' with _ e _
theorem HL{w w':World}{b c:Nat}{l m:List Value}{T T':TypeId}(h:Blk w b l T)(hc:Blk w c m T')(hne:T≠T')(x:Chg [c] w w'):Blk w' b l T:=h.chg x λhm=>by
 obtain rfl:=Aad.1 hm;exact hne (Pi h hc)
structure HE(lo:Nat)(w:World)(V X kX:Nat)(sV sX:List Value)(t:List UInt8):Prop where
 v:Blk w V (.slice (some ⟨X,0,none⟩) 1 kX::sV) 47
 x:Blk w X (Ao t::sX) 9
 lv:lo≤V
 lx:lo≤X
theorem HE.ext{lo V X kX:Nat}{w w':World}{sV sX:List Value}{t:List UInt8}(h:HE lo w V X kX sV sX t)(x:Ai w w'):HE lo w' V X kX sV sX t:=⟨h.v.ext x,h.x.ext x,h.lv,h.lx⟩
theorem HE.other{lo V X kX c:Nat}{w w':World}{sV sX m:List Value}{t:List UInt8}{T:TypeId}(h:HE lo w V X kX sV sX t)(hc:Blk w c m T)(x:Chg [c] w w')(h1:47≠T:=by decide)(h2:9≠T:=by decide):HE lo w' V X kX sV sX t:=⟨HL h.v hc h1 x,HL h.x hc h2 x,h.lv,h.lx⟩
theorem HE.rows{lo V X kX kV:Nat}{w:World}{sV sX:List Value}{t:List UInt8}(h:HE lo w V X kX sV sX t)(ht:t.length≤1000000):BA w (.slice (some ⟨V,0,none⟩) 1 kV) [[t]]:=by
 have hx:Ce w (.slice (some ⟨X,0,none⟩) 1 kX) [t]:=⟨by simp,.inr ⟨⟨X,0,none⟩,kX,rfl,λ_=>trivial,λi y hi=>by
  match i,hi with
  | 0,hi=>
   obtain rfl:=Abm hi;exact⟨[Ao t],rfl,⟨rfl,ht⟩,λj u hj=>by
    match j,hj with
    | 0,hj=>
     obtain rfl:=Abm hj;rw[Au,Au];exact h.x.cell rfl⟩⟩⟩
 exact⟨by simp,.inr ⟨⟨V,0,none⟩,kV,rfl,λ_=>trivial,λi y hi=>by
  match i,hi with
  | 0,hi=>
   obtain rfl:=Abm hi;exact⟨[.slice (some ⟨X,0,none⟩) 1 kX],rfl,⟨_,rfl,hx⟩,λj u hj=>by
    match j,hj with
    | 0,hj=>
     obtain rfl:=Abm hj;rw[Au,Au];exact h.v.cell rfl⟩⟩⟩
theorem RG{lo:Nat}{w:World}{v:Value}{t:List UInt8}{g:Nat→Nat}(h:Fa lo w v [[t]] g):∃V kV X kX sV sX,v=.slice (some ⟨V,0,none⟩) 1 kV∧HE lo w V X kX sV sX t:=by
 obtain⟨xs,hO,hX⟩:=h.own;have hO:E.Own w lo 47 1 v 1 xs:=hO;obtain⟨V,kV,sp,rfl,hV,a0⟩:=E.Own.get hO AdE;obtain⟨u,hu,hT,-⟩:=hX.val 0 [t] rfl;obtain⟨a1,-,sx,hB⟩:=hX.blk 0 [t] rfl AdM;have a2:xs.length=1:=hX.len;obtain⟨y,rfl⟩:∃y,xs=[y]:=List.length_eq_one_iff.1 a2;obtain rfl:=Abm hu;obtain⟨q,c,rfl⟩:=Ab.slice hT;obtain⟨a,rfl,ha,-,-⟩:=A2.at (i:=0) hT rfl;subst ha;exact⟨V,kV,g 0,c,sp,sx,rfl,hV,hB,a0,a1⟩
theorem BX{lo:Nat}{w:World}{u:Value}{t:List UInt8}{rv:Nat→Value}{f:Nat→Nat→Nat}(h:Zx lo w u [Cj t] rv f):∃V kV X kX sV sX,E.Own w lo 46 3 u 1 [Ao [65],.int .i64 1,.slice (some ⟨V,0,none⟩) 1 kV]∧HE lo w V X kX sV sX t:=by
 have hr:=h.sub.rows 0 (Cj t) AdM rfl;obtain⟨V,kV,X,kX,sV,sX,e,hB⟩:=RG (t:=t) hr;refine⟨V,kV,X,kX,sV,sX,?_,hB⟩;have hO:=h.own;have e2:(EB [Cj t] rv).flatten=[Ao [65],.int .i64 1,rv 0]:=rfl;rw[e2,e] at hO;exact hO
theorem Ar{w w':World}{lo e size n c:Nat}{v:Value}{xs m:List Value}{T':TypeId}(h:E.Own w lo e size v n xs)(hc:Blk w c m T')(hne:T'≠e)(x:Chg [c] w w'):E.Own w' lo e size v n xs:=E.Own.chg h x λb hb hm=>by
 obtain rfl:=Aad.1 hm;exact hne (Own.type h hb hc)
theorem IG{w:World}{lo:Nat}{u rv:Value}{s:Ae}(h:E.Own w lo 46 3 u 1 (Am s rv))(hn:s.name.length≤1000000)(hr:BA w rv s.rows):AA w u [s]:=by
 obtain⟨U,c,sp,rfl,hU,-⟩:=E.Own.get h AdE;refine⟨by simp,.inr ⟨⟨U,0,none⟩,c,rfl,λ_=>trivial,λi y hi=>?_⟩⟩
 match i,hi with
 | 0,hi=>
  obtain rfl:=Abm hi;refine⟨Am s rv,rfl,⟨rv,rfl,hn,hr⟩,λj x hj=>?_⟩;rw[Au,Au];refine hU.cell ?_;have a0:=(Abg.1 hj).1;rw[show 0+0*3+j=j by omega,Abk a0];exact hj
theorem U6{w:World}{lo:Nat}{u rv rv':Value}{s s':Ae}(h:E.Own w lo 46 3 u 2 (Am s rv++Am s' rv'))(hn:s.name.length≤1000000)(hr:BA w rv s.rows)(hn':s'.name.length≤1000000)(hr':BA w rv' s'.rows):AA w u [s,s']:=by
 obtain⟨U,c,sp,rfl,hU,-⟩:=E.Own.get h AdE;refine⟨by simp,.inr ⟨⟨U,0,none⟩,c,rfl,λ_=>trivial,λi y hi=>?_⟩⟩
 match i,hi with
 | 0,hi=>
  obtain rfl:=Abm hi;refine⟨Am s rv,rfl,⟨rv,rfl,hn,hr⟩,λj x hj=>?_⟩;rw[Au,Au];refine hU.cell ?_;have a0:=(Abg.1 hj).1;rw[show 0+0*3+j=j by omega,AaR,Abk a0]
  exact hj
 | 1,hi=>
  obtain rfl:=Abm hi;refine⟨Am s' rv',rfl,⟨rv',rfl,hn',hr'⟩,λj x hj=>?_⟩;rw[Au,Au];refine hU.cell ?_;have a0:=(Abg.1 hj).1;rw[show 0+1*3+j=(Am s rv).length+j by rw[TE],AaR,Abx AdE,AcX,Abk a0];exact hj
theorem XJ{w:World}{lo:Nat}{u:Value}(h:E.Own w lo 46 3 u 0 []):AA w u []:=by
 obtain⟨_,⟨rfl,_⟩ | ⟨g,cap,sp,rfl,_,_,_,_⟩⟩:=h
 ·exact Ab.nil
 ·exact⟨by simp,.inr ⟨⟨g,0,none⟩,cap,rfl,λh=>absurd rfl h,λi x hi=>by simp at hi⟩⟩
def K4:El:=⟨[65],-1,-1,[],[],[]⟩
theorem KP:BN GZ=true:=by decide +kernel
theorem TG{t:List UInt8}(ht:BN t=true)(t1:Aj t 0≠61)(hne:t≠GZ)(put gone changed:Bool):Cs [Cj t] (if gone=true then[] else[Cj t]) (Cj (if changed=true then GZ else t)::if put=true then[Dr t] else[])=⟨(if gone=true∧changed=false then[] else[Cj (if changed=true then GZ else t)])++(if put=true then[Dr t] else[]),if gone=true∧changed=true then[K4] else[],0⟩:=by
 have o1:Aj GZ 0≠61:=AdH
 obtain⟨s1,s2,s3⟩:=RQ ht KP t1 o1 hne;cases put<;>cases gone<;>cases changed
 ·exact FT (FC ht) (FC ht)
 ·exact FT (FC ht) (FC KP)
 ·exact Ti (FC ht) Py
 ·exact s1
 ·exact FT (FC ht) (PS ht ht)
 ·exact FT (FC ht) (PS KP ht)
 ·exact s2
 ·exact s3
set_option maxRecDepth 8000 in
set_option maxHeartbeats 8000000 in
theorem QU(t:List UInt8)(rv:Value)(w:World)(gl:CQ w)(hr:BA w rv [[t]])(ht:BN t=true)(t1:Aj t 0≠61)(hne:t≠GZ)(put gone changed:Bool):AF prog 26 [.agg ⟨Am (Cj t) rv⟩,.bool put,.bool gone,.bool changed] w (λr w'=>r=.bool true∧Ai w w'):=by
 have ct:t.length≤1000000:=by have:=FA ht;omega
 refine Bj func26 ntmps26 ?_;refine Sa ?_;refine CM λS w1 ej cu hS=>?_;replace hS:Blk w1 S [Ao [65],.int .i64 1,rv] 46:=hS;have ek:=cu.size;refine Sw ?_;refine Dt λD w2 el cw hD=>?_;replace hD:Blk w2 D [Ao [65],.int .i64 1,rv] 46:=hD;have em:=cw.size;refine Sw ?_;refine Bo λO w3 en cx hO=>?_;have eo:=cx.size;refine Sw ?_;refine AD λw4 dg hO=>?_;replace hO:Blk w4 O [.slice (some ⟨D,0,none⟩) 1 1] 24:=hO;have bu:=cx.step dg AdG;have b8:=cw.trans bu;have bl:=cu.trans b8;replace hS:=hS.ext b8;replace hD:=hD.ext bu;have az:∀w',Ai w4 w'→AA w' (.slice (some ⟨D,0,none⟩) 1 1) [Cj t]:=λw' x=>AA.one (s:=Cj t) (hD.ext x) AdX (Bb.ext hr (bl.trans x));clear cu cw cx dg bu b8 ej el en ek em eo;refine Sl ?_;apply LW.nil;apply QW.then_n;refine CW.seq_cut (ι:=Nat×Nat×Value×Value) (λx w'=>Ai w4 w'∧Blk w' x.1 [x.2.2.1] 24∧Blk w' x.2.1 [x.2.2.2] 24∧x.1≠x.2.1∧w4.heap.size≤x.1∧w4.heap.size≤x.2.1∧(∃V kV X kX sV sX V' kV' X' kX' sV' sX',E.Own w' w4.heap.size 46 3 x.2.2.1 1 [Ao [65],.int .i64 1,.slice (some ⟨V,0,none⟩) 1 kV]∧HE w4.heap.size w' V X kX sV sX t∧E.Own w' w4.heap.size 46 3 x.2.2.2 1 [Ao [65],.int .i64 1,.slice (some ⟨V',0,none⟩) 1 kV']∧HE w4.heap.size w' V' X' kX' sV' sX' t∧X<X'∧∀b,b∈Ac x.2.2.1→b∉Ac x.2.2.2)) (λx=>[(1,.bool put),(2,.bool gone),(3,.bool changed),(4,.pointer (some ⟨S,0,none⟩)),(9,.pointer (some ⟨O,0,none⟩)),(10,.pointer (some ⟨x.1,0,none⟩)),(11,.pointer (some ⟨x.2.1,0,none⟩))]) ?_ ?_
 ·refine CW.drawG (Ai w4) 7 (λw' h=>h) AdF λwa cy=>?_;have hE:=cy;clear hS hD gl hne t1 ht;refine AJ ?_;refine GW.three 1 4 5 AdF rfl rfl rfl rfl rfl rfl rfl rfl rfl (λhS=>?_) (λhS=>?_) (λhS=>?_)
  ·refine Ay rfl rfl (AM [Cj t] _ _ (az _ hE)) ?_;rintro ua' wt ⟨ua,rva,fa,rfl,ba,a1⟩;obtain⟨V,kV,X,kX,sV,sX,a3,a2⟩:=BX ba;replace a3:=E.Own.low a3 hE.size;replace a2:HE w4.heap.size wt V X kX sV sX t:=⟨a2.v,a2.x,Abr hE.size a2.lv,Abr hE.size a2.lx⟩;obtain⟨qa,ka,rfl⟩:=E.Own.slice a3;clear ba;have ep:=a1.size;have hE:=hE.trans a1;clear hS;apply LW.nil;refine QW.headed hE ?_;refine AJ ?_;refine GW.three 3 4 5 AdF rfl rfl rfl rfl rfl rfl rfl rfl rfl (λhS=>?_) (λhS=>?_) (λhS=>?_)
   ·have ae:=a2.x.lt;have af:=λb (hb:b∈Ac (Value.slice qa 1 ka))=>(E.Own.lt a3 hb).2;refine Ay rfl rfl (AM [Cj t] _ _ (az _ hE)) ?_;rintro ub' wt ⟨ub,rvb,fb,rfl,ag,a1⟩;obtain⟨V',kV',X',kX',sV',sX',a5,a4⟩:=BX ag;have an:X<X':=Abv ae a4.lx;have ak:∀b,b∈Ac (Value.slice qa 1 ka)→b∉Ac ub:=λb hb hm=>by have:=af b hb;have:=(E.Own.lt a5 hm).1;omega
    replace a5:=E.Own.low a5 hE.size;replace a4:HE w4.heap.size wt V' X' kX' sV' sX' t:=⟨a4.v,a4.x,Abr hE.size a4.lv,Abr hE.size a4.lx⟩;obtain⟨qb,kb,rfl⟩:=E.Own.slice a5;clear ag ae af;replace a3:=by first | exact a3.ext a1 | exact Ab.ext' a3 a1 (λ_ _ _ _ h=>h) | exact Aa.ext a3 a1
    replace a2:=by first | exact a2.ext a1 | exact Ab.ext' a2 a1 (λ_ _ _ _ h=>h) | exact Aa.ext a2 a1
    have er:=a1.size;have hE:=hE.trans a1;clear hS;apply LW.nil;refine QW.headed hE ?_;refine AJ ?_;refine GW.two 4 5 AdF rfl rfl rfl rfl rfl rfl (λhS=>?_) (λhS=>?_)
    ·refine Bo λA wl b0 a1 hA=>?_;have b1:=hA.lt;have aq:w4.heap.size≤A:=by rw[b0];exact hE.size
     replace a3:=by first | exact a3.ext a1 | exact Ab.ext' a3 a1 (λ_ _ _ _ h=>h) | exact Aa.ext a3 a1
     replace a2:=by first | exact a2.ext a1 | exact Ab.ext' a2 a1 (λ_ _ _ _ h=>h) | exact Aa.ext a2 a1
     replace a5:=by first | exact a5.ext a1 | exact Ab.ext' a5 a1 (λ_ _ _ _ h=>h) | exact Aa.ext a5 a1
     replace a4:=by first | exact a4.ext a1 | exact Ab.ext' a4 a1 (λ_ _ _ _ h=>h) | exact Aa.ext a4 a1
     have es:=a1.size;have hE:=hE.trans a1;clear hS;apply LW.nil;refine QW.headed hE ?_;refine AJ ?_;refine BE 5 λhS=>?_;refine Bo λB wl b2 a1 hB=>?_;have b3:=hB.lt;have ar:w4.heap.size≤B:=by rw[b2];exact hE.size
     replace a3:=by first | exact a3.ext a1 | exact Ab.ext' a3 a1 (λ_ _ _ _ h=>h) | exact Aa.ext a3 a1
     replace a2:=by first | exact a2.ext a1 | exact Ab.ext' a2 a1 (λ_ _ _ _ h=>h) | exact Aa.ext a2 a1
     replace a5:=by first | exact a5.ext a1 | exact Ab.ext' a5 a1 (λ_ _ _ _ h=>h) | exact Aa.ext a5 a1
     replace a4:=by first | exact a4.ext a1 | exact Ab.ext' a4 a1 (λ_ _ _ _ h=>h) | exact Aa.ext a4 a1
     replace hA:=by first | exact hA.ext a1 | exact Ab.ext' hA a1 (λ_ _ _ _ h=>h) | exact Aa.ext hA a1
     have et:=a1.size;have hE:=hE.trans a1;clear hS;apply LW.nil;refine QW.headed hE ?_;refine AJ ?_;have al:A≠B:=by have:=hA.lt;have:=hB.lt;omega
     refine BE 6 λhS=>?_;have aa:=hA;refine AD λwx a7 hA=>?_;replace hB:=hB.chg a7 AdG;replace a3:=Ar a3 aa AdH a7;replace a5:=Ar a5 aa AdH a7;replace a2:=a2.other aa a7;replace a4:=a4.other aa a7;have hE:=hE.step a7 AdG;clear hS;apply LW.nil;refine QW.headed hE ?_;refine GW.tail rfl AdF (λhS=>?_);have a9:=hB;refine AD λwy a8 hB=>?_;replace hA:=hA.chg a8 AdG;replace a3:=Ar a3 a9 AdH a8;replace a5:=Ar a5 a9 AdH a8;replace a2:=a2.other a9 a8;replace a4:=a4.other a9 a8;have hE:=hE.step a8 AdG;refine Sw ?_;exact QW.head (A,B,.slice qa 1 ka,.slice qb 1 kb) ⟨hE,hA,hB,al,aq,ar,V,kV,X,kX,sV,sX,V',kV',X',kX',sV',sX',a3,a2,a5,a4,an,ak⟩ Ff
    ·refine Bo λB wl b2 a1 hB=>?_;have b3:=hB.lt;have ar:w4.heap.size≤B:=by rw[b2];exact hE.size
     replace a3:=by first | exact a3.ext a1 | exact Ab.ext' a3 a1 (λ_ _ _ _ h=>h) | exact Aa.ext a3 a1
     replace a2:=by first | exact a2.ext a1 | exact Ab.ext' a2 a1 (λ_ _ _ _ h=>h) | exact Aa.ext a2 a1
     replace a5:=by first | exact a5.ext a1 | exact Ab.ext' a5 a1 (λ_ _ _ _ h=>h) | exact Aa.ext a5 a1
     replace a4:=by first | exact a4.ext a1 | exact Ab.ext' a4 a1 (λ_ _ _ _ h=>h) | exact Aa.ext a4 a1
     have eu:=a1.size;have hE:=hE.trans a1;clear hS;apply LW.nil;refine QW.headed hE ?_;refine AJ ?_;refine BE 4 λhS=>?_;refine Bo λA wl b0 a1 hA=>?_;have b1:=hA.lt;have aq:w4.heap.size≤A:=by rw[b0];exact hE.size
     replace a3:=by first | exact a3.ext a1 | exact Ab.ext' a3 a1 (λ_ _ _ _ h=>h) | exact Aa.ext a3 a1
     replace a2:=by first | exact a2.ext a1 | exact Ab.ext' a2 a1 (λ_ _ _ _ h=>h) | exact Aa.ext a2 a1
     replace a5:=by first | exact a5.ext a1 | exact Ab.ext' a5 a1 (λ_ _ _ _ h=>h) | exact Aa.ext a5 a1
     replace a4:=by first | exact a4.ext a1 | exact Ab.ext' a4 a1 (λ_ _ _ _ h=>h) | exact Aa.ext a4 a1
     replace hB:=by first | exact hB.ext a1 | exact Ab.ext' hB a1 (λ_ _ _ _ h=>h) | exact Aa.ext hB a1
     have ew:=a1.size;have hE:=hE.trans a1;clear hS;apply LW.nil;refine QW.headed hE ?_;refine AJ ?_;have al:A≠B:=by have:=hA.lt;have:=hB.lt;omega
     refine BE 6 λhS=>?_;have aa:=hA;refine AD λwx a7 hA=>?_;replace hB:=hB.chg a7 AdG;replace a3:=Ar a3 aa AdH a7;replace a5:=Ar a5 aa AdH a7;replace a2:=a2.other aa a7;replace a4:=a4.other aa a7;have hE:=hE.step a7 AdG;clear hS;apply LW.nil;refine QW.headed hE ?_;refine GW.tail rfl AdF (λhS=>?_);have a9:=hB;refine AD λwy a8 hB=>?_;replace hA:=hA.chg a8 AdG;replace a3:=Ar a3 a9 AdH a8;replace a5:=Ar a5 a9 AdH a8;replace a2:=a2.other a9 a8;replace a4:=a4.other a9 a8;have hE:=hE.step a8 AdG;refine Sw ?_;exact QW.head (A,B,.slice qa 1 ka,.slice qb 1 kb) ⟨hE,hA,hB,al,aq,ar,V,kV,X,kX,sV,sX,V',kV',X',kX',sV',sX',a3,a2,a5,a4,an,ak⟩ Ff
   ·refine Bo λA wl b0 a1 hA=>?_;have b1:=hA.lt;have aq:w4.heap.size≤A:=by rw[b0];exact hE.size
    replace a3:=by first | exact a3.ext a1 | exact Ab.ext' a3 a1 (λ_ _ _ _ h=>h) | exact Aa.ext a3 a1
    replace a2:=by first | exact a2.ext a1 | exact Ab.ext' a2 a1 (λ_ _ _ _ h=>h) | exact Aa.ext a2 a1
    have ex:=a1.size;have hE:=hE.trans a1;clear hS;apply LW.nil;refine QW.headed hE ?_;refine AJ ?_;refine GW.two 3 5 AdF rfl rfl rfl rfl rfl rfl (λhS=>?_) (λhS=>?_)
    ·have ae:=a2.x.lt;have af:=λb (hb:b∈Ac (Value.slice qa 1 ka))=>(E.Own.lt a3 hb).2;refine Ay rfl rfl (AM [Cj t] _ _ (az _ hE)) ?_;rintro ub' wt ⟨ub,rvb,fb,rfl,ag,a1⟩;obtain⟨V',kV',X',kX',sV',sX',a5,a4⟩:=BX ag;have an:X<X':=Abv ae a4.lx;have ak:∀b,b∈Ac (Value.slice qa 1 ka)→b∉Ac ub:=λb hb hm=>by have:=af b hb;have:=(E.Own.lt a5 hm).1;omega
     replace a5:=E.Own.low a5 hE.size;replace a4:HE w4.heap.size wt V' X' kX' sV' sX' t:=⟨a4.v,a4.x,Abr hE.size a4.lv,Abr hE.size a4.lx⟩;obtain⟨qb,kb,rfl⟩:=E.Own.slice a5;clear ag ae af;replace a3:=by first | exact a3.ext a1 | exact Ab.ext' a3 a1 (λ_ _ _ _ h=>h) | exact Aa.ext a3 a1
     replace a2:=by first | exact a2.ext a1 | exact Ab.ext' a2 a1 (λ_ _ _ _ h=>h) | exact Aa.ext a2 a1
     replace hA:=by first | exact hA.ext a1 | exact Ab.ext' hA a1 (λ_ _ _ _ h=>h) | exact Aa.ext hA a1
     have ey:=a1.size;have hE:=hE.trans a1;clear hS;apply LW.nil;refine QW.headed hE ?_;refine AJ ?_;refine BE 5 λhS=>?_;refine Bo λB wl b2 a1 hB=>?_;have b3:=hB.lt;have ar:w4.heap.size≤B:=by rw[b2];exact hE.size
     replace a3:=by first | exact a3.ext a1 | exact Ab.ext' a3 a1 (λ_ _ _ _ h=>h) | exact Aa.ext a3 a1
     replace a2:=by first | exact a2.ext a1 | exact Ab.ext' a2 a1 (λ_ _ _ _ h=>h) | exact Aa.ext a2 a1
     replace a5:=by first | exact a5.ext a1 | exact Ab.ext' a5 a1 (λ_ _ _ _ h=>h) | exact Aa.ext a5 a1
     replace a4:=by first | exact a4.ext a1 | exact Ab.ext' a4 a1 (λ_ _ _ _ h=>h) | exact Aa.ext a4 a1
     replace hA:=by first | exact hA.ext a1 | exact Ab.ext' hA a1 (λ_ _ _ _ h=>h) | exact Aa.ext hA a1
     have ez:=a1.size;have hE:=hE.trans a1;clear hS;apply LW.nil;refine QW.headed hE ?_;refine AJ ?_;have al:A≠B:=by have:=hA.lt;have:=hB.lt;omega
     refine BE 6 λhS=>?_;have aa:=hA;refine AD λwx a7 hA=>?_;replace hB:=hB.chg a7 AdG;replace a3:=Ar a3 aa AdH a7;replace a5:=Ar a5 aa AdH a7;replace a2:=a2.other aa a7;replace a4:=a4.other aa a7;have hE:=hE.step a7 AdG;clear hS;apply LW.nil;refine QW.headed hE ?_;refine GW.tail rfl AdF (λhS=>?_);have a9:=hB;refine AD λwy a8 hB=>?_;replace hA:=hA.chg a8 AdG;replace a3:=Ar a3 a9 AdH a8;replace a5:=Ar a5 a9 AdH a8;replace a2:=a2.other a9 a8;replace a4:=a4.other a9 a8;have hE:=hE.step a8 AdG;refine Sw ?_;exact QW.head (A,B,.slice qa 1 ka,.slice qb 1 kb) ⟨hE,hA,hB,al,aq,ar,V,kV,X,kX,sV,sX,V',kV',X',kX',sV',sX',a3,a2,a5,a4,an,ak⟩ Ff
    ·refine Bo λB wl b2 a1 hB=>?_;have b3:=hB.lt;have ar:w4.heap.size≤B:=by rw[b2];exact hE.size
     replace a3:=by first | exact a3.ext a1 | exact Ab.ext' a3 a1 (λ_ _ _ _ h=>h) | exact Aa.ext a3 a1
     replace a2:=by first | exact a2.ext a1 | exact Ab.ext' a2 a1 (λ_ _ _ _ h=>h) | exact Aa.ext a2 a1
     replace hA:=by first | exact hA.ext a1 | exact Ab.ext' hA a1 (λ_ _ _ _ h=>h) | exact Aa.ext hA a1
     have dh:=a1.size;have hE:=hE.trans a1;clear hS;apply LW.nil;refine QW.headed hE ?_;refine AJ ?_;refine BE 3 λhS=>?_;have ae:=a2.x.lt;have af:=λb (hb:b∈Ac (Value.slice qa 1 ka))=>(E.Own.lt a3 hb).2;refine Ay rfl rfl (AM [Cj t] _ _ (az _ hE)) ?_;rintro ub' wt ⟨ub,rvb,fb,rfl,ag,a1⟩;obtain⟨V',kV',X',kX',sV',sX',a5,a4⟩:=BX ag;have an:X<X':=Abv ae a4.lx;have ak:∀b,b∈Ac (Value.slice qa 1 ka)→b∉Ac ub:=λb hb hm=>by have:=af b hb;have:=(E.Own.lt a5 hm).1;omega
     replace a5:=E.Own.low a5 hE.size;replace a4:HE w4.heap.size wt V' X' kX' sV' sX' t:=⟨a4.v,a4.x,Abr hE.size a4.lv,Abr hE.size a4.lx⟩;obtain⟨qb,kb,rfl⟩:=E.Own.slice a5;clear ag ae af;replace a3:=by first | exact a3.ext a1 | exact Ab.ext' a3 a1 (λ_ _ _ _ h=>h) | exact Aa.ext a3 a1
     replace a2:=by first | exact a2.ext a1 | exact Ab.ext' a2 a1 (λ_ _ _ _ h=>h) | exact Aa.ext a2 a1
     replace hA:=by first | exact hA.ext a1 | exact Ab.ext' hA a1 (λ_ _ _ _ h=>h) | exact Aa.ext hA a1
     replace hB:=by first | exact hB.ext a1 | exact Ab.ext' hB a1 (λ_ _ _ _ h=>h) | exact Aa.ext hB a1
     have di:=a1.size;have hE:=hE.trans a1;clear hS;apply LW.nil;refine QW.headed hE ?_;refine AJ ?_;have al:A≠B:=by have:=hA.lt;have:=hB.lt;omega
     refine BE 6 λhS=>?_;have aa:=hA;refine AD λwx a7 hA=>?_;replace hB:=hB.chg a7 AdG;replace a3:=Ar a3 aa AdH a7;replace a5:=Ar a5 aa AdH a7;replace a2:=a2.other aa a7;replace a4:=a4.other aa a7;have hE:=hE.step a7 AdG;clear hS;apply LW.nil;refine QW.headed hE ?_;refine GW.tail rfl AdF (λhS=>?_);have a9:=hB;refine AD λwy a8 hB=>?_;replace hA:=hA.chg a8 AdG;replace a3:=Ar a3 a9 AdH a8;replace a5:=Ar a5 a9 AdH a8;replace a2:=a2.other a9 a8;replace a4:=a4.other a9 a8;have hE:=hE.step a8 AdG;refine Sw ?_;exact QW.head (A,B,.slice qa 1 ka,.slice qb 1 kb) ⟨hE,hA,hB,al,aq,ar,V,kV,X,kX,sV,sX,V',kV',X',kX',sV',sX',a3,a2,a5,a4,an,ak⟩ Ff
   ·refine Bo λB wl b2 a1 hB=>?_;have b3:=hB.lt;have ar:w4.heap.size≤B:=by rw[b2];exact hE.size
    replace a3:=by first | exact a3.ext a1 | exact Ab.ext' a3 a1 (λ_ _ _ _ h=>h) | exact Aa.ext a3 a1
    replace a2:=by first | exact a2.ext a1 | exact Ab.ext' a2 a1 (λ_ _ _ _ h=>h) | exact Aa.ext a2 a1
    have dj:=a1.size;have hE:=hE.trans a1;clear hS;apply LW.nil;refine QW.headed hE ?_;refine AJ ?_;refine GW.two 3 4 AdF rfl rfl rfl rfl rfl rfl (λhS=>?_) (λhS=>?_)
    ·have ae:=a2.x.lt;have af:=λb (hb:b∈Ac (Value.slice qa 1 ka))=>(E.Own.lt a3 hb).2;refine Ay rfl rfl (AM [Cj t] _ _ (az _ hE)) ?_;rintro ub' wt ⟨ub,rvb,fb,rfl,ag,a1⟩;obtain⟨V',kV',X',kX',sV',sX',a5,a4⟩:=BX ag;have an:X<X':=Abv ae a4.lx;have ak:∀b,b∈Ac (Value.slice qa 1 ka)→b∉Ac ub:=λb hb hm=>by have:=af b hb;have:=(E.Own.lt a5 hm).1;omega
     replace a5:=E.Own.low a5 hE.size;replace a4:HE w4.heap.size wt V' X' kX' sV' sX' t:=⟨a4.v,a4.x,Abr hE.size a4.lv,Abr hE.size a4.lx⟩;obtain⟨qb,kb,rfl⟩:=E.Own.slice a5;clear ag ae af;replace a3:=by first | exact a3.ext a1 | exact Ab.ext' a3 a1 (λ_ _ _ _ h=>h) | exact Aa.ext a3 a1
     replace a2:=by first | exact a2.ext a1 | exact Ab.ext' a2 a1 (λ_ _ _ _ h=>h) | exact Aa.ext a2 a1
     replace hB:=by first | exact hB.ext a1 | exact Ab.ext' hB a1 (λ_ _ _ _ h=>h) | exact Aa.ext hB a1
     have dk:=a1.size;have hE:=hE.trans a1;clear hS;apply LW.nil;refine QW.headed hE ?_;refine AJ ?_;refine BE 4 λhS=>?_;refine Bo λA wl b0 a1 hA=>?_;have b1:=hA.lt;have aq:w4.heap.size≤A:=by rw[b0];exact hE.size
     replace a3:=by first | exact a3.ext a1 | exact Ab.ext' a3 a1 (λ_ _ _ _ h=>h) | exact Aa.ext a3 a1
     replace a2:=by first | exact a2.ext a1 | exact Ab.ext' a2 a1 (λ_ _ _ _ h=>h) | exact Aa.ext a2 a1
     replace a5:=by first | exact a5.ext a1 | exact Ab.ext' a5 a1 (λ_ _ _ _ h=>h) | exact Aa.ext a5 a1
     replace a4:=by first | exact a4.ext a1 | exact Ab.ext' a4 a1 (λ_ _ _ _ h=>h) | exact Aa.ext a4 a1
     replace hB:=by first | exact hB.ext a1 | exact Ab.ext' hB a1 (λ_ _ _ _ h=>h) | exact Aa.ext hB a1
     have dl:=a1.size;have hE:=hE.trans a1;clear hS;apply LW.nil;refine QW.headed hE ?_;refine AJ ?_;have al:A≠B:=by have:=hA.lt;have:=hB.lt;omega
     refine BE 6 λhS=>?_;have aa:=hA;refine AD λwx a7 hA=>?_;replace hB:=hB.chg a7 AdG;replace a3:=Ar a3 aa AdH a7;replace a5:=Ar a5 aa AdH a7;replace a2:=a2.other aa a7;replace a4:=a4.other aa a7;have hE:=hE.step a7 AdG;clear hS;apply LW.nil;refine QW.headed hE ?_;refine GW.tail rfl AdF (λhS=>?_);have a9:=hB;refine AD λwy a8 hB=>?_;replace hA:=hA.chg a8 AdG;replace a3:=Ar a3 a9 AdH a8;replace a5:=Ar a5 a9 AdH a8;replace a2:=a2.other a9 a8;replace a4:=a4.other a9 a8;have hE:=hE.step a8 AdG;refine Sw ?_;exact QW.head (A,B,.slice qa 1 ka,.slice qb 1 kb) ⟨hE,hA,hB,al,aq,ar,V,kV,X,kX,sV,sX,V',kV',X',kX',sV',sX',a3,a2,a5,a4,an,ak⟩ Ff
    ·refine Bo λA wl b0 a1 hA=>?_;have b1:=hA.lt;have aq:w4.heap.size≤A:=by rw[b0];exact hE.size
     replace a3:=by first | exact a3.ext a1 | exact Ab.ext' a3 a1 (λ_ _ _ _ h=>h) | exact Aa.ext a3 a1
     replace a2:=by first | exact a2.ext a1 | exact Ab.ext' a2 a1 (λ_ _ _ _ h=>h) | exact Aa.ext a2 a1
     replace hB:=by first | exact hB.ext a1 | exact Ab.ext' hB a1 (λ_ _ _ _ h=>h) | exact Aa.ext hB a1
     have dm:=a1.size;have hE:=hE.trans a1;clear hS;apply LW.nil;refine QW.headed hE ?_;refine AJ ?_;refine BE 3 λhS=>?_;have ae:=a2.x.lt;have af:=λb (hb:b∈Ac (Value.slice qa 1 ka))=>(E.Own.lt a3 hb).2;refine Ay rfl rfl (AM [Cj t] _ _ (az _ hE)) ?_;rintro ub' wt ⟨ub,rvb,fb,rfl,ag,a1⟩;obtain⟨V',kV',X',kX',sV',sX',a5,a4⟩:=BX ag;have an:X<X':=Abv ae a4.lx;have ak:∀b,b∈Ac (Value.slice qa 1 ka)→b∉Ac ub:=λb hb hm=>by have:=af b hb;have:=(E.Own.lt a5 hm).1;omega
     replace a5:=E.Own.low a5 hE.size;replace a4:HE w4.heap.size wt V' X' kX' sV' sX' t:=⟨a4.v,a4.x,Abr hE.size a4.lv,Abr hE.size a4.lx⟩;obtain⟨qb,kb,rfl⟩:=E.Own.slice a5;clear ag ae af;replace a3:=by first | exact a3.ext a1 | exact Ab.ext' a3 a1 (λ_ _ _ _ h=>h) | exact Aa.ext a3 a1
     replace a2:=by first | exact a2.ext a1 | exact Ab.ext' a2 a1 (λ_ _ _ _ h=>h) | exact Aa.ext a2 a1
     replace hB:=by first | exact hB.ext a1 | exact Ab.ext' hB a1 (λ_ _ _ _ h=>h) | exact Aa.ext hB a1
     replace hA:=by first | exact hA.ext a1 | exact Ab.ext' hA a1 (λ_ _ _ _ h=>h) | exact Aa.ext hA a1
     have dn:=a1.size;have hE:=hE.trans a1;clear hS;apply LW.nil;refine QW.headed hE ?_;refine AJ ?_;have al:A≠B:=by have:=hA.lt;have:=hB.lt;omega
     refine BE 6 λhS=>?_;have aa:=hA;refine AD λwx a7 hA=>?_;replace hB:=hB.chg a7 AdG;replace a3:=Ar a3 aa AdH a7;replace a5:=Ar a5 aa AdH a7;replace a2:=a2.other aa a7;replace a4:=a4.other aa a7;have hE:=hE.step a7 AdG;clear hS;apply LW.nil;refine QW.headed hE ?_;refine GW.tail rfl AdF (λhS=>?_);have a9:=hB;refine AD λwy a8 hB=>?_;replace hA:=hA.chg a8 AdG;replace a3:=Ar a3 a9 AdH a8;replace a5:=Ar a5 a9 AdH a8;replace a2:=a2.other a9 a8;replace a4:=a4.other a9 a8;have hE:=hE.step a8 AdG;refine Sw ?_;exact QW.head (A,B,.slice qa 1 ka,.slice qb 1 kb) ⟨hE,hA,hB,al,aq,ar,V,kV,X,kX,sV,sX,V',kV',X',kX',sV',sX',a3,a2,a5,a4,an,ak⟩ Ff
  ·refine Bo λA wl b0 a1 hA=>?_;have b1:=hA.lt;have aq:w4.heap.size≤A:=by rw[b0];exact hE.size
   have dp:=a1.size;have hE:=hE.trans a1;clear hS;apply LW.nil;refine QW.headed hE ?_;refine AJ ?_;refine GW.two 1 5 AdF rfl rfl rfl rfl rfl rfl (λhS=>?_) (λhS=>?_)
   ·refine Ay rfl rfl (AM [Cj t] _ _ (az _ hE)) ?_;rintro ua' wt ⟨ua,rva,fa,rfl,ba,a1⟩;obtain⟨V,kV,X,kX,sV,sX,a3,a2⟩:=BX ba;replace a3:=E.Own.low a3 hE.size;replace a2:HE w4.heap.size wt V X kX sV sX t:=⟨a2.v,a2.x,Abr hE.size a2.lv,Abr hE.size a2.lx⟩;obtain⟨qa,ka,rfl⟩:=E.Own.slice a3;clear ba;replace hA:=by first | exact hA.ext a1 | exact Ab.ext' hA a1 (λ_ _ _ _ h=>h) | exact Aa.ext hA a1
    have dq:=a1.size;have hE:=hE.trans a1;clear hS;apply LW.nil;refine QW.headed hE ?_;refine AJ ?_;refine GW.two 3 5 AdF rfl rfl rfl rfl rfl rfl (λhS=>?_) (λhS=>?_)
    ·have ae:=a2.x.lt;have af:=λb (hb:b∈Ac (Value.slice qa 1 ka))=>(E.Own.lt a3 hb).2;refine Ay rfl rfl (AM [Cj t] _ _ (az _ hE)) ?_;rintro ub' wt ⟨ub,rvb,fb,rfl,ag,a1⟩;obtain⟨V',kV',X',kX',sV',sX',a5,a4⟩:=BX ag;have an:X<X':=Abv ae a4.lx;have ak:∀b,b∈Ac (Value.slice qa 1 ka)→b∉Ac ub:=λb hb hm=>by have:=af b hb;have:=(E.Own.lt a5 hm).1;omega
     replace a5:=E.Own.low a5 hE.size;replace a4:HE w4.heap.size wt V' X' kX' sV' sX' t:=⟨a4.v,a4.x,Abr hE.size a4.lv,Abr hE.size a4.lx⟩;obtain⟨qb,kb,rfl⟩:=E.Own.slice a5;clear ag ae af;replace a3:=by first | exact a3.ext a1 | exact Ab.ext' a3 a1 (λ_ _ _ _ h=>h) | exact Aa.ext a3 a1
     replace a2:=by first | exact a2.ext a1 | exact Ab.ext' a2 a1 (λ_ _ _ _ h=>h) | exact Aa.ext a2 a1
     replace hA:=by first | exact hA.ext a1 | exact Ab.ext' hA a1 (λ_ _ _ _ h=>h) | exact Aa.ext hA a1
     have dr:=a1.size;have hE:=hE.trans a1;clear hS;apply LW.nil;refine QW.headed hE ?_;refine AJ ?_;refine BE 5 λhS=>?_;refine Bo λB wl b2 a1 hB=>?_;have b3:=hB.lt;have ar:w4.heap.size≤B:=by rw[b2];exact hE.size
     replace a3:=by first | exact a3.ext a1 | exact Ab.ext' a3 a1 (λ_ _ _ _ h=>h) | exact Aa.ext a3 a1
     replace a2:=by first | exact a2.ext a1 | exact Ab.ext' a2 a1 (λ_ _ _ _ h=>h) | exact Aa.ext a2 a1
     replace a5:=by first | exact a5.ext a1 | exact Ab.ext' a5 a1 (λ_ _ _ _ h=>h) | exact Aa.ext a5 a1
     replace a4:=by first | exact a4.ext a1 | exact Ab.ext' a4 a1 (λ_ _ _ _ h=>h) | exact Aa.ext a4 a1
     replace hA:=by first | exact hA.ext a1 | exact Ab.ext' hA a1 (λ_ _ _ _ h=>h) | exact Aa.ext hA a1
     have ds:=a1.size;have hE:=hE.trans a1;clear hS;apply LW.nil;refine QW.headed hE ?_;refine AJ ?_;have al:A≠B:=by have:=hA.lt;have:=hB.lt;omega
     refine BE 6 λhS=>?_;have aa:=hA;refine AD λwx a7 hA=>?_;replace hB:=hB.chg a7 AdG;replace a3:=Ar a3 aa AdH a7;replace a5:=Ar a5 aa AdH a7;replace a2:=a2.other aa a7;replace a4:=a4.other aa a7;have hE:=hE.step a7 AdG;clear hS;apply LW.nil;refine QW.headed hE ?_;refine GW.tail rfl AdF (λhS=>?_);have a9:=hB;refine AD λwy a8 hB=>?_;replace hA:=hA.chg a8 AdG;replace a3:=Ar a3 a9 AdH a8;replace a5:=Ar a5 a9 AdH a8;replace a2:=a2.other a9 a8;replace a4:=a4.other a9 a8;have hE:=hE.step a8 AdG;refine Sw ?_;exact QW.head (A,B,.slice qa 1 ka,.slice qb 1 kb) ⟨hE,hA,hB,al,aq,ar,V,kV,X,kX,sV,sX,V',kV',X',kX',sV',sX',a3,a2,a5,a4,an,ak⟩ Ff
    ·refine Bo λB wl b2 a1 hB=>?_;have b3:=hB.lt;have ar:w4.heap.size≤B:=by rw[b2];exact hE.size
     replace a3:=by first | exact a3.ext a1 | exact Ab.ext' a3 a1 (λ_ _ _ _ h=>h) | exact Aa.ext a3 a1
     replace a2:=by first | exact a2.ext a1 | exact Ab.ext' a2 a1 (λ_ _ _ _ h=>h) | exact Aa.ext a2 a1
     replace hA:=by first | exact hA.ext a1 | exact Ab.ext' hA a1 (λ_ _ _ _ h=>h) | exact Aa.ext hA a1
     have dt:=a1.size;have hE:=hE.trans a1;clear hS;apply LW.nil;refine QW.headed hE ?_;refine AJ ?_;refine BE 3 λhS=>?_;have ae:=a2.x.lt;have af:=λb (hb:b∈Ac (Value.slice qa 1 ka))=>(E.Own.lt a3 hb).2;refine Ay rfl rfl (AM [Cj t] _ _ (az _ hE)) ?_;rintro ub' wt ⟨ub,rvb,fb,rfl,ag,a1⟩;obtain⟨V',kV',X',kX',sV',sX',a5,a4⟩:=BX ag;have an:X<X':=Abv ae a4.lx;have ak:∀b,b∈Ac (Value.slice qa 1 ka)→b∉Ac ub:=λb hb hm=>by have:=af b hb;have:=(E.Own.lt a5 hm).1;omega
     replace a5:=E.Own.low a5 hE.size;replace a4:HE w4.heap.size wt V' X' kX' sV' sX' t:=⟨a4.v,a4.x,Abr hE.size a4.lv,Abr hE.size a4.lx⟩;obtain⟨qb,kb,rfl⟩:=E.Own.slice a5;clear ag ae af;replace a3:=by first | exact a3.ext a1 | exact Ab.ext' a3 a1 (λ_ _ _ _ h=>h) | exact Aa.ext a3 a1
     replace a2:=by first | exact a2.ext a1 | exact Ab.ext' a2 a1 (λ_ _ _ _ h=>h) | exact Aa.ext a2 a1
     replace hA:=by first | exact hA.ext a1 | exact Ab.ext' hA a1 (λ_ _ _ _ h=>h) | exact Aa.ext hA a1
     replace hB:=by first | exact hB.ext a1 | exact Ab.ext' hB a1 (λ_ _ _ _ h=>h) | exact Aa.ext hB a1
     have du:=a1.size;have hE:=hE.trans a1;clear hS;apply LW.nil;refine QW.headed hE ?_;refine AJ ?_;have al:A≠B:=by have:=hA.lt;have:=hB.lt;omega
     refine BE 6 λhS=>?_;have aa:=hA;refine AD λwx a7 hA=>?_;replace hB:=hB.chg a7 AdG;replace a3:=Ar a3 aa AdH a7;replace a5:=Ar a5 aa AdH a7;replace a2:=a2.other aa a7;replace a4:=a4.other aa a7;have hE:=hE.step a7 AdG;clear hS;apply LW.nil;refine QW.headed hE ?_;refine GW.tail rfl AdF (λhS=>?_);have a9:=hB;refine AD λwy a8 hB=>?_;replace hA:=hA.chg a8 AdG;replace a3:=Ar a3 a9 AdH a8;replace a5:=Ar a5 a9 AdH a8;replace a2:=a2.other a9 a8;replace a4:=a4.other a9 a8;have hE:=hE.step a8 AdG;refine Sw ?_;exact QW.head (A,B,.slice qa 1 ka,.slice qb 1 kb) ⟨hE,hA,hB,al,aq,ar,V,kV,X,kX,sV,sX,V',kV',X',kX',sV',sX',a3,a2,a5,a4,an,ak⟩ Ff
   ·refine Bo λB wl b2 a1 hB=>?_;have b3:=hB.lt;have ar:w4.heap.size≤B:=by rw[b2];exact hE.size
    replace hA:=by first | exact hA.ext a1 | exact Ab.ext' hA a1 (λ_ _ _ _ h=>h) | exact Aa.ext hA a1
    have dv:=a1.size;have hE:=hE.trans a1;clear hS;apply LW.nil;refine QW.headed hE ?_;refine AJ ?_;refine BE 1 λhS=>?_;refine Ay rfl rfl (AM [Cj t] _ _ (az _ hE)) ?_;rintro ua' wt ⟨ua,rva,fa,rfl,ba,a1⟩;obtain⟨V,kV,X,kX,sV,sX,a3,a2⟩:=BX ba;replace a3:=E.Own.low a3 hE.size;replace a2:HE w4.heap.size wt V X kX sV sX t:=⟨a2.v,a2.x,Abr hE.size a2.lv,Abr hE.size a2.lx⟩;obtain⟨qa,ka,rfl⟩:=E.Own.slice a3;clear ba;replace hA:=by first | exact hA.ext a1 | exact Ab.ext' hA a1 (λ_ _ _ _ h=>h) | exact Aa.ext hA a1
    replace hB:=by first | exact hB.ext a1 | exact Ab.ext' hB a1 (λ_ _ _ _ h=>h) | exact Aa.ext hB a1
    have dw:=a1.size;have hE:=hE.trans a1;clear hS;apply LW.nil;refine QW.headed hE ?_;refine AJ ?_;refine BE 3 λhS=>?_;have ae:=a2.x.lt;have af:=λb (hb:b∈Ac (Value.slice qa 1 ka))=>(E.Own.lt a3 hb).2;refine Ay rfl rfl (AM [Cj t] _ _ (az _ hE)) ?_;rintro ub' wt ⟨ub,rvb,fb,rfl,ag,a1⟩;obtain⟨V',kV',X',kX',sV',sX',a5,a4⟩:=BX ag;have an:X<X':=Abv ae a4.lx;have ak:∀b,b∈Ac (Value.slice qa 1 ka)→b∉Ac ub:=λb hb hm=>by have:=af b hb;have:=(E.Own.lt a5 hm).1;omega
    replace a5:=E.Own.low a5 hE.size;replace a4:HE w4.heap.size wt V' X' kX' sV' sX' t:=⟨a4.v,a4.x,Abr hE.size a4.lv,Abr hE.size a4.lx⟩;obtain⟨qb,kb,rfl⟩:=E.Own.slice a5;clear ag ae af;replace a3:=by first | exact a3.ext a1 | exact Ab.ext' a3 a1 (λ_ _ _ _ h=>h) | exact Aa.ext a3 a1
    replace a2:=by first | exact a2.ext a1 | exact Ab.ext' a2 a1 (λ_ _ _ _ h=>h) | exact Aa.ext a2 a1
    replace hA:=by first | exact hA.ext a1 | exact Ab.ext' hA a1 (λ_ _ _ _ h=>h) | exact Aa.ext hA a1
    replace hB:=by first | exact hB.ext a1 | exact Ab.ext' hB a1 (λ_ _ _ _ h=>h) | exact Aa.ext hB a1
    have dx:=a1.size;have hE:=hE.trans a1;clear hS;apply LW.nil;refine QW.headed hE ?_;refine AJ ?_;have al:A≠B:=by have:=hA.lt;have:=hB.lt;omega
    refine BE 6 λhS=>?_;have aa:=hA;refine AD λwx a7 hA=>?_;replace hB:=hB.chg a7 AdG;replace a3:=Ar a3 aa AdH a7;replace a5:=Ar a5 aa AdH a7;replace a2:=a2.other aa a7;replace a4:=a4.other aa a7;have hE:=hE.step a7 AdG;clear hS;apply LW.nil;refine QW.headed hE ?_;refine GW.tail rfl AdF (λhS=>?_);have a9:=hB;refine AD λwy a8 hB=>?_;replace hA:=hA.chg a8 AdG;replace a3:=Ar a3 a9 AdH a8;replace a5:=Ar a5 a9 AdH a8;replace a2:=a2.other a9 a8;replace a4:=a4.other a9 a8;have hE:=hE.step a8 AdG;refine Sw ?_;exact QW.head (A,B,.slice qa 1 ka,.slice qb 1 kb) ⟨hE,hA,hB,al,aq,ar,V,kV,X,kX,sV,sX,V',kV',X',kX',sV',sX',a3,a2,a5,a4,an,ak⟩ Ff
  ·refine Bo λB wl b2 a1 hB=>?_;have b3:=hB.lt;have ar:w4.heap.size≤B:=by rw[b2];exact hE.size
   have dy:=a1.size;have hE:=hE.trans a1;clear hS;apply LW.nil;refine QW.headed hE ?_;refine AJ ?_;refine GW.two 1 4 AdF rfl rfl rfl rfl rfl rfl (λhS=>?_) (λhS=>?_)
   ·refine Ay rfl rfl (AM [Cj t] _ _ (az _ hE)) ?_;rintro ua' wt ⟨ua,rva,fa,rfl,ba,a1⟩;obtain⟨V,kV,X,kX,sV,sX,a3,a2⟩:=BX ba;replace a3:=E.Own.low a3 hE.size;replace a2:HE w4.heap.size wt V X kX sV sX t:=⟨a2.v,a2.x,Abr hE.size a2.lv,Abr hE.size a2.lx⟩;obtain⟨qa,ka,rfl⟩:=E.Own.slice a3;clear ba;replace hB:=by first | exact hB.ext a1 | exact Ab.ext' hB a1 (λ_ _ _ _ h=>h) | exact Aa.ext hB a1
    have dz:=a1.size;have hE:=hE.trans a1;clear hS;apply LW.nil;refine QW.headed hE ?_;refine AJ ?_;refine GW.two 3 4 AdF rfl rfl rfl rfl rfl rfl (λhS=>?_) (λhS=>?_)
    ·have ae:=a2.x.lt;have af:=λb (hb:b∈Ac (Value.slice qa 1 ka))=>(E.Own.lt a3 hb).2;refine Ay rfl rfl (AM [Cj t] _ _ (az _ hE)) ?_;rintro ub' wt ⟨ub,rvb,fb,rfl,ag,a1⟩;obtain⟨V',kV',X',kX',sV',sX',a5,a4⟩:=BX ag;have an:X<X':=Abv ae a4.lx;have ak:∀b,b∈Ac (Value.slice qa 1 ka)→b∉Ac ub:=λb hb hm=>by have:=af b hb;have:=(E.Own.lt a5 hm).1;omega
     replace a5:=E.Own.low a5 hE.size;replace a4:HE w4.heap.size wt V' X' kX' sV' sX' t:=⟨a4.v,a4.x,Abr hE.size a4.lv,Abr hE.size a4.lx⟩;obtain⟨qb,kb,rfl⟩:=E.Own.slice a5;clear ag ae af;replace a3:=by first | exact a3.ext a1 | exact Ab.ext' a3 a1 (λ_ _ _ _ h=>h) | exact Aa.ext a3 a1
     replace a2:=by first | exact a2.ext a1 | exact Ab.ext' a2 a1 (λ_ _ _ _ h=>h) | exact Aa.ext a2 a1
     replace hB:=by first | exact hB.ext a1 | exact Ab.ext' hB a1 (λ_ _ _ _ h=>h) | exact Aa.ext hB a1
     have e0:=a1.size;have hE:=hE.trans a1;clear hS;apply LW.nil;refine QW.headed hE ?_;refine AJ ?_;refine BE 4 λhS=>?_;refine Bo λA wl b0 a1 hA=>?_;have b1:=hA.lt;have aq:w4.heap.size≤A:=by rw[b0];exact hE.size
     replace a3:=by first | exact a3.ext a1 | exact Ab.ext' a3 a1 (λ_ _ _ _ h=>h) | exact Aa.ext a3 a1
     replace a2:=by first | exact a2.ext a1 | exact Ab.ext' a2 a1 (λ_ _ _ _ h=>h) | exact Aa.ext a2 a1
     replace a5:=by first | exact a5.ext a1 | exact Ab.ext' a5 a1 (λ_ _ _ _ h=>h) | exact Aa.ext a5 a1
     replace a4:=by first | exact a4.ext a1 | exact Ab.ext' a4 a1 (λ_ _ _ _ h=>h) | exact Aa.ext a4 a1
     replace hB:=by first | exact hB.ext a1 | exact Ab.ext' hB a1 (λ_ _ _ _ h=>h) | exact Aa.ext hB a1
     have e1:=a1.size;have hE:=hE.trans a1;clear hS;apply LW.nil;refine QW.headed hE ?_;refine AJ ?_;have al:A≠B:=by have:=hA.lt;have:=hB.lt;omega
     refine BE 6 λhS=>?_;have aa:=hA;refine AD λwx a7 hA=>?_;replace hB:=hB.chg a7 AdG;replace a3:=Ar a3 aa AdH a7;replace a5:=Ar a5 aa AdH a7;replace a2:=a2.other aa a7;replace a4:=a4.other aa a7;have hE:=hE.step a7 AdG;clear hS;apply LW.nil;refine QW.headed hE ?_;refine GW.tail rfl AdF (λhS=>?_);have a9:=hB;refine AD λwy a8 hB=>?_;replace hA:=hA.chg a8 AdG;replace a3:=Ar a3 a9 AdH a8;replace a5:=Ar a5 a9 AdH a8;replace a2:=a2.other a9 a8;replace a4:=a4.other a9 a8;have hE:=hE.step a8 AdG;refine Sw ?_;exact QW.head (A,B,.slice qa 1 ka,.slice qb 1 kb) ⟨hE,hA,hB,al,aq,ar,V,kV,X,kX,sV,sX,V',kV',X',kX',sV',sX',a3,a2,a5,a4,an,ak⟩ Ff
    ·refine Bo λA wl b0 a1 hA=>?_;have b1:=hA.lt;have aq:w4.heap.size≤A:=by rw[b0];exact hE.size
     replace a3:=by first | exact a3.ext a1 | exact Ab.ext' a3 a1 (λ_ _ _ _ h=>h) | exact Aa.ext a3 a1
     replace a2:=by first | exact a2.ext a1 | exact Ab.ext' a2 a1 (λ_ _ _ _ h=>h) | exact Aa.ext a2 a1
     replace hB:=by first | exact hB.ext a1 | exact Ab.ext' hB a1 (λ_ _ _ _ h=>h) | exact Aa.ext hB a1
     have e2:=a1.size;have hE:=hE.trans a1;clear hS;apply LW.nil;refine QW.headed hE ?_;refine AJ ?_;refine BE 3 λhS=>?_;have ae:=a2.x.lt;have af:=λb (hb:b∈Ac (Value.slice qa 1 ka))=>(E.Own.lt a3 hb).2;refine Ay rfl rfl (AM [Cj t] _ _ (az _ hE)) ?_;rintro ub' wt ⟨ub,rvb,fb,rfl,ag,a1⟩;obtain⟨V',kV',X',kX',sV',sX',a5,a4⟩:=BX ag;have an:X<X':=Abv ae a4.lx;have ak:∀b,b∈Ac (Value.slice qa 1 ka)→b∉Ac ub:=λb hb hm=>by have:=af b hb;have:=(E.Own.lt a5 hm).1;omega
     replace a5:=E.Own.low a5 hE.size;replace a4:HE w4.heap.size wt V' X' kX' sV' sX' t:=⟨a4.v,a4.x,Abr hE.size a4.lv,Abr hE.size a4.lx⟩;obtain⟨qb,kb,rfl⟩:=E.Own.slice a5;clear ag ae af;replace a3:=by first | exact a3.ext a1 | exact Ab.ext' a3 a1 (λ_ _ _ _ h=>h) | exact Aa.ext a3 a1
     replace a2:=by first | exact a2.ext a1 | exact Ab.ext' a2 a1 (λ_ _ _ _ h=>h) | exact Aa.ext a2 a1
     replace hB:=by first | exact hB.ext a1 | exact Ab.ext' hB a1 (λ_ _ _ _ h=>h) | exact Aa.ext hB a1
     replace hA:=by first | exact hA.ext a1 | exact Ab.ext' hA a1 (λ_ _ _ _ h=>h) | exact Aa.ext hA a1
     have e3:=a1.size;have hE:=hE.trans a1;clear hS;apply LW.nil;refine QW.headed hE ?_;refine AJ ?_;have al:A≠B:=by have:=hA.lt;have:=hB.lt;omega
     refine BE 6 λhS=>?_;have aa:=hA;refine AD λwx a7 hA=>?_;replace hB:=hB.chg a7 AdG;replace a3:=Ar a3 aa AdH a7;replace a5:=Ar a5 aa AdH a7;replace a2:=a2.other aa a7;replace a4:=a4.other aa a7;have hE:=hE.step a7 AdG;clear hS;apply LW.nil;refine QW.headed hE ?_;refine GW.tail rfl AdF (λhS=>?_);have a9:=hB;refine AD λwy a8 hB=>?_;replace hA:=hA.chg a8 AdG;replace a3:=Ar a3 a9 AdH a8;replace a5:=Ar a5 a9 AdH a8;replace a2:=a2.other a9 a8;replace a4:=a4.other a9 a8;have hE:=hE.step a8 AdG;refine Sw ?_;exact QW.head (A,B,.slice qa 1 ka,.slice qb 1 kb) ⟨hE,hA,hB,al,aq,ar,V,kV,X,kX,sV,sX,V',kV',X',kX',sV',sX',a3,a2,a5,a4,an,ak⟩ Ff
   ·refine Bo λA wl b0 a1 hA=>?_;have b1:=hA.lt;have aq:w4.heap.size≤A:=by rw[b0];exact hE.size
    replace hB:=by first | exact hB.ext a1 | exact Ab.ext' hB a1 (λ_ _ _ _ h=>h) | exact Aa.ext hB a1
    have e4:=a1.size;have hE:=hE.trans a1;clear hS;apply LW.nil;refine QW.headed hE ?_;refine AJ ?_;refine BE 1 λhS=>?_;refine Ay rfl rfl (AM [Cj t] _ _ (az _ hE)) ?_;rintro ua' wt ⟨ua,rva,fa,rfl,ba,a1⟩;obtain⟨V,kV,X,kX,sV,sX,a3,a2⟩:=BX ba;replace a3:=E.Own.low a3 hE.size;replace a2:HE w4.heap.size wt V X kX sV sX t:=⟨a2.v,a2.x,Abr hE.size a2.lv,Abr hE.size a2.lx⟩;obtain⟨qa,ka,rfl⟩:=E.Own.slice a3;clear ba;replace hB:=by first | exact hB.ext a1 | exact Ab.ext' hB a1 (λ_ _ _ _ h=>h) | exact Aa.ext hB a1
    replace hA:=by first | exact hA.ext a1 | exact Ab.ext' hA a1 (λ_ _ _ _ h=>h) | exact Aa.ext hA a1
    have e5:=a1.size;have hE:=hE.trans a1;clear hS;apply LW.nil;refine QW.headed hE ?_;refine AJ ?_;refine BE 3 λhS=>?_;have ae:=a2.x.lt;have af:=λb (hb:b∈Ac (Value.slice qa 1 ka))=>(E.Own.lt a3 hb).2;refine Ay rfl rfl (AM [Cj t] _ _ (az _ hE)) ?_;rintro ub' wt ⟨ub,rvb,fb,rfl,ag,a1⟩;obtain⟨V',kV',X',kX',sV',sX',a5,a4⟩:=BX ag;have an:X<X':=Abv ae a4.lx;have ak:∀b,b∈Ac (Value.slice qa 1 ka)→b∉Ac ub:=λb hb hm=>by have:=af b hb;have:=(E.Own.lt a5 hm).1;omega
    replace a5:=E.Own.low a5 hE.size;replace a4:HE w4.heap.size wt V' X' kX' sV' sX' t:=⟨a4.v,a4.x,Abr hE.size a4.lv,Abr hE.size a4.lx⟩;obtain⟨qb,kb,rfl⟩:=E.Own.slice a5;clear ag ae af;replace a3:=by first | exact a3.ext a1 | exact Ab.ext' a3 a1 (λ_ _ _ _ h=>h) | exact Aa.ext a3 a1
    replace a2:=by first | exact a2.ext a1 | exact Ab.ext' a2 a1 (λ_ _ _ _ h=>h) | exact Aa.ext a2 a1
    replace hB:=by first | exact hB.ext a1 | exact Ab.ext' hB a1 (λ_ _ _ _ h=>h) | exact Aa.ext hB a1
    replace hA:=by first | exact hA.ext a1 | exact Ab.ext' hA a1 (λ_ _ _ _ h=>h) | exact Aa.ext hA a1
    have e6:=a1.size;have hE:=hE.trans a1;clear hS;apply LW.nil;refine QW.headed hE ?_;refine AJ ?_;have al:A≠B:=by have:=hA.lt;have:=hB.lt;omega
    refine BE 6 λhS=>?_;have aa:=hA;refine AD λwx a7 hA=>?_;replace hB:=hB.chg a7 AdG;replace a3:=Ar a3 aa AdH a7;replace a5:=Ar a5 aa AdH a7;replace a2:=a2.other aa a7;replace a4:=a4.other aa a7;have hE:=hE.step a7 AdG;clear hS;apply LW.nil;refine QW.headed hE ?_;refine GW.tail rfl AdF (λhS=>?_);have a9:=hB;refine AD λwy a8 hB=>?_;replace hA:=hA.chg a8 AdG;replace a3:=Ar a3 a9 AdH a8;replace a5:=Ar a5 a9 AdH a8;replace a2:=a2.other a9 a8;replace a4:=a4.other a9 a8;have hE:=hE.step a8 AdG;refine Sw ?_;exact QW.head (A,B,.slice qa 1 ka,.slice qb 1 kb) ⟨hE,hA,hB,al,aq,ar,V,kV,X,kX,sV,sX,V',kV',X',kX',sV',sX',a3,a2,a5,a4,an,ak⟩ Ff
 rintro⟨A,B,ua,ub⟩ w5 ⟨c4,hA,hB,al,f0,f1,V,kV,X,kX,sV,sX,V',kV',X',kX',sV',sX',a3,a2,a5,a4,an,ak⟩;dsimp only at hA hB al f0 f1 a3 a5 ak;obtain⟨qa,ka,rfl⟩:=E.Own.slice a3;obtain⟨qb,kb,rfl⟩:=E.Own.slice a5;show CW _ _ _ _ _ [(1,.bool put),(2,.bool gone),(3,.bool changed),(4,.pointer (some ⟨S,0,none⟩)),(9,.pointer (some ⟨O,0,none⟩)),(10,.pointer (some ⟨A,0,none⟩)),(11,.pointer (some ⟨B,0,none⟩))] _;have f2:=hS.ext c4;have cz:=bl.trans c4;have fp:=c4.size;refine Sw ?_;refine Ay rfl rfl (IY (Cj t) rv w5 AdX (Bb.ext hr cz)) ?_;rintro u w6 ⟨tu,gt,rfl,e7,d0⟩;obtain⟨Vt,kVt,Xt,kXt,sVt,sXt,rfl,b4⟩:=RG (t:=t) e7;have f3:X'<Xt:=Abv a4.x.lt b4.lx;have e8:=λb (hb:b∈Ac (Value.slice qb 1 kb))=>(E.Own.lt a5 hb).2;have fq:=d0.size;clear e7 f2;refine Sw ?_;refine Bo λT w7 f4 d1 hT=>?_;have fr:=d1.size;have fs:=hT.lt;refine Sw ?_;refine AD λw8 d2 hT=>?_;have fu:=d2.size;refine Sw ?_;refine CR λw9 d4 hT=>?_;replace hT:Blk w9 T [Ao [66],.int .i64 1,.slice (some ⟨Vt,0,none⟩) 1 kVt] 46:=hT;have fv:=d4.size;have bv:=(d1.step d2 AdG).step d4 AdG;have b5:=d0.trans bv;have bw:=c4.trans b5;replace hA:=hA.ext b5;replace hB:=hB.ext b5;replace a3:=E.Own.ext a3 b5;replace a5:=E.Own.ext a5 b5;replace a2:=a2.ext b5;replace a4:=a4.ext b5;replace b4:=b4.ext bv;have e9:T∉Ac (Value.slice qb 1 kb):=λhm=>by have:=e8 T hm;omega
 have fw:w4.heap.size≤T:=AdE
 clear c4 d0 d1 d2 d4 bv b5 e8 f4;obtain⟨N,hN⟩:∃N:Nat,N=if put=true then 2 else 1:=⟨_,rfl⟩;obtain⟨more,a6⟩:∃m:List Value,m=if put=true then[Ao [66],.int .i64 1,.slice (some ⟨Vt,0,none⟩) 1 kVt] else[]:=⟨_,rfl⟩;refine Sl ?_;apply LW.nil;apply QW.then_n;refine CW.seq_cut (ι:=Option Addr×Nat) (λx w'=>Ai w4 w'∧Blk w' A [.slice qa 1 ka] 24∧Blk w' B [.slice x.1 N x.2] 24∧Blk w' T [Ao [66],.int .i64 1,.slice (some ⟨Vt,0,none⟩) 1 kVt] 46∧E.Own w' w4.heap.size 46 3 (.slice qa 1 ka) 1 [Ao [65],.int .i64 1,.slice (some ⟨V,0,none⟩) 1 kV]∧E.Own w' w4.heap.size 46 3 (.slice x.1 N x.2) N ([Ao [65],.int .i64 1,.slice (some ⟨V',0,none⟩) 1 kV']++more)∧HE w4.heap.size w' V X kX sV sX t∧HE w4.heap.size w' V' X' kX' sV' sX' t∧HE w5.heap.size w' Vt Xt kXt sVt sXt t) (λx=>[(2,.bool gone),(3,.bool changed),(1,.bool put),(4,.pointer (some ⟨S,0,none⟩)),(9,.pointer (some ⟨O,0,none⟩)),(10,.pointer (some ⟨A,0,none⟩)),(11,.pointer (some ⟨B,0,none⟩)),(12,.pointer (some ⟨T,0,none⟩))]) ?_ ?_
 ·cases put with
  | false=>
   have hN:N=1:=hN;have a6:more=[]:=a6;subst hN a6;refine Sw ?_
   exact QW.head (qb,kb) ⟨bw,hA,hB,hT,a3,a5,a2,a4,b4⟩ LO
  | true=>
   have hN:N=2:=hN;have a6:more=[Ao [66],.int .i64 1,.slice (some ⟨Vt,0,none⟩) 1 kVt]:=a6;subst hN a6;refine Sw ?_;refine Dt λEa b7 fx am d5=>?_;replace d5:Blk b7 Ea [Ao [66],.int .i64 1,.slice (some ⟨Vt,0,none⟩) 1 kVt] 46:=d5;have f5:=am.size;replace a5:=E.Own.ext a5 am;refine Sw ?_;refine LW.append (lo:=w4.heap.size) (k:=1) rfl rfl rfl rfl rfl rfl a5 AdE d5 rfl rfl rfl (by show(1+1)*49≤_;omega) rfl ?_;intro v11 cm ac c5 f6;obtain⟨q11,k11,rfl⟩:=c5.slice;have nb:∀{c:Nat} {m:List Value} {T':TypeId},Blk b7 c m T'→T'≠46→c∉Ac (Value.slice qb 1 kb):=λh hne hm=>hne (Own.type a5 hm h);have bx:∀{lo V X kX:Nat} {sV sX:List Value},HE lo b7 V X kX sV sX t→HE lo cm V X kX sV sX t:=λh=>⟨h.v.chg ac (nb h.v AdH),h.x.chg ac (nb h.x AdH),h.lv,h.lx⟩;replace hA:=(hA.ext am).chg ac (nb (hA.ext am) AdH);replace hB:=(hB.ext am).chg ac (nb (hB.ext am) AdH);replace hT:=(hT.ext am).chg ac e9;replace a3:=E.Own.chg (E.Own.ext a3 am) ac ak;replace a2:=bx (a2.ext am);replace a4:=bx (a4.ext am);replace b4:=bx (b4.ext am);have c6:=(bw.trans am).step ac λb hb=>(E.Own.lt a5 hb).1;clear bx nb;refine Sw ?_;have a9:=hB;refine CR λbn ab hB=>?_;replace hB:Blk bn B [.slice q11 2 k11] 24:=hB;refine Sw ?_;exact QW.head (q11,k11) ⟨c6.step ab AdG,hA.chg ab AdG,hB,HL hT a9 AdH ab,Ar a3 a9 AdH ab,Ar c5 a9 AdH ab,a2.other a9 ab,a4.other a9 ab,b4.other a9 ab⟩ LO
 clear hA hB hT a3 a5 a2 a4 b4 bw ak e9;rintro⟨qb,kb⟩ b7 ⟨bo,hA,hB,hT,a3,a5,a2,a4,b4⟩;dsimp only at hB a5;have nA:∀{c:Nat} {m:List Value} {T':TypeId},Blk b7 c m T'→T'≠24→c≠A:=λh hne e=>hne (Pi h (e ▸ hA));have nX:∀{c:Nat} {m:List Value} {T':TypeId},Blk b7 c m T'→T'≠9→c≠X':=λh hne e=>hne (Pi h (e ▸ a4.x));have two:∀{c:Nat},c≠A→c≠X'→c∉[A,X']:=λh1 h2 hm=>by
  simp only[AaT,Abu,or_false] at hm;exact hm.elim h1 h2
 have nO:∀{n:Nat} {v:Value} {xs:List Value},E.Own b7 w4.heap.size 46 3 v n xs→∀b,b∈Ac v→b∉[A,X']:=λh b hb=>two (λe=>by have:=Own.type h hb (e ▸ hA);revert this;decide) (λe=>by have:=Own.type h hb (e ▸ a4.x);revert this;decide);have fa:∀w',Chg [A,X'] b7 w'→AA w' (.slice qa 1 ka) [Cj t]:=λw' x=>IG (s:=Cj t) (rv:=.slice (some ⟨V,0,none⟩) 1 kV) (E.Own.chg a3 x (nO a3)) AdX (HE.rows (lo:=w4.heap.size) ⟨a2.v.chg x (two (nA a2.v AdH) (nX a2.v AdH)),a2.x.chg x (two (nA a2.x AdH) AdE),a2.lv,a2.lx⟩ ct);have ft:∀w',Chg [A,X'] b7 w'→BA w' (.slice (some ⟨Vt,0,none⟩) 1 kVt) [[t]]:=λw' x=>HE.rows (lo:=w5.heap.size) ⟨b4.v.chg x (two (nA b4.v AdH) (nX b4.v AdH)),b4.x.chg x (two (nA b4.x AdH) AdE),b4.lv,b4.lx⟩ ct;have fb:∀w' tx,Chg [A,X'] b7 w'→Blk w' X' (Ao tx::sX') 9→tx.length≤1000000→AA w' (.slice qb N kb) (Cj tx::if put=true then[Dr t] else[]):=λw' tx x hx hl=>by
  have ho:=E.Own.chg a5 x (nO a5);have ea:=HE.rows (lo:=w4.heap.size) (kV:=kV') ⟨a4.v.chg x (two (nA a4.v AdH) (nX a4.v AdH)),hx,a4.lv,a4.lx⟩ hl
  cases put with
  | false=>
   have hN:N=1:=hN;have a6:more=[]:=a6;subst hN a6
   exact IG (s:=Cj tx) (rv:=.slice (some ⟨V',0,none⟩) 1 kV') ho AdX ea
  | true=>
   have hN:N=2:=hN;have a6:more=[Ao [66],.int .i64 1,.slice (some ⟨Vt,0,none⟩) 1 kVt]:=a6;subst hN a6;exact U6 (s:=Cj tx) (s':=Dr t) (rv:=.slice (some ⟨V',0,none⟩) 1 kV') (rv':=.slice (some ⟨Vt,0,none⟩) 1 kVt) ho AdX ea AdX (ft w' x)
 have d6:∀w',Chg [A,X'] b7 w'→Blk w' B [.slice qb N kb] 24:=λw' x=>hB.chg x (two (λe=>al e.symm) (nX hB AdH));have eb:∀w',Chg [A,X'] b7 w'→Blk w' T [Ao [66],.int .i64 1,.slice (some ⟨Vt,0,none⟩) 1 kVt] 46:=λw' x=>hT.chg x (two (nA hT AdH) (nX hT AdH));have bb:=a4.x;have fy:=a4.lx;have ec:∀w',Chg [A,X'] b7 w'→Blk w' V' (.slice (some ⟨X',0,none⟩) 1 kX'::sV') 47:=λw' x=>a4.v.chg x (two (nA a4.v AdH) (nX a4.v AdH));have ed:=λw' x=>E.Own.chg (w':=w') a5 x (nO a5);have ee:∀w',Chg [A,X'] b7 w'→Ai w4 w':=λw' x=>bo.step x AdG;clear nA nX two nO hB hT a3 a5 a2 a4 b4 an f3 bo;show CW _ _ _ _ _ [(2,.bool gone),(3,.bool changed),(1,.bool put),(4,.pointer (some ⟨S,0,none⟩)),(9,.pointer (some ⟨O,0,none⟩)),(10,.pointer (some ⟨A,0,none⟩)),(11,.pointer (some ⟨B,0,none⟩)),(12,.pointer (some ⟨T,0,none⟩))] _;refine CW.seq_cut (ι:=Unit) (λ_ w'=>Chg [A,X'] b7 w'∧Blk w' A [if gone=true then .slice none 0 0 else .slice qa 1 ka] 24∧Blk w' X' (Ao t::sX') 9) (λ_=>[(2,.bool gone),(3,.bool changed),(1,.bool put),(4,.pointer (some ⟨S,0,none⟩)),(9,.pointer (some ⟨O,0,none⟩)),(10,.pointer (some ⟨A,0,none⟩)),(11,.pointer (some ⟨B,0,none⟩)),(12,.pointer (some ⟨T,0,none⟩))]) ?_ ?_
 ·cases gone with
  | false=>
   refine Sw ?_
   exact QW.head () ⟨Chg.refl _ _,hA,bb⟩ LO
  | true=>
   refine Sw ?_;have aa:=hA;refine CR λcm ac hA=>?_;refine Sw ?_;exact QW.head () ⟨ac.mono λb hb _=>by simp only[Aad] at hb;simp[hb],hA,HL bb aa AdH ac⟩ LO
 clear hA bb;rintro⟨⟩ cm ⟨ac,hA,bb⟩;have hB:=d6 _ ac;have hV:=ec _ ac;obtain⟨U,cU,sU,eU,hU,-⟩:=E.Own.get (ed _ ac) (by rw[hN];split<;>omega);obtain⟨rfl,-,-⟩:=Acw eU;have f7:1≤N:=by rw[hN];split<;>omega
 replace hU:Blk cm U (Ao [65]::.int .i64 1::.slice (some ⟨V',0,none⟩) 1 kV'::(more++sU)) 46:=hU;show CW _ _ _ _ _ [(2,.bool gone),(3,.bool changed),(1,.bool put),(4,.pointer (some ⟨S,0,none⟩)),(9,.pointer (some ⟨O,0,none⟩)),(10,.pointer (some ⟨A,0,none⟩)),(11,.pointer (some ⟨B,0,none⟩)),(12,.pointer (some ⟨T,0,none⟩))] _;refine CW.seq_cut (ι:=Unit) (λ_ w'=>Chg [A,X'] b7 w'∧Blk w' A [if gone=true then .slice none 0 0 else .slice qa 1 ka] 24∧Blk w' X' (Ao (if changed=true then GZ else t)::sX') 9) (λ_=>[(2,.bool gone),(3,.bool changed),(1,.bool put),(4,.pointer (some ⟨S,0,none⟩)),(9,.pointer (some ⟨O,0,none⟩)),(10,.pointer (some ⟨A,0,none⟩)),(11,.pointer (some ⟨B,0,none⟩)),(12,.pointer (some ⟨T,0,none⟩))]) ?_ ?_
 ·cases changed with
  | false=>
   refine Sw ?_
   exact QW.head () ⟨ac,hA,bb⟩ LO
  | true=>
   refine Sw ?_;have f8:=bb;refine CR λbn ab bb=>?_;refine Sw ?_;exact QW.head () ⟨(Chg.trans ac ab).mono λb hb _=>by simpa using hb,HL hA f8 AdH ab,bb⟩ LO
 clear hA bb hB hV hU eU ec ed ac;rintro⟨⟩ bn ⟨ab,hA,bb⟩;obtain⟨tx,d7⟩:∃tx,tx=if changed=true then GZ else t:=⟨_,rfl⟩;rw[←d7] at bb;have d8:tx.length≤1000000:=by rw[d7];split;decide;exact ct
 have cn:=fb bn tx ab bb d8;have hB:=d6 _ ab;have hT:=eb _ ab;have bp:=ft _ ab;have b6:=ee _ ab;have d9:=hO.ext b6;have c7:=hS.ext b6;have be:=bl.trans b6;have ef:=az _ b6;obtain⟨av,co⟩:∃av:Value,av=if gone=true then .slice none 0 0 else .slice qa 1 ka:=⟨_,rfl⟩;rw[←co] at hA;have da:av.oneCell'=true:=by rw[co];split<;>rfl
 have eg:AA bn av (if gone=true then[] else[Cj t]):=by
  rw[co]
  cases gone with
  | false=>exact fa _ ab
  | true=>exact Ab.nil
 have sm:=TG ht t1 hne put gone changed;rw[←d7] at sm;have tt:=K1 [Cj t] _ _ _ _ _ bn (gl.ext be) ef eg cn;rw[sm] at tt;obtain⟨a0,q0,k0,eq0,-,-,bk,bz⟩:=Aa.at (i:=0) (by
  have:(Cj tx::if put=true then[Dr t] else[]).length=N:=by rw[hN];cases put<;>rfl
  rw[←this] at cn;exact cn) rfl
 replace bz:∀j u,([Ao [65],.int .i64 1,.slice q0 1 k0]:List Value)[j]?=some u→bn.cell? ((a0.add (((0:Nat):Int).toNat*3)).add j)=some u:=bz;replace bk:BA bn (.slice q0 1 k0) [[tx]]:=bk;have f7:1≤N:=by rw[hN];split<;>omega
 clear cn ef eg sm fa fb ft d6 eb ee az hO hS ab bb bl;show CW _ _ _ _ _ [(2,.bool gone),(3,.bool changed),(1,.bool put),(4,.pointer (some ⟨S,0,none⟩)),(9,.pointer (some ⟨O,0,none⟩)),(10,.pointer (some ⟨A,0,none⟩)),(11,.pointer (some ⟨B,0,none⟩)),(12,.pointer (some ⟨T,0,none⟩))] _;refine Sw ?_;refine Ay rfl rfl tt ?_;rintro u13 fz ⟨mv,cv,rfl,hM,hC,c8⟩;obtain⟨mp,mc,rfl⟩:=Ab.slice hM;obtain⟨f9,fc⟩:∃n:Nat,n=((if gone=true∧changed=false then[] else[Cj tx])++(if put=true then[Dr t] else[])).length:=⟨_,rfl⟩;refine Sw ?_;refine Bo λM g0 fd b8 c0=>?_;have db:=b8.size;refine Sw ?_;refine AD λbf c9 c0=>?_;replace c0:Blk bf M [.slice mp ((if gone=true∧changed=false then[] else[Cj tx])++(if put=true then[Dr t] else[])).length mc] 24:=c0;have au:=b8.step c9 AdG;have ad:=c8.trans au;have bq:=be.trans ad;replace hM:=Aa.ext hM au;replace hC:IX bf cv (if gone=true∧changed=true then[K4] else[]):=Ab.ext' hC au λ_ _ _ _ h=>h;replace hB:=hB.ext ad;replace hT:=hT.ext ad;have c1:=c7.ext ad;replace bp:=Bb.ext bp ad;replace bk:=Bb.ext bk ad;replace bz:=λj u hj=>A0 ad (bz j u hj);clear c8 b8 c9 au ad tt hA co da d9 c7 b6 be fd db;obtain rfl:=Abm eq0;refine Sw ?_;refine Bo λG g1 fe c2 hG=>?_;have dc:=c2.size;refine Sw ?_;refine AD λcq ca hG=>?_;replace hG:Blk cq G [.slice none 0 0] 24:=hG;have aj:=c2.step ca AdG;have g2:bf.heap.size≤G:=AdE
 clear c2 ca dc fe f9 fc;obtain⟨Na,ap⟩:∃n:Nat,n=if gone=true∧changed=false then 0 else 1:=⟨_,rfl⟩;obtain⟨Xs,aw⟩:∃x:List Value,x=if gone=true∧changed=false then[] else[Ao [65],.int .i64 1,.slice q0 1 k0]:=⟨_,rfl⟩;refine Sl ?_;apply LW.nil;apply QW.then_n;refine CW.seq_cut (ι:=Option Addr×Nat) (λx w'=>Ai bf w'∧Blk w' G [.slice x.1 Na x.2] 24∧E.Own w' bf.heap.size 46 3 (.slice x.1 Na x.2) Na Xs) (λ_=>[(2,.bool gone),(3,.bool changed),(1,.bool put),(4,.pointer (some ⟨S,0,none⟩)),(11,.pointer (some ⟨B,0,none⟩)),(12,.pointer (some ⟨T,0,none⟩)),(13,.pointer (some ⟨M,0,none⟩)),(14,cv),(15,.int .i64 0),(16,.pointer (some ⟨G,0,none⟩))]) ?_ ?_
 ·refine CW.seq_cut (ι:=Unit) (λ_ w'=>w'=cq) (λ_=>[(58,.bool (!(gone&&!changed))),(2,.bool gone),(3,.bool changed),(1,.bool put),(4,.pointer (some ⟨S,0,none⟩)),(11,.pointer (some ⟨B,0,none⟩)),(12,.pointer (some ⟨T,0,none⟩)),(13,.pointer (some ⟨M,0,none⟩)),(14,cv),(15,.int .i64 0),(16,.pointer (some ⟨G,0,none⟩))]) ?_ ?_
  ·cases gone<;>cases changed<;>(refine Sw ?_;exact QW.head () rfl (Al.cons rfl (Al.cons rfl (Al.cons rfl (Al.cons rfl (Al.cons rfl (Al.cons rfl (Al.cons rfl (Al.cons rfl (Al.cons rfl (Al.cons rfl (Al.cons rfl (Al.nil)))))))))))))
  rintro⟨⟩ cq rfl;show CW _ _ _ _ _ [(58,.bool (!(gone&&!changed))),(2,.bool gone),(3,.bool changed),(1,.bool put),(4,.pointer (some ⟨S,0,none⟩)),(11,.pointer (some ⟨B,0,none⟩)),(12,.pointer (some ⟨T,0,none⟩)),(13,.pointer (some ⟨M,0,none⟩)),(14,cv),(15,.int .i64 0),(16,.pointer (some ⟨G,0,none⟩))] _;refine A8 (λh1=>?_) λh1=>?_
  ·have h1:¬(gone=true∧changed=false):=by revert h1;cases gone<;>cases changed<;>simp
   rw[if_neg h1] at ap aw;subst ap aw;have ff:=hB.ext aj;have eh:=λj u hj=>A0 aj (bz j u hj);clear bz bk bp hT c1 hM hC c0 hB h1;refine CW.drawG (Ai cq) 7 (λw' h=>h) AdF λwa cy=>?_;refine AJ ?_;refine BE 6 λhS=>?_;refine Dt λEb cb fg ah c3=>?_;replace c3:Blk cb Eb [Ao [65],.int .i64 1,.slice q0 1 k0] 46:=c3;have hE:=hS.trans ah;clear hS;apply LW.nil;refine QW.headed hE ?_;refine GW.tail rfl AdF (λhS=>?_);have dd:=hS.size;have fh:=aj.size;refine LW.append (lo:=bf.heap.size) (k:=0) (xs:=[]) rfl rfl rfl rfl rfl rfl (E.Own.nil _ _ _ _) AdE c3 rfl rfl rfl (by show(0+1)*49≤_;omega) rfl ?_;intro v19 cd ce bc fi;obtain⟨q19,k19,rfl⟩:=bc.slice;have ai:Ai bf cd:=(aj.trans hS).step ce Aet;have b9:=(hG.ext hS).chg ce Aet;have de:=b9;refine Sw ?_;refine CR λbd bg b9=>?_;replace b9:Blk bd G [.slice q19 1 k19] 24:=b9;refine Sw ?_;exact QW.head (q19,k19) ⟨ai.step bg AdG,b9,Ar bc de AdH bg⟩ Hx
  ·have h1:gone=true∧changed=false:=by revert h1;cases gone<;>cases changed<;>simp
   rw[if_pos h1] at ap aw;subst ap aw;refine Sw ?_;exact QW.head (none,0) ⟨aj,hG,E.Own.nil _ _ _ _⟩ Hx
 rintro⟨q18,k18⟩ cb ⟨ah,hG,bh⟩;dsimp only at hG bh;obtain⟨Nb,ax⟩:∃n:Nat,n=if put=true then Na+1 else Na:=⟨_,rfl⟩;have df:Na≤1:=by rw[ap];split<;>omega
 show CW _ _ _ _ _ [(2,.bool gone),(3,.bool changed),(1,.bool put),(4,.pointer (some ⟨S,0,none⟩)),(11,.pointer (some ⟨B,0,none⟩)),(12,.pointer (some ⟨T,0,none⟩)),(13,.pointer (some ⟨M,0,none⟩)),(14,cv),(15,.int .i64 0),(16,.pointer (some ⟨G,0,none⟩))] _;refine CW.seq_cut (ι:=Option Addr×Nat) (λx w'=>Ai bf w'∧Blk w' G [.slice x.1 Nb x.2] 24∧E.Own w' bf.heap.size 46 3 (.slice x.1 Nb x.2) Nb (Xs++more)) (λ_=>[(2,.bool gone),(3,.bool changed),(4,.pointer (some ⟨S,0,none⟩)),(13,.pointer (some ⟨M,0,none⟩)),(14,cv),(15,.int .i64 0),(16,.pointer (some ⟨G,0,none⟩))]) ?_ ?_
 ·cases put with
  | false=>
   have ax:Nb=Na:=ax;have a6:more=[]:=a6;subst ax a6;rw[Aby];refine Sw ?_
   exact QW.head (q18,k18) ⟨ah,hG,bh⟩ Ff
  | true=>
   have ax:Nb=Na+1:=ax;have a6:more=[Ao [66],.int .i64 1,.slice (some ⟨Vt,0,none⟩) 1 kVt]:=a6;subst ax a6;have fj:=hT.ext ah;refine Sw ?_;refine Dt λEb cd fk ai c3=>?_;replace c3:Blk cd Eb [Ao [66],.int .i64 1,.slice (some ⟨Vt,0,none⟩) 1 kVt] 46:=c3;have dd:=ah.size;have fl:=ai.size;have bc:=E.Own.ext bh ai;refine Sw ?_;refine LW.append (lo:=bf.heap.size) (k:=Na) rfl rfl rfl rfl rfl rfl bc AdE c3 rfl rfl rfl (by show(Na+1)*49≤_;omega) rfl ?_;intro v20 bd bg cf fm;obtain⟨q20,k20,rfl⟩:=cf.slice;have bm:Ai bf bd:=(ah.trans ai).step bg λb hb=>(E.Own.lt bc hb).1;have bi:=(hG.ext ai).chg bg λhm=>by have:=Own.type bc hm (hG.ext ai);revert this;decide
   have de:=bi;refine Sw ?_;refine CR λfn cg bi=>?_;replace bi:Blk fn G [.slice q20 (Na+1) k20] 24:=bi;refine Sw ?_;exact QW.head (q20,k20) ⟨bm.step cg AdG,bi,Ar cf de AdH cg⟩ Ff
 clear hG bh ah;rintro⟨q18,k18⟩ cb ⟨ah,hG,bh⟩;dsimp only at hG bh;obtain⟨wD,br⟩:∃b:An,b=(if gone=true∧changed=false then[] else[Cj tx])++(if put=true then[Dr t] else[]):=⟨_,rfl⟩;rw[←br] at c0 hM;have ei:AA cb (.slice q18 Nb k18) wD:=by
  replace bk:=Bb.ext bk ah;replace bp:=Bb.ext bp ah;by_cases h1:gone=true∧changed=false
  ·rw[if_pos h1] at ap aw br;subst ap aw
   cases put with
   | false=>
    have ax:Nb=0:=ax;have a6:more=[]:=a6;subst ax a6 br
    exact XJ bh
   | true=>
    have ax:Nb=1:=ax;have a6:more=[Ao [66],.int .i64 1,.slice (some ⟨Vt,0,none⟩) 1 kVt]:=a6;subst ax a6 br;exact IG (s:=Dr t) (rv:=.slice (some ⟨Vt,0,none⟩) 1 kVt) bh AdX bp
  ·rw[if_neg h1] at ap aw br;subst ap aw
   cases put with
   | false=>
    have ax:Nb=1:=ax;have a6:more=[]:=a6;subst ax a6 br
    exact IG (s:=Cj tx) (rv:=.slice q0 1 k0) bh AdX bk
   | true=>
    have ax:Nb=2:=ax;have a6:more=[Ao [66],.int .i64 1,.slice (some ⟨Vt,0,none⟩) 1 kVt]:=a6;subst ax a6 br;exact U6 (s:=Cj tx) (s':=Dr t) (rv:=.slice q0 1 k0) (rv':=.slice (some ⟨Vt,0,none⟩) 1 kVt) bh AdX bk AdX bp
 have ci:=Aa.ext hM ah;have bs:=c0.ext ah;have cj:=c1.ext ah;have ck:IX cb cv (if gone=true∧changed=true then[K4] else[]):=Ab.ext' hC ah λ_ _ _ _ h=>h;have bt:=bq.trans ah;clear br bh bk bp bz hB hT hM c0 hC c1 aj bq ap aw ax df;show CW _ _ _ _ _ [(2,.bool gone),(3,.bool changed),(4,.pointer (some ⟨S,0,none⟩)),(13,.pointer (some ⟨M,0,none⟩)),(14,cv),(15,.int .i64 0),(16,.pointer (some ⟨G,0,none⟩))] _;refine Sw ?_;refine Ay rfl rfl (Pf 0 _) ?_;rintro u19 cd ⟨rfl,ai⟩;have b9:=hG.ext ai;have cl:=bs.ext ai;refine Sw ?_;refine Ay rfl rfl (JD wD wD _ _ cd (Aa.ext ci ai) (Aa.ext ei ai)) ?_;rintro u20 bd ⟨rfl,bm⟩;rw[decide_eq_true (rfl:wD=wD)];have ay:=ai.trans bm;have bj:=bt.trans ay;have fo:=cj.ext ay;have ao:IX bd cv (if gone=true∧changed=true then[K4] else[]):=Ab.ext' ck ay λ_ _ _ _ h=>h;clear hG b9 cl bs ci ei cj ck ai bm ay bt
 cases gone with
 | false=>
  replace ao:IX bd cv []:=by simpa using ao
  obtain⟨cp,cc,rfl⟩:=K5 ao;refine Sw ?_
  exact QW.body1 rfl rfl ⟨rfl,bj⟩
 | true=>
  cases changed with
  | false=>
   replace ao:IX bd cv []:=by simpa using ao
   obtain⟨cp,cc,rfl⟩:=K5 ao;refine Sw ?_
   exact QW.body1 rfl rfl ⟨rfl,bj⟩
  | true=>
   replace ao:IX bd cv [K4]:=by simpa using ao
   obtain⟨cp,cc,rfl⟩:∃p c,cv=.slice p 1 c:=Ab.slice ao;obtain⟨a,cs,rfl,-,-,rfl,cr⟩:=Ab.at (i:=0) (l:=[K4]) ao rfl;have h0:=cr 0 _ rfl;have h1:=cr 1 _ rfl;have h2:=cr 2 _ rfl;replace h0:bd.cell? ((a.add (((0:Nat):Int).toNat*6)).add 0)=some (Ao [65]):=h0;replace h1:bd.cell? ((a.add (((0:Nat):Int).toNat*6)).add 1)=some (.int .i64 (-1)):=h1;replace h2:bd.cell? ((a.add (((0:Nat):Int).toNat*6)).add 2)=some (.int .i64 (-1)):=h2;clear cr ao;refine Sw ?_;refine CW.drawG (Ai bd) 26 (λw' h=>h) AdF λwa cy=>?_;refine AJ ?_;refine GW.tail rfl AdF (λhS=>?_);refine Sw ?_;exact QW.body1 rfl rfl ⟨by simp,bj.trans hS⟩
set_option maxRecDepth 8000 in
set_option maxHeartbeats 4000000 in
theorem LM(x y z:Bool)(n:Nat)(w:World)(g:CQ w)(hn:n<256):AF prog 10 [.bool x,.bool y,.bool z,.int .u8 n] w (λr w'=>r=.bool true∧Ai w w'):=by
 refine Bj func10 ntmps10 ?_;refine Sw ?_;refine Ay rfl rfl (GI (n:Int) AdE AdE _) ?_;rintro u w1 ⟨rfl,a3⟩;obtain⟨t,ht⟩:∃t,t=Lib.itoa (n:Int):=⟨_,rfl⟩;rw[←ht];obtain⟨c1,c2,c3⟩:=IB (n:=(n:Int)) AdE AdE;rw[←ht] at c1 c2 c3;have hm:BN t=true:=by rw[ht];exact MN _ AdE AdE
 have a4:Aj t 0≠61:=AdE
 have a5:t≠GZ:=λe=>by
  rw[e] at c3
  revert c3
  decide
 have hl:=FA hm;refine Sw ?_;refine Dt λD w2 a9 a6 hD=>?_;replace hD:Blk w2 D (([t]:List (List UInt8)).map Ao) 9:=hD;refine Sw ?_;refine Ay rfl rfl (F8 [t] _ w2 (DQ hD AdM (λs hs=>by rw[Aad.1 hs];omega)) AdM) ?_;rintro u w3 ⟨v,rfl,hs,a7⟩;obtain⟨q,c,rfl⟩:∃q c,v=.slice q 1 c:=Ab.slice hs;obtain⟨a0,q0,k0,rfl,-,-,hr,hc⟩:=Aa.at (i:=0) (l:=E2 [t]) hs rfl;replace hc:∀j u,(Am (Cj t) (.slice q0 1 k0))[j]?=some u→w3.cell? ((a0.add (((0:Nat):Int).toNat*3)).add j)=some u:=hc;replace hr:BA w3 (.slice q0 1 k0) [[t]]:=hr;have a1:=(a3.trans a6).trans a7;refine Sw ?_;refine LW.field1 (v:=.slice (some a0) 1 c) rfl rfl rfl rfl rfl rfl rfl rfl ?_;refine Sw ?_;refine Ay rfl rfl (QU t (.slice q0 1 k0) w3 (g.ext a1) hr hm a4 a5 x y z) ?_;rintro u w4 ⟨rfl,a2⟩;refine Sw ?_;refine Ay rfl rfl (Ls _ (g.ext (a1.trans a2))) ?_;rintro u w5 ⟨rfl,a8⟩;refine Sw ?_;exact QW.body1 rfl rfl ⟨rfl,(a1.trans a2).trans a8⟩
end Go.Proofs.YtcjjcnecopnpcaaGreatDoor
